/- Part 15 of what the law FnLast needs. -/
import Derived.Test.YtnclplgaicdapaaGreatDoorFnLastPn
set_option linter.unusedVariables false
set_option linter.unusedSimpArgs false
set_option maxRecDepth 100000
set_option maxHeartbeats 8000000
namespace Go.Proofs.YtnclplgaicdapaaGreatDoor
open Go.RowKit
def Og(W:Q7)(j:Nat):Bool:=decide (1<=j) && !(gi W.ID (j:Int)).used
def Tl(W:Q7):Int:=DJ (Og W) 8
def z11(W:Q7)(p:Int)(name:ByteArray):Prop:=∃h:Int,1<=h/\h<8/\(gi W.ID h).used=true/\(gi W.ID h).parent=p/\(gi W.ID h).name=name
open Classical in
noncomputable def LH(W:Q7)(p:Int)(name:ByteArray):Int:=if Uu name=false then 1 else if Q6 W.ID p=false then 2 else if z11 W p name then 7 else if dep 3 W.ID p=3 then 9 else if Tl W<0 then 3 else if QO W=false then 10 else 0
def zvl(W:Q7)(p:Int)(name:ByteArray):Q7:=P9 W (Tl W) p name
theorem zll(W:Q7):(Tl W = -1/\∀h:Int,1<=h->h<8->(gi W.ID h).used=true)\/(1<=Tl W/\Tl W<8/\(gi W.ID (Tl W)).used=false):=by
 rcases Kn (Og W) 8 with ⟨h1,h2⟩ | ⟨h1,h2,h3,_⟩
 ·refine .inl ⟨h1,λh a b=>?_⟩;have:=h2 h.toNat Qo;unfold Og at this;rw[show ((h.toNat:Nat):Int)=h by omega,Ii (by omega:1<=h.toNat)] at this
  simpa using this
 ·have e:(((Tl W).toNat:Nat):Int)=Tl W:=by unfold Tl; omega
  have h3:Og W (Tl W).toNat=true:=h3;unfold Og at h3;rw[e,A',Ik,IC] at h3;refine .inr ⟨Qo,by unfold Tl; omega,h3.2⟩
theorem zcs{W:Q7}{p:Int}{name:ByteArray}(hb:LH W p name=0):zd9 W (Tl W) p name/\QO W=true:=by
 unfold LH at hb
 split at hb
 ·cases hb
 rename_i h1
 split at hb
 ·cases hb
 rename_i h2
 split at hb
 ·cases hb
 rename_i h3
 split at hb
 ·cases hb
 rename_i h4
 split at hb
 ·cases hb
 rename_i h5
 split at hb
 ·cases hb
 rename_i h6;rcases zll W with ⟨a,_⟩ | ⟨a,b,c⟩
 ·omega
 ·exact⟨⟨a,b,c,by simpa using h2,by simpa using h1,λh a1 a2 u e=>h3 ⟨h,a1,a2,u,e.1,e.2⟩,h4⟩,by simpa using h6⟩
section
variable {W:Q7}{m:MW}{w:Wo}
theorem Kq{p:Int}{name:ByteArray}(h:Xl [] w W m)(hl:Xz W) :
  Cz QF #[.agg (Qa W m).toArray,I p,.string name] w λe w'=>∃v,e=.returned v/\OG (T1 W (LH W p name) (zvl W p name) (Tl W)) w v w':=by
 refine BI _ _ _ _ _ _ _ _ _ _ p name (R:=λv w'=>OG (T1 W (LH W p name) (zvl W p name) (Tl W)) w v w') ?_;intro y hy y1 cX wr R3 Wc;refine I4 (Zh (h.ext R3) hl) ?_;rintro e wv (⟨hW,he,SJ⟩ | ⟨hW,m',he,hM,SJ⟩)
 ·exact⟨_,_,_,_,_,_,_,_,_,_,_,he,Qe SJ Wc,true,λg=>by simp at g,λ_ J' Ra=>OG.bad hW ((R3.trans SJ).fresh Ra λz hm=>.inl (Yw hy cX z hm)),λg=>by simp at g⟩
 have hK:=Wk.begin hy cX R3 Wc hM SJ;have hr:=hK.rd;have wp:=Qj.1 hW;have cJ:=wp.a.gl;have wA:((if QO W=true then 0 else 10:Int)==1)=false:=by split <;> rfl
 refine⟨_,_,_,_,_,_,_,_,_,_,_,he,Qe SJ Wc,_,λ_=>D7,λg1 J' Ra=>?_,λg1=>⟨_,Xf hr.g,λg2 O' Ra=>?_,λg2=>?_⟩⟩
 ·rw[wA] at g1;have hb:LH W p name=1:=by unfold LH; rw[E' (by simpa using g1)]
  exact OG.no hW (by rw[hb]; decide) (hK.step Ra) hb
 ·rw[wA] at g1;have n1:¬Uu name=false:=by simpa using g1
  have hb:LH W p name=2:=by unfold LH; rw[C' n1,E' (by simpa using g2)]
  exact OG.no hW (by rw[hb]; decide) (hK.step Ra) hb
 rw[wA] at g1;have n1:¬Uu name=false:=by simpa using g1
 have hu:Q6 W.ID p=true:=by simpa using g2
 have n2:¬Q6 W.ID p=false:=by rw[hu]; decide
 refine⟨λvs w1=>∃k:Nat,vs=[I (k:Int),I 0,.slice none 0 0,.slice none 0 0,.slice none 0 0]/\1<=k/\k<=8/\(∀q:Int,1<=q->q<(k:Int)->(gi W.ID q).used=true->¬((gi W.ID q).parent=p/\(gi W.ID q).name=name))/\Q0 [y,y1] wv w1,
  Zs 8 0,λw1 tF _=>⟨1,rfl,Qo,Qo,λq a b=>by omega,tF⟩,?_⟩
 rintro h1 l Sd Sn Sr Sj Sp Sq Sf Sg Si Rr fX ⟨k,aE,hk1,hk8,lA,hxw⟩;simp only[I5,I6,Iw,true_and,and_true] at aE;obtain⟨rfl,rfl,⟨rfl,rfl,rfl⟩,⟨rfl,rfl,rfl⟩,rfl,rfl,rfl⟩:=aE;have hK1:=hK.step hxw;have wC:=hK1.rd;refine⟨λIT=>?_,λRN=>?_⟩
 ·have IT:=Ot IT;have fE:(0:Int)<=(k:Int):=Qo;refine⟨wC.g.ix fE IT,_,wC.g.used fE IT,λ_=>wC.g.ix fE IT,_,λ_=>wC.g.parent fE IT,λ_=>wC.g.ix fE IT,_,λ_=>wC.g.name fE IT,λg3 RQ Sw=>?_,λg3=>⟨⟨Qo,Qo⟩,λSh bJ _=>⟨⟨k+1,Qs,Qo,Qo,λq q1 q2 qu=>?_,hxw.trans bJ⟩,Zc (k:=k) rfl rfl Qo⟩⟩⟩
  ·rw[A',A',UL,It] at g3;have hb:LH W p name=7:=by unfold LH; rw[C' n1,C' n2,E' ⟨k,Qo,Qo,g3.1.1,g3.1.2,g3.2⟩]
   exact OG.no hW (by rw[hb]; decide) (hK1.step Sw) hb
  ·by_cases e:q<(k:Int)
   ·exact lA q q1 e qu
   ·have:q=(k:Int):=Qo;subst this;rintro⟨c1,c2⟩;rw[qu,It.2 c1,UL.2 c2] at g3;cases g3
 have RN:=Ou RN;have:k=8:=Qo;subst this;have n3:¬z11 W p name:=λ⟨q,a,b,c,d,e⟩=>lA q a Qo c ⟨d,e⟩
 refine⟨_,Mf wC.g (by rw[cJ]; have:=Zo; omega),λg4 Sz nN=>?_,λg4=>⟨⟨Qo,Qo⟩,?_⟩⟩
 ·rw[zi3 wp.a.tree hu,It] at g4;have hb:LH W p name=9:=by unfold LH; rw[C' n1,C' n2,C' n3,E' g4]
  exact OG.no hW (by rw[hb]; decide) (hK1.step nN) hb
 rw[zi3 wp.a.tree hu,beq_eq_false_iff_ne] at g4
 refine⟨λvs w1=>∃a t:Int,vs=[I a,I t]/\0<=t/\t<8/\(a = -1/\(∀j:Nat,t<(j:Int)->j<8->Og W j=false)\/t<a/\a<8/\Og W a.toNat=true/\∀j:Nat,t<(j:Int)->(j:Int)<a->Og W j=false)/\Q0 [y,y1] Rr w1,
  λvs _=>(ZW 1 vs+1).toNat,λw1 tF _=>⟨-1,_,rfl,Qo,Qo,.inl ⟨rfl,λj h1 h2=>by omega⟩,tF⟩,?_⟩
 rintro av tv S5 eM ⟨a,t,aE,ht0,ht1,AS2,CP4⟩;simp only[I5,I6,true_and,and_true] at aE;obtain⟨rfl,rfl⟩:=aE;have gV:=hK1.step CP4;have uN:=gV.rd;refine⟨λIT=>?_,λbK=>?_⟩
 ·have IT:=Ot IT;have e:((tv.toNat:Nat):Int)=tv:=Qo;have nG:Og W tv.toNat = !(gi W.ID tv).used:=by unfold Og; rw[e,Ii (by omega:1<=tv.toNat)]; rfl
  refine⟨uN.g.ix Qo Qo,_,uN.g.used Qo Qo,λg3=>⟨⟨Qo,Qo⟩,λRQ Sw _=>⟨⟨tv,tv-1,rfl,Qo,Qo,.inr ⟨Qo,ht1,by rw[nG]; exact g3,λj h1 h2=>by omega⟩,CP4.trans Sw⟩,?_⟩⟩,λg3=>⟨⟨Qo,Qo⟩,λSh bJ _=>⟨⟨av,tv-1,rfl,Qo,Qo,?_,CP4.trans bJ⟩,?_⟩⟩⟩
  ·simp only[ZW,Ig,List.getElem?_cons_succ]; omega
  ·have g3:Og W tv.toNat=false:=by rw[nG]; exact g3
   have one:∀j:Nat,tv-1<(j:Int)->¬tv<(j:Int)->Og W j=false:=λj h1 h2=>by
    have:j=tv.toNat:=Qo;rw[this]; exact g3
   rcases AS2 with ⟨h1,h2⟩ | ⟨h1,h2,h3,h4⟩
   ·exact .inl ⟨h1,λj j1 j2=>if h:tv<(j:Int) then h2 j h j2 else one j j1 h⟩
   ·exact .inr ⟨Qo,h2,h3,λj j1 j2=>if h:tv<(j:Int) then h4 j h j2 else one j j1 h⟩
  ·simp only[ZW,Ig,List.getElem?_cons_succ]; omega
 have bK:=Ou bK;have ht:tv=0:=Qo;subst ht;have hz:Og W 0=false:=rfl
 have tQ:av=Tl W:=by
  rcases AS2 with ⟨h1,h2⟩ | ⟨h1,h2,h3,h4⟩
  ·rw[h1]; exact(zqa λj hj=>if e:j=0 then by rw[e]; exact hz else h2 j Qo hj).symm
  ·exact(zp9 Qo h2 h3 λj hj=>if e:j=0 then by rw[e]; exact hz else h4 j Qo hj).symm
 subst tQ;refine⟨λg5 Sz nN=>?_,λg5=>⟨λg6 W8 tG=>?_,λg6 W5 Bx4 Cf0=>?_⟩⟩
 ·have g5:=Ot g5;have hb:LH W p name=3:=by unfold LH; rw[C' n1,C' n2,C' n3,C' g4,E' g5]
  exact OG.no hW (by rw[hb]; decide) (gV.step nN) hb
 ·have g5:=Ou g5;have bU:¬QO W=true:=λhr=>by rw[E' hr] at g6; simp at g6
  have hb:LH W p name=10:=by unfold LH; rw[C' n1,C' n2,C' n3,C' g4,C' g5,E' (by simpa using bU)]
  rw[C' bU];exact OG.no hW (by rw[hb]; decide) (gV.step tG) hb
 have g5:=Ou g5;have bU:QO W=true:=Ir λhr=>by rw[C' hr] at g6; simp at g6
 have hb:LH W p name=0:=by unfold LH; rw[C' n1,C' n2,C' n3,C' g4,C' g5,C' (by rw[bU]; decide)]
 obtain⟨hf,_⟩:=zcs hb;have a1:=hf.a1;have a8:=hf.a8;have oJ:=gV.step Bx4;refine(Gz (n:=W.IE.length) wp.a.c2).mono λe1 bV ⟨mg,gW,hMg,SZ⟩=>?_
 have eQ:=oJ.R6 SZ;have hold:∀x∈QC 8 m',x<W5.heap.size:=λx hx=>(oJ.own.lt x hx).2
 have pQ:∀x∈Qm mg,W5.heap.size<=x:=λx hx=>(hMg.lt x hx).1
 have SY:Wk 8 [y,y1] w (R8 bV m'.gO (Int.toNat (Tl W)*14) (Yt (PF W.IE.length p name) mg)) (zvl W p name) (PG m' (Tl W).toNat mg):=
  ⟨eQ.s.call FV λx hx=>(eQ.own.lt x hx).1,⟨eQ.own.B02 Qo a8 (g:=PF W.IE.length p name) (p:=mg) (j:=0) (vs:=Yt (PF W.IE.length p name) mg) (hMg.mono oJ.base) (λx hx=>.inl λfR=>by have:=hold x fR; have:=pQ x hx; omega) (by simp[Yt,QZ]) (by simp[Yt,QZ]),λx hx hm=>by
   rcases Oq x hx with h1 | h1
   ·exact eQ.nb x h1 hm
   ·have:=pQ x h1;have:=Cf0 x hm;omega⟩⟩
 refine⟨_,_,_,_,_,_,_,_,_,_,_,_,_,_,_,_,_,_,_,_,gW,Qe SZ Cf0,rfl,uN.g.ix Qo Qo,zd7 eQ.own eQ.nb Qo a8 (j:=0) (k:=14) Qd,λWj BS9=>?_⟩;have BC8:=OG.ok (a:=Tl W) hW hb (SY.step BS9);have ew:Qa (zvl W p name) (PG m' (Tl W).toNat mg)=Qa W m':=by simp[Qa,zvl,P9,Re,PG]
 rw[ew] at BC8;exact BC8
end
inductive XY (W:Q7):Q7->Prop
 | same:XY W W
 | run (c n:Int) (hb:FM W c n=0):XY W (zs6 W c n)
 | yld (c:Int) (hb:CQ W c=0):XY W (RD W c)
 | fork (g n x:Int) (hb:P1 W g n x=0):XY W (zlh W g n x)
 | block (t:Int) (hb:T2 W t=0):XY W (ziz W t)
 | wake (t:Int) (hb:MR W t=0):XY W (A3 W t)
 | exit (t:Int) (hb:OZ W t=0):XY W (NT W t)
 | nice (t n:Int) (hb:Pw W t n=0):XY W (GI W t n)
 | pin (t x:Int) (hb:E6 W t x=0):XY W (zv7 W t x)
 | mov (t g:Int) (hb:zcu W t g=0):XY W (zf2 W t g)
 | mak (a p:Int) (name:ByteArray) (hm:zd9 W a p name):XY W (P9 W a p name)
 | drp (g:Int) (hd:zgw W g):XY W (J0 W g)
 | wgh (g x:Int) (hb:zm7 W g x=0):XY W (zw3 W g x)
 | gpn (g x:Int) (hb:zln W g x=0):XY W (zux W g x)
 | lim (g q p:Int) (hb:zly W g q p=0):XY W (zyo W g q p)
 | time (n:Int) (hb:Lq W n=0):XY W (zia W n)
 | bal (c:Int) (hb:EL W c=0):XY W (ziw W c)
 | off (c:Int) (hb:Yf W c true (JP W)=0):XY W (Cs W c)
 | on (c:Int) (hb:Yf W c false 0=0):XY W (zvy W c)
structure Mz (P:Nat->Q7->Prop):Prop where
 mono:∀{n m:Nat} {W:Q7},n<=m->P n W->P m W
 new:∀{n k:Nat},1<=k->k<=4->P n (Ug k)
 fork:∀{n:Nat} {W:Q7} {g q x:Int},JH W->P n W->P1 W g q x=0->P n (zlh W g q x)
 mak:∀{n:Nat} {W:Q7} {a p:Int} {name:ByteArray},JH W->P n W->zd9 W a p name->P n (P9 W a p name)
 SA:∀{n:Nat} {W V:Q7},n<=10000->JH W->P n W->XY W V->P (n+10) V
def B8(_:Nat)(_:Q7):Prop:=True
theorem KR:Mz B8:=⟨λ_ _=>trivial,λ_ _=>trivial,λ_ _ _=>trivial,λ_ _ _=>trivial,λ_ _ _ _=>trivial⟩
theorem Q0.kept{bs B:List Nat}{w w':Wo}(h:Q0 bs w w')(hB:∀x∈B,x<w.heap.size/\x∉bs):Q9 B w w':=λx hx=>h.block x (hB x hx).1 (hB x hx).2
theorem zvd{b x:Nat}{w w':Wo}(h:Q0 [b] w w')(h1:x<w.heap.size)(h2:x≠b):Q9 [x] w w':=h.kept λy hy=>by
 rw[IA.1 hy]; exact⟨h1,by simpa using h2⟩
def z1u(v:Int):Prop := -2<=v/\v<=21
theorem zlw{b:Nat}{c:OA}{L N:Nat}{w:Wo}(h:Ux b c L N w)(hN:N<=900000000000) :
  Cz ZK #[.pointer (some ⟨b,0,none⟩)] w λe w'=>∃v,e=.returned (I v)/\z1u v/\Ux b c L (N+2) w'/\Q0 [b] w w':=by
 refine(HM (some ⟨b,0,none⟩) (R:=λv w'=>∃x,v=I x/\z1u x/\Ux b c L (N+2) w'/\Q0 [b] w w') ?_).mono λe w' ⟨v,he,x,hv,h1,h2,h3⟩=>⟨x,by rw[he,hv],h1,h2,h3⟩
 refine λwr hx _=>(DO (h.WG hx) Qo).mono λe w1 ⟨v,he,hv,wC,S4⟩=>⟨v,he,Yo,λ_=>?_,λ_ b1 fD Ru Ra nH=>?_⟩
 ·refine λJ' hy _=>(DO (wC.WG hy) Qo).mono λe w2 ⟨u,he,hu,uN,R3⟩=>⟨u,he,Yo,?_⟩
  have hu1:=hu.1;have hu2:=hu.2.2 Qd;exact⟨U9 Qo Qo,λO' hz=>⟨_,rfl,⟨Qo,Qo⟩,uN.WG hz,(hx.of_nil.trans S4).trans (hy.of_nil.trans (R3.trans hz.of_nil))⟩⟩
 ·refine(DO (wC.WG Ra) Qo).mono λe w2 ⟨u,he,hu,uN,R3⟩=>⟨u,he,zvd R3 (nH b1 Qs) (by have:=wC.lt; omega),?_⟩
  have hu1:=hu.1;have hu2:=hu.2.2 Qd
  have fin:∀(x:Int),z1u x->∀RC,Q0 [b1] w2 RC->∃x',I x=I x'/\z1u x'/\Ux b c L (N+2) RC/\Q0 [b] w RC:=λx hxv RC hz=>
   ⟨x,rfl,hxv,wC.Cv3 uN hz (by simpa using fD),(hx.of_nil.trans S4).trans ((Ra.of_nil.trans R3)) |>.fresh hz (λy hy=>by
    rw[IA.1 hy];have h1:=hx.size; have h2:=S4.size;exact .inl Qo)⟩
  have:u=0\/u=1\/u=2\/u=3\/u=4\/u=5\/u=6\/u=7\/u=8\/u=9:=Qo;refine⟨⟨hu1,hu2⟩,?_⟩;rcases this with rfl | rfl | rfl | rfl | rfl | rfl | rfl | rfl | rfl | rfl <;> exact⟨_,⟨Qd,rfl⟩,fin _ ⟨Qd,Qd⟩⟩
def Eh(c:OA)(L:Nat)(w:Wo):Prop:=∀i<L,∃(a:Addr) (x:Int),c=some a/\0<=x/\x<=255/\w.cell? (a.add i)=some (.int .u8 x)
theorem Eh.ext{c:OA}{L:Nat}{w w':Wo}(h:Eh c L w)(hx:Q0 [] w w'):Eh c L w':=λi hi=>by
 obtain⟨a,x,ha,h1,h2,h3⟩:=h i hi;obtain⟨a',e,_,h''⟩:=(show U0 [] w c i (.int .u8 x) from ⟨a,ha,Qs,h3⟩).ext hx;rw[ha] at e; cases e; exact⟨a,x,ha,h1,h2,h''⟩
structure RS (rb:Nat) (c:OA) (L N:Nat) (bs:List Nat) (w:Wo):Prop where
 rd:Ux rb c L N w
 nb:rb∉bs
 oc:∀a,c=some a->a.block∉bs\/L=0
section
variable {rb:Nat}{c:OA}{L N:Nat}{bs cs:List Nat}{w w':Wo}{b:Nat}
theorem RS.step(h:RS rb c L N bs w)(hx:Q0 bs w w'):RS rb c L N bs w':=⟨h.rd.ext hx h.nb h.oc,h.nb,h.oc⟩
theorem RS.R6(h:RS rb c L N bs w)(hx:Q0 [] w w'):RS rb c L N bs w':=⟨h.rd.WG hx,h.nb,h.oc⟩
theorem RS.call(h:RS rb c L N bs w)(hx:Q0 cs w w')(h1:rb∉cs)(h2:∀a,c=some a->a.block∉cs\/L=0):RS rb c L N bs w':=⟨h.rd.ext hx h1 h2,h.nb,h.oc⟩
theorem RS.add(h:RS rb c L N bs w)(hb:w.heap.size<=b):RS rb c L N (bs++[b]) w:=⟨h.rd,λhm=>by
 rcases Io.1 hm with hm | hm
 ·exact h.nb hm
 ·have:rb=b:=by simpa using hm
  have:=h.rd.lt;omega,λa ha=>by
 rcases h.oc a ha with h1 | h1
 ·rcases h.rd.ltc a ha with h2 | h2
  ·refine .inl λhm=>?_
   rcases Io.1 hm with hm | hm
   ·exact h1 hm
   ·have:a.block=b:=by simpa using hm
    omega
  ·exact .inr h2
 ·exact .inr h1⟩
theorem RS.sub(h:RS rb c L N bs w)(hs:∀x∈cs,x∈bs):RS rb c L N cs w:=⟨h.rd,λhm=>h.nb (hs _ hm),λa ha=>by
 rcases h.oc a ha with h1 | h1
 ·exact .inl λhm=>h1 (hs _ hm)
 ·exact .inr h1⟩
theorem RS.upd{M:Nat}(h:RS rb c L N bs w)(k:Ux rb c L M w'):RS rb c L M bs w':=⟨k,h.nb,h.oc⟩
theorem RS.mono{M:Nat}(h:RS rb c L N bs w)(hm:N<=M):RS rb c L M bs w:=⟨h.rd.mono hm,h.nb,h.oc⟩
theorem Sc.B00{w0:Wo}(h:Sc w0 (rb::bs) w)(hx:Q0 bs w w'):Sc w0 (rb::bs) w':=h.step (hx.mono λ_ hm=>I2 _ hm)
theorem Sc.CH7{w0:Wo}(h:Sc w0 (rb::bs) w)(hx:Q0 [rb] w w'):Sc w0 (rb::bs) w':=h.step (hx.mono λx hm=>by
 have:x=rb:=by simpa using hm
 subst this; simp)
theorem Mg(h:RS rb c L N bs w)(hx:Q0 [rb] w w')(hs:∀x∈bs,x<w.heap.size):Q9 bs w w':=GD hx hs λx hm gE=>by
 have:x=rb:=by simpa using hm
 subst this; exact h.nb gE
end
section
variable {α:Type}{enc:α->List Va}{z:Nat}{ty:TypeId}{base rb:Nat}{bs:List Nat}{w w':Wo}{o:OA}{cap:Nat}{l:List α}{b:Nat}
end
theorem zoa{c:OA}{L C:Nat}{w:Wo}(h:Eh c L w)(hC:L<=C) :
  Cz JM #[.slice c L C] w λe w'=>∃b c' L',e=.returned (.pointer (some ⟨b,0,none⟩))/\w.heap.size<=b/\Ux b c' L' 0 w'/\Q0 [] w w'/\∀a',c'=some a'->L'=0\/(0<L/\∃a,c=some a/\a'.block=a.block):=by
 refine(zbm c L C (R:=λv w'=>∃b c' L',v=.pointer (some ⟨b,0,none⟩)/\w.heap.size<=b/\Ux b c' L' 0 w'/\Q0 [] w w'/\∀a',c'=some a'->L'=0\/(0<L/\∃a,c=some a/\a'.block=a.block)) ?_).mono λe w' ⟨v,he,b,c',L',hv,h1,h2,h3⟩=>⟨b,c',L',by rw[he,hv],h1,h2,h3⟩
 refine⟨λIT=>⟨⟨Qo,Qo,by have:=Ot IT; omega⟩,λb wb hx hb hh _ wr hy=>⟨b,if C=Int.toNat 0 then c else c.map (·.add (Int.toNat 0*1)),Int.toNat 2000-Int.toNat 0,rfl,hb,?_,hx.trans hy,λa' ha'=>?_⟩⟩,λIT b wb hx hb hh _ wr hy=>⟨b,c,L,rfl,hb,?_,hx.trans hy,λa' ha'=>?_⟩⟩
 ·refine Ux.WG ⟨⟨_,0,hh,Qo,Qo⟩,λi hi=>?_⟩ hy;have IT:=Ot IT;obtain⟨a,x,ha,h1,h2,h3⟩:=h.ext hx i (by have:i<2000-0:=hi; omega);obtain⟨a0,x0,ha0,_,_,h30⟩:=h i (by have:i<2000-0:=hi; omega);have RM:=World.block_lt_of_cell? w _ h30;rw[Zu] at RM;rw[ha] at ha0; cases ha0;rw[C' (show ¬C=Int.toNat 0 from λe=>by have:C=0:=e; omega),ha];refine⟨a.add 0,x,rfl,by rw[Zu]; omega,h1,h2,?_⟩;rw[Jc,Nat.zero_add]; exact h3
 ·have IT:=Ot IT;refine .inr ⟨Qo,?_⟩;rw[C' (show ¬C=Int.toNat 0 from λe=>by have:C=0:=e; omega)] at ha'
  cases c with
  | none=>cases ha'
  | some a=>
   simp only[Option.map_some,I1] at ha';exact⟨a,rfl,by rw[<-ha',Zu]⟩
 ·refine Ux.WG ⟨⟨_,0,hh,Qo,Qo⟩,λi hi=>?_⟩ hy;obtain⟨a,x,ha,h1,h2,h3⟩:=h.ext hx i hi;obtain⟨a0,x0,ha0,_,_,h30⟩:=h i hi;have RM:=World.block_lt_of_cell? w _ h30;rw[Zu] at RM;rw[ha] at ha0; cases ha0;exact⟨a,x,ha,Qo,h1,h2,h3⟩
 ·rcases Nat.eq_zero_or_pos L with h0 | h0
  ·exact .inl h0
  ·exact .inr ⟨h0,a',ha',rfl⟩
structure Dr (rb:Nat) (c:OA) (L N n:Nat) (bs:List Nat) (w0 w:Wo):Prop where
 r:RS rb c L (N+n) bs w
 ext:Q0 [rb] w0 w
 new:∀x∈bs,w0.heap.size<=x
section
variable {rb b b2:Nat}{c:OA}{L N n k:Nat}{bs cs:List Nat}{w0 w w':Wo}
theorem Dr.start(h:Ux rb c L N w):Dr rb c L N 0 [] w w:=⟨⟨h,Qs,λ_ _=>.inl Qs⟩,Q0.refl _ _,Qs⟩
theorem Dr.step(h:Dr rb c L N n bs w0 w)(hx:Q0 bs w w'):Dr rb c L N n bs w0 w':=⟨h.r.step hx,h.ext.fresh hx λx hm=>.inl (h.new x hm),h.new⟩
theorem Dr.add(h:Dr rb c L N n bs w0 w)(hb:w.heap.size<=b):Dr rb c L N n (bs++[b]) w0 w:=⟨h.r.add hb,h.ext,λx hm=>by
 rcases Io.1 hm with hm | hm
 ·exact h.new x hm
 ·have:x=b:=by simpa using hm
  have:=h.ext.size;omega⟩
theorem Dr.put(h:Dr rb c L N n bs w0 w)(hx:Q0 bs w w')(hb:w.heap.size<=b):Dr rb c L N n (bs++[b]) w0 w':=(h.add hb).step (hx.mono λ_ hm=>Ib _ hm)
theorem Dr.AX7(h:Dr rb c L N n bs w0 w)(hx:Q0 bs w w')(hb:w.heap.size<=b)(dJ:w.heap.size<=b2):Dr rb c L N n (bs++[b]++[b2]) w0 w':=((h.add hb).add dJ).step (hx.mono λ_ hm=>Ib _ (Ib _ hm))
theorem Dr.more{m:Nat}(h:Dr rb c L N n bs w0 w)(hm:n<=m):Dr rb c L N m bs w0 w:=⟨h.r.mono Qo,h.ext,h.new⟩
theorem Dr.sub(h:Dr rb c L N n bs w0 w)(hs:∀x∈cs,x∈bs):Dr rb c L N n cs w0 w:=⟨h.r.sub hs,h.ext,λx hm=>h.new x (hs x hm)⟩
theorem Dr.fin{m:Nat}(h:Dr rb c L N n bs w0 w)(hm:n<=m):Ux rb c L (N+m) w/\Q0 [rb] w0 w:=⟨(h.more hm).r.rd,h.ext⟩
theorem Dr.call{f:FuncId}{args:Array Va}{Q:Int->Prop}(h:Dr rb c L N n bs w0 w)(hs:∀x∈bs,x<w.heap.size)(hc:Cz f args w λe w'=>∃v,e=.returned (I v)/\Q v/\Ux rb c L (N+n+k) w'/\Q0 [rb] w w') :
  Cz f args w λe w'=>∃v,e=.returned (I v)/\Q9 bs w w'/\Q v/\Dr rb c L N (n+k) bs w0 w':=
 hc.mono λe w' ⟨v,he,hq,hr,hx⟩=>⟨v,he,Mg h.r hx hs,hq,⟨h.r.upd (by rw[<-Nat.add_assoc]; exact hr),h.ext.trans hx,h.new⟩⟩
theorem Dr.pick(h:Dr rb c L N n bs w0 w)(hN:N+n<=1000000000000)(hs:∀x∈bs,x<w.heap.size){q:Int} :
  Cz Q2 #[.pointer (some ⟨rb,0,none⟩),I q] w λe w'=>∃v,e=.returned (I v)/\Q9 bs w w'/\Ej q v/\Dr rb c L N (n+1) bs w0 w':=h.call hs (DO h.r.rd hN)
theorem Dr.weight(h:Dr rb c L N n bs w0 w)(hN:N+n<=900000000000)(hs:∀x∈bs,x<w.heap.size) :
  Cz ZK #[.pointer (some ⟨rb,0,none⟩)] w λe w'=>∃v,e=.returned (I v)/\Q9 bs w w'/\z1u v/\Dr rb c L N (n+2) bs w0 w':=h.call hs (zlw h.r.rd hN)
end
def z3d:Va->Bool
 | .int .i64 _=>true
 | _=>false
def z3f:Va->Bool
 | .string _=>true
 | _=>false
theorem z0n{v:Int}{k:Nat}{ls:List Va}{P:Int->Prop}(ha:ls.all z3d=true)(hl:ls.length=k)(h0:0<=v)(h1:v<(k:Int))(h:∀x,P x):∃x:Int,(0<=v/\ls[Int.toNat v+0]? = some (I x))/\P x:=by
 have IT:Int.toNat v+0<ls.length:=Qo;have:=List.all_eq_true.1 ha _ (List.getElem_mem IT);have e:=Im IT;generalize ls[Int.toNat v+0]=y at this e;unfold z3d at this
 split at this
 ·exact⟨_,⟨h0,e⟩,h _⟩
 ·cases this
theorem z3a{v:Int}{k:Nat}{ls:List Va}{P:ByteArray->Prop}(ha:ls.all z3f=true)(hl:ls.length=k)(h0:0<=v)(h1:v<(k:Int))(h:∀x,P x):∃x:ByteArray,(0<=v/\ls[Int.toNat v+0]? = some (.string x))/\P x:=by
 have IT:Int.toNat v+0<ls.length:=Qo;have:=List.all_eq_true.1 ha _ (List.getElem_mem IT);have e:=Im IT;generalize ls[Int.toNat v+0]=y at this e;unfold z3f at this
 split at this
 ·exact⟨_,⟨h0,e⟩,h _⟩
 ·cases this
theorem zzw(x:Int):Ql .i64 (10-ZC (zjv x 1) 20):=by
 have:1<=ZC (zjv x 1) 20/\ZC (zjv x 1) 20<=20:=by
  have h:1<=zjv x 1:=by unfold zjv; split <;> omega
  unfold ZC
  split <;> omega
 exact⟨Qo,Qo⟩
section
variable {rb:Nat}{c:OA}{L N n:Nat}{bs:List Nat}{w0 w:Wo}
def ztq(_:Int):Prop:=True
theorem z02(h:Ux rb c L N w)(hN:N<=900000000000) :
  Cz YG #[.pointer (some ⟨rb,0,none⟩)] w λe w'=>∃v,e=.returned (I v)/\ztq v/\Ux rb c L (N+2) w'/\Q0 [rb] w w':=by
 refine(F1 (some ⟨rb,0,none⟩) (R:=λv w'=>∃x,v=I x/\Ux rb c L (N+2) w'/\Q0 [rb] w w') ?_).mono λe w' ⟨v,he,x,hv,h1⟩=>⟨x,by rw[he,hv],trivial,h1⟩
 have h0:=Dr.start h;intro wr hx hs;refine(Dr.pick (h0.step hx) Qo hs).mono ?_;rintro e w2 ⟨v,he,hk,_,h1⟩;refine⟨_,he,hk,λ_ b hb J' S4 dE=>?_,λ_ b hb J' S4 dE=>?_⟩
 all_goals
  refine(Dr.pick (h1.put S4 hb) Qo dE).mono ?_;rintro e w3 ⟨u,iP,hk3,⟨u0,_,u2⟩,h2⟩;have u2:=u2 Qd;refine⟨_,iP,hk3,⟨Qo,Qo⟩,z0n Qd rfl Qo Qo λx O' R3=>⟨x,rfl,(h2.step R3).fin Qo⟩⟩
theorem zyh(h:Ux rb c L N w)(hN:N<=900000000000) :
  Cz Y1 #[.pointer (some ⟨rb,0,none⟩)] w λe w'=>∃v,e=.returned (I v)/\ztq v/\Ux rb c L (N+2) w'/\Q0 [rb] w w':=by
 refine(DC (some ⟨rb,0,none⟩) (R:=λv w'=>∃x,v=I x/\Ux rb c L (N+2) w'/\Q0 [rb] w w') ?_).mono λe w' ⟨v,he,x,hv,h1⟩=>⟨x,by rw[he,hv],trivial,h1⟩
 have h0:=Dr.start h;intro wr hx hs;refine(Dr.pick (h0.step hx) Qo hs).mono ?_;rintro e w2 ⟨v,he,hk,_,h1⟩;refine⟨_,he,hk,λ_ b hb J' S4 dE=>?_,λ_ b hb J' S4 dE=>?_⟩
 all_goals
  refine(Dr.pick (h1.put S4 hb) Qo dE).mono ?_;rintro e w3 ⟨u,iP,hk3,⟨u0,_,u2⟩,h2⟩;have u2:=u2 Qd;refine⟨_,iP,hk3,⟨Qo,Qo⟩,z0n Qd rfl Qo Qo λx O' R3=>⟨x,rfl,(h2.step R3).fin Qo⟩⟩
theorem zzx(h:Ux rb c L N w)(hN:N<=900000000000) :
  Cz U7 #[.pointer (some ⟨rb,0,none⟩)] w λe w'=>∃v,e=.returned (I v)/\ztq v/\Ux rb c L (N+2) w'/\Q0 [rb] w w':=by
 refine(BL (some ⟨rb,0,none⟩) (R:=λv w'=>∃x,v=I x/\Ux rb c L (N+2) w'/\Q0 [rb] w w') ?_).mono λe w' ⟨v,he,x,hv,h1⟩=>⟨x,by rw[he,hv],trivial,h1⟩
 have h0:=Dr.start h;intro wr hx hs;refine(Dr.pick (h0.step hx) Qo hs).mono ?_;rintro e w2 ⟨v,he,hk,⟨v0,_,v2⟩,h1⟩;have v2:=v2 Qd;refine⟨_,he,hk,λJ' S4 dE=>?_⟩;refine(Dr.pick (h1.step S4) Qo dE).mono ?_;rintro e w3 ⟨u,iP,hk3,⟨u0,_,u2⟩,h2⟩;have u2:=u2 Qd
 have hd:0<=Int.tdiv u 19/\Int.tdiv u 19<=1:=by
  rw[Int.tdiv_eq_ediv_of_nonneg u0];omega
 exact⟨_,iP,hk3,⟨Qd,⟨Qo,Qo⟩⟩,⟨Qo,Qo⟩,λO' R3=>⟨_,rfl,(h2.step R3).fin Qo⟩⟩
theorem Dr.mask(h:Dr rb c L N n bs w0 w)(hN:N+n<=900000000000)(hs:∀x∈bs,x<w.heap.size) :
  Cz YG #[.pointer (some ⟨rb,0,none⟩)] w λe w'=>∃v,e=.returned (I v)/\Q9 bs w w'/\ztq v/\Dr rb c L N (n+2) bs w0 w':=h.call hs (z02 h.r.rd hN)
theorem Dr.sM(h:Dr rb c L N n bs w0 w)(hN:N+n<=900000000000)(hs:∀x∈bs,x<w.heap.size) :
  Cz Y1 #[.pointer (some ⟨rb,0,none⟩)] w λe w'=>∃v,e=.returned (I v)/\Q9 bs w w'/\ztq v/\Dr rb c L N (n+2) bs w0 w':=h.call hs (zyh h.r.rd hN)
end
theorem JH.w{W:Q7}(iv:JH W):Qy W=true:=Qj.2 iv.wp
theorem JH.len{W:Q7}(iv:JH W):Xz W:=zyk iv.wp.a
def znd(W V:Q7):Prop:=JH V/\XY W V
theorem znd.refl{W:Q7}(iv:JH W):znd W W:=⟨iv,.same⟩
theorem zx1{W W':Q7}{bar:Int}(iv:JH W)(hb:bar=0->znd W W'):znd W (YK W bar W').1:=by
 unfold YK;rw[C' (by rw[iv.w]; decide)];split
 ·exact znd.refl iv
 ·rename_i e;exact hb (by simpa using e)
theorem zu2{W W':Q7}{bar a:Int}(iv:JH W)(hb:bar=0->znd W W'):znd W (T1 W bar W' a).1:=by
 unfold T1;rw[C' (by rw[iv.w]; decide)];split
 ·exact znd.refl iv
 ·rename_i e;exact hb (by simpa using e)
section
variable {f:FuncId}{args:Array Va}{W W':Q7}{bar a:Int}{m:MW}{w:Wo}
theorem UQ(iv:JH W)(hc:Cz f args w λe w'=>∃v,e=.returned v/\QP (YK W bar W') w v w')(hb:bar=0->znd W W') :
  Cz f args w λe w'=>∃(V:Q7) (m':MW) (d:Int),e=.returned (.tuple #[.agg (Qa V m').toArray,I d])/\znd W V/\Zj 8 w.heap.size w' V m'/\Q0 [] w w':=
 hc.mono λe w' ⟨v,he,n,m',hv,hM,hx⟩=>by
  have hi:=zx1 iv hb;have hn:n=8:=hM.len.symm.trans hi.1.wp.a.gl;subst hn;exact⟨_,m',_,by rw[he,hv],hi,hM,hx⟩
theorem zpq(iv:JH W)(hc:Cz f args w λe w'=>∃v,e=.returned v/\OG (T1 W bar W' a) w v w')(hb:bar=0->znd W W') :
  Cz f args w λe w'=>∃(V:Q7) (m':MW) (q d:Int),e=.returned (.tuple #[.agg (Qa V m').toArray,I q,I d])/\znd W V/\Zj 8 w.heap.size w' V m'/\Q0 [] w w':=
 hc.mono λe w' ⟨v,he,n,m',hv,hM,hx⟩=>by
  have hi:=zu2 (a:=a) iv hb;have hn:n=8:=hM.len.symm.trans hi.1.wp.a.gl;subst hn;exact⟨_,m',_,_,by rw[he,hv],hi,hM,hx⟩
theorem zt5{P:Q7->Prop}(iv:JH W)(h0:P W)(hc:Cz f args w λe w'=>∃v,e=.returned v/\OG (T1 W bar W' a) w v w')(hb:bar=0->JH W'/\P W') :
  Cz f args w λe w'=>∃(V:Q7) (m':MW) (q d:Int),e=.returned (.tuple #[.agg (Qa V m').toArray,I q,I d])/\(JH V/\P V)/\Zj 8 w.heap.size w' V m'/\Q0 [] w w':=
 hc.mono λe w' ⟨v,he,n,m',hv,hM,hx⟩=>by
  have hi:JH (T1 W bar W' a).1/\P (T1 W bar W' a).1:=by
   unfold T1;rw[C' (by rw[iv.w]; decide)];split
   ·exact⟨iv,h0⟩
   ·rename_i e;exact hb (by simpa using e)
  have hn:n=8:=hM.len.symm.trans hi.1.wp.a.gl;subst hn;exact⟨_,m',_,_,by rw[he,hv],hi,hM,hx⟩
def z21(W:Q7)(w:Wo)(v:Va)(w':Wo):Prop:=∃(V:Q7) (m':MW) (d:Int),v=.tuple #[.agg (Qa V m').toArray,I d]/\znd W V/\Zj 8 w.heap.size w' V m'/\Q0 [] w w'
theorem Jw{bs:List Nat}{w0 w2 w3:Wo}{d:Int}(s:Sc w0 bs w)(hs:∀x∈bs,x<w.heap.size)(hi:znd W W'){m':MW}(hM:Zj 8 w.heap.size w2 W' m')(hy:Q0 [] w w2)(hx:Q0 bs w2 w3):z21 W w0 (.tuple #[.agg (Qa W' m').toArray,I d]) w3:=
 ⟨W',m',d,rfl,hi,(((OW.of hM hs).step hx).own).mono s.ext.size,((s.R6 hy).step hx).ext⟩
theorem z0x{c:Int}(iv:JH W)(h:CQ W c=0):JH (RD W c):=by
 obtain⟨c0,c1⟩:=Uy (z1s h).1;exact zse iv c0 c1
theorem zsh{k a n q:Int}{s:ByteArray}(h:Xl [] w W m)(iv:JH W) :
  Cz Vj #[.agg (Qa W m).toArray,.agg #[I k,I a,I n,I q,.string s]] w λe w'=>∃v,e=.returned v/\z21 W w v w':=by
 refine zbk _ _ _ _ _ _ _ _ _ _ k a n q s (R:=λv w'=>z21 W w v w') ?_;intro b hb b1 fD b2 dJ;have hl:=iv.len;have hW:=iv.w;have s0:Sc w ([b]++[b1]++[b2]) w:=(((Sc.start w).add hb).add fD).add dJ;have hS:∀{wr:Wo},Q0 [] w wr->Sc w [b,b1,b2] wr:=λhx=>s0.R6 hx
 refine⟨λ_ wr hx hs=>?_,λ_=>⟨λ_ wr hx hs=>?_,λ_=>⟨λ_ wr hx hs=>?_,λ_=>⟨λ_ wr hx hs=>?_,λ_=>⟨λ_ wr hx hs=>?_,λ_=>⟨λ_ wr hx hs=>?_,λ_=>⟨λ_ wr hx hs=>?_,λ_=>⟨λ_ wr hx hs=>?_,λ_=>⟨λ_ wr hx hs=>?_,λ_=>⟨λ_ wr hx hs=>?_,λ_=>⟨λ_ wr hx hs=>?_,λ_=>⟨λ_ wr hx hs=>?_,λ_=>⟨λ_ wr hx hs=>?_,λ_=>⟨λ_ wr hx hs=>?_,λ_=>⟨λ_ wr hx hs=>?_,λ_=>⟨λ_ wr hx hs=>?_,λ_=>⟨λ_ wr hx hs=>?_,λ_=>⟨λ_ wr hx hs=>?_,λ_=>⟨_,Ur h hl.c hl.t hl.g hl.f,λg=>?_,λ_ wr hx hs=>?_⟩⟩⟩⟩⟩⟩⟩⟩⟩⟩⟩⟩⟩⟩⟩⟩⟩⟩⟩
 case refine_19=>rw[hW] at g; cases g
 case refine_20=>
  refine(PC (h.ext hx) iv.wp.a).mono ?_;rintro e wv ⟨m',he,hM,hy⟩;exact⟨_,_,_,_,_,_,_,_,_,_,he,Qe hy hs,λO' R3=>Jw (hS hx) hs (znd.refl iv) hM hy R3⟩
 case refine_3=>
  refine(zpq iv (Ll (h.ext hx) hl) (λhb=>⟨zlt hW hb,.fork _ _ _ hb⟩)).mono ?_;rintro e wv ⟨V,m',q1,d,he,hi,hM,hy⟩;exact⟨_,_,_,_,_,_,_,_,_,_,_,_,he,Qe hy hs,λO' R3=>Jw (hS hx) hs hi hM hy R3⟩
 case refine_10=>
  refine(zpq iv (Kq (h.ext hx) hl) λhb=>⟨zu4 iv (zcs hb).1,.mak _ _ _ (zcs hb).1⟩).mono ?_;rintro e wv ⟨V,m',q1,d,he,hi,hM,hy⟩;exact⟨_,_,_,_,_,_,_,_,_,_,_,_,he,Qe hy hs,λO' R3=>Jw (hS hx) hs hi hM hy R3⟩
 case refine_1=>exact(UQ iv (Ci (h.ext hx) hl) (λhb=>⟨zya iv hb,.run _ _ hb⟩)).mono λe wv ⟨V,m',d,he,hi,hM,hy⟩=>⟨_,_,_,_,_,_,_,_,_,_,_,he,Qe hy hs,λO' R3=>Jw (hS hx) hs hi hM hy R3⟩
 case refine_2=>exact(UQ iv (Fi (h.ext hx) hl) (λhb=>⟨z0x iv hb,.yld _ hb⟩)).mono λe wv ⟨V,m',d,he,hi,hM,hy⟩=>⟨_,_,_,_,_,_,_,_,_,_,_,he,Qe hy hs,λO' R3=>Jw (hS hx) hs hi hM hy R3⟩
 case refine_4=>exact(UQ iv (N1 (h.ext hx) hl) (λhb=>⟨zsd hW hb,.block _ hb⟩)).mono λe wv ⟨V,m',d,he,hi,hM,hy⟩=>⟨_,_,_,_,_,_,_,_,_,_,_,he,Qe hy hs,λO' R3=>Jw (hS hx) hs hi hM hy R3⟩
 case refine_5=>exact(UQ iv (Cf (h.ext hx) hl) (λhb=>⟨zu7 hW hb,.wake _ hb⟩)).mono λe wv ⟨V,m',d,he,hi,hM,hy⟩=>⟨_,_,_,_,_,_,_,_,_,_,_,he,Qe hy hs,λO' R3=>Jw (hS hx) hs hi hM hy R3⟩
 case refine_6=>exact(UQ iv (Cc (h.ext hx) hl) (λhb=>⟨zu3 hW hb,.exit _ hb⟩)).mono λe wv ⟨V,m',d,he,hi,hM,hy⟩=>⟨_,_,_,_,_,_,_,_,_,_,_,he,Qe hy hs,λO' R3=>Jw (hS hx) hs hi hM hy R3⟩
 case refine_7=>exact(UQ iv (Ce (h.ext hx) hl) (λhb=>⟨zu5 hW hb,.nice _ _ hb⟩)).mono λe wv ⟨V,m',d,he,hi,hM,hy⟩=>⟨_,_,_,_,_,_,_,_,_,_,_,he,Qe hy hs,λO' R3=>Jw (hS hx) hs hi hM hy R3⟩
 case refine_8=>exact(UQ iv (zck (h.ext hx) hl) (λhb=>⟨zx9 hW hb,.pin _ _ hb⟩)).mono λe wv ⟨V,m',d,he,hi,hM,hy⟩=>⟨_,_,_,_,_,_,_,_,_,_,_,he,Qe hy hs,λO' R3=>Jw (hS hx) hs hi hM hy R3⟩
 case refine_9=>exact(UQ iv (Cd (h.ext hx) hl) (λhb=>⟨zx6 iv hb,.mov _ _ hb⟩)).mono λe wv ⟨V,m',d,he,hi,hM,hy⟩=>⟨_,_,_,_,_,_,_,_,_,_,_,he,Qe hy hs,λO' R3=>Jw (hS hx) hs hi hM hy R3⟩
 case refine_11=>exact(UQ iv (BZ (h.ext hx) hl) λhb=>⟨zx3 iv (zun hb).1,.drp _ (zun hb).1⟩).mono λe wv ⟨V,m',d,he,hi,hM,hy⟩=>⟨_,_,_,_,_,_,_,_,_,_,_,he,Qe hy hs,λO' R3=>Jw (hS hx) hs hi hM hy R3⟩
 case refine_12=>exact(UQ iv (Fh (h.ext hx) hl) (λhb=>⟨zyb hW hb,.wgh _ _ hb⟩)).mono λe wv ⟨V,m',d,he,hi,hM,hy⟩=>⟨_,_,_,_,_,_,_,_,_,_,_,he,Qe hy hs,λO' R3=>Jw (hS hx) hs hi hM hy R3⟩
 case refine_13=>exact(UQ iv (Cb (h.ext hx) hl) (λhb=>⟨zx4 hW hb,.gpn _ _ hb⟩)).mono λe wv ⟨V,m',d,he,hi,hM,hy⟩=>⟨_,_,_,_,_,_,_,_,_,_,_,he,Qe hy hs,λO' R3=>Jw (hS hx) hs hi hM hy R3⟩
 case refine_14=>exact(UQ iv (Fg (h.ext hx) hl) (λhb=>⟨zx5 hW hb,.lim _ _ _ hb⟩)).mono λe wv ⟨V,m',d,he,hi,hM,hy⟩=>⟨_,_,_,_,_,_,_,_,_,_,_,he,Qe hy hs,λO' R3=>Jw (hS hx) hs hi hM hy R3⟩
 case refine_15=>exact(UQ iv (Cg (h.ext hx) hl) (λhb=>⟨zu6 hW hb,.time _ hb⟩)).mono λe wv ⟨V,m',d,he,hi,hM,hy⟩=>⟨_,_,_,_,_,_,_,_,_,_,_,he,Qe hy hs,λO' R3=>Jw (hS hx) hs hi hM hy R3⟩
 case refine_16=>exact(UQ iv (Fd (h.ext hx) hl) (λhb=>⟨zx2 hW hb,.bal _ hb⟩)).mono λe wv ⟨V,m',d,he,hi,hM,hy⟩=>⟨_,_,_,_,_,_,_,_,_,_,_,he,Qe hy hs,λO' R3=>Jw (hS hx) hs hi hM hy R3⟩
 case refine_17=>exact(UQ iv (D6 (h.ext hx) hl) (λhb=>⟨zx8 hW hb,.off _ hb⟩)).mono λe wv ⟨V,m',d,he,hi,hM,hy⟩=>⟨_,_,_,_,_,_,_,_,_,_,_,he,Qe hy hs,λO' R3=>Jw (hS hx) hs hi hM hy R3⟩
 case refine_18=>exact(UQ iv (zjq (h.ext hx) hl) (λhb=>⟨z0w hW hb,.on _ hb⟩)).mono λe wv ⟨V,m',d,he,hi,hM,hy⟩=>⟨_,_,_,_,_,_,_,_,_,_,_,he,Qe hy hs,λO' R3=>Jw (hS hx) hs hi hM hy R3⟩
end
theorem z00{rb:Nat}{c:OA}{L N:Nat}{w:Wo}{W:Q7}{m:MW}(h:Ux rb c L N w)(hN:N<=800000000000) :
  Cz JD #[.pointer (some ⟨rb,0,none⟩),.agg (Qa W m).toArray] w λe w'=>∃(k a n q:Int) (s:ByteArray),e=.returned (.agg #[I k,I a,I n,I q,.string s])/\Ux rb c L (N+20) w'/\Q0 [rb] w w':=by
 refine(F0 (some ⟨rb,0,none⟩) W.now m.cO W.IE.length m.cC m.tO W.tasks.length m.tC m.gO W.ID.length m.gC (R:=λv w'=>∃(k a n q:Int) (s:ByteArray),v=.agg #[I k,I a,I n,I q,.string s]/\Ux rb c L (N+20) w'/\Q0 [rb] w w') ?_).mono λe w' ⟨v,he,k,a,n,q,s,hv,h1⟩=>⟨k,a,n,q,s,by rw[he,hv],h1⟩
 intro b hb b1 fD;refine⟨_,Tr,λwr hx hs=>?_⟩;refine(Dr.pick ((Dr.start h).AX7 hx hb fD) Qo hs).mono ?_;rintro e w1 ⟨v1,he,hk,_,h1⟩;refine⟨_,he,hk,λwr hx hs=>?_⟩;refine(Dr.pick (h1.step hx) Qo hs).mono ?_;rintro e w2 ⟨v2,he,hk,_,h2⟩;refine⟨_,he,hk,λvs bs w2=>bs=[]/\(∃x:Int,vs=[I x])/\Dr rb c L N 4 [b,b1] w w2,λwr hx hs=>?_,?_⟩
 ·refine(Dr.pick (h2.step hx) Qo hs).mono ?_;rintro e w3 ⟨v3,he,hk,_,h3⟩;refine⟨_,he,hk,λ_ wr hx hs=>?_,λ_ wr hx hs=>⟨rfl,⟨_,rfl⟩,(h3.step hx).more Qd⟩⟩;refine(Dr.pick (h3.step hx) Qo hs).mono ?_;rintro e w4 ⟨v4,he,hk,_,h4⟩;exact⟨_,he,hk,λwr hx _=>⟨rfl,⟨_,rfl⟩,(h4.step hx).more Qd⟩⟩
 clear h1 h2;rintro t bV eM ⟨-,-,h4⟩ wr hx hs;refine(Dr.pick (h4.step hx) Qo hs).mono ?_;rintro e w5 ⟨v5,he,hk,⟨p50,_,p52⟩,h5⟩;have p52:=p52 Qd;refine⟨_,he,hk,λwr hx hs=>?_⟩;refine(Dr.pick (h5.step hx) Qo hs).mono ?_;rintro e w6 ⟨v6,he,hk,_,h6⟩;clear h4 h5;refine⟨_,he,hk,λ_=>?_,λ_ wr hx hs=>?_⟩
 rotate_left
 ·refine(Dr.pick (h6.step hx) Qo hs).mono ?_;rintro e w7 ⟨v7,he,hk,_,h7⟩;clear h6;refine⟨_,he,hk,?_⟩;clear he hk hx hs eM
  repeat' first
   | exact rfl
   | exact zzw _
   | (refine⟨_,Tr,?_⟩)
   | (refine⟨_,JF,?_⟩)
   | (refine⟨λ_ bs w2=>bs=[]/\Dr rb c L N 7 [b,b1] w w2,?_,?_⟩)
   | (refine And.intro ?_ ?_)
   | (refine z0n Qd rfl Qo Qo λx=>?_)
   | (refine z3a Qd rfl Qo Qo λx=>?_)
   | (intro (x:Bool) (wv:Wo) hs hm; obtain⟨_,hD⟩:=hm)
   | (intro (b:Nat) hb)
   | (intro (wr:Wo) hx hs; refine(Dr.pick (Dr.step (by assumption) hx) ?_ hs).mono ?_; rotate_left; rintro e w2 ⟨v,he,hk,⟨hp0,_,dQ⟩,hC⟩; have dQ:=dQ Qd; refine⟨_,he,hk,?_⟩)
   | (intro (wr:Wo) hx hs; refine(Dr.pick (Dr.put (by assumption) hx (by assumption)) ?_ hs).mono ?_; rotate_left; rintro e w2 ⟨v,he,hk,⟨hp0,_,dQ⟩,hC⟩; have dQ:=dQ Qd; refine⟨_,he,hk,?_⟩)
   | (intro (wr:Wo) hx hs; refine(Dr.pick (Dr.AX7 (by assumption) hx (by assumption) (by assumption)) ?_ hs).mono ?_; rotate_left; rintro e w2 ⟨v,he,hk,⟨hp0,_,dQ⟩,hC⟩; have dQ:=dQ Qd; refine⟨_,he,hk,?_⟩)
   | (intro (wr:Wo) hx hs; refine(Dr.weight (Dr.step (by assumption) hx) ?_ hs).mono ?_; rotate_left; rintro e w2 ⟨v,he,hk,⟨hp0,dQ⟩,hC⟩; refine⟨_,he,hk,?_⟩)
   | (intro (wr:Wo) hx hs; refine(Dr.mask (Dr.step (by assumption) hx) ?_ hs).mono ?_; rotate_left; rintro e w2 ⟨v,he,hk,_,hC⟩; refine⟨_,he,hk,?_⟩)
   | (intro (wr:Wo) hx hs; refine(Dr.sM (Dr.step (by assumption) hx) ?_ hs).mono ?_; rotate_left; rintro e w2 ⟨v,he,hk,_,hC⟩; refine⟨_,he,hk,?_⟩)
   | (intro (wr:Wo) hx hs; exact⟨rfl,Dr.step (by assumption) hx⟩)
   | (intro (wr:Wo) hx; exact⟨_,_,_,_,_,rfl,(Dr.step (by assumption) hx).fin Qd⟩)
   | (intro (hh:_=true))
   | (intro (hh:_=false))
   | omega
   | decide
 ·repeat' first
   | exact rfl
   | (refine And.intro ?_ ?_)
   | (refine z0n Qd rfl Qo Qo λx=>?_)
   | (intro (b:Nat) hb)
   | (intro (wr:Wo) hx hs; refine(Dr.pick (Dr.step (by assumption) hx) ?_ hs).mono ?_; rotate_left; rintro e w2 ⟨v,he,hk,⟨hp0,_,dQ⟩,hC⟩; have dQ:=dQ Qd; refine⟨_,he,hk,?_⟩)
   | (intro (wr:Wo) hx hs; refine(Dr.pick (Dr.put (by assumption) hx (by assumption)) ?_ hs).mono ?_; rotate_left; rintro e w2 ⟨v,he,hk,⟨hp0,_,dQ⟩,hC⟩; have dQ:=dQ Qd; refine⟨_,he,hk,?_⟩)
   | (intro (wr:Wo) hx; exact⟨_,_,_,_,_,rfl,(Dr.step (by assumption) hx).fin Qd⟩)
   | omega
def z3e(lo hi:Int):Va->Bool
 | .int .i64 x=>decide (lo<=x)&&decide (x<=hi)
 | _=>false
theorem z3l{lo hi v:Int}{k:Nat}{ls:List Va}{P:Int->Prop}(ha:ls.all (z3e lo hi)=true)(hl:ls.length=k)(h0:0<=v)(h1:v<(k:Int))(h:∀x,lo<=x->x<=hi->P x):∃x:Int,(0<=v/\ls[Int.toNat v+0]? = some (I x))/\P x:=by
 have IT:Int.toNat v+0<ls.length:=Qo;have:=List.all_eq_true.1 ha _ (List.getElem_mem IT);have e:=Im IT;generalize ls[Int.toNat v+0]=y at this e;unfold z3e at this
 split at this
 ·rw[A',Ik,Ik] at this;exact⟨_,⟨h0,e⟩,h _ this.1 this.2⟩
 ·cases this
structure J5 (P:Nat->Q7->Prop) (rb:Nat) (c:OA) (L N n:Nat) (bs:List Nat) (w0 w:Wo) (W:Q7) (m:MW):Prop where
 iv:JH W
 lw:P n W
 d:Dr rb c L N n bs w0 w
 o:OW 8 w0.heap.size (rb::bs) w W m
section
variable {P:Nat->Q7->Prop}{rb b b2:Nat}{c:OA}{L N n k:Nat}{bs cs:List Nat}{w0 w w':Wo}{W W':Q7}{m m':MW}
theorem J5.step(h:J5 P rb c L N n bs w0 w W m)(hx:Q0 bs w w'):J5 P rb c L N n bs w0 w' W m:=⟨h.iv,h.lw,h.d.step hx,h.o.step (hx.mono λ_ hm=>I2 _ hm)⟩
theorem J5.put(h:J5 P rb c L N n bs w0 w W m)(hx:Q0 bs w w')(hb:w.heap.size<=b):J5 P rb c L N n (bs++[b]) w0 w' W m:=⟨h.iv,h.lw,h.d.put hx hb,h.o.put (hx.mono λ_ hm=>I2 _ hm) hb⟩
theorem J5.AX7(h:J5 P rb c L N n bs w0 w W m)(hx:Q0 bs w w')(hb:w.heap.size<=b)(dJ:w.heap.size<=b2):J5 P rb c L N n (bs++[b]++[b2]) w0 w' W m:=⟨h.iv,h.lw,h.d.AX7 hx hb dJ,h.o.AX7 (hx.mono λ_ hm=>I2 _ hm) hb dJ⟩
theorem J5.sub(h:J5 P rb c L N n bs w0 w W m)(hs:∀x∈cs,x∈bs):J5 P rb c L N n cs w0 w W m:=⟨h.iv,h.lw,h.d.sub hs,h.o.sub λx hx=>by
 rcases Ij.1 hx with h1 | h1
 ·rw[h1]; exact Ia
 ·exact I2 _ (hs x h1)⟩
theorem J5.more{q:Nat}(hP:Mz P)(h:J5 P rb c L N n bs w0 w W m)(hm:n<=q):J5 P rb c L N q bs w0 w W m:=⟨h.iv,hP.mono hm h.lw,h.d.more hm,h.o⟩
theorem J5.rd(h:J5 P rb c L N n bs w0 w W m):Xl [] w W m:=h.o.rd0
theorem J5.drawn(hP:Mz P)(h:J5 P rb c L N n bs w0 w W m)(hr:Ux rb c L (N+n+k) w')(hx:Q0 [rb] w w'):J5 P rb c L N (n+k) bs w0 w' W m:=
 ⟨h.iv,hP.mono Qo h.lw,⟨h.d.r.upd (by rw[<-Nat.add_assoc]; exact hr),h.d.ext.trans hx,h.d.new⟩,h.o.step (hx.mono λx hm=>by
  have:x=rb:=by simpa using hm
  subst this; exact Ia)⟩
theorem J5.call{f:FuncId}{args:Array Va}{Q:Int->Prop}(hP:Mz P)(h:J5 P rb c L N n bs w0 w W m)(hs:∀x∈bs,x<w.heap.size)(hc:Cz f args w λe w'=>∃v,e=.returned (I v)/\Q v/\Ux rb c L (N+n+k) w'/\Q0 [rb] w w') :
  Cz f args w λe w'=>∃v,e=.returned (I v)/\Q9 bs w w'/\Q v/\J5 P rb c L N (n+k) bs w0 w' W m:=
 hc.mono λe w' ⟨v,he,hq,hr,hx⟩=>⟨v,he,Mg h.d.r hx hs,hq,h.drawn hP hr hx⟩
theorem J5.pick(hP:Mz P)(h:J5 P rb c L N n bs w0 w W m)(hN:N+n<=1000000000000)(hs:∀x∈bs,x<w.heap.size){q:Int} :
  Cz Q2 #[.pointer (some ⟨rb,0,none⟩),I q] w λe w'=>∃v,e=.returned (I v)/\Q9 bs w w'/\Ej q v/\J5 P rb c L N (n+1) bs w0 w' W m:=h.call hP hs (DO h.d.r.rd hN)
theorem J5.weight(hP:Mz P)(h:J5 P rb c L N n bs w0 w W m)(hN:N+n<=900000000000)(hs:∀x∈bs,x<w.heap.size) :
  Cz ZK #[.pointer (some ⟨rb,0,none⟩)] w λe w'=>∃v,e=.returned (I v)/\Q9 bs w w'/\z1u v/\J5 P rb c L N (n+2) bs w0 w' W m:=h.call hP hs (zlw h.d.r.rd hN)
theorem J5.item(hP:Mz P)(h:J5 P rb c L N n bs w0 w W m)(hN:N+n<=800000000000)(hs:∀x∈bs,x<w.heap.size){V:Q7}{p:MW} :
  Cz JD #[.pointer (some ⟨rb,0,none⟩),.agg (Qa V p).toArray] w λe w'=>∃(k a q r:Int) (s:ByteArray),e=.returned (.agg #[I k,I a,I q,I r,.string s])/\Q9 bs w w'/\J5 P rb c L N (n+20) bs w0 w' W m:=
 (z00 h.d.r.rd hN).mono λe w' ⟨k,a,q,r,s,he,hr,hx⟩=>⟨k,a,q,r,s,he,Mg h.d.r hx hs,h.drawn hP hr hx⟩
theorem J5.bsl(h:J5 P rb c L N n bs w0 w W m)(hs:∀x∈bs,x<w.heap.size):∀x∈rb::bs,x<w.heap.size:=λx hm=>by
 rcases Ij.1 hm with h1 | h1
 ·rw[h1]; exact h.d.r.rd.lt
 ·exact hs x h1
theorem J5.SA{P':Nat->Q7->Prop}{q:Nat}(h:J5 P rb c L N n bs w0 w W m)(hq:n<=q)(hs:∀x∈bs,x<w.heap.size)(hi:JH W')(hl:P' q W')(hM:Zj 8 w.heap.size w' W' m')(hx:Q0 [] w w'):J5 P' rb c L N q bs w0 w' W' m':=
 ⟨hi,hl,Dr.more ⟨h.d.r.R6 hx,h.d.ext.trans hx.of_nil,h.d.new⟩ hq,(OW.of hM (h.bsl hs)).mono h.d.ext.size⟩
theorem J5.mak{p:Int}{name:ByteArray}(hP:Mz P)(h:J5 P rb c L N n bs w0 w W m)(hs:∀x∈bs,x<w.heap.size) :
  Cz QF #[.agg (Qa W m).toArray,I p,.string name] w λe w'=>∃(W':Q7) (m':MW) (a d:Int),e=.returned (.tuple #[.agg (Qa W' m').toArray,I a,I d])/\Q9 bs w w'/\J5 P rb c L N n bs w0 w' W' m':=
 (zt5 (P:=P n) h.iv h.lw (Kq h.rd h.iv.len) λhb=>⟨zu4 h.iv (zcs hb).1,hP.mak h.iv h.lw (zcs hb).1⟩).mono λe w' ⟨V,m',a,d,he,hi,hM,hx⟩=>⟨V,m',a,d,he,Qe hx hs,h.SA (I8 _) hs hi.1 hi.2 hM hx⟩
theorem J5.fork{g q x:Int}(hP:Mz P)(h:J5 P rb c L N n bs w0 w W m)(hs:∀x∈bs,x<w.heap.size) :
  Cz Xh #[.agg (Qa W m).toArray,I g,I q,I x] w λe w'=>∃(W':Q7) (m':MW) (a d:Int),e=.returned (.tuple #[.agg (Qa W' m').toArray,I a,I d])/\Q9 bs w w'/\J5 P rb c L N n bs w0 w' W' m':=
 (zt5 (P:=P n) h.iv h.lw (Ll h.rd h.iv.len) λhb=>⟨zlt h.iv.w hb,hP.fork h.iv h.lw hb⟩).mono λe w' ⟨V,m',a,d,he,hi,hM,hx⟩=>⟨V,m',a,d,he,Qe hx hs,h.SA (I8 _) hs hi.1 hi.2 hM hx⟩
theorem J5.do{k a q r:Int}{s:ByteArray}(hP:Mz P)(hn:n<=10000)(h:J5 P rb c L N n bs w0 w W m)(hs:∀x∈bs,x<w.heap.size) :
  Cz Vj #[.agg (Qa W m).toArray,.agg #[I k,I a,I q,I r,.string s]] w λe w'=>∃(W':Q7) (m':MW) (d:Int),e=.returned (.tuple #[.agg (Qa W' m').toArray,I d])/\Q9 bs w w'/\J5 P rb c L N (n+10) bs w0 w' W' m':=
 (zsh h.rd h.iv).mono λe w' ⟨v,he,V,m',d,hv,hi,hM,hx⟩=>⟨V,m',d,by rw[he,hv],Qe hx hs,h.SA (Nat.le_add_right _ _) hs hi.1 (hP.SA hn h.iv h.lw hi.2) hM hx⟩
theorem J5.fin{q:Nat}(hP:Mz P)(h:J5 P rb c L N n bs w0 w W m)(hq:n<=q):(JH W/\P q W)/\Zj 8 w0.heap.size w W m/\Ux rb c L (N+q) w/\Q0 [rb] w0 w/\∀x∈QC 8 m,x≠rb:=⟨⟨h.iv,hP.mono hq h.lw⟩,h.o.own,(h.d.fin hq).1,h.d.ext,λx hx e=>h.o.nb x hx (by rw[e]; exact Ia)⟩
end
theorem z03{P:Nat->Q7->Prop}(hP:Mz P){rb:Nat}{c:OA}{L N:Nat}{w:Wo}{items:Int}(h:Ux rb c L N w)(hN:N<=700000000000)(hi:items<=27) :
  Cz VJ #[.pointer (some ⟨rb,0,none⟩),I items] w λe w'=>∃(W:Q7) (m:MW),e=.returned (.agg (Qa W m).toArray)/\(JH W/\P 1000 W)/\Zj 8 w.heap.size w' W m/\Ux rb c L (N+1000) w'/\Q0 [rb] w w'/\∀x∈QC 8 m,x≠rb:=by
 refine(F3 (some ⟨rb,0,none⟩) items (R:=λv w'=>∃(W:Q7) (m:MW),v=.agg (Qa W m).toArray/\(JH W/\P 1000 W)/\Zj 8 w.heap.size w' W m/\Ux rb c L (N+1000) w'/\Q0 [rb] w w'/\∀x∈QC 8 m,x≠rb) ?_).mono λe w' ⟨v,he,W,m,hv,h3⟩=>⟨W,m,by rw[he,hv],h3⟩
 intro b hb b1 fD wr hx hs;refine(Dr.pick ((Dr.start h).AX7 hx hb fD) Qo hs).mono ?_;rintro e w1 ⟨v,he,hk,⟨p0,_,p2⟩,h1⟩;have p2:=p2 Qd;refine⟨_,he,hk,⟨Qo,Qo⟩,z3l (lo:=1) (hi:=4) Qd rfl Qo Qo λx x1 x4 wr hx hs=>?_⟩;obtain⟨q,rfl⟩:∃q:Nat,x=(q:Int):=⟨x.toNat,Qo⟩;have h2:=h1.step hx;refine(Ch (n:=q) Qo Qo).mono ?_;rintro e2 w2 ⟨m,aE,hM,Sw⟩
 have dJ:∀x∈rb::[b,b1],x<wr.heap.size:=λx hm=>by
  rcases Ij.1 hm with h1 | h1
  ·rw[h1]; exact h2.r.rd.lt
  ·exact hs x h1
 have hK:J5 P rb c L N 1 [b,b1] w w2 (Ug q) m:=⟨zx7 Qo Qo,hP.new Qo Qo,⟨h2.r.R6 Sw,h2.ext.trans Sw.of_nil,h2.new⟩,(OW.of hM dJ).mono h2.ext.size⟩;refine⟨_,_,_,_,_,_,_,_,_,_,_,aE,Qe Sw hs,λb2 dJ wr hx hs=>?_⟩;refine((hK.put hx dJ).pick hP Qo hs).mono ?_;rintro e3 w3 ⟨v1,iP,hk3,⟨p10,_,p12⟩,hK1⟩;have p12:=p12 Qd;refine⟨_,iP,hk3,?_⟩;refine⟨λvs w2=>∃(k n:Nat) (W:Q7) (m:MW),vs=I (k:Int)::Qa W m/\(k:Int)<=v1/\n<=2+2*k/\J5 P rb c L N n [b,b1,b2] w w2 W m,Zs v1.toNat 0,λwr hx _=>⟨0,2,Ug q,m,rfl,p10,Qo,hK1.step hx⟩,?_⟩;clear hK1 hk3 iP hs hx hM hK aE Sw h1 h2 he hk;rintro i1 l Sd Sn Sr Sj Sp Sq Sf Sg Si wv hs ⟨k,n,W,m,he,hk,hn,hK⟩;simp only[Qa,I5,I6,Iw,true_and,and_true] at he;obtain⟨rfl,rfl,⟨rfl,rfl,rfl⟩,⟨rfl,rfl,rfl⟩,rfl,rfl,rfl⟩:=he;refine⟨λIT=>?_,λRN wr hx hs=>?_⟩
 ·have IT:=Ot IT
  repeat' first
   | exact rfl
   | (refine And.intro ?_ ?_)
   | (refine z0n Qd rfl Qo Qo λx=>?_)
   | (refine z3a Qd rfl Qo Qo λx=>?_)
   | (intro (b:Nat) hb)
   | (intro (wr:Wo) hx hs; refine(J5.pick hP (J5.step (by assumption) hx) ?_ hs).mono ?_; rotate_left; rintro e w2 ⟨v,he,hk,⟨hp0,_,dQ⟩,hC⟩; have dQ:=dQ Qd; refine⟨_,he,hk,?_⟩)
   | (intro (wr:Wo) hx hs; refine(J5.pick hP (J5.put (by assumption) hx (by assumption)) ?_ hs).mono ?_; rotate_left; rintro e w2 ⟨v,he,hk,⟨hp0,_,dQ⟩,hC⟩; have dQ:=dQ Qd; refine⟨_,he,hk,?_⟩)
   | (intro (wr:Wo) hx hs; refine(J5.pick hP (J5.AX7 (by assumption) hx (by assumption) (by assumption)) ?_ hs).mono ?_; rotate_left; rintro e w2 ⟨v,he,hk,⟨hp0,_,dQ⟩,hC⟩; have dQ:=dQ Qd; refine⟨_,he,hk,?_⟩)
   | (intro (wr:Wo) hx hs; refine(J5.mak hP (J5.step (by assumption) hx) hs).mono ?_; rintro e w2 ⟨W',m',a,d,he,hk,hC⟩; refine⟨_,_,_,_,_,_,_,_,_,_,_,_,he,hk,⟨Qo,Qo⟩,λwr hx _=>⟨⟨k+1,n+2,W',m',by simp[Qa],Qo,Qo,((hC.step hx).more hP Qo).sub Qs⟩,Zc (k:=k) rfl rfl Qo⟩⟩)
   | (intro (wr:Wo) hx hs; refine(J5.mak hP (J5.put (by assumption) hx (by assumption)) hs).mono ?_; rintro e w2 ⟨W',m',a,d,he,hk,hC⟩; refine⟨_,_,_,_,_,_,_,_,_,_,_,_,he,hk,⟨Qo,Qo⟩,λwr hx _=>⟨⟨k+1,n+2,W',m',by simp[Qa],Qo,Qo,((hC.step hx).more hP Qo).sub Qs⟩,Zc (k:=k) rfl rfl Qo⟩⟩)
   | (intro (wr:Wo) hx hs; refine(J5.mak hP (J5.AX7 (by assumption) hx (by assumption) (by assumption)) hs).mono ?_; rintro e w2 ⟨W',m',a,d,he,hk,hC⟩; refine⟨_,_,_,_,_,_,_,_,_,_,_,_,he,hk,⟨Qo,Qo⟩,λwr hx _=>⟨⟨k+1,n+2,W',m',by simp[Qa],Qo,Qo,((hC.step hx).more hP Qo).sub Qs⟩,Zc (k:=k) rfl rfl Qo⟩⟩)
   | omega
 refine((hK.step hx).pick hP Qo hs).mono ?_;rintro e4 w4 ⟨v3,he4,hk4,⟨p30,_,p32⟩,hC6⟩;have p32:=p32 Qd;refine⟨_,he4,hk4,⟨Qo,Qo⟩,?_⟩;refine⟨λvs w2=>∃(k n:Nat) (W:Q7) (m:MW),vs=I (k:Int)::Qa W m/\(k:Int)<=1+v3/\n<=20+3*k/\J5 P rb c L N n [b,b1,b2] w w2 W m,Zs (1+v3).toNat 0,λW8 tG _=>⟨0,n+1,W,m,rfl,Qo,Qo,hC6.step tG⟩,?_⟩;clear hK hC6 hk4 he4 hs hx RN hk hn;clear W m n k;rintro i3 l4 nP jS nO nJ qC nI lW oX nQ wv hs ⟨k,n,W,m,he,hk,hn,hK⟩;simp only[Qa,I5,I6,Iw,true_and,and_true] at he;obtain⟨rfl,rfl,⟨rfl,rfl,rfl⟩,⟨rfl,rfl,rfl⟩,rfl,rfl,rfl⟩:=he;refine⟨λIT wr hx hs=>?_,λRN=>?_⟩
 ·have IT:=Ot IT;refine((hK.step hx).pick hP Qo hs).mono ?_;rintro e5 w5 ⟨v5,he5,hk5,_,hC5⟩;refine⟨_,he5,hk5,rfl,λwr hx hs=>?_⟩;refine((hC5.step hx).weight hP Qo hs).mono ?_;rintro e6 w6 ⟨v6,he6,hk6,_,hC6⟩;refine⟨_,he6,hk6,rfl,_,Tr,_,JF,zzw _,λwr hx hs=>?_⟩;refine((hC6.step hx).fork hP hs).mono ?_;rintro e7 w7 ⟨W7,m7,a,d,he7,hk7,hC7⟩;exact⟨_,_,_,_,_,_,_,_,_,_,_,_,he7,hk7,⟨Qo,Qo⟩,λwr hx _=>⟨⟨k+1,n+1+2,W7,m7,by simp[Qa],Qo,Qo,hC7.step hx⟩,Zc (k:=k) rfl rfl Qo⟩⟩
 ·have RN:=Ou RN;refine⟨λvs w2=>∃(k n:Nat) (W:Q7) (m:MW),vs=I (k:Int)::Qa W m/\k<=27/\n<=60+30*k/\J5 P rb c L N n [b,b1,b2] w w2 W m,Zs 27 0,λW8 tG _=>⟨0,n,W,m,rfl,Qo,Qo,hK.step tG⟩,?_⟩;clear hK hs;rintro i5 l8 l9O l9L l9C BD8 BD7 BD6 oU oT oS wv hs ⟨k,n,W,m,he,hk,hn,hK⟩;simp only[Qa,I5,I6,Iw,true_and,and_true] at he;obtain⟨rfl,rfl,⟨rfl,rfl,rfl⟩,⟨rfl,rfl,rfl⟩,rfl,rfl,rfl⟩:=he;refine⟨λIT wr hx hs=>?_,λRN wr hx=>⟨W,m,rfl,(hK.step hx).fin hP Qo⟩⟩;have IT:=Ot IT;refine((hK.step hx).item hP Qo hs (V:=W) (p:=m)).mono ?_;rintro e5 w5 ⟨k5,a5,q5,r5,s5,he5,hk5,hC5⟩;refine⟨_,_,_,_,_,he5,hk5,rfl,λwr hx hs=>?_⟩;refine((hC5.step hx).do hP Qo hs).mono ?_;rintro e6 w6 ⟨W6,m6,d,he6,hk6,hC6⟩;exact⟨_,_,_,_,_,_,_,_,_,_,_,he6,hk6,⟨Qo,Qo⟩,λwr hx _=>⟨⟨k+1,n+20+10,W6,m6,by simp[Qa],Qo,Qo,hC6.step hx⟩,Zc (k:=k) rfl rfl Qo⟩⟩
theorem z2v:Tryz.prog.underlying ty_sl_uint8=some (.slice P5):=Qk
theorem z2u:Tryz.prog.underlying P5=some (.int .u8):=Qk
theorem z2w:Tryz.prog.underlying ZH=some .string:=Qk
theorem J5.Bz7{P:Nat->Q7->Prop}(hP:Mz P){rb:Nat}{c:OA}{L N n k:Nat}{bs:List Nat}{w0 w w':Wo}{W:Q7}{m:MW}(d:Dr rb c L N n bs w0 w)(hs:∀x∈bs,x<w.heap.size)(iv:JH W/\P k W)(hM:Zj 8 w.heap.size w' W m)(hr:Ux rb c L (N+n+k) w')(hx:Q0 [rb] w w')(fH:∀x∈QC 8 m,x≠rb):J5 P rb c L N (n+k) bs w0 w' W m:=
 ⟨iv.1,hP.mono Qo iv.2,⟨d.r.upd (by rw[<-Nat.add_assoc]; exact hr),d.ext.trans hx,d.new⟩,⟨hM.mono d.ext.size,λx S4 hm=>by
  rcases Ij.1 hm with h1 | h1
  ·exact fH x S4 h1
  ·have:=(hM.lt x S4).1;have:=hs x h1;omega⟩⟩
theorem zyi{P:Nat->Q7->Prop}(hP:Mz P){rb:Nat}{c:OA}{L N:Nat}{w:Wo}(h:Ux rb c L N w)(hN:N<=600000000000) :
  Cz UV #[.pointer (some ⟨rb,0,none⟩)] w λe w'=>∃(W:Q7) (m:MW),e=.returned (.agg (Qa W m).toArray)/\(JH W/\P 1100 W)/\Zj 8 w.heap.size w' W m/\Ux rb c L (N+1100) w'/\Q0 [rb] w w'/\∀x∈QC 8 m,x≠rb:=by
 refine(DD (some ⟨rb,0,none⟩) (R:=λv w'=>∃(W:Q7) (m:MW),v=.agg (Qa W m).toArray/\(JH W/\P 1100 W)/\Zj 8 w.heap.size w' W m/\Ux rb c L (N+1100) w'/\Q0 [rb] w w'/\∀x∈QC 8 m,x≠rb) ?_).mono λe w' ⟨v,he,W,m,hv,h3⟩=>⟨W,m,by rw[he,hv],h3⟩
 intro b hb wr hx hs;refine(Dr.pick ((Dr.start h).put hx hb) Qo hs).mono ?_;rintro e w1 ⟨v,he,hk,⟨p0,_,p2⟩,h1⟩;have p2:=p2 Qd;refine⟨_,he,hk,λwr hx hs=>?_⟩;have h2:=h1.step hx;refine(z03 hP h2.r.rd Qo (items:=v) Qo).mono ?_;rintro e2 w2 ⟨W,m,aE,iv,hM,hr,hxp,fH⟩;have hK:=J5.Bz7 hP h2 hs iv hM hr hxp fH;refine⟨_,_,_,_,_,_,_,_,_,_,aE,Mg h2.r hxp hs,λb1 fD wr hx hs=>?_⟩;refine((hK.put hx fD).pick hP Qo hs).mono ?_;rintro e3 w3 ⟨v3,iP,hk3,_,oJ⟩;refine⟨_,iP,hk3,λ_=>?_,λ_ wr hx=>⟨W,m,rfl,(oJ.step hx).fin hP Qo⟩⟩;refine⟨λvs w2=>∃(k:Nat) (W:Q7) (m:MW),vs=I (k:Int)::Qa W m/\k<=12/\J5 P rb c L N (0+1+1000+1) [b,b1] w w2 W m,Zs 12 0,λwr hx _=>⟨0,W,m,rfl,Qo,oJ.step hx⟩,?_⟩;clear oJ hK hM iv fH hr hxp aE hk3 iP h2 h1 hs hx;rintro i1 l Sd Sn Sr Sj Sp Sq Sf Sg Si wv hs ⟨k,W,m,he,hk,hK⟩;simp only[Qa,I5,I6,Iw,true_and,and_true] at he;obtain⟨rfl,rfl,⟨rfl,rfl,rfl⟩,⟨rfl,rfl,rfl⟩,rfl,rfl,rfl⟩:=he;refine⟨λIT wr hx hs=>?_,λRN=>?_⟩
 ·have IT:=Ot IT;refine((hK.step hx).fork hP hs).mono ?_;rintro e7 w7 ⟨W7,m7,a,d,he7,hk7,hC7⟩;exact⟨_,_,_,_,_,_,_,_,_,_,_,_,he7,hk7,⟨Qo,Qo⟩,λwr hx _=>⟨⟨k+1,W7,m7,by simp[Qa],Qo,hC7.step hx⟩,Zc (k:=k) rfl rfl Qo⟩⟩
 refine⟨λvs w2=>∃(k:Nat) (W:Q7) (m:MW),vs=I (k:Int)::Qa W m/\k<=8/\J5 P rb c L N (0+1+1000+1) [b,b1] w w2 W m,Zs 8 0,λwr hx _=>⟨0,W,m,rfl,Qo,hK.step hx⟩,?_⟩;clear hK hs;rintro i3 l4 nP jS nO nJ qC nI lW oX nQ wv hs ⟨k,W,m,he,hk,hK⟩;simp only[Qa,I5,I6,Iw,true_and,and_true] at he;obtain⟨rfl,rfl,⟨rfl,rfl,rfl⟩,⟨rfl,rfl,rfl⟩,rfl,rfl,rfl⟩:=he;refine⟨λIT=>⟨⟨Qo,Qo⟩,⟨by have:=Ot IT; show (0:Int)<=_; omega,by have:=Ot IT; show _<=(255:Int); omega⟩,λb3 wb hxb nH hh hn wr hx hs=>?_⟩,λ_ wr hx=>⟨W,m,rfl,(hK.step hx).fin hP Qo⟩⟩;have IT:=Ot IT;have hK1:=(hK.step hxb).step hx
 have hh2:wr.heap[b3]? = some (Obj.cells ([.int .u8 (48+(k:Int))]:List Va).toArray P5 (0,0)):=by
  rw[hx.block b3 (JW hh) hn]; exact hh
 have hc:=run_convert_bytes_arg wr ty_sl_uint8 P5 z2v z2u b3 0 1 1 [48+(k:Int)] rfl (λi hi=>by
  have:i=0:=Qo;subst this;rw[V0 hh2]; rfl) ZH z2w
 refine⟨_,wr,hc,λ_ _=>rfl,?_,λO' R3 Wc=>?_⟩
 ·have e1:(strOfNums [48+(k:Int)]).size=1:=rfl;rw[e1]; decide
 refine((hK1.step R3).mak hP Wc).mono ?_;rintro e7 w7 ⟨W7,m7,a,d,he7,hk7,hC7⟩;exact⟨_,_,_,_,_,_,_,_,_,_,_,_,he7,hk7,⟨Qo,Qo⟩,λwr hx _=>⟨⟨k+1,W7,m7,by simp[Qa],Qo,hC7.step hx⟩,Zc (k:=k) rfl rfl Qo⟩⟩
structure Cl (W V:Q7):Prop where
 n:V.now=W.now
 c:V.IE=W.IE
 t:V.tasks.length=W.tasks.length
 g:V.ID.length=W.ID.length
 e:∀i:Int,0<=i->i<8->∃ss:List KL,gi V.ID i={ gi W.ID i with IF:=ss }/\ss.length=(gi W.ID i).IF.length
theorem Cl.refl(W:Q7):Cl W W:=⟨rfl,rfl,rfl,rfl,λi _ _=>⟨_,rfl,rfl⟩⟩
theorem Cl.enc{W V:Q7}(h:Cl W V)(m:MW):Qa V m=Qa W m:=by simp[Qa,h.n,h.c,h.t,h.g]
theorem Cl.len{W V:Q7}(h:Cl W V)(hl:Xz W)(h8:W.ID.length=8):Xz V:=by
 refine⟨by rw[h.c]; exact hl.c,by rw[h.t]; exact hl.t,by rw[h.g]; exact hl.g,λi a b=>?_⟩;rw[h.g] at b;obtain⟨ss,e,l⟩:=h.e i a Qo;have hf:=hl.f i a b;rw[e];exact⟨hf.nm,hf.nx,hf.lo,hf.dr,by show ss.length<=_; rw[l]; exact hf.sh⟩
structure Lt (base:Nat) (bs:List Nat) (w0 w:Wo) (W V:Q7) (m:MW):Prop where
 cl:Cl W V
 o:OW 8 base bs w V m
 ext:Q0 (QC 8 m) w0 w
 new:∀x∈bs,w0.heap.size<=x
section
variable {base:Nat}{bs:List Nat}{w0 w w':Wo}{W V V':Q7}{m:MW}
theorem Lt.step(h:Lt base bs w0 w W V m)(hx:Q0 bs w w'):Lt base bs w0 w' W V m:=⟨h.cl,h.o.step hx,h.ext.fresh hx λx hm=>.inl (h.new x hm),h.new⟩
theorem Lt.R8(h:Lt base bs w0 w W V m)(hc:Cl W V')(hM:Zj 8 base w' V' m)(hx:Q0 (QC 8 m) w w'):Lt base bs w0 w' W V' m:=⟨hc,⟨hM,h.o.nb⟩,h.ext.trans hx,h.new⟩
theorem z01(h:Zj 8 base w W m)(iv:JH W) :
  Cz Pi #[.agg (Qa W m).toArray] w λe w'=>∃V:Q7,e=.returned (.agg (Qa V m).toArray)/\Xz V/\Zj 8 base w' V m/\Q0 (QC 8 m) w w':=by
 refine(zbl _ _ _ _ _ _ _ _ _ _ (R:=λv w'=>∃V:Q7,v=.agg (Qa V m).toArray/\Xz V/\Zj 8 base w' V m/\Q0 (QC 8 m) w w') ?_).mono λe w' ⟨v,he,V,hv,h3⟩=>⟨V,by rw[he,hv],h3⟩
 intro b hb b1 fD;have cJ:=iv.wp.a.gl;have kG:=iv.wp.a.t
 have pQ:∀x∈[b,b1],w.heap.size<=x:=by
  intro x hx;simp at hx;omega
 have h0:Lt base [b,b1] w w W W m:=⟨Cl.refl W,⟨h,λx hx hm=>by
  have:=(h.lt x hx).2;have:=pQ x hm;omega⟩,Q0.refl _ _,pQ⟩
 refine⟨λvs w2=>∃(k:Nat) (V:Q7),vs=[I (k:Int)]/\k<=12/\Lt base [b,b1] w w2 W V m/\V.ID=W.ID/\∀j:Int,(k:Int)<=j->j<12->Q8 V j=Q8 W j,Zs 12 0,λwr hx _=>⟨0,W,rfl,Qo,h0.step hx.of_nil,rfl,λ_ _ _=>rfl⟩,?_⟩;clear h0;rintro t wv hs ⟨k,V,he,hk,hL,hg,ht⟩;simp only[I5,I6,true_and,and_true] at he;subst he;have hVt:V.tasks.length=12:=by rw[hL.cl.t]; exact kG
 refine⟨λIT=>?_,λRN=>?_⟩
 ·have IT:=Ot IT;have k0:(0:Int)<=(k:Int):=Qo;have k1:(k:Int)<(V.tasks.length:Int):=Qo
  have ix:Ix m.tO W.tasks.length (k:Int):=by
   have:=hL.o.rd.t.ix QM k0 k1
   rwa[hL.cl.t] at this
  have hv:0<=(Q8 V (k:Int)).v/\(Q8 V (k:Int)).v<=100000000000000000:=by
   rw[ht _ (I3 _) Qo];rcases iv.wp.t (k:Int) k0 Qo with hz | ⟨_,hx⟩
   ·rw[hz.2]; decide
   ·exact Yq.1 hx.v
  refine⟨ix,_,hL.o.rd.t.f k0 k1 (j:=0) rfl,λ_=>⟨ix,_,hL.o.rd.t.f k0 k1 (j:=5) rfl,⟨by show _<=(Q8 V (k:Int)).v+_; omega,by show (Q8 V (k:Int)).v+_<=_; omega⟩,ix,zgv hL.o.own hL.o.nb k0 k1 (j:=5) Qd,⟨Qo,Qo⟩,λwr hx _=>⟨⟨k+1,IU V (k:Int) { Q8 V (k:Int) with v:=(Q8 V (k:Int)).v+50000000000000001 },Qs,Qo,?_,hg,λj a c=>?_⟩,Zc (k:=k) rfl rfl Qo⟩⟩,λ_=>⟨⟨Qo,Qo⟩,λwr hx _=>⟨⟨k+1,V,Qs,Qo,hL.step hx,hg,λj a c=>ht j Qo c⟩,Zc (k:=k) rfl rfl Qo⟩⟩⟩
  ·refine(hL.R8 (V':=IU V (k:Int) { Q8 V (k:Int) with v:=(Q8 V (k:Int)).v+50000000000000001 }) ⟨hL.cl.n,hL.cl.c,by show (List.set _ _ _).length=_; rw[H']; exact hL.cl.t,hL.cl.g,hL.cl.e⟩ (hL.o.own.vV k0 k1 (j:=5) (vs:=[I ((Q8 V (k:Int)).v+50000000000000001)]) (x:={ Q8 V (k:Int) with v:=(Q8 V (k:Int)).v+50000000000000001 }) rfl (by show 5+1<=9; decide)) L8).step hx
  ·rw[show Q8 (IU V (k:Int) { Q8 V (k:Int) with v:=(Q8 V (k:Int)).v+50000000000000001 }) j=_ from (QI V.tasks { Q8 V (k:Int) with v:=(Q8 V (k:Int)).v+50000000000000001 } k0 k1 (j:=j) Qo),C' Qo];exact ht j Qo c
 have RN:=Ou RN;refine⟨λvs w2=>∃(k:Nat) (V:Q7),vs=[I (k:Int)]/\k<=8/\Lt base [b,b1] w w2 W V m/\∀j:Int,(k:Int)<=j->j<8->gi V.ID j=gi W.ID j,Zs 8 0,λwr hx _=>⟨0,V,rfl,Qo,hL.step hx,λj _ _=>by rw[hg]⟩,?_⟩;clear hL hg ht hs hVt;rintro k' R4 dE ⟨k2,V,he,vP,hL,hg⟩;simp only[I5,I6,true_and,and_true] at he;subst he;refine⟨λIT=>?_,λbK wr hx=>?_⟩
 rotate_left
 ·have hK:=hL.step hx;exact⟨V,by rw[hK.cl.enc]; rfl,hK.cl.len iv.len cJ,hK.o.own,hK.ext⟩
 have IT:=Ot IT;have k0:(0:Int)<=(k2:Int):=Qo;have k8:(k2:Int)<8:=Qo;have DW2:=(Kk iv.wp.a k0 k8).2.2;refine⟨λvs w2=>∃(c:Nat) (V:Q7),vs=[I (c:Int)]/\c<=(gi W.ID (k2:Int)).IF.length/\Lt base [b,b1] w w2 W V m/\(∀j:Int,(k2:Int)<j->j<8->gi V.ID j=gi W.ID j)/\∀d:Int,(c:Int)<=d->Qc V (k2:Int) d=Qc W (k2:Int) d,Zs 4 0,λwr hx _=>⟨0,V,rfl,Qo,hL.step hx,λj a c=>hg j Qo c,λd _=>by unfold Qc; rw[hg _ (I3 _) k8]⟩,?_⟩;clear hL hg dE;rintro c' Rr Wc ⟨c,V,he,hc,hL,hg,hsh⟩;simp only[I5,I6,true_and,and_true] at he;subst he;have hVg:V.ID.length=8:=by rw[hL.cl.g]; exact cJ
 have k1:(k2:Int)<(V.ID.length:Int):=Qo;obtain⟨ss,wD,hsl⟩:=hL.cl.e (k2:Int) k0 k8;have hlen:(gi V.ID (k2:Int)).IF.length=(gi W.ID (k2:Int)).IF.length:=by rw[wD]; exact hsl
 have ix:∀{V':Q7} {w3:Wo},Lt base [b,b1] w w3 W V' m->Ix m.gO W.ID.length (k2:Int):=λhL'=>by
  have:=hL'.o.rd.g.ix (i:=(k2:Int)) k0 (by rw[hL'.cl.g]; omega)
  rwa[hL'.cl.g] at this
 refine⟨ix hL,_,_,_,hL.o.rd.g.RE k0 k1,λtR=>?_,λhgc=>⟨⟨Qo,Qo⟩,λwr hx _=>⟨⟨k2+1,V,Qs,Qo,hL.step hx,λj a d=>hg j Qo d⟩,Zc (k:=k2) rfl rfl Qo⟩⟩⟩;have tR:=Ot tR;have c0:(0:Int)<=(c:Int):=Qo;have hp:=iv.wp.s (k2:Int) (c:Int) k0 k8 c0 Qo;have hsc:=hsh (c:Int) (I3 _);have hf:=Yq.1 hp.f;have hv:=Yq.1 hp.v;rw[<-hsc] at hf hv;have wJ:=hL.o.rd.g.IF _ k0 k1;have hM1:=hL.o.own.BI3 (i:=(k2:Int)) (c:=(c:Int)) k0 Qo c0 tR (j:=0) (vs:=[I ((Qc V (k2:Int) (c:Int)).floor+50000000000000001)]) (x:={ Qc V (k2:Int) (c:Int) with floor:=(Qc V (k2:Int) (c:Int)).floor+50000000000000001 }) rfl (by show 0+1<=5; decide)
 have sK:∀{V1:Q7} (s:KL),Cl W V1->Cl W (Rz V1 (k2:Int) (c:Int) s):=λ{V1} s h1=>⟨h1.n,h1.c,h1.t,by show (List.set _ _ _).length=_; rw[H']; exact h1.g,λi a d=>by
  have:=h1.g;obtain⟨s1,e1,l1⟩:=h1.e i a d;have e2:gi (Rz V1 (k2:Int) (c:Int) s).ID i=if (k2:Int)=i then { gi V1.ID (k2:Int) with IF:=(gi V1.ID (k2:Int)).IF.set (Int.toNat (c:Int)) s } else gi V1.ID i:=Yv k0 Qo a;rw[e2];split
  ·rename_i e3;subst e3;exact⟨s1.set (Int.toNat (c:Int)) s,by rw[e1],by rw[H']; exact l1⟩
  ·exact⟨s1,e1,l1⟩⟩
 have hL1:=hL.R8 (V':=Rz V (k2:Int) (c:Int) { Qc V (k2:Int) (c:Int) with floor:=(Qc V (k2:Int) (c:Int)).floor+50000000000000001 }) (sK _ hL.cl) hM1 (NF Qo)
 have hg1:∀{V1:Q7} (s:KL),V1.ID.length=8->(∀j:Int,(k2:Int)<j->j<8->gi V1.ID j=gi W.ID j)->∀j:Int,(k2:Int)<j->j<8->gi (Rz V1 (k2:Int) (c:Int) s).ID j=gi W.ID j:=λ{V1} s hl h1 j a d=>by
  rw[show gi (Rz V1 (k2:Int) (c:Int) s).ID j=_ from Yv k0 Qo Qo,C' Qo];exact h1 j a d
 have dE:∀{V1:Q7} (s:KL),V1.ID.length=8->(c:Int)<((gi V1.ID (k2:Int)).IF.length:Int)->(∀d:Int,(c:Int)+1<=d->Qc V1 (k2:Int) d=Qc W (k2:Int) d)->∀d:Int,(c:Int)+1<=d->Qc (Rz V1 (k2:Int) (c:Int) s) (k2:Int) d=Qc W (k2:Int) d:=λ{V1} s hl AH2 h1 d a=>by
  rw[Jo k0 Qo c0 AH2 k0 Qo,C' Qo];exact h1 d a
 have hg2:=hg1 { Qc V (k2:Int) (c:Int) with floor:=(Qc V (k2:Int) (c:Int)).floor+50000000000000001 } hVg hg;have Bj1:=dE { Qc V (k2:Int) (c:Int) with floor:=(Qc V (k2:Int) (c:Int)).floor+50000000000000001 } hVg tR λd a=>hsh d Qo
 have nF:(gi (Rz V (k2:Int) (c:Int) { Qc V (k2:Int) (c:Int) with floor:=(Qc V (k2:Int) (c:Int)).floor+50000000000000001 }).ID (k2:Int)).IF.length=(gi V.ID (k2:Int)).IF.length:=Ny k0 k1 k0
 have hv1:Qc (Rz V (k2:Int) (c:Int) { Qc V (k2:Int) (c:Int) with floor:=(Qc V (k2:Int) (c:Int)).floor+50000000000000001 }) (k2:Int) (c:Int)={ Qc V (k2:Int) (c:Int) with floor:=(Qc V (k2:Int) (c:Int)).floor+50000000000000001 }:=by
  rw[Jo k0 k1 c0 tR k0 c0,E' ⟨rfl,rfl⟩]
 refine⟨ix hL,_,_,_,hL.o.rd.g.RE k0 k1,ix hL,_,_,_,hL.o.rd.g.RE k0 k1,wJ.ix ZZ c0 tR,(Qc V (k2:Int) (c:Int)).floor,wJ.f c0 tR (j:=0) rfl,⟨Qo,Qo⟩,wJ.ix ZZ c0 tR,zzl hL.o.own hL.o.nb k0 Qo c0 tR (j:=0) Qd,λ_=>?_,λ_=>⟨⟨Qo,Qo⟩,λwr hx _=>⟨⟨c+1,_,Qs,Qo,hL1.step hx,hg2,Bj1⟩,Zc (k:=c) rfl rfl Qo⟩⟩⟩;generalize Rz V (k2:Int) (c:Int) { Qc V (k2:Int) (c:Int) with floor:=(Qc V (k2:Int) (c:Int)).floor+50000000000000001 }=V1 at hL1 hg2 Bj1 nF hv1;have CZ0:V1.ID.length=8:=by rw[hL1.cl.g]; exact cJ
 have k11:(k2:Int)<(V1.ID.length:Int):=Qo;have Bi7:(c:Int)<((gi V1.ID (k2:Int)).IF.length:Int):=by rw[nF]; exact tR
 have CO1:=hL1.o.rd.g.IF _ k0 k11;have ev:(Qc V1 (k2:Int) (c:Int)).v=(Qc V (k2:Int) (c:Int)).v:=by rw[hv1]
 have WN:=hL1.o.own.BI3 (i:=(k2:Int)) (c:=(c:Int)) k0 Qo c0 Bi7 (j:=2) (vs:=[I ((Qc V1 (k2:Int) (c:Int)).v+50000000000000001)]) (x:={ Qc V1 (k2:Int) (c:Int) with v:=(Qc V1 (k2:Int) (c:Int)).v+50000000000000001 }) rfl (by show 2+1<=5; decide);have hL2:=hL1.R8 (V':=Rz V1 (k2:Int) (c:Int) { Qc V1 (k2:Int) (c:Int) with v:=(Qc V1 (k2:Int) (c:Int)).v+50000000000000001 }) (sK _ hL1.cl) WN (NF Qo);exact⟨ix hL1,_,_,_,hL1.o.rd.g.RE k0 k11,ix hL1,_,_,_,hL1.o.rd.g.RE k0 k11,CO1.ix ZZ c0 Bi7,(Qc V1 (k2:Int) (c:Int)).v,CO1.f c0 Bi7 (j:=2) rfl,⟨Qo,Qo⟩,CO1.ix ZZ c0 Bi7,zzl hL1.o.own hL1.o.nb k0 Qo c0 Bi7 (j:=2) Qd,⟨Qo,Qo⟩,λwr hx _=>⟨⟨c+1,_,Qs,Qo,hL2.step hx,hg1 _ CZ0 hg2,dE _ CZ0 Bi7 Bj1⟩,Zc (k:=c) rfl rfl Qo⟩⟩
end
theorem zsb{b:Js}(h:UP b){c:Int}(c0:0<=c)(c1:c<(b.locals.length:Int)):UP (ZX b c):=by
 by_cases hp:0<gi b.locals c
 ·exact(zlm h c0 c1 hp).1
 ·have he:=(h.each c c0 c1).1;have e0:gi b.locals c=0:=Qo;have hs:=GX b.locals c 0 c0 c1 b.locals.length;rw[E' c1] at hs;have hd:=h.dl;refine⟨h.q1,h.q2,?_,?_,?_,?_,?_,h.s1,h.s2,λd d0 d1=>?_,?_⟩
  ·simp only[ZX,H']; exact h.l1
  ·simp only[ZX,H']; exact h.l2
  ·simp only[ZX,H']; split <;> simp[hd]
  ·simp only[ZX]; have:=h.p1; omega
  ·simp only[ZX]; have:=h.p2; omega
  ·simp only[ZX,H'] at d1 ⊢;have hq:=h.each d d0 d1;have q1:=h.q1;rw[QI _ _ c0 c1 d0,e0]
   by_cases hpp:b.RJ+0>0
   ·rw[E' hpp,Pk _ _ d0 Qo];refine⟨?_,?_,λh=>by cases h⟩
    ·split <;> omega
    ·split <;> omega
   ·rw[C' hpp];refine⟨?_,?_,λhh=>?_⟩
    ·split <;> omega
    ·split <;> omega
    ·have:=hq.2.2 hh
     split <;> omega
  ·simp only[ZX,H'];have:=h.sum;rw[hs,e0]; omega
theorem zue{b:Js}(h:UP b)(op:zxd):UP (ZE b op).1:=by
 unfold ZE;split
 ·exact(zld h).1
 ·split
  ·exact h
  ·rename_i hi;have hc:YJ op.pK 0 ((b.locals.length:Int)-1)=true:=by simpa using hi
   have hc:=Qt.1 hc;split
   ·exact(zmy h hc.1 Qo).1
   ·split
    ·exact(zh3 h hc.1 Qo).1
    ·split
     ·exact zsb h hc.1 Qo
     ·exact h
theorem zvc{q x:Int}{w:Wo}(hq:YJ q 1 10000=true)(h1:1<=x)(h4:x<=4) :
  Cz QJ #[I q,I x] w λe w'=>∃(B:Js) (p:MG),e=.returned (.tuple #[.agg (QZ B p).toArray,.bool true])/\UP B/\Z5 w.heap.size w' B p/\Q0 [] w w':=by
 obtain⟨n,rfl⟩:∃n:Nat,x=(n:Int):=⟨x.toNat,Qo⟩;have hqq:=Qt.1 hq;exact(Gy (n:=n) hq (Qt.2 ⟨Qo,Qo⟩)).mono λe w' ⟨p,he,ho,hx⟩=>⟨_,p,he,zhk hqq.1 hqq.2 Qo Qo,ho,hx⟩
theorem zvb{rb:Nat}{c:OA}{L N:Nat}{w:Wo}(h:Ux rb c L N w)(hN:N<=900000000000) :
  Cz XN #[.pointer (some ⟨rb,0,none⟩)] w λe w'=>∃op:zxd,e=.returned (.agg (zr2 op).toArray)/\Ux rb c L (N+10) w'/\Q0 [rb] w w':=by
 refine(HL (some ⟨rb,0,none⟩) (R:=λv w'=>∃op:zxd,v=.agg (zr2 op).toArray/\Ux rb c L (N+10) w'/\Q0 [rb] w w') ?_).mono λe w' ⟨v,he,op,hv,h1⟩=>⟨op,by rw[he,hv],h1⟩
 intro b hb b1 fD wr hx hs;refine(Dr.pick ((Dr.start h).AX7 hx hb fD) Qo hs).mono ?_;rintro e w1 ⟨v1,he,hk,⟨p0,_,p2⟩,h1⟩;have p2:=p2 Qd;refine⟨_,he,hk,⟨Qo,Qo⟩,z0n Qd rfl Qo Qo λx=>?_⟩;refine⟨λvs bs w2=>bs=[]/\(∃x:Int,vs=[I x])/\Dr rb c L N 2 [b,b1] w w2,⟨λ_ wr hx hs=>?_,λ_=>⟨λ_ wr hx _=>⟨rfl,⟨_,rfl⟩,(h1.step hx).more Qd⟩,λ_ wr hx _=>⟨rfl,⟨_,rfl⟩,(h1.step hx).more Qd⟩⟩⟩,?_⟩
 ·refine(Dr.pick (h1.step hx) Qo hs).mono ?_;rintro e w3 ⟨v3,he,hk,_,h3⟩;exact⟨_,he,hk,λ_ wr hx _=>⟨rfl,⟨_,rfl⟩,h3.step hx⟩,λ_ wr hx _=>⟨rfl,⟨_,rfl⟩,h3.step hx⟩⟩
 clear h1;rintro kind w2 Wc ⟨-,-,h2⟩;refine⟨λvs bs w2=>bs=[]/\(∃x:Int,vs=[I x])/\Dr rb c L N 4 [b,b1] w w2,λwr hx hs=>?_,?_⟩
 ·refine(Dr.pick (h2.step hx) Qo hs).mono ?_;rintro e w3 ⟨v3,he,hk,_,h3⟩;refine⟨_,he,hk,λ_ wr hx hs=>?_,λ_ wr hx _=>⟨rfl,⟨_,rfl⟩,(h3.step hx).more Qd⟩⟩;refine(Dr.pick (h3.step hx) Qo hs).mono ?_;rintro e w4 ⟨v4,he,hk,⟨q0,_,q2⟩,h4⟩;have q2:=q2 Qd;exact⟨_,he,hk,⟨Qo,Qo⟩,λwr hx _=>⟨rfl,⟨_,rfl⟩,h4.step hx⟩⟩
 clear h2;rintro DF7 w5 lV ⟨-,-,h5⟩ wr hx hs;refine(Dr.pick (h5.step hx) Qo hs).mono ?_;rintro e w6 ⟨v6,he,hk,⟨p60,_,p62⟩,h6⟩;have p62:=p62 Qd;refine⟨_,he,hk,λwr hx hs=>?_⟩;refine(Dr.pick (h6.step hx) Qo hs).mono ?_;rintro e w7 ⟨v7,he,hk,⟨p70,_,p72⟩,h7⟩;have p72:=p72 Qd
 have hd:0<=Int.tdiv v7 29/\Int.tdiv v7 29<=1:=by
  rw[Int.tdiv_eq_ediv_of_nonneg p70];omega
 refine⟨_,he,hk,⟨Qd,⟨Qo,Qo⟩⟩,⟨Qo,Qo⟩,λb2 dJ wr hx hs=>?_⟩;refine(Dr.pick (h7.put hx dJ) Qo hs).mono ?_;rintro e w8 ⟨v8,he,hk,⟨p80,_,p82⟩,h8⟩;have p82:=p82 Qd;exact⟨_,he,hk,⟨Qo,Qo⟩,z0n Qd rfl Qo Qo λx wr hx=>⟨⟨_,_,_⟩,rfl,(h8.step hx).fin Qd⟩⟩
def zg2:List Int:=[1,20,21,50,100,10000]
theorem zky{v:Int}(h0:0<=v)(h1:v<6):YJ (gi zg2 v) 1 10000=true:=by
 have:v=0\/v=1\/v=2\/v=3\/v=4\/v=5:=Qo;rcases this with rfl | rfl | rfl | rfl | rfl | rfl <;> rfl
structure Vw (rb:Nat) (c:OA) (L N n:Nat) (bs:List Nat) (w0 w:Wo) (bt:Nat):Prop where
 d:Dr rb c L N n bs w0 w
 v:Ob Jd 1 Qb 0 (rb::bs) w (some ⟨bt,0,none⟩) 6 zg2
structure Bw (rb:Nat) (c:OA) (L N n:Nat) (bs:List Nat) (w0 w:Wo) (B:Js) (p:MG):Prop where
 P:UP B
 d:Dr rb c L N n bs w0 w
 o:Z5 w0.heap.size w B p
 nb:∀x∈ZI p,x∉rb::bs
section
variable {rb b bt:Nat}{c:OA}{L N n k:Nat}{bs cs:List Nat}{w0 w w':Wo}{B B':Js}{p p':MG}
theorem Vw.of(h:Dr rb c L N n bs w0 w)(hx:Q0 bs w w')(hb:w.heap.size<=bt)(hh:w'.heap[bt]? = some (Obj.cells ([I 1,I 20,I 21,I 50,I 100,I 10000]:List Va).toArray Qb (0,0)))(hn:bt∉bs):Vw rb c L N n bs w0 w' bt:=
 ⟨h.step hx,.inr ⟨bt,[],rfl,Ie _,by simpa[zg2,Jd] using hh,by simp[zg2,Jd],by simp[zg2]⟩,λx hxx hm=>by
  have:x=bt:=by simpa[QD] using hxx
  subst this;rcases Ij.1 hm with h1 | h1
  ·have:=h.r.rd.lt; omega
  ·exact hn h1⟩
theorem Vw.step(h:Vw rb c L N n bs w0 w bt)(hx:Q0 bs w w'):Vw rb c L N n bs w0 w' bt:=⟨h.d.step hx,h.v.step (hx.mono λ_ hm=>I2 _ hm)⟩
theorem Vw.put(h:Vw rb c L N n bs w0 w bt)(hx:Q0 bs w w')(hb:w.heap.size<=b):Vw rb c L N n (bs++[b]) w0 w' bt:=⟨h.d.put hx hb,h.v.put (hx.mono λ_ hm=>I2 _ hm) hb⟩
theorem Vw.R6(h:Vw rb c L N n bs w0 w bt)(hx:Q0 [] w w'):Vw rb c L N n bs w0 w' bt:=h.step hx.of_nil
theorem Vw.pick(h:Vw rb c L N n bs w0 w bt)(hN:N+n<=1000000000000)(hs:∀x∈bs,x<w.heap.size){q:Int} :
  Cz Q2 #[.pointer (some ⟨rb,0,none⟩),I q] w λe w'=>∃v,e=.returned (I v)/\Q9 bs w w'/\Ej q v/\Vw rb c L N (n+1) bs w0 w' bt:=
 (DO h.d.r.rd hN).mono λe w' ⟨v,he,hq,hr,hx⟩=>⟨v,he,Mg h.d.r hx hs,hq,⟨h.d.r.upd (by rw[<-Nat.add_assoc]; exact hr),h.d.ext.trans hx,h.d.new⟩,h.v.step (hx.mono λx hm=>by
  have:x=rb:=by simpa using hm
  subst this; exact Ia)⟩
theorem Vw.ix(h:Vw rb c L N n bs w0 w bt){v:Int}(h0:0<=v)(h1:v<6):Ix (some (Addr.mk bt 0 none)) 6 v:=h.v.own.ix h0 h1
theorem Vw.cell(h:Vw rb c L N n bs w0 w bt){v:Int}(h0:0<=v)(h1:v<6):Q1 bs w (some (Addr.mk bt 0 none)) (Int.toNat v*1) [I (gi zg2 v)]:=((h.v.rd Y3.len).less λ_ hm=>I2 _ hm) v h0 h1
theorem zxk(h:Z5 w.heap.size w' B p)(d:Dr rb c L N n bs w0 w)(hs:∀x∈bs,x<w.heap.size):∀x∈ZI p,x∉rb::bs:=λx hx hm=>by
 have:=(h.lt x hx).1;rcases Ij.1 hm with h1 | h1
 ·have:=d.r.rd.lt; omega
 ·have:=hs x h1; omega
theorem Z5.wid{base:Nat}(h:Z5 base w B p)(hx:Q0 bs w w')(hd:∀x∈ZI p,x∉bs):Z5 base w' B p:=⟨h.loc.ext hx λx hm=>hd x (Ib _ hm),h.Ry.ext hx λx hm=>hd x (Iy _ hm)⟩
theorem Bw.new(d:Dr rb c L N n bs w0 w)(hs:∀x∈bs,x<w.heap.size)(hP:UP B)(ho:Z5 w.heap.size w' B p)(hx:Q0 [] w w'):Bw rb c L N n bs w0 w' B p:=
 ⟨hP,d.step hx.of_nil,⟨ho.loc.mono d.ext.size,ho.Ry.mono d.ext.size⟩,zxk ho d hs⟩
theorem Bw.step(h:Bw rb c L N n bs w0 w B p)(hx:Q0 bs w w'):Bw rb c L N n bs w0 w' B p:=⟨h.P,h.d.step hx,h.o.wid hx λx hm gE=>h.nb x hm (I2 _ gE),h.nb⟩
theorem Bw.put(h:Bw rb c L N n bs w0 w B p)(hx:Q0 bs w w')(hb:w.heap.size<=b):Bw rb c L N n (bs++[b]) w0 w' B p:=
 ⟨h.P,h.d.put hx hb,h.o.wid hx λx hm gE=>h.nb x hm (I2 _ gE),λx S4 hm=>by
  have IT:=(h.o.lt x S4).2;rcases Ij.1 hm with h1 | h1
  ·exact h.nb x S4 (by rw[h1]; exact Ia)
  ·rcases Io.1 h1 with h2 | h2
   ·exact h.nb x S4 (I2 _ h2)
   ·have:x=b:=by simpa using h2
    omega⟩
theorem Bw.drawn(h:Bw rb c L N n bs w0 w B p)(hr:Ux rb c L (N+n+k) w')(hx:Q0 [rb] w w'):Bw rb c L N (n+k) bs w0 w' B p:=
 ⟨h.P,⟨h.d.r.upd (by rw[<-Nat.add_assoc]; exact hr),h.d.ext.trans hx,h.d.new⟩,h.o.wid hx λx hm gE=>h.nb x hm (by
  have:x=rb:=by simpa using gE
  rw[this]; exact Ia),h.nb⟩
theorem Bw.pick(h:Bw rb c L N n bs w0 w B p)(hN:N+n<=1000000000000)(hs:∀x∈bs,x<w.heap.size){q:Int} :
  Cz Q2 #[.pointer (some ⟨rb,0,none⟩),I q] w λe w'=>∃v,e=.returned (I v)/\Q9 bs w w'/\Ej q v/\Bw rb c L N (n+1) bs w0 w' B p:=
 (DO h.d.r.rd hN).mono λe w' ⟨v,he,hq,hr,hx⟩=>⟨v,he,Mg h.d.r hx hs,hq,h.drawn hr hx⟩
theorem Bw.op(h:Bw rb c L N n bs w0 w B p)(hN:N+n<=900000000000)(hs:∀x∈bs,x<w.heap.size) :
  Cz XN #[.pointer (some ⟨rb,0,none⟩)] w λe w'=>∃op:zxd,e=.returned (.agg (zr2 op).toArray)/\Q9 bs w w'/\Bw rb c L N (n+10) bs w0 w' B p:=
 (zvb h.d.r.rd hN).mono λe w' ⟨op,he,hr,hx⟩=>⟨op,he,Mg h.d.r hx hs,h.drawn hr hx⟩
theorem Bw.do(h:Bw rb c L N n bs w0 w B p)(hs:∀x∈bs,x<w.heap.size){op:zxd} :
  Cz Yu #[.agg (QZ B p).toArray,.agg (zr2 op).toArray] w λe w'=>∃(B':Js) (p':MG) (d:Int),e=.returned (.tuple #[.agg (QZ B' p').toArray,I d])/\Q9 bs w w'/\Bw rb c L N n bs w0 w' B' p':=
 (JR (op:=op) h.P (h.o.loc.rd Y3.len Qs) (h.o.Ry.rd Ys.len Qs)).mono λe w' ⟨p',he,ho,hx⟩=>⟨_,p',_,he,Qe hx hs,Bw.new h.d hs (zue h.P op) ho hx⟩
structure z1t (w w':Wo) (B:Js) (p:MG):Prop where
 ll:B.locals.length<=5
 dl:B.Ry.length<=4
 rl:∀bs:List Nat,(∀x∈bs,x<w.heap.size)->znf bs w' p.lO B.locals
 rd:∀bs:List Nat,(∀x∈bs,x<w.heap.size)->ztv bs w' p.dO B.Ry
theorem Z5.bdv(h:Z5 w.heap.size w' B p)(hl:B.locals.length<=5)(hd:B.Ry.length<=4):z1t w w' B p:=
 ⟨hl,hd,λbs hs=>h.loc.rd Y3.len λx hx hm=>by have:=(h.loc.lt x hx).1; have:=hs x hm; omega,λbs hs=>h.Ry.rd Ys.len λx hx hm=>by have:=(h.Ry.lt x hx).1; have:=hs x hm; omega⟩
theorem Bw.bdv(h:Bw rb c L N n bs w0 w B p):z1t w0 w B p:=h.o.bdv (by have:=h.P.l2; omega) (by have:=h.P.l2; have:=h.P.dl; omega)
theorem zy7{o:OA}{l:List Bool}{C:Nat}(h:ztv bs w o l)(h1:1<=l.length)(hC:l.length<=C):ztv bs w (if C=Int.toNat 1 then o else o.map (·.add (Int.toNat 1*1))) l.tail:=λi i0 i1=>by
 have hl:l.tail.length=l.length-1:=Qs;rw[hl] at i1;have hc:=h (i+1) Qo Qo
 have e:gi l.tail i=gi l (i+1):=by
  obtain⟨k,rfl⟩:=Int.eq_ofNat_of_zero_le i0;rw[U8 (by rw[hl]; omega),show ((k:Int)+1)=((k+1:Nat):Int) by omega,U8 Qo];simp
 rw[e,C' (by show ¬C=1; omega)];refine VQ λj v hj=>?_
 obtain⟨a,ha,hb,Ws⟩:=hc.get j v hj;refine⟨a.add (Int.toNat 1*1),by rw[ha]; rfl,by rw[Zu]; exact hb,?_⟩;rw[Jc]
 have:Int.toNat 1*1+(Int.toNat i*1+j)=Int.toNat (i+1)*1+j:=by
  have:Int.toNat (i+1)=Int.toNat i+1:=Qo;rw[this];show 1*1+_=_;omega
 rw[this]; exact Ws
end
theorem z0y{rb:Nat}{c:OA}{L N:Nat}{w:Wo}(h:Ux rb c L N w)(hN:N<=800000000000) :
  Cz VI #[.pointer (some ⟨rb,0,none⟩)] w λe w'=>∃(B:Js) (p:MG),e=.returned (.agg (QZ B p).toArray)/\z1t w w' B p/\Ux rb c L (N+300) w'/\Q0 [rb] w w':=by
 refine(EY (some ⟨rb,0,none⟩) (R:=λv w'=>∃(B:Js) (p:MG),v=.agg (QZ B p).toArray/\z1t w w' B p/\Ux rb c L (N+300) w'/\Q0 [rb] w w') ?_).mono λe w' ⟨v,he,B,p,hv,h1⟩=>⟨B,p,by rw[he,hv],h1⟩
 intro b hbA;have h0:=Dr.start h;refine⟨λvs bs w2=>∃(bt:Nat) (B:Js) (p:MG),bs=[bt]/\vs=QZ B p/\Bw rb c L N 2 [b,bt] w w2 B p,?_,?_⟩
 ·repeat' first
   | exact rfl
   | (refine And.intro ?_ ?_)
   | (intro (bt:Nat) (wb:Wo) hx nH hh hn; have hV:=Vw.of (by assumption) hx nH hh hn)
   | (intro (bt:Nat) (wb:Wo) hx nH hh hn; have hV:=Vw.of (Dr.add h0 hbA) hx.of_nil nH hh hn)
   | (intro (bt:Nat) (wb:Wo) hx nH hh hn; have hV:=Vw.of (Dr.add (Dr.add h0 hbA) (by assumption)) hx.of_nil nH hh hn)
   | (intro (bt:Nat) (wb:Wo) hx nH hh hn; have hV:=Vw.of (Dr.add (by assumption) (by assumption)) (hx.mono λ_ hm=>Ib _ hm) nH hh hn)
   | (intro (b:Nat) hb)
   | (refine⟨_,Vw.cell (by assumption) Qo Qo,?_⟩)
   | exact Vw.cell (by assumption) Qo Qo
   | exact Vw.ix (by assumption) Qo Qo
   | (intro (wr:Wo) hx hs; refine(Vw.pick (Vw.step (by assumption) hx) ?_ hs).mono ?_; rotate_left; rintro e w2 ⟨v,he,hk,⟨hp0,_,dQ⟩,hC⟩; have dQ:=dQ Qd; refine⟨_,he,hk,?_⟩)
   | (intro (wr:Wo) hx hs; refine(Vw.pick (Vw.put (by assumption) hx (by assumption)) ?_ hs).mono ?_; rotate_left; rintro e w2 ⟨v,he,hk,⟨hp0,_,dQ⟩,hC⟩; have dQ:=dQ Qd; refine⟨_,he,hk,?_⟩)
   | (intro (wr:Wo) hx hs; refine(Dr.pick (Dr.step (by assumption) hx) ?_ hs).mono ?_; rotate_left; rintro e w2 ⟨v,he,hk,⟨hp0,_,dQ⟩,hC⟩; have dQ:=dQ Qd; refine⟨_,he,hk,?_⟩)
   | (intro (wr:Wo) hx hs; refine(Dr.pick (Dr.put (by assumption) hx (by assumption)) ?_ hs).mono ?_; rotate_left; rintro e w2 ⟨v,he,hk,⟨hp0,_,dQ⟩,hC⟩; have dQ:=dQ Qd; refine⟨_,he,hk,?_⟩)
   | (intro (wr:Wo) hx hs; refine(Dr.pick (Dr.AX7 h0 hx hbA (by assumption)) ?_ hs).mono ?_; rotate_left; rintro e w2 ⟨v,he,hk,⟨hp0,_,dQ⟩,hC⟩; have dQ:=dQ Qd; refine⟨_,he,hk,?_⟩)
   | (intro (wr:Wo) hx hs; have hV:=Vw.step (by assumption) hx; refine(zvc (zky Qo Qo) Qo Qo).mono ?_; rintro e w2 ⟨B,p,he,hP,ho,hy⟩; have hB:=Bw.new hV.d hs hP ho hy; have hV2:=hV.R6 hy; refine⟨_,_,_,_,_,_,_,_,_,_,he,Qe hy hs,?_⟩)
   | (intro (wr:Wo) hx hs; have hV:=Vw.put (by assumption) hx (by assumption); refine(zvc (zky Qo Qo) Qo Qo).mono ?_; rintro e w2 ⟨B,p,he,hP,ho,hy⟩; have hB:=Bw.new hV.d hs hP ho hy; have hV2:=hV.R6 hy; refine⟨_,_,_,_,_,_,_,_,_,_,he,Qe hy hs,?_⟩)
   | (intro (wr:Wo) hx hs; exact⟨_,_,_,rfl,rfl,Bw.put (by assumption) hx (by assumption)⟩)
   | (intro (wr:Wo) hx hs; exact⟨_,_,_,rfl,rfl,Bw.step (by assumption) hx⟩)
   | omega
 clear h0;rintro l l1 l2 Sf Sg Si l4O l4L l4C fS w31 C40 ⟨bt,B,p,hbt,hv,hB⟩ wr hx hs;have:fS=bt:=by simpa using hbt
 subst this;simp only[QZ,I5,I6,Iw,true_and,and_true] at hv;obtain⟨rfl,rfl,rfl,⟨rfl,rfl,rfl⟩,rfl,rfl,rfl⟩:=hv;refine(Bw.pick (hB.step hx) Qo hs).mono ?_;rintro e1 w1 ⟨v1,gW,hk1,⟨p10,_,p12⟩,hB1⟩;have p12:=p12 Qd;refine⟨_,gW,hk1,?_⟩;refine⟨λvs w2=>∃(k n:Nat) (B:Js) (p:MG),vs=I (k:Int)::QZ B p/\(k:Int)<=v1/\n<=3+10*k/\Bw rb c L N n [b,fS] w w2 B p,Zs v1.toNat 0,λwr hx _=>⟨0,2+1,B,p,rfl,p10,Qo,hB1.step hx⟩,?_⟩;clear hB1 hk1 gW hs hx hB C40;clear B p;rintro i1 l5 l6 l7 l8O l8L l8C l9O l9L l9C w36 hs ⟨k,n,B,p,he,hk,hn,hK⟩;simp only[QZ,I5,I6,Iw,true_and,and_true] at he;obtain⟨rfl,rfl,rfl,rfl,⟨rfl,rfl,rfl⟩,rfl,rfl,rfl⟩:=he;refine⟨λIT wr hx hs=>?_,λRN wr hx hs=>?_⟩
 ·have IT:=Ot IT;refine(Bw.op (hK.step hx) Qo hs).mono ?_;rintro e2 w2 ⟨op,aE,vP,hB2⟩;refine⟨_,_,_,aE,vP,rfl,λwr hx hs=>?_⟩;refine(Bw.do (hB2.step hx) hs (op:=op)).mono ?_;rintro e3 w3 ⟨B3,p3,d,iP,hk3,hB3⟩;exact⟨_,_,_,_,_,_,_,_,_,_,iP,hk3,⟨Qo,Qo⟩,λwr hx _=>⟨⟨k+1,n+10,B3,p3,by simp[QZ],Qo,Qo,hB3.step hx⟩,Zc (k:=k) rfl rfl Qo⟩⟩
 have RN:=Ou RN;refine(Bw.pick (hK.step hx) Qo hs).mono ?_;rintro e4 w4 ⟨v4,he4,hk4,_,hB4⟩;refine⟨_,he4,hk4,λ_ wr hx=>⟨B,p,rfl,(hB4.step hx).bdv,(hB4.step hx).d.fin Qo⟩,λ_ wr hx hs=>?_⟩;have l1:=hK.P.l1;have l2:=hK.P.l2;have hdl:=hK.P.dl;have hP:=hK.P;have q2:=hP.q2;have p1:=hP.p1;have p2:=hP.p2;have s1:=hP.s1;have s2:=hP.s2;refine(Bw.pick (hB4.step hx) Qo hs).mono ?_;rintro e5 w5 ⟨v5,he5,hk5,⟨p50,_,p52⟩,hB5⟩;have p52:=p52 Qo;refine⟨_,he5,hk5,λwr hx hs=>?_⟩;refine(Bw.pick (hB5.step hx) Qo hs).mono ?_;rintro e6 w6 ⟨v6,he6,hk6,_,hB⟩;have hnb:∀x∈ZI p,x∉[b,fS]:=λx hx hm=>hB.nb x hx (I2 _ hm)
 have pQ:∀x∈ZI p,w.heap.size<=x:=λx hx=>(hB.o.lt x hx).1
 have fin:∀{w7 wr:Wo} {B':Js},Z5 w.heap.size w7 B' p->Q0 (ZI p) w6 w7->Q0 [b,fS] w7 wr->B'.locals.length<=5->B'.Ry.length<=4->z1t w wr B' p/\Ux rb c L (N+300) wr/\Q0 [rb] w wr:=λ{w7 wr B'} ho S4 R3 hl hd=>by
  have hd2:Dr rb c L N (n+1+1+1) [b,fS] w w7:=⟨hB.d.r.call S4 (λhm=>hB.nb rb hm Ia) λa ha=>by
   rcases h.ltc a ha with h3 | h3
   ·exact .inl λhm=>by have:=pQ _ hm; omega
   ·exact .inr h3,hB.d.ext.fresh S4 λx hm=>.inl (pQ x hm),hB.d.new⟩
  have hd3:=hd2.step R3;exact⟨(ho.wid R3 hnb).bdv hl hd,hd3.fin Qo⟩
 have B55:∀{wr:Wo} {B':Js},B'.locals=B.locals->B'.Ry=B.Ry->Q0 [b,fS] w6 wr->z1t w wr B' p/\Ux rb c L (N+300) wr/\Q0 [rb] w wr:=λ{wr B'} el ed R3=>by
  have k:=hB.step R3;have hb:=k.bdv;exact⟨⟨by rw[el]; exact hb.ll,by rw[ed]; exact hb.dl,by rw[el]; exact hb.rl,by rw[ed]; exact hb.rd⟩,k.d.fin Qo⟩
 have Wg:Ix p.dO B.Ry.length v5:=hB.o.Ry.ix p50 Qo;have B80:Ix p.lO B.locals.length v5:=hB.o.loc.ix p50 Qo;refine⟨_,he6,hk6,λ_=>⟨⟨Qo,Qo⟩,λwr hx=>⟨{ B with RJ:=B.RJ+1 },p,rfl,B55 rfl rfl hx⟩⟩,λ_=>⟨λ_=>⟨Wg,_,(hB.o.Ry.rd Ys.len λx hx=>hnb x (Iy _ hx)) v5 p50 Qo,Wg,hB.o.Ry.wr Ys.len (λx hx=>hnb x (Iy _ hx)) p50 Qo (j:=0) (n:=1) Qd,λwr hx=>?_⟩,λ_=>⟨λ_=>⟨B80,hB.o.loc.wr Y3.len (λx hx=>hnb x (Ib _ hx)) p50 Qo (j:=0) (n:=1) Qd,λwr hx=>?_⟩,λ_=>⟨λ_ wr hx=>⟨{ B with IY:=0 },p,rfl,B55 rfl rfl hx⟩,λ_=>⟨λ_=>⟨⟨Qo,Qo,?_⟩,λwr hx=>?_⟩,λ_=>⟨λ_ ba hba wr hx hs hh=>?_,λ_=>⟨λ_=>⟨⟨Qo,Qo⟩,⟨Qo,Qo⟩,λwr hx=>⟨{ B with RJ:=B.RJ-1,Sy:=B.Sy+1 },p,rfl,B55 rfl rfl hx⟩⟩,λ_ wr hx=>⟨B,p,rfl,B55 rfl rfl hx⟩⟩⟩⟩⟩⟩⟩⟩
 ·exact⟨{ B with Ry:=B.Ry.set v5.toNat (!gi B.Ry v5) },p,by simp[QZ],fin (hB.o.B01 p50 Qo _) (hB.o.xD _ _) hx (by show B.locals.length<=5; omega) (by show (B.Ry.set _ _).length<=4; rw[H']; omega)⟩
 ·exact⟨{ B with locals:=B.locals.set v5.toNat (-1) },p,by simp[QZ],fin (hB.o.eI p50 Qo _) (hB.o.xL _ _) hx (by show (B.locals.set _ _).length<=5; rw[H']; omega) (by show B.Ry.length<=4; omega)⟩
 ·have:=hB.o.Ry.le; omega
 ·have k:=hB.step hx;have hb:=k.bdv;have hle:=hB.o.Ry.le;refine⟨{ B with Ry:=B.Ry.tail },{ p with dO:=if p.dC=Int.toNat 1 then p.dO else p.dO.map (·.add (Int.toNat 1*1)),dC:=p.dC-Int.toNat 1 },?_,⟨hb.ll,by show B.Ry.tail.length<=4; simp; omega,hb.rl,λbs hs=>zy7 (hb.rd bs hs) Qo hle⟩,k.d.fin Qo⟩;simp[QZ]
 ·have hB2:=hB.put hx hba;have Bi9:∀x∈ZI p,x∉[b,fS,ba]:=λx hx hm=>hB2.nb x hx (I2 _ hm)
  obtain⟨o',nK,w9,WH,CN3,hxa,hor⟩:=zmm Y3 P6 hB2.o.loc (x:=0) (fz:=(0,0)) hh (by rfl) Qo Qo ZV #[false,false] (by have:=hB2.d.ext.size; omega);have hk9:Q9 [b,fS,ba] wr w9:=hxa.kept λx hm=>⟨hs x hm,λhm2=>Bi9 x (Ib _ hm2) hm⟩
  refine⟨_,_,_,w9,WH,hk9,λO' R3=>?_⟩
  have C21:∀x∈QD o',x∉[b,fS,ba]:=λx hxo hm=>by
   rcases hor with e | e
   ·rw[e] at hxo; exact Bi9 x (Ib _ hxo) hm
   ·rw[e] at hxo;have:x=wr.heap.size:=by simpa[QD] using hxo
    have:=hs x hm;omega
  have hrb:rb∉QD p.lO:=λhm=>hB2.nb rb (Ib _ hm) Ia
  have hd2:Dr rb c L N (n+1+1+1) [b,fS,ba] w w9:=⟨hB2.d.r.call hxa hrb λa ha=>by
   rcases h.ltc a ha with h3 | h3
   ·exact .inl λhm=>by have:=pQ _ (Ib _ hm); omega
   ·exact .inr h3,hB2.d.ext.fresh hxa λx hm=>.inl (pQ x (Ib _ hm)),hB2.d.new⟩
  have Bi3:Ud PR 1 Y6 w.heap.size O' p.dO p.dC B.Ry:=(hB2.o.Ry.ext hxa (hB2.o.Ry.Wb hB2.o.loc Qd)).ext R3 λx hm=>Bi9 x (Iy _ hm)
  have oN:Ud Jd 1 Qb w.heap.size O' o' nK (B.locals++[0]):=CN3.ext R3 C21;exact⟨{ B with locals:=B.locals++[0] },{ p with lO:=o',lC:=nK },by simp[QZ],Z5.bdv ⟨oN,Bi3⟩ (by simp; omega) (by show B.Ry.length<=4; omega),(hd2.step R3).fin Qo⟩
theorem zwb{α:Type}[Inhabited α]{enc:α->List Va}{z:Nat}{bs:List Nat}{w:Wo}{o:OA}{l:List α}{C:Nat}(h:Rd enc z bs w o l)(h1:1<=l.length)(hC:l.length<=C):Rd enc z bs w (if C=Int.toNat 1 then o else o.map (·.add (Int.toNat 1*z))) l.tail:=λi i0 i1=>by
 have hl:l.tail.length=l.length-1:=Qs;rw[hl] at i1;have hc:=h (i+1) Qo Qo
 have e:gi l.tail i=gi l (i+1):=by
  obtain⟨k,rfl⟩:=Int.eq_ofNat_of_zero_le i0;rw[U8 (by rw[hl]; omega),show ((k:Int)+1)=((k+1:Nat):Int) by omega,U8 Qo];simp
 rw[e,C' (by show ¬C=1; omega)];refine VQ λj v hj=>?_
 obtain⟨a,ha,hb,Ws⟩:=hc.get j v hj;refine⟨a.add (Int.toNat 1*z),by rw[ha]; rfl,by rw[Zu]; exact hb,?_⟩;rw[Jc]
 have:Int.toNat 1*z+(Int.toNat i*z+j)=Int.toNat (i+1)*z+j:=by
  have:Int.toNat (i+1)=Int.toNat i+1:=Qo;rw[this,Nat.succ_mul];show 1*z+_=_;omega
 rw[this]; exact Ws
def zz8(rb:Nat)(c:OA)(L N:Nat)(w0:Wo)(v:Va)(w:Wo):Prop:=∃(W:Q7) (m:MW),v=.agg (Qa W m).toArray/\Xz W/\(∀ds:List Nat,(∀x∈ds,x<w0.heap.size)->Xl ds w W m)/\Ux rb c L (N+1500) w/\Q0 [rb] w0 w
section
variable {rb:Nat}{c:OA}{L N n q:Nat}{bs:List Nat}{w0 w w1 wr:Wo}{W W':Q7}{m:MW}
theorem J5.aft(h:J5 B8 rb c L N n bs w0 w W m)(ltc:∀a,c=some a->a.block<w0.heap.size\/L=0)(S4:Q0 (QC 8 m) w w1)(R3:Q0 bs w1 wr)(hq:n<=q):Ux rb c L (N+q) wr/\Q0 [rb] w0 wr:=by
 have pQ:∀x∈QC 8 m,w0.heap.size<=x:=λx hx=>(h.o.own.lt x hx).1
 have d2:Dr rb c L N n bs w0 w1:=⟨h.d.r.call S4 (λhm=>h.o.nb rb hm Ia) λa ha=>by
  rcases ltc a ha with h3 | h3
  ·exact .inl λhm=>by have:=pQ _ hm; omega
  ·exact .inr h3,h.d.ext.fresh S4 λx hm=>.inl (pQ x hm),h.d.new⟩
 exact(d2.step R3).fin hq
theorem J5.btv(h:J5 B8 rb c L N n bs w0 w W m)(ltc:∀a,c=some a->a.block<w0.heap.size\/L=0)(hl:Xz W')(hM:Zj 8 w0.heap.size w1 W' m)(S4:Q0 (QC 8 m) w w1)(R3:Q0 bs w1 wr)(hq:n<=1500):zz8 rb c L N w0 (.agg (Qa W' m).toArray) wr:=
 ⟨W',m,rfl,hl,λds hd=>(hM.ext R3 λx hx hm=>h.o.nb x hx (I2 _ hm)).rd λx hx hm=>by
  have:=(h.o.own.lt x hx).1;have:=hd x hm;omega,h.aft ltc S4 R3 hq⟩
theorem J5.rdn(h:J5 B8 rb c L N n bs w0 w W m)(ds:List Nat)(hd:∀x∈ds,x<w0.heap.size):Xl ds w W m:=h.o.own.rd λx hx hm=>by
 have:=(h.o.own.lt x hx).1;have:=hd x hm;omega
theorem J5.B47(h:J5 B8 rb c L N n bs w0 w W m)(hx:Q0 bs w wr)(hq:n<=1500):zz8 rb c L N w0 (.agg (Qa W m).toArray) wr:=
 ⟨W,m,rfl,h.iv.len,(h.step hx).rdn,((h.step hx).d.fin hq)⟩
theorem zym(h:Xz W)(i:Int)(x:Px):Xz (RX W i x):=⟨by show (List.set _ _ _).length<=_; rw[H']; exact h.c,h.t,h.g,h.f⟩
theorem zyn(h:Xz W)(i:Int)(x:MC):Xz (IU W i x):=⟨h.c,by show (List.set _ _ _).length<=_; rw[H']; exact h.t,h.g,h.f⟩
theorem q8(h:Xz W){i:Int}(i0:0<=i)(i1:i<(W.ID.length:Int)){G:ZN}(hG:zie G):Xz (Re W i G):=by
 have hl:(Re W i G).ID.length=W.ID.length:=H';refine⟨h.c,h.t,by rw[hl]; exact h.g,λj a b=>?_⟩;rw[hl] at b;rw[Yv i0 i1 a];split
 ·exact hG
 ·exact h.f j a b
theorem zy6{base:Nat}(hM:Zj 8 base w W m)(hn:∀x∈QC 8 m,x∉bs){g:Int}(g0:0<=g)(g8:g<8){B:Js}{p:MG}(hl:znf bs (R8 w m.gO (Int.toNat g*14+8) (QZ B p)) p.lO B.locals)(hd:ztv bs (R8 w m.gO (Int.toNat g*14+8) (QZ B p)) p.dO B.Ry) :
  Xl bs (R8 w m.gO (Int.toNat g*14+8) (QZ B p)) (RP W g B) (PG m g.toNat (TL (m.ms g.toNat) p)):=by
 have cJ:=hM.len;have hx:Q0 (QD m.gO) w (R8 w m.gO (Int.toNat g*14+8) (QZ B p)):=hM.g.row.qR _ _;have AM9:=hM.g.row.R8 Y7.len g0 (by rw[XR]; omega) (j:=8) (vs:=QZ B p) (x:=({ gi W.ID g with IN:=B },TL (m.ms g.toNat) p)) (by rw[Tw g0 Qo]; rfl) (by show 8+5<=14; decide);rw[<-zj9 g0 Qo] at AM9;have AM9:Ud TH 14 QL base (R8 w m.gO (Int.toNat g*14+8) (QZ B p)) m.gO m.gC (zoq (RP W g B) (PG m g.toNat (TL (m.ms g.toNat) p))):=AM9;have hps:(RP W g B).ID.length=8:=by show (List.set _ _ _).length=_; rw[H']; exact cJ
 have e1:∀i:Int,0<=i->gi (RP W g B).ID i=if g=i then { gi W.ID g with IN:=B } else gi W.ID i:=λi a=>Yv g0 Qo a
 have e2:∀i:Int,0<=i->(PG m g.toNat (TL (m.ms g.toNat) p)).ms i.toNat=if g=i then TL (m.ms g.toNat) p else m.ms i.toNat:=λi a=>by
  show (if g.toNat=i.toNat then _ else _)=_
  by_cases e:g=i
  ·rw[E' e,E' Qo]
  ·rw[C' e,C' Qo]
 refine⟨(hM.c.ext hx (hM.c.Wb hM.g.row Qd)).rd KT.len λx hx=>hn x (N9 hx),(hM.t.ext hx (hM.t.Wb hM.g.row Qd)).rd OX.len λx hx=>hn x (Nb hx),⟨λi i0 i1=>?_,λi i0 i1=>?_,λi i0 i1=>?_,λi i0 i1=>?_⟩⟩
 ·have:=AM9.rd Y7.len (bs:=bs) (λx hx=>hn x (Na hx)) i i0 (by rw[XR]; exact i1)
  rwa[Tw i0 i1] at this
 all_goals
  rw[hps] at i1;rw[e1 i i0,e2 i i0]
  have hi:=(hM.each i0 Qo).ext hx (by
   have:=XP hM.g.row (hM.g.each i i0 (by rw[XR]; omega))
   rwa[Tw i0 Qo] at this)
  split
 ·exact hl
 ·exact hi.loc.rd Y3.len λx hx=>hn x (J2 (k:=i.toNat) Qo (by simp[Qm,hx]))
 ·exact hd
 ·exact hi.Ry.rd Ys.len λx hx=>hn x (J2 (k:=i.toNat) Qo (by simp[Qm,hx]))
 ·rename_i e;subst e;exact hi.shl.rd VR.len λx hx=>hn x (J2 (k:=g.toNat) Qo (by simp[Qm,hx]))
 ·exact hi.shl.rd VR.len λx hx=>hn x (J2 (k:=i.toNat) Qo (by simp[Qm,hx]))
end
theorem z29{v:Int}{k:Nat}{ls:List Va}{P:ByteArray->Prop}(ha:ls.all (λ| .string s=>decide (s.size<=1000) | _=>false)=true)(hl:ls.length=k)(h0:0<=v)(h1:v<(k:Int))(h:∀x,x.size<=1000->P x):∃x:ByteArray,(0<=v/\ls[Int.toNat v+0]? = some (.string x))/\P x:=by
 have IT:Int.toNat v+0<ls.length:=Qo;have:=List.all_eq_true.1 ha _ (List.getElem_mem IT);have e:=Im IT;generalize ls[Int.toNat v+0]=y at this e
 split at this
 ·exact⟨_,⟨h0,e⟩,h _ (Ot this)⟩
 ·cases this
theorem z0z{rb:Nat}{c:OA}{L N:Nat}{w:Wo}(h:Ux rb c L N w)(hN:N<=500000000000) :
  Cz Xn #[.pointer (some ⟨rb,0,none⟩)] w λe w'=>∃v,e=.returned v/\zz8 rb c L N w v w':=by
 refine EZ (some ⟨rb,0,none⟩) (R:=λv w'=>zz8 rb c L N w v w') ?_;intro b hb wr hx hs;have h1:=(Dr.start h).put hx hb;refine(zyi KR h1.r.rd Qo).mono ?_;rintro e2 w2 ⟨W,m,aE,iv,hM,hr,hxp,fH⟩;have hK:=J5.Bz7 KR h1 hs iv hM hr hxp fH;have iv:=iv.1;refine⟨_,_,_,_,_,_,_,_,_,_,aE,Mg h1.r hxp hs,λb1 fD J' S4 dE=>?_⟩;refine((hK.put S4 fD).pick KR Qo dE).mono ?_;rintro e3 w3 ⟨v3,iP,hk3,_,oJ⟩;refine⟨_,iP,hk3,λ_ wr hx=>oJ.B47 hx Qd,λ_ Ru Ra fX=>?_⟩;refine((oJ.step Ra).pick KR Qo fX).mono ?_;rintro e4 w4 ⟨c1,he4,hk4,⟨c10,_,c12⟩,eQ⟩;have ha:=iv.wp.a;have wA:=ha.c1;have hc4:=ha.c2;have kG:=ha.t;have cJ:=ha.gl;have c12:=c12 Qo;refine⟨_,he4,hk4,λRC SZ eM=>?_⟩;refine((eQ.step SZ).pick KR Qo eM).mono ?_;rintro e5 w5 ⟨t,he5,hk5,⟨t0,_,t2⟩,dR⟩;have t2:=t2 Qd;refine⟨_,he5,hk5,λRQ Sw lV=>?_⟩;refine((dR.step Sw).pick KR Qo lV).mono ?_;rintro e6 w6 ⟨g,he6,hk6,⟨g0,_,g2⟩,tB⟩;have g2:=g2 Qd;refine⟨_,he6,hk6,λSh bJ hs6=>?_⟩;refine((tB.step bJ).pick KR Qo hs6).mono ?_;rintro e7 w7 ⟨k,he7,hk7,_,hS⟩;clear oJ eQ dR tB hK hM hr hxp aE iP he4 he5 he6 hk3 hk4 hk5 hk6 S4 Ra SZ Sw bJ dE fX eM lV hs6 h1 fH;refine⟨_,he7,hk7,?_⟩;have lc:=h.ltc;have ltc:∀a,c=some a->a.block<w.heap.size\/L=0:=lc;have hl:=iv.len;have t1:t<(W.tasks.length:Int):=Qo;have g1:g<(W.ID.length:Int):=Qo;have g8:g<((8:Nat):Int):=Qo;have Wg:∀{n:Nat} {w':Wo},J5 B8 rb c L N n [b,b1] w w' W m->Ix m.cO W.IE.length c1:=λh=>h.rd.c.ix ZT c10 c12
 have hit:∀{n:Nat} {w':Wo},J5 B8 rb c L N n [b,b1] w w' W m->Ix m.tO W.tasks.length t:=λh=>h.rd.t.ix QM t0 t1
 have hig:∀{n:Nat} {bs:List Nat} {w':Wo},J5 B8 rb c L N n bs w w' W m->Ix m.gO W.ID.length g:=λh=>h.rd.g.ix g0 g1
 have nb:∀{n:Nat} {bs:List Nat} {w':Wo},J5 B8 rb c L N n bs w w' W m->∀x∈QC 8 m,x∉bs:=λh x hx hm=>h.o.nb x hx (I2 _ hm)
 have hrd:∀{w':Wo},J5 B8 rb c L N (0+1100+1+1+1+1+1) [b,b1] w w' W m->Xl [b,b1] w' W m:=λh=>h.o.own.rd (nb h)
 have fC:∀{n:Nat} {bs:List Nat} {w' wr:Wo} {j:Nat} {vs:List Va} (x:Px),J5 B8 rb c L N n bs w w' W m->n<=1500->KU x=(KU (gi W.IE c1)).take j++vs++(KU (gi W.IE c1)).drop (j+vs.length)->j+vs.length<=5->Q0 bs (R8 w' m.cO (Int.toNat c1*5+j) vs) wr->zz8 rb c L N w (.agg (Qa (RX W c1 x) m).toArray) wr:=λx h hn he hj hx=>h.btv ltc (zym hl c1 x) (h.o.own.AX8 c10 c12 he hj) NE hx hn
 have fT:∀{n:Nat} {bs:List Nat} {w' wr:Wo} {j:Nat} {vs:List Va} (x:MC),J5 B8 rb c L N n bs w w' W m->n<=1500->Xa x=(Xa (gi W.tasks t)).take j++vs++(Xa (gi W.tasks t)).drop (j+vs.length)->j+vs.length<=9->Q0 bs (R8 w' m.tO (Int.toNat t*9+j) vs) wr->zz8 rb c L N w (.agg (Qa (IU W t x) m).toArray) wr:=λx h hn he hj hx=>h.btv ltc (zyn hl t x) (h.o.own.vV t0 t1 he hj) L8 hx hn
 have fG:∀{n:Nat} {bs:List Nat} {w' wr:Wo} {j:Nat} {vs:List Va} (G:ZN),J5 B8 rb c L N n bs w w' W m->n<=1500->zie G->G.IN=(gi W.ID g).IN->G.IF=(gi W.ID g).IF->Yt G (m.ms g.toNat)=(Yt (gi W.ID g) (m.ms g.toNat)).take j++vs++(Yt (gi W.ID g) (m.ms g.toNat)).drop (j+vs.length)->j+vs.length<=14->Q0 bs (R8 w' m.gO (Int.toNat g*14+j) vs) wr->zz8 rb c L N w (.agg (Qa (Re W g G) m).toArray) wr:=λG h hn hf hb hsh he hj hx=>h.btv ltc (q8 hl g0 g1 hf) (h.o.own.An0 g0 g8 (by rw[hb]) (by rw[hb]) hsh he hj) FV hx hn
 have eC:∀x:Px,Qa (RX W c1 x) m=Qa W m:=λx=>by simp[Qa,RX]
 have eT:∀x:MC,Qa (IU W t x) m=Qa W m:=λx=>by simp[Qa,IU]
 have eG:∀x:ZN,Qa (Re W g x) m=Qa W m:=λx=>by simp[Qa,Re]
 have nM:=hl.f g g0 g1
 have hv:0<=(Q8 W t).v/\(Q8 W t).v<=100000000000000000:=by
  rcases iv.wp.t t t0 Qo with hz | ⟨_,hx⟩
  ·rw[hz.2]; decide
  ·exact Yq.1 hx.v
 have hlm:=ZQ 1;refine⟨λ_=>⟨Wg hS,_,(hrd hS).c.f c10 c12 (j:=0) rfl,Wg hS,zpg hS.o.own (nb hS) c10 c12 (j:=0) Qd,λwr hx=>?_⟩,λ_=>⟨λ_ wr hx hs=>?_,λ_=>⟨λ_ wr hx hs=>?_,λ_=>⟨λ_ wr hx hs=>?_,λ_=>⟨λ_ wr hx hs=>?_,λ_=>⟨λ_ wr hx hs=>?_,λ_=>⟨λ_=>⟨hit hS,_,(hrd hS).t.f t0 t1 (j:=5) rfl,_,Md,⟨by show _<=(Q8 W t).v+_; omega,by show (Q8 W t).v+_<=_; omega⟩,hit hS,zgv hS.o.own (nb hS) t0 t1 (j:=5) Qd,λwr hx=>?_⟩,λ_=>⟨λ_=>⟨hit hS,zgv hS.o.own (nb hS) t0 t1 (j:=3) Qd,λwr hx=>?_⟩,λ_=>⟨λ_=>⟨hit hS,zgv hS.o.own (nb hS) t0 t1 (j:=4) Qd,λwr hx=>?_⟩,λ_=>⟨λ_=>⟨⟨Qo,Qo,by have:=hS.o.own.t.le; omega⟩,λwr hx=>?_⟩,λ_=>⟨λ_=>⟨hig hS,_,(hrd hS).g.used g0 g1,hig hS,zd7 hS.o.own (nb hS) g0 g8 (j:=0) Qd,λwr hx=>?_⟩,λ_=>⟨λ_ wr hx hs=>?_,λ_=>⟨λ_=>⟨λb2 dJ=>⟨rfl,λwr hx hs=>?_⟩,λwr hx hs=>?_⟩,λ_=>⟨λ_ wr hx hs=>?_,λ_=>⟨λ_ wr hx hs=>?_,λ_=>⟨λ_ wr hx hs=>?_,λ_=>⟨λ_ wr hx hs=>?_,λ_=>⟨λ_=>⟨hig hS,_,_,_,(hrd hS).g.RE g0 g1,λtR=>?_,λ_ wr hx=>hS.B47 hx Qd⟩,λ_=>⟨λ_=>⟨hig hS,_,_,_,(hrd hS).g.RE g0 g1,λtR=>?_,λ_ wr hx=>hS.B47 hx Qd⟩,λ_=>⟨λ_ wr hx hs=>?_,λ_ wr hx=>hS.B47 hx Qd⟩⟩⟩⟩⟩⟩⟩⟩⟩⟩⟩⟩⟩⟩⟩⟩⟩⟩⟩⟩
 case refine_1=>
  have:=fC { gi W.IE c1 with up := !(gi W.IE c1).up } hS Qd rfl (by show 0+1<=5; decide) hx
  rwa[eC] at this
 case refine_2=>
  refine((hS.step hx).pick KR Qo hs).mono ?_;rintro e w8 ⟨v,he,hk,⟨p0,_,p2⟩,hP⟩;have p2:=p2 Qd;refine⟨_,he,hk,rfl,⟨Qo,Qo⟩,Wg hP,zpg hP.o.own (nb hP) c10 c12 (j:=1) Qd,λwr hx=>?_⟩;have:=fC { gi W.IE c1 with cur:=v-2 } hP Qd rfl (by show 1+1<=5; decide) hx
  rwa[eC] at this
 case refine_3=>
  refine((hS.step hx).pick KR Qo hs).mono ?_;rintro e w8 ⟨v,he,hk,_,hP⟩;refine⟨_,he,hk,rfl,Wg hP,zpg hP.o.own (nb hP) c10 c12 (j:=2) Qd,λwr hx=>?_⟩;have:=fC { gi W.IE c1 with aA:=v } hP Qd rfl (by show 2+1<=5; decide) hx
  rwa[eC] at this
 case refine_4=>
  refine((hS.step hx).pick KR Qo hs).mono ?_;rintro e w8 ⟨v,he,hk,_,hP⟩;refine⟨_,he,hk,rfl,hit hP,zgv hP.o.own (nb hP) t0 t1 (j:=0) Qd,λwr hx=>?_⟩;have:=fT { gi W.tasks t with state:=v } hP Qd rfl (by show 0+1<=9; decide) hx
  rwa[eT] at this
 case refine_5=>
  refine((hS.step hx).pick KR Qo hs).mono ?_;rintro e w8 ⟨v,he,hk,⟨p0,_,p2⟩,hP⟩;have p2:=p2 Qd;refine⟨_,he,hk,rfl,⟨Qo,Qo⟩,hit hP,zgv hP.o.own (nb hP) t0 t1 (j:=1) Qd,λwr hx=>?_⟩;have:=fT { gi W.tasks t with group:=v-1 } hP Qd rfl (by show 1+1<=9; decide) hx
  rwa[eT] at this
 case refine_6=>
  refine((hS.step hx).pick KR Qo hs).mono ?_;rintro e w8 ⟨v,he,hk,⟨p0,_,p2⟩,hP⟩;have p2:=p2 Qd;refine⟨_,he,hk,rfl,⟨Qo,Qo⟩,hit hP,zgv hP.o.own (nb hP) t0 t1 (j:=2) Qd,λwr hx=>?_⟩;have:=fT { gi W.tasks t with M':=v-1 } hP Qd rfl (by show 2+1<=9; decide) hx
  rwa[eT] at this
 case refine_7=>
  have:=fT { gi W.tasks t with v:=(gi W.tasks t).v+ZB 1 } hS Qd rfl (by show 5+1<=9; decide) hx
  rwa[eT] at this
 case refine_8=>
  have:=fT { gi W.tasks t with nice:=10 } hS Qd rfl (by show 3+1<=9; decide) hx
  rwa[eT] at this
 case refine_9=>
  have:=fT { gi W.tasks t with mask:=0 } hS Qd rfl (by show 4+1<=9; decide) hx
  rwa[eT] at this
 case refine_10=>
  have hK:=hS.step hx;have hr:=hK.rdn;have hle:=hS.o.own.t.le;refine⟨{ W with tasks:=W.tasks.tail },{ m with tO:=if m.tC=Int.toNat 1 then m.tO else m.tO.map (·.add (Int.toNat 1*9)),tC:=m.tC-Int.toNat 1 },?_,⟨hl.c,by show W.tasks.tail.length<=_; have:=hl.t; simp; omega,hl.g,hl.f⟩,λds hd=>⟨(hr ds hd).c,zwb (hr ds hd).t Qo hle,(hr ds hd).g⟩,hK.d.fin Qd⟩;simp[Qa]
 case refine_11=>
  have:=fG { gi W.ID g with used := !(gi W.ID g).used } hS Qd ⟨nM.nm,nM.nx,nM.lo,nM.dr,nM.sh⟩ rfl rfl rfl (by show 0+1<=14; decide) hx
  rwa[eG] at this
 case refine_12=>
  refine((hS.step hx).pick KR Qo hs).mono ?_;rintro e w8 ⟨v,he,hk,⟨p0,_,p2⟩,hP⟩;have p2:=p2 Qd;refine⟨_,he,hk,rfl,⟨Qo,Qo⟩,hig hP,zd7 hP.o.own (nb hP) g0 g8 (j:=1) Qd,λwr hx=>?_⟩;have:=fG { gi W.ID g with parent:=v-1 } hP Qd ⟨nM.nm,nM.nx,nM.lo,nM.dr,nM.sh⟩ rfl rfl rfl (by show 1+1<=14; decide) hx
  rwa[eG] at this
 case refine_13=>
  refine((hS.put hx dJ).pick KR Qo hs).mono ?_;rintro e w8 ⟨v,he,hk,⟨p0,_,p2⟩,hP⟩;have p2:=p2 Qd;refine⟨_,he,hk,rfl,⟨Qo,Qo⟩,z29 Qd rfl Qo Qo λx hxs=>⟨hig hP,zd7 hP.o.own (nb hP) g0 g8 (j:=2) Qd,λwr hx=>?_⟩⟩;have hm:=Zo;have:=fG { gi W.ID g with name:=x } hP Qd ⟨by show x.size<=_; omega,nM.nx,nM.lo,nM.dr,nM.sh⟩ rfl rfl rfl (by show 2+1<=14; decide) hx
  rwa[eG] at this
 case refine_14=>
  refine((hS.step hx).pick KR Qo hs).mono ?_;rintro e w8 ⟨v,he,hk,⟨p0,_,p2⟩,hP⟩;have p2:=p2 Qd;refine⟨_,he,hk,rfl,λb3 hb3=>⟨rfl,⟨Qo,Qo⟩,z29 Qd rfl Qo Qo λx hxs=>⟨hig hP,zd7 hP.o.own (nb hP) g0 g8 (j:=2) Qd,λwr hx=>?_⟩⟩⟩;have hm:=Zo;have:=fG { gi W.ID g with name:=x } hP Qd ⟨by show x.size<=_; omega,nM.nx,nM.lo,nM.dr,nM.sh⟩ rfl rfl rfl (by show 2+1<=14; decide) hx
  rwa[eG] at this
 case refine_15=>
  refine((hS.step hx).pick KR Qo hs).mono ?_;rintro e w8 ⟨v,he,hk,_,hP⟩;refine⟨_,he,hk,rfl,hig hP,zd7 hP.o.own (nb hP) g0 g8 (j:=3) Qd,λwr hx=>?_⟩;have:=fG { gi W.ID g with weight:=v } hP Qd ⟨nM.nm,nM.nx,nM.lo,nM.dr,nM.sh⟩ rfl rfl rfl (by show 3+1<=14; decide) hx
  rwa[eG] at this
 case refine_16=>
  refine((hS.step hx).pick KR Qo hs).mono ?_;rintro e w8 ⟨v,he,hk,⟨p0,_,p2⟩,hP⟩;have p2:=p2 Qd;refine⟨_,he,hk,rfl,⟨Qo,Qo⟩,hig hP,zd7 hP.o.own (nb hP) g0 g8 (j:=4) Qd,λwr hx=>?_⟩;have:=fG { gi W.ID g with IE:=v-1 } hP Qd ⟨nM.nm,nM.nx,nM.lo,nM.dr,nM.sh⟩ rfl rfl rfl (by show 4+1<=14; decide) hx
  rwa[eG] at this
 case refine_17=>
  refine((hS.step hx).pick KR Qo hs).mono ?_;rintro e w8 ⟨v,he,hk,⟨p0,_,p2⟩,hP⟩;have p2:=p2 Qd;refine⟨_,he,hk,rfl,hig hP,zd7 hP.o.own (nb hP) g0 g8 (j:=6) Qd,λwr hx=>?_⟩;have:=fG { gi W.ID g with next:=v } hP Qd ⟨nM.nm,⟨by show _<=v; omega,by show v<=_; omega⟩,nM.lo,nM.dr,nM.sh⟩ rfl rfl rfl (by show 6+1<=14; decide) hx
  rwa[eG] at this
 case refine_18=>
  have hQ:=hS.step hx;refine(z0y hQ.d.r.rd Qo).mono ?_;rintro e w8 ⟨B,p,he,hB,hr,hy⟩;have hP:=hQ.drawn KR hr hy;refine⟨_,_,_,_,_,_,_,_,_,he,Mg hQ.d.r hy hs,rfl,hig hP,zd7 hP.o.own (nb hP) g0 g8 (j:=8) Qd,λO' R3=>?_⟩;have hsx:Q0 (QC 8 m) w8 (R8 w8 m.gO (Int.toNat g*14+8) (QZ B p)):=FV
  have hR2:∀ds:List Nat,(∀x∈ds,x<w.heap.size)->Xl ds O' (RP W g B) (PG m g.toNat (TL (m.ms g.toNat) p)):=λds hd=>by
   have hz:=hQ.d.ext.size
   have dJ:∀x∈QC 8 m++([b,b1]++ds),x<wr.heap.size:=λx hm=>by
    rcases Io.1 hm with h1 | h1
    ·exact(hQ.o.own.lt x h1).2
    ·rcases Io.1 h1 with h2 | h2
     ·exact hs x h2
     ·have:=hd x h2; omega
   have hsm:∀x∈[b,b1]++ds,x∈QC 8 m++([b,b1]++ds):=λx hm=>Iy _ hm
   have Cf8:Q0 (QC 8 m++([b,b1]++ds)) w8 (R8 w8 m.gO (Int.toNat g*14+8) (QZ B p)):=hsx.mono λx hm=>Ib _ hm
   have hnb:∀x∈QC 8 m,x∉[b,b1]++ds:=λx hx hm=>by
    rcases Io.1 hm with h2 | h2
    ·exact nb hP x hx h2
    ·have:=(hP.o.own.lt x hx).1;have:=hd x h2;omega
   have hR:=zy6 hP.o.own hnb g0 g8 (B:=B) (p:=p) (((hB.rl _ dJ).ext Cf8).less hsm) (((hB.rd _ dJ).ext Cf8).less hsm);exact(hR.ext (R3.mono λx hm=>Ib _ hm)).less λx hm=>Iy _ hm
  have hm:=Zo;have hl5:=hB.ll;have hl4:=hB.dl;refine⟨RP W g B,PG m g.toNat (TL (m.ms g.toNat) p),?_,q8 hl g0 g1 ⟨nM.nm,nM.nx,by show B.locals.length<=_; omega,by show B.Ry.length<=_; omega,nM.sh⟩,hR2,hP.aft ltc hsx R3 Qd⟩;simp[Qa,RP,Re,PG]
 case refine_19=>
  have tR:=Ot tR;have wJ:=(hrd hS).g.IF g g0 g1;refine⟨hig hS,_,_,_,(hrd hS).g.RE g0 g1,hig hS,_,_,_,(hrd hS).g.RE g0 g1,wJ.ix ZZ c10 tR,_,wJ.f c10 tR (j:=1) rfl,wJ.ix ZZ c10 tR,zzl hS.o.own (nb hS) g0 g8 c10 tR (j:=1) Qd,λwr hx=>?_⟩;have hM:=hS.o.own.BI3 (i:=g) (c:=c1) g0 g8 c10 tR (j:=1) (vs:=[.bool (!(Qc W g c1).on)]) (x:={ Qc W g c1 with on := !(Qc W g c1).on }) rfl (by show 1+1<=5; decide);have:=hS.btv (W':=Rz W g c1 { Qc W g c1 with on := !(Qc W g c1).on }) ltc (q8 hl g0 g1 ⟨nM.nm,nM.nx,nM.lo,nM.dr,by show (List.set _ _ _).length<=_; rw[H']; exact nM.sh⟩) hM (NF Qo) hx Qd
  rwa[show Qa (Rz W g c1 { Qc W g c1 with on := !(Qc W g c1).on }) m=Qa W m from eG _] at this
 case refine_20=>
  have tR:=Ot tR;have wJ:=(hrd hS).g.IF g g0 g1;have hp:=Yq.1 (iv.wp.s g c1 g0 Qo c10 tR).f;refine⟨hig hS,_,_,_,(hrd hS).g.RE g0 g1,hig hS,_,_,_,(hrd hS).g.RE g0 g1,wJ.ix ZZ c10 tR,(Qc W g c1).floor,wJ.f c10 tR (j:=0) rfl,⟨Qo,Qo⟩,wJ.ix ZZ c10 tR,zzl hS.o.own (nb hS) g0 g8 c10 tR (j:=0) Qd,λwr hx=>?_⟩;have hM:=hS.o.own.BI3 (i:=g) (c:=c1) g0 g8 c10 tR (j:=0) (vs:=[I ((Qc W g c1).floor+1)]) (x:={ Qc W g c1 with floor:=(Qc W g c1).floor+1 }) rfl (by show 0+1<=5; decide);have:=hS.btv (W':=Rz W g c1 { Qc W g c1 with floor:=(Qc W g c1).floor+1 }) ltc (q8 hl g0 g1 ⟨nM.nm,nM.nx,nM.lo,nM.dr,by show (List.set _ _ _).length<=_; rw[H']; exact nM.sh⟩) hM (NF Qo) hx Qd
  rwa[show Qa (Rz W g c1 { Qc W g c1 with floor:=(Qc W g c1).floor+1 }) m=Qa W m from eG _] at this
 case refine_21=>
  have hQ:=hS.step hx;refine(z01 hQ.o.own iv).mono ?_;rintro e w8 ⟨V,he,hlV,hMV,hxV⟩;refine⟨_,_,_,_,_,_,_,_,_,_,he,hxV.kept λx hm=>⟨hs x hm,λhm2=>nb hQ x hm2 hm⟩,λO' R3=>hQ.btv ltc hlV hMV hxV R3 Qd⟩
structure Bx (rb:Nat) (c:OA) (L N:Nat) (bs:List Nat) (w0 w:Wo) (W:Q7) (m:MW):Prop where
 ln:Xz W
 rd:Xl (rb::bs) w W m
 r:RS rb c L N bs w
 s:Sc w0 (rb::bs) w
section
variable {rb b b2:Nat}{c:OA}{L C N:Nat}{bs:List Nat}{w0 w w':Wo}{W W':Q7}{m m':MW}
theorem Bx.step(h:Bx rb c L N bs w0 w W m)(hx:Q0 bs w w'):Bx rb c L N bs w0 w' W m:=⟨h.ln,h.rd.ext (hx.mono λ_ hm=>I2 _ hm),h.r.step hx,h.s.B00 hx⟩
theorem Bx.call{f:FuncId}{args:Array Va}{k:Nat}{Q:Int->Prop}(h:Bx rb c L N bs w0 w W m)(hs:∀x∈bs,x<w.heap.size)(hc:Cz f args w λe w'=>∃v,e=.returned (I v)/\Q v/\Ux rb c L (N+k) w'/\Q0 [rb] w w') :
  Cz f args w λe w'=>∃v,e=.returned (I v)/\Q9 bs w w'/\Q v/\Bx rb c L (N+k) bs w0 w' W m:=
 hc.mono λe w' ⟨v,he,hq,hr,hx⟩=>⟨v,he,Mg h.r hx hs,hq,h.ln,h.rd.ext (hx.mono λx hm=>by
  have:x=rb:=by simpa using hm
  rw[this]; exact Ia),h.r.upd hr,h.s.CH7 hx⟩
theorem Bx.rd0(h:Bx rb c L N bs w0 w W m):Xl [] w W m:=h.rd.less Qs
theorem zqg(h:Eh c L w0)(hC:L<=C)(hx:Q0 [] w0 w)(hn:∀x∈bs,w0.heap.size<=x)(hs:∀x∈bs,x<w.heap.size) :
  Cz JM #[.slice c L C] w λe wv=>∃rb c' L',e=.returned (.pointer (some ⟨rb,0,none⟩))/\Q9 bs w wv/\RS rb c' L' 0 bs wv/\Sc w0 (rb::bs) wv:=by
 refine(zoa (h.ext hx) hC).mono ?_;rintro e wv ⟨rb,c',L',he,hrb,hR,S4,Cy7⟩
 refine⟨rb,c',L',he,Qe S4 hs,⟨hR,λhm=>by
  have:=hs rb hm;omega,λa' ha'=>?_⟩,⟨hx.trans S4,λx hm=>?_⟩⟩
 ·rcases Cy7 a' ha' with h0 | ⟨h0,a,ha,hab⟩
  ·exact .inr h0
  ·refine .inl λhm=>?_
   obtain⟨a0,x0,ha0,_,_,h30⟩:=h 0 h0;have RM:=World.block_lt_of_cell? w0 _ h30;rw[Zu] at RM;rw[ha] at ha0; cases ha0;have:=hn _ hm;omega
 ·rcases Ij.1 hm with h1 | h1
  ·have:=hx.size; omega
  ·exact hn x h1
theorem zqf(h:RS rb c L 0 bs w)(s:Sc w0 (rb::bs) w)(hs:∀x∈bs,x<w.heap.size) :
  Cz Xn #[.pointer (some ⟨rb,0,none⟩)] w λe w'=>∃(W:Q7) (m:MW),e=.returned (.agg (Qa W m).toArray)/\Q9 bs w w'/\Bx rb c L 1500 bs w0 w' W m:=
 (z0z h.rd Qd).mono λe w' ⟨v,he,W,m,hv,hl,hr,hR,hx⟩=>⟨W,m,by rw[he,hv],Mg h hx hs,hl,hr _ λx hm=>by
  rcases Ij.1 hm with h1 | h1
  ·rw[h1]; exact h.rd.lt
  ·exact hs x h1,h.upd (hR.mono Qd),s.CH7 hx⟩
structure z10 (w0 w:Wo) (W:Q7) (m:MW):Prop where
 ln:Xz W
 rd:Xl [] w W m
 ext:Q0 [] w0 w
theorem Bx.dn(h:Bx rb c L N bs w0 w W m)(hx:Q0 bs w w'):z10 w0 w' W m:=⟨h.ln,(h.step hx).rd0,(h.step hx).s.ext⟩
end
section
variable {c:OA}{L C:Nat}{w:Wo}
theorem zkr(h:Eh c L w)(hC:L<=C) :
  Cz Tc #[.slice c L C] w λe w'=>∃(W:Q7) (m:MW) (k:Int),e=.returned (.tuple #[.agg (Qa W m).toArray,I k])/\z10 w w' W m:=by
 refine(LB c L C (R:=λv w'=>∃(W:Q7) (m:MW) (k:Int),v=.tuple #[.agg (Qa W m).toArray,I k]/\z10 w w' W m) ?_).mono λe w' ⟨v,he,W,m,k,hv,h1⟩=>⟨W,m,k,by rw[he,hv],h1⟩
 intro b hb wr hx hs;refine(zqg (bs:=[b]) h hC hx (by simpa using hb) hs).mono ?_;rintro e wv ⟨rb,c',L',he,hk,hR,hS⟩;refine⟨_,he,hk,λJ' S4 dE=>?_⟩;refine(zqf (hR.step S4) (hS.B00 S4) dE).mono ?_;rintro e1 R4 ⟨W,m,gW,hk1,hB⟩;refine⟨_,_,_,_,_,_,_,_,_,_,gW,hk1,λO' R3 Wc=>?_⟩;refine((hB.step R3).call Wc (zzx (hB.step R3).r.rd Qd)).mono ?_;rintro e2 Rr ⟨t,aE,vP,_,hB2⟩;exact⟨_,aE,vP,λRu Ra=>⟨W,m,t,rfl,hB2.dn Ra⟩⟩
theorem Ff(h:Eh c L w)(hC:L<=C) :
  Cz VD #[.slice c L C] w λe w'=>∃(W:Q7) (m:MW) (k:Int),e=.returned (.tuple #[.agg (Qa W m).toArray,I k])/\z10 w w' W m:=by
 refine(ET c L C (R:=λv w'=>∃(W:Q7) (m:MW) (k:Int),v=.tuple #[.agg (Qa W m).toArray,I k]/\z10 w w' W m) ?_).mono λe w' ⟨v,he,W,m,k,hv,h1⟩=>⟨W,m,k,by rw[he,hv],h1⟩
 intro b hb wr hx hs;refine(zqg (bs:=[b]) h hC hx (by simpa using hb) hs).mono ?_;rintro e wv ⟨rb,c',L',he,hk,hR,hS⟩;refine⟨_,he,hk,λJ' S4 dE=>?_⟩;refine(zqf (hR.step S4) (hS.B00 S4) dE).mono ?_;rintro e1 R4 ⟨W,m,gW,hk1,hB⟩;refine⟨_,_,_,_,_,_,_,_,_,_,gW,hk1,λO' R3 Wc=>?_⟩;refine((hB.step R3).call Wc (zzx (hB.step R3).r.rd Qd)).mono ?_;rintro e2 Rr ⟨t,aE,vP,_,hB2⟩;exact⟨_,aE,vP,λRu Ra=>⟨W,m,t,rfl,hB2.dn Ra⟩⟩
end
section
open Go.RowKit Go.ChangeShapes
theorem zzh:Tryz.prog.underlying P5=some (.int .u8):=Qk
theorem u_sl_uint8:Tryz.prog.underlying ty_sl_uint8=some (.slice P5):=Qk
theorem zxm:Tryz.prog.cellsOf P5=1:=Qk
theorem op_bytes{H:Type}{en:TypeId×Va->H}{w:Wo}{base:Nat}{spare:Nat->Bool}{held:Bool}{fuel:Nat}{cs:List Va}{x:DataW H×List MemPlace}(h:DataW.trod en Tryz.prog w base spare held fuel ty_sl_uint8 cs=some x) :
  ∃(o:OA) (cap L:Nat),cs=[.slice o L cap]/\Eh o L w/\L<=cap:=by
 obtain⟨o,len,cap,rfl,h1,_,h3⟩:=zwz u_sl_uint8 h;refine⟨o,cap,len,rfl,λi hi=>?_,h1⟩;obtain⟨a,n,y,ec,ho,hc,ht⟩:=h3 i hi;rw[zxm,Nat.mul_one] at hc;obtain⟨v,rfl,_,hw⟩:=DataW.trod_int zzh ht;have hv:0<=v/\v<=255:=by simpa[Lit.wf,IntKind.min,IntKind.max,IntKind.signed,IntKind.bits] using hw
 obtain⟨_,_,Ws⟩:=World.cells?_some hc;have:=Ws 0 Qd;rw[Jc,Nat.add_zero] at this;exact⟨a,v,ho,hv.1,hv.2,this⟩
end
theorem Xl.sc{bs:List Nat}{w0 w1:Wo}{W:Q7}{m:MW}(h:Xl [] w0 W m)(s:Sc w0 bs w1):Xl bs w1 W m:=(h.wide (cs:=bs) λx hm=>.inr (s.new x hm)).ext s.ext.of_nil
theorem Xl.sc0{bs:List Nat}{w0 w1:Wo}{W:Q7}{m:MW}(h:Xl [] w0 W m)(s:Sc w0 bs w1):Xl [] w1 W m:=(h.sc s).less Qs
def zkk(cs:List Px):Nat->Int
 | 0=>0
 | k+1=>if (gi cs (k:Int)).up=true then zkk cs k+1 else zkk cs k
theorem NL(cs:List Px):∀k:Nat,0<=zkk cs k/\zkk cs k<=(k:Int)
 | 0=>by simp[zkk]
 | k+1=>by
  have:=NL cs k;simp only[zkk]
  split <;> omega
theorem zrf{cs:List Px}{c:Int}(c0:0<=c)(hu:(gi cs c).up=true):∀k:Nat,c<(k:Int)->1<=zkk cs k
 | 0,h=>by omega
 | k+1,h=>by
  have hr:=NL cs k;simp only[zkk]
  by_cases e:c=(k:Int)
  ·rw[E' (e▸hu)]; omega
  ·have:=zrf c0 hu k Qo
   split <;> omega
theorem zpz{cs:List Px}(h4:cs.length<=4):∀k:Nat,k<=4->PD (J4 cs) k=zkk cs (min k cs.length)
 | 0,_=>by simp[PD,zkk]
 | k+1,hk=>by
  have ih:=zpz h4 k Qo;simp only[PD]
  by_cases IT:k<cs.length
  ·rw[show min (k+1) cs.length=k+1 by omega];rw[show min k cs.length=k by omega] at ih;simp only[zkk]
   by_cases hu:(gi cs (k:Int)).up=true
   ·rw[E' hu,E' (show Z0 (J4 cs) (k:Int)=true from z9 cs Qo cs.length h4 Qo hu),ih]
   ·rw[C' hu,C' (show ¬Z0 (J4 cs) (k:Int)=true from λhm=>hu (B0 cs cs.length h4 hm).2),ih]
  ·rw[show min (k+1) cs.length=min k cs.length by omega,C' (show ¬Z0 (J4 cs) (k:Int)=true from λhm=>by
    have:=(B0 cs cs.length h4 hm).1;omega),ih]
theorem z0i{cs:List Px}(h4:cs.length<=4):PD (J4 cs) 4=zkk cs cs.length:=by
 have:=zpz h4 4 (I8 _)
 rwa[show min 4 cs.length=cs.length by omega] at this
theorem zve{W:Q7}{c:Int}(h4:W.IE.length<=4)(hr:QO W=true)(hc:YQ W c=true)(hu:(gi W.IE c).up=true) :
  ((Yf W c true (JP W)==5)==(zkk W.IE W.IE.length==1))=true/\((Yf W c true (JP W)==0)==decide (zkk W.IE W.IE.length>1))=true:=by
 obtain⟨c0,c1⟩:=Uy hc;have h1:=zrf c0 hu W.IE.length c1;have hcn:=z0i h4;unfold Yf JP;rw[C' (by rw[hc]; decide),C' (by rw[hu]; decide),hcn]
 by_cases e:zkk W.IE W.IE.length=1
 ·rw[E' e,E' Qd,e];decide
 ·rw[C' e,C' Qd,C' (by rw[hr]; decide),Ii (show zkk W.IE W.IE.length>1 by omega)];simp[e]
theorem zyj{W:Q7}{c:Int}(h:¬(QO W=true/\YQ W c=true/\(gi W.IE c).up=true)):Yf W c true (JP W)≠0:=λhb=>by
 obtain⟨h1,h2,h3,h4⟩:=CY hb;exact h ⟨h4,h1,h2⟩
def zks(a b:MC):Prop:=a={ b with M':=a.M',v:=a.v }
theorem zks.trans{a b c:MC}(h:zks a b)(k:zks b c):zks a c:=by
 unfold zks at *;rw[h,k]
theorem k_FnLast{a:OA}{La Ca:Nat}{w:Wo}(ha:Eh a La w)(hca:La<=Ca)(hg:MA w) :
  Cz Gj #[.slice a La Ca] w λe w'=>e=.returned (.bool true)/\Q0 [] w w':=by
 refine(zfd a La Ca (R:=λv w'=>v=.bool true/\Q0 [] w w') ?_).mono λe w' ⟨v,he,hv,h3⟩=>⟨by rw[he,hv],h3⟩
 refine⟨λ_ wr hx=>⟨rfl,hx⟩,λ_ J' S4 _=>?_⟩;refine(Ff (ha.ext S4) hca).mono ?_;rintro e wv ⟨W,m,c,he,hD⟩;have hl:=hD.ln;have hX0:Q0 [] w wv:=S4.trans hD.ext;have r0:=hD.rd;have s0:=Sc.start wv;refine⟨_,_,_,_,_,_,_,_,_,_,_,he,Yo,λb hb O' R3 Wc=>?_⟩;have s1:=s0.put R3 hb;refine(zfm (c:=c) (r0.sc0 s1) hl (hg.ext (hX0.trans s1.ext))).mono ?_;rintro e1 R4 ⟨v,gW,n1,m1,hv,hM1,cX⟩;subst hv;have s2:=s1.R6 cX;refine⟨_,_,_,_,_,_,_,_,_,_,_,gW,Qe cX Wc,λb1 fD Ru Ra fX=>?_⟩;have s3:=s2.put Ra fD;refine(D6 (c:=c) (r0.sc0 s3) hl).mono ?_;rintro e2 Rr ⟨v,aE,n2,m2,hv,WN,SJ⟩;subst hv;have s4:=s3.R6 SJ;have rW:=r0.sc s4;refine⟨_,_,_,_,_,_,_,_,_,_,_,aE,Qe SJ fX,λb2 dJ=>⟨λq=>by simp at q,λ_=>?_⟩⟩;clear he gW aE hM1 WN s1 s2 s3 R3 Ra Wc fX cX SJ hb fD
 have CZ9:(YK W (Yf W c true (JP W)) (Cs W c)).2=if Qy W=true then Yf W c true (JP W) else 1:=by
  unfold YK
  cases Qy W with
  | false=>rfl
  | true=>
   rw[C' Qd,E' rfl];split
   ·rfl
   ·rename_i h; exact(by simpa using h:Yf W c true (JP W)=0).symm
 rw[CZ9]
 have hup:∀{q:Bool},(((!q)||decide (c<0))||decide (c>=(W.IE.length:Int)))=false->q=true/\0<=c/\c<(W.IE.length:Int):=λ{q} h=>by
  simp only[I0,I7,decide_eq_false_iff_not] at h;exact⟨h.1.1,Qo,Qo⟩
 refine⟨_,Oj rW hl,λq=>rW.c.ix ZT (hup q).2.1 (hup q).2.2,_,λq=>rW.c.f (hup q).2.1 (hup q).2.2 (j:=0) rfl,λq RQ Sw=>⟨?_,hX0.trans (s4.step Sw).ext⟩,λq=>?_⟩
 ·congr 1
  rw[Iu]
  cases hW:Qy W with
  | false=>rw[C' Qd]; decide
  | true=>
   rw[E' rfl];refine zyj ?_;rintro⟨h1,h2,h3⟩;obtain⟨c0,c1⟩:=Uy h2;have:JI (J7 W/\Kg W)=true:=Qj.2 ⟨Qj.1 hW,Qj.1 h1⟩;rw[this,h3,decide_eq_false (show ¬c<0 by omega),decide_eq_false (show ¬c>=(W.IE.length:Int) by omega)] at q;cases q
 ·rw[I0,I7] at q;obtain⟨q1,q2⟩:=q;obtain⟨h1,c0,c1⟩:=hup q1;obtain⟨wp,rm⟩:=Qj.1 h1;have hW:Qy W=true:=Qj.2 wp;have hc2:=wp.a.c2;have hy:=zve hc2 (Qj.2 rm) (show YQ W c=true from Qt.2 Qo) q2;rw[hW,E' rfl];refine⟨λvs w2=>∃k:Nat,vs=[I (zkk W.IE k),I (k:Int)]/\k<=W.IE.length/\Sc wv [b,b1,b2] w2,Zs 4 1,λSh bJ _=>⟨0,rfl,Ie _,s4.put bJ dJ⟩,?_⟩;rintro wT j S5 fX ⟨k,he,hk,s⟩;simp only[I5,I6,true_and,and_true] at he;obtain⟨rfl,rfl⟩:=he;have hr:=NL W.IE k;have rk:=r0.sc s;refine⟨λIT=>?_,λRN WQ mF=>⟨?_,hX0.trans (s.step mF).ext⟩⟩
  ·have IT:=Ot IT;refine⟨rk.c.ix ZT Qo IT,_,rk.c.f Qo IT (j:=0) rfl,λg=>⟨⟨Qo,Qo⟩,⟨Qo,Qo⟩,λSz nN _=>⟨⟨k+1,?_,Qo,s.step nN⟩,Zc (k:=k) rfl rfl Qo⟩⟩,λg=>⟨⟨Qo,Qo⟩,λW8 tG _=>⟨⟨k+1,?_,Qo,s.step tG⟩,Zc (k:=k) rfl rfl Qo⟩⟩⟩
   ·simp only[zkk];rw[E' g]; rfl
   ·simp only[zkk];rw[C' (by rw[g]; decide)]; rfl
  ·have RN:=Ou RN;have:k=W.IE.length:=Qo;subst this;rw[hy.1,hy.2]; rfl
end Go.Proofs.YtnclplgaicdapaaGreatDoor
