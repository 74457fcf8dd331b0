/- Part 15 of what the law FnPlug needs. -/
import Derived.Test.YtnclplgaicdapaaGreatDoorFnPlugPn
set_option linter.unusedVariables false
set_option linter.unusedSimpArgs false
set_option maxRecDepth 100000
set_option maxHeartbeats 8000000
namespace Go.Proofs.YtnclplgaicdapaaGreatDoor
open Go.RowKit
def O3(W:Q8)(j:Nat):Bool:=decide (1<=j) && !(gi W.IC (j:Int)).used
def Tc(W:Q8):Int:=Dv (O3 W) 8
def z0v(W:Q8)(p:Int)(name:ByteArray):Prop:=∃h:Int,1<=h/\h<8/\(gi W.IC h).used=true/\(gi W.IC h).parent=p/\(gi W.IC h).name=name
open Classical in
noncomputable def Ls(W:Q8)(p:Int)(name:ByteArray):Int:=if Ue name=false then 1 else if Q6 W.IC p=false then 2 else if z0v W p name then 7 else if dep 3 W.IC p=3 then 9 else if Tc W<0 then 3 else if QQ W=false then 10 else 0
def zum(W:Q8)(p:Int)(name:ByteArray):Q8:=OV W (Tc W) p name
theorem zkt(W:Q8):(Tc W = -1/\∀h:Int,1<=h->h<8->(gi W.IC h).used=true)\/(1<=Tc W/\Tc W<8/\(gi W.IC (Tc W)).used=false):=by
 rcases Kb (O3 W) 8 with ⟨h1,h2⟩ | ⟨h1,h2,h3,_⟩
 ·refine .inl ⟨h1,fun h a b=>?_⟩;have:=h2 h.toNat Qo;unfold O3 at this;rw[show ((h.toNat:Nat):Int)=h by omega,Ih (by omega:1<=h.toNat)] at this
  simpa using this
 ·have e:(((Tc W).toNat:Nat):Int)=Tc W:=by unfold Tc; omega
  have h3:O3 W (Tc W).toNat=true:=h3;unfold O3 at h3;rw[e,A',Ij,IB] at h3;refine .inr ⟨Qo,by unfold Tc; omega,h3.2⟩
theorem zbu{W:Q8}{p:Int}{name:ByteArray}(hb:Ls W p name=0):zdh W (Tc W) p name/\QQ W=true:=by
 unfold Ls at hb
 split at hb
 ·cases hb
 rename_i h1
 split at hb
 ·cases hb
 rename_i h2
 split at hb
 ·cases hb
 rename_i h3
 split at hb
 ·cases hb
 rename_i h4
 split at hb
 ·cases hb
 rename_i h5
 split at hb
 ·cases hb
 rename_i h6;rcases zkt W with ⟨a,_⟩ | ⟨a,b,c⟩
 ·omega
 ·exact⟨⟨a,b,c,by simpa using h2,by simpa using h1,fun h a1 a2 u e=>h3 ⟨h,a1,a2,u,e.1,e.2⟩,h4⟩,by simpa using h6⟩
section
variable {W:Q8}{m:MW}{w:Wo}
theorem Ke{p:Int}{name:ByteArray}(h:XQ [] w W m)(hl:UN W) :
  Cz QC #[.agg (Qa W m).toArray,I p,.string name] w fun e w'=>∃v,e=.returned v/\Oo (VR W (Ls W p name) (zum W p name) (Tc W)) w v w':=by
 refine Bf _ _ _ _ _ _ _ _ _ _ p name (R:=fun v w'=>Oo (VR W (Ls W p name) (zum W p name) (Tc W)) w v w') ?_;intro y hy y1 bE wr R0 SS;refine I3 (Zc (h.ext R0) hl) ?_;rintro e wv (⟨hW,he,Sn⟩ | ⟨hW,m',he,hM,Sn⟩)
 ·exact⟨_,_,_,_,_,_,_,_,_,_,_,he,Qe Sn SS,true,fun g=>by simp at g,fun _ I' R4=>Oo.bad hW ((R0.trans Sn).fresh R4 fun z hm=>.inl (Yi hy bE z hm)),fun g=>by simp at g⟩
 have hK:=Wk.begin hy bE R0 SS hM Sn;have hr:=hK.rd;have wp:=Ql.1 hW;have bM:=wp.a.gl;have tN:((if QQ W=true then 0 else 10:Int)==1)=false:=by split <;> rfl
 refine⟨_,_,_,_,_,_,_,_,_,_,_,he,Qe Sn SS,_,fun _=>HT,fun g1 I' R4=>?_,fun g1=>⟨_,Xb hr.g,fun g2 J' R4=>?_,fun g2=>?_⟩⟩
 ·rw[tN] at g1;have hb:Ls W p name=1:=by unfold Ls; rw[C' (by simpa using g1)]
  exact Oo.no hW (by rw[hb]; decide) (hK.step R4) hb
 ·rw[tN] at g1;have n1:¬Ue name=false:=by simpa using g1
  have hb:Ls W p name=2:=by unfold Ls; rw[B' n1,C' (by simpa using g2)]
  exact Oo.no hW (by rw[hb]; decide) (hK.step R4) hb
 rw[tN] at g1;have n1:¬Ue name=false:=by simpa using g1
 have hu:Q6 W.IC p=true:=by simpa using g2
 have n2:¬Q6 W.IC p=false:=by rw[hu]; decide
 refine⟨fun vs w1=>∃k:Nat,vs=[I (k:Int),I 0,.slice none 0 0,.slice none 0 0,.slice none 0 0]/\1<=k/\k<=8/\(∀q:Int,1<=q->q<(k:Int)->(gi W.IC q).used=true->¬((gi W.IC q).parent=p/\(gi W.IC q).name=name))/\Q0 [y,y1] wv w1,
  Zq 8 0,fun w1 rA _=>⟨1,rfl,Qo,Qo,fun q a b=>by omega,rA⟩,?_⟩
 rintro h1 l RO RW Sb RR S5 Sa RY RZ S4 Rx dQ ⟨k,aE,hk1,hk8,iW,hxw⟩;simp only[I4,I5,Iv,true_and,and_true] at aE;obtain⟨rfl,rfl,⟨rfl,rfl,rfl⟩,⟨rfl,rfl,rfl⟩,rfl,rfl,rfl⟩:=aE;have hK1:=hK.step hxw;have tQ:=hK1.rd;refine⟨fun IS=>?_,fun Ry=>?_⟩
 ·have IS:=Ot IS;have cU:(0:Int)<=(k:Int):=Qo;refine⟨tQ.g.ix cU IS,_,tQ.g.used cU IS,fun _=>tQ.g.ix cU IS,_,fun _=>tQ.g.parent cU IS,fun _=>tQ.g.ix cU IS,_,fun _=>tQ.g.name cU IS,fun g3 RH Sg=>?_,fun g3=>⟨⟨Qo,Qo⟩,fun Sf aO _=>⟨⟨k+1,Qs,Qo,Qo,fun q q1 q2 qu=>?_,hxw.trans aO⟩,Zi (k:=k) rfl rfl Qo⟩⟩⟩
  ·rw[A',A',Uw,Is] at g3;have hb:Ls W p name=7:=by unfold Ls; rw[B' n1,B' n2,C' ⟨k,Qo,Qo,g3.1.1,g3.1.2,g3.2⟩]
   exact Oo.no hW (by rw[hb]; decide) (hK1.step Sg) hb
  ·by_cases e:q<(k:Int)
   ·exact iW q q1 e qu
   ·have:q=(k:Int):=Qo;subst this;rintro⟨c1,c2⟩;rw[qu,Is.2 c1,Uw.2 c2] at g3;cases g3
 have Ry:=Ou Ry;have:k=8:=Qo;subst this;have n3:¬z0v W p name:=fun ⟨q,a,b,c,d,e⟩=>iW q a Qo c ⟨d,e⟩
 refine⟨_,M5 tQ.g (by rw[bM]; have:=ZH; omega),fun g4 SH jH=>?_,fun g4=>⟨⟨Qo,Qo⟩,?_⟩⟩
 ·rw[zib wp.a.tree hu,Is] at g4;have hb:Ls W p name=9:=by unfold Ls; rw[B' n1,B' n2,B' n3,C' g4]
  exact Oo.no hW (by rw[hb]; decide) (hK1.step jH) hb
 rw[zib wp.a.tree hu,beq_eq_false_iff_ne] at g4
 refine⟨fun vs w1=>∃a t:Int,vs=[I a,I t]/\0<=t/\t<8/\(a = -1/\(∀j:Nat,t<(j:Int)->j<8->O3 W j=false)\/t<a/\a<8/\O3 W a.toNat=true/\∀j:Nat,t<(j:Int)->(j:Int)<a->O3 W j=false)/\Q0 [y,y1] Rx w1,
  fun vs _=>(ZR 1 vs+1).toNat,fun w1 rA _=>⟨-1,_,rfl,Qo,Qo,.inl ⟨rfl,fun j h1 h2=>by omega⟩,rA⟩,?_⟩
 rintro av tv S6 cJ ⟨a,t,aE,ht0,ht1,AL5,B49⟩;simp only[I4,I5,true_and,and_true] at aE;obtain⟨rfl,rfl⟩:=aE;have eB:=hK1.step B49;have sS:=eB.rd;refine⟨fun IS=>?_,fun aP=>?_⟩
 ·have IS:=Ot IS;have e:((tv.toNat:Nat):Int)=tv:=Qo;have kW:O3 W tv.toNat = !(gi W.IC tv).used:=by unfold O3; rw[e,Ih (by omega:1<=tv.toNat)]; rfl
  refine⟨sS.g.ix Qo Qo,_,sS.g.used Qo Qo,fun g3=>⟨⟨Qo,Qo⟩,fun RH Sg _=>⟨⟨tv,tv-1,rfl,Qo,Qo,.inr ⟨Qo,ht1,by rw[kW]; exact g3,fun j h1 h2=>by omega⟩,B49.trans Sg⟩,?_⟩⟩,fun g3=>⟨⟨Qo,Qo⟩,fun Sf aO _=>⟨⟨av,tv-1,rfl,Qo,Qo,?_,B49.trans aO⟩,?_⟩⟩⟩
  ·simp only[ZR,Ie,List.getElem?_cons_succ]; omega
  ·have g3:O3 W tv.toNat=false:=by rw[kW]; exact g3
   have one:∀j:Nat,tv-1<(j:Int)->¬tv<(j:Int)->O3 W j=false:=fun j h1 h2=>by
    have:j=tv.toNat:=Qo;rw[this]; exact g3
   rcases AL5 with ⟨h1,h2⟩ | ⟨h1,h2,h3,h4⟩
   ·exact .inl ⟨h1,fun j j1 j2=>if h:tv<(j:Int) then h2 j h j2 else one j j1 h⟩
   ·exact .inr ⟨Qo,h2,h3,fun j j1 j2=>if h:tv<(j:Int) then h4 j h j2 else one j j1 h⟩
  ·simp only[ZR,Ie,List.getElem?_cons_succ]; omega
 have aP:=Ou aP;have ht:tv=0:=Qo;subst ht;have hz:O3 W 0=false:=rfl
 have rK:av=Tc W:=by
  rcases AL5 with ⟨h1,h2⟩ | ⟨h1,h2,h3,h4⟩
  ·rw[h1]; exact(zo9 fun j hj=>if e:j=0 then by rw[e]; exact hz else h2 j Qo hj).symm
  ·exact(zo8 Qo h2 h3 fun j hj=>if e:j=0 then by rw[e]; exact hz else h4 j Qo hj).symm
 subst rK;refine⟨fun g5 SH jH=>?_,fun g5=>⟨fun g6 SZ oZ=>?_,fun g6 SY Bb5 CK3=>?_⟩⟩
 ·have g5:=Ot g5;have hb:Ls W p name=3:=by unfold Ls; rw[B' n1,B' n2,B' n3,B' g4,C' g5]
  exact Oo.no hW (by rw[hb]; decide) (eB.step jH) hb
 ·have g5:=Ou g5;have aQ:¬QQ W=true:=fun hr=>by rw[C' hr] at g6; simp at g6
  have hb:Ls W p name=10:=by unfold Ls; rw[B' n1,B' n2,B' n3,B' g4,B' g5,C' (by simpa using aQ)]
  rw[B' aQ];exact Oo.no hW (by rw[hb]; decide) (eB.step oZ) hb
 have g5:=Ou g5;have aQ:QQ W=true:=Iq fun hr=>by rw[B' hr] at g6; simp at g6
 have hb:Ls W p name=0:=by unfold Ls; rw[B' n1,B' n2,B' n3,B' g4,B' g5,B' (by rw[aQ]; decide)]
 obtain⟨hf,_⟩:=zbu hb;have a1:=hf.a1;have a8:=hf.a8;have pI:=eB.step Bb5;refine(Gk (n:=W.ID.length) wp.a.c2).mono fun e1 bB ⟨mg,fJ,hMg,SD⟩=>?_
 have dB:=pI.M' SD;have hold:∀x∈QR 8 m',x<SY.heap.size:=fun x hx=>(pI.own.lt x hx).2
 have Ao5:∀x∈Qr mg,SY.heap.size<=x:=fun x hx=>(hMg.lt x hx).1
 have SE:Wk 8 [y,y1] w (Rl bB m'.gO (Int.toNat (Tc W)*14) (Yq (Pp W.ID.length p name) mg)) (zum W p name) (LD m' (Tc W).toNat mg):=
  ⟨dB.s.call Cc fun x hx=>(dB.own.lt x hx).1,⟨dB.own.Be1 Qo a8 (g:=Pp W.ID.length p name) (p:=mg) (j:=0) (vs:=Yq (Pp W.ID.length p name) mg) (hMg.mono pI.base) (fun x hx=>.inl fun dF=>by have:=hold x dF; have:=Ao5 x hx; omega) (by simp[Yq,Zv]) (by simp[Yq,Zv]),fun x hx hm=>by
   rcases Oc x hx with h1 | h1
   ·exact dB.nb x h1 hm
   ·have:=Ao5 x h1;have:=CK3 x hm;omega⟩⟩
 refine⟨_,_,_,_,_,_,_,_,_,_,_,_,_,_,_,_,_,_,_,_,fJ,Qe SD CK3,rfl,sS.g.ix Qo Qo,zqm dB.own dB.nb Qo a8 (j:=0) (k:=14) Qd,fun Wn A81=>?_⟩;have Au9:=Oo.ok (a:=Tc W) hW hb (SE.step A81);have ew:Qa (zum W p name) (LD m' (Tc W).toNat mg)=Qa W m':=by simp[Qa,zum,OV,Rf,LD]
 rw[ew] at Au9;exact Au9
end
inductive XR (W:Q8):Q8->Prop
 | same:XR W W
 | run (c n:Int) (hb:Fm W c n=0):XR W (zr8 W c n)
 | yld (c:Int) (hb:Ce W c=0):XR W (Rn W c)
 | fork (g n x:Int) (hb:OO W g n x=0):XR W (zkp W g n x)
 | block (t:Int) (hb:VS W t=0):XR W (zh6 W t)
 | wake (t:Int) (hb:MF W t=0):XR W (Nu W t)
 | exit (t:Int) (hb:OM W t=0):XR W (Nh W t)
 | nice (t n:Int) (hb:Pi W t n=0):XR W (Gu W t n)
 | pin (t x:Int) (hb:DR W t x=0):XR W (zu6 W t x)
 | mov (t g:Int) (hb:zbz W t g=0):XR W (zfc W t g)
 | mak (a p:Int) (name:ByteArray) (hm:zdh W a p name):XR W (OV W a p name)
 | drp (g:Int) (hd:zf6 W g):XR W (XT W g)
 | wgh (g x:Int) (hb:zme W g x=0):XR W (zv6 W g x)
 | gpn (g x:Int) (hb:zku W g x=0):XR W (zt0 W g x)
 | lim (g q p:Int) (hb:zk5 W g q p=0):XR W (zxm W g q p)
 | time (n:Int) (hb:Lf W n=0):XR W (zhh W n)
 | bal (c:Int) (hb:Er W c=0):XR W (zh3 W c)
 | off (c:Int) (hb:ZY W c true (U0 W)=0):XR W (Lu W c)
 | on (c:Int) (hb:ZY W c false 0=0):XR W (zj1 W c)
structure Py (P:Nat->Q8->Prop):Prop where
 mono:∀{n m:Nat} {W:Q8},n<=m->P n W->P m W
 new:∀{n k:Nat},1<=k->k<=4->P n (JZ k)
 fork:∀{n:Nat} {W:Q8} {g q x:Int},Jc W->P n W->OO W g q x=0->P n (zkp W g q x)
 mak:∀{n:Nat} {W:Q8} {a p:Int} {name:ByteArray},Jc W->P n W->zdh W a p name->P n (OV W a p name)
 Sj:∀{n:Nat} {W V:Q8},n<=10000->Jc W->P n W->XR W V->P (n+10) V
def z11(_:Nat)(_:Q8):Prop:=True
theorem z16:Py z11:=⟨fun _ _=>trivial,fun _ _=>trivial,fun _ _ _=>trivial,fun _ _ _=>trivial,fun _ _ _ _=>trivial⟩
theorem Q0.kept{bs B:List Nat}{w w':Wo}(h:Q0 bs w w')(hB:∀x∈B,x<w.heap.size/\x∉bs):Q9 B w w':=fun x hx=>h.block x (hB x hx).1 (hB x hx).2
theorem zuf{b x:Nat}{w w':Wo}(h:Q0 [b] w w')(h1:x<w.heap.size)(h2:x≠b):Q9 [x] w w':=h.kept fun y hy=>by
 rw[Iz.1 hy]; exact⟨h1,by simpa using h2⟩
def z0p(v:Int):Prop := -2<=v/\v<=21
theorem zk3{b:Nat}{c:OA}{L N:Nat}{w:Wo}(h:Oe b c L N w)(hN:N<=900000000000) :
  Cz ZF #[.pointer (some ⟨b,0,none⟩)] w fun e w'=>∃v,e=.returned (I v)/\z0p v/\Oe b c L (N+2) w'/\Q0 [b] w w':=by
 refine(Hx (some ⟨b,0,none⟩) (R:=fun v w'=>∃x,v=I x/\z0p x/\Oe b c L (N+2) w'/\Q0 [b] w w') ?_).mono fun e w' ⟨v,he,x,hv,h1,h2,h3⟩=>⟨x,by rw[he,hv],h1,h2,h3⟩
 refine fun wr hx _=>(zbj (h.Wi hx) Qo).mono fun e w1 ⟨v,he,hv,tQ,S9⟩=>⟨v,he,Yf,fun _=>?_,fun _ b1 dI Rp R4 qJ=>?_⟩
 ·refine fun I' hy _=>(zbj (tQ.Wi hy) Qo).mono fun e w2 ⟨u,he,hu,sS,R0⟩=>⟨u,he,Yf,?_⟩
  have hu1:=hu.1;have hu2:=hu.2.2 Qd;exact⟨JS Qo Qo,fun J' hz=>⟨_,rfl,⟨Qo,Qo⟩,sS.Wi hz,(hx.of_nil.trans S9).trans (hy.of_nil.trans (R0.trans hz.of_nil))⟩⟩
 ·refine(zbj (tQ.Wi R4) Qo).mono fun e w2 ⟨u,he,hu,sS,R0⟩=>⟨u,he,zuf R0 (qJ b1 Qs) (by have:=tQ.lt; omega),?_⟩
  have hu1:=hu.1;have hu2:=hu.2.2 Qd
  have fin:∀(x:Int),z0p x->∀Rt,Q0 [b1] w2 Rt->∃x',I x=I x'/\z0p x'/\Oe b c L (N+2) Rt/\Q0 [b] w Rt:=fun x hxv Rt hz=>
   ⟨x,rfl,hxv,tQ.Cc1 sS hz (by simpa using dI),(hx.of_nil.trans S9).trans ((R4.of_nil.trans R0)) |>.fresh hz (fun y hy=>by
    rw[Iz.1 hy];have h1:=hx.size; have h2:=S9.size;exact .inl Qo)⟩
  have:u=0\/u=1\/u=2\/u=3\/u=4\/u=5\/u=6\/u=7\/u=8\/u=9:=Qo;refine⟨⟨hu1,hu2⟩,?_⟩;rcases this with rfl | rfl | rfl | rfl | rfl | rfl | rfl | rfl | rfl | rfl <;> exact⟨_,⟨Qd,rfl⟩,fin _ ⟨Qd,Qd⟩⟩
def HG(c:OA)(L:Nat)(w:Wo):Prop:=∀i<L,∃(a:Addr) (x:Int),c=some a/\0<=x/\x<=255/\w.cell? (a.add i)=some (.int .u8 x)
theorem HG.ext{c:OA}{L:Nat}{w w':Wo}(h:HG c L w)(hx:Q0 [] w w'):HG c L w':=fun i hi=>by
 obtain⟨a,x,ha,h1,h2,h3⟩:=h i hi;obtain⟨a',e,_,h''⟩:=(show Jf [] w c i (.int .u8 x) from ⟨a,ha,Qs,h3⟩).ext hx;rw[ha] at e; cases e; exact⟨a,x,ha,h1,h2,h''⟩
structure RS (rb:Nat) (c:OA) (L N:Nat) (bs:List Nat) (w:Wo):Prop where
 rd:Oe rb c L N w
 nb:rb∉bs
 oc:∀a,c=some a->a.block∉bs\/L=0
section
variable {rb:Nat}{c:OA}{L N:Nat}{bs cs:List Nat}{w w':Wo}{b:Nat}
theorem RS.step(h:RS rb c L N bs w)(hx:Q0 bs w w'):RS rb c L N bs w':=⟨h.rd.ext hx h.nb h.oc,h.nb,h.oc⟩
theorem RS.M'(h:RS rb c L N bs w)(hx:Q0 [] w w'):RS rb c L N bs w':=⟨h.rd.Wi hx,h.nb,h.oc⟩
theorem RS.add(h:RS rb c L N bs w)(hb:w.heap.size<=b):RS rb c L N (bs++[b]) w:=⟨h.rd,fun hm=>by
 rcases Im.1 hm with hm | hm
 ·exact h.nb hm
 ·have:rb=b:=by simpa using hm
  have:=h.rd.lt;omega,fun a ha=>by
 rcases h.oc a ha with h1 | h1
 ·rcases h.rd.ltc a ha with h2 | h2
  ·refine .inl fun hm=>?_
   rcases Im.1 hm with hm | hm
   ·exact h1 hm
   ·have:a.block=b:=by simpa using hm
    omega
  ·exact .inr h2
 ·exact .inr h1⟩
theorem RS.sub(h:RS rb c L N bs w)(hs:∀x∈cs,x∈bs):RS rb c L N cs w:=⟨h.rd,fun hm=>h.nb (hs _ hm),fun a ha=>by
 rcases h.oc a ha with h1 | h1
 ·exact .inl fun hm=>h1 (hs _ hm)
 ·exact .inr h1⟩
theorem RS.upd{M:Nat}(h:RS rb c L N bs w)(k:Oe rb c L M w'):RS rb c L M bs w':=⟨k,h.nb,h.oc⟩
theorem RS.mono{M:Nat}(h:RS rb c L N bs w)(hm:N<=M):RS rb c L M bs w:=⟨h.rd.mono hm,h.nb,h.oc⟩
theorem Sc.Bx4{w0:Wo}(h:Sc w0 (rb::bs) w)(hx:Q0 bs w w'):Sc w0 (rb::bs) w':=h.step (hx.mono fun _ hm=>I1 _ hm)
theorem Sc.CP9{w0:Wo}(h:Sc w0 (rb::bs) w)(hx:Q0 [rb] w w'):Sc w0 (rb::bs) w':=h.step (hx.mono fun x hm=>by
 have:x=rb:=by simpa using hm
 subst this; simp)
theorem zbp(h:RS rb c L N bs w)(hx:Q0 [rb] w w')(hs:∀x∈bs,x<w.heap.size):Q9 bs w w':=Gp hx hs fun x hm fE=>by
 have:x=rb:=by simpa using hm
 subst this; exact h.nb fE
end
section
variable {α:Type}{enc:α->List Va}{z:Nat}{ty:TypeId}{base rb:Nat}{bs:List Nat}{w w':Wo}{o:OA}{cap:Nat}{l:List α}{b:Nat}
end
theorem znh{c:OA}{L C:Nat}{w:Wo}(h:HG c L w)(hC:L<=C) :
  Cz V8 #[.slice c L C] w fun e w'=>∃b c' L',e=.returned (.pointer (some ⟨b,0,none⟩))/\w.heap.size<=b/\Oe b c' L' 0 w'/\Q0 [] w w'/\∀a',c'=some a'->L'=0\/(0<L/\∃a,c=some a/\a'.block=a.block):=by
 refine(zan c L C (R:=fun v w'=>∃b c' L',v=.pointer (some ⟨b,0,none⟩)/\w.heap.size<=b/\Oe b c' L' 0 w'/\Q0 [] w w'/\∀a',c'=some a'->L'=0\/(0<L/\∃a,c=some a/\a'.block=a.block)) ?_).mono fun e w' ⟨v,he,b,c',L',hv,h1,h2,h3⟩=>⟨b,c',L',by rw[he,hv],h1,h2,h3⟩
 refine⟨fun IS=>⟨⟨Qo,Qo,by have:=Ot IS; omega⟩,fun b wb hx hb hh _ wr hy=>⟨b,if C=Int.toNat 0 then c else c.map (·.add (Int.toNat 0*1)),Int.toNat 2000-Int.toNat 0,rfl,hb,?_,hx.trans hy,fun a' ha'=>?_⟩⟩,fun IS b wb hx hb hh _ wr hy=>⟨b,c,L,rfl,hb,?_,hx.trans hy,fun a' ha'=>?_⟩⟩
 ·refine Oe.Wi ⟨⟨_,0,hh,Qo,Qo⟩,fun i hi=>?_⟩ hy;have IS:=Ot IS;obtain⟨a,x,ha,h1,h2,h3⟩:=h.ext hx i (by have:i<2000-0:=hi; omega);obtain⟨a0,x0,ha0,_,_,h30⟩:=h i (by have:i<2000-0:=hi; omega);have Rr:=World.block_lt_of_cell? w _ h30;rw[Zz] at Rr;rw[ha] at ha0; cases ha0;rw[B' (show ¬C=Int.toNat 0 from fun e=>by have:C=0:=e; omega),ha];refine⟨a.add 0,x,rfl,by rw[Zz]; omega,h1,h2,?_⟩;rw[U3,Nat.zero_add]; exact h3
 ·have IS:=Ot IS;refine .inr ⟨Qo,?_⟩;rw[B' (show ¬C=Int.toNat 0 from fun e=>by have:C=0:=e; omega)] at ha'
  cases c with
  | none=>cases ha'
  | some a=>
   simp only[Option.map_some,I0] at ha';exact⟨a,rfl,by rw[<-ha',Zz]⟩
 ·refine Oe.Wi ⟨⟨_,0,hh,Qo,Qo⟩,fun i hi=>?_⟩ hy;obtain⟨a,x,ha,h1,h2,h3⟩:=h.ext hx i hi;obtain⟨a0,x0,ha0,_,_,h30⟩:=h i hi;have Rr:=World.block_lt_of_cell? w _ h30;rw[Zz] at Rr;rw[ha] at ha0; cases ha0;exact⟨a,x,ha,Qo,h1,h2,h3⟩
 ·rcases Nat.eq_zero_or_pos L with h0 | h0
  ·exact .inl h0
  ·exact .inr ⟨h0,a',ha',rfl⟩
structure Dr (rb:Nat) (c:OA) (L N n:Nat) (bs:List Nat) (w0 w:Wo):Prop where
 r:RS rb c L (N+n) bs w
 ext:Q0 [rb] w0 w
 new:∀x∈bs,w0.heap.size<=x
section
variable {rb b b2:Nat}{c:OA}{L N n k:Nat}{bs cs:List Nat}{w0 w w':Wo}
theorem Dr.start(h:Oe rb c L N w):Dr rb c L N 0 [] w w:=⟨⟨h,Qs,fun _ _=>.inl Qs⟩,Q0.refl _ _,Qs⟩
theorem Dr.step(h:Dr rb c L N n bs w0 w)(hx:Q0 bs w w'):Dr rb c L N n bs w0 w':=⟨h.r.step hx,h.ext.fresh hx fun x hm=>.inl (h.new x hm),h.new⟩
theorem Dr.add(h:Dr rb c L N n bs w0 w)(hb:w.heap.size<=b):Dr rb c L N n (bs++[b]) w0 w:=⟨h.r.add hb,h.ext,fun x hm=>by
 rcases Im.1 hm with hm | hm
 ·exact h.new x hm
 ·have:x=b:=by simpa using hm
  have:=h.ext.size;omega⟩
theorem Dr.put(h:Dr rb c L N n bs w0 w)(hx:Q0 bs w w')(hb:w.heap.size<=b):Dr rb c L N n (bs++[b]) w0 w':=(h.add hb).step (hx.mono fun _ hm=>Ia _ hm)
theorem Dr.Aq8(h:Dr rb c L N n bs w0 w)(hx:Q0 bs w w')(hb:w.heap.size<=b)(bT:w.heap.size<=b2):Dr rb c L N n (bs++[b]++[b2]) w0 w':=((h.add hb).add bT).step (hx.mono fun _ hm=>Ia _ (Ia _ hm))
theorem Dr.more{m:Nat}(h:Dr rb c L N n bs w0 w)(hm:n<=m):Dr rb c L N m bs w0 w:=⟨h.r.mono Qo,h.ext,h.new⟩
theorem Dr.sub(h:Dr rb c L N n bs w0 w)(hs:∀x∈cs,x∈bs):Dr rb c L N n cs w0 w:=⟨h.r.sub hs,h.ext,fun x hm=>h.new x (hs x hm)⟩
theorem Dr.fin{m:Nat}(h:Dr rb c L N n bs w0 w)(hm:n<=m):Oe rb c L (N+m) w/\Q0 [rb] w0 w:=⟨(h.more hm).r.rd,h.ext⟩
theorem Dr.call{f:FuncId}{args:Array Va}{Q:Int->Prop}(h:Dr rb c L N n bs w0 w)(hs:∀x∈bs,x<w.heap.size)(hc:Cz f args w fun e w'=>∃v,e=.returned (I v)/\Q v/\Oe rb c L (N+n+k) w'/\Q0 [rb] w w') :
  Cz f args w fun e w'=>∃v,e=.returned (I v)/\Q9 bs w w'/\Q v/\Dr rb c L N (n+k) bs w0 w':=
 hc.mono fun e w' ⟨v,he,hq,hr,hx⟩=>⟨v,he,zbp h.r hx hs,hq,⟨h.r.upd (by rw[<-Nat.add_assoc]; exact hr),h.ext.trans hx,h.new⟩⟩
theorem Dr.pick(h:Dr rb c L N n bs w0 w)(hN:N+n<=1000000000000)(hs:∀x∈bs,x<w.heap.size){q:Int} :
  Cz Q3 #[.pointer (some ⟨rb,0,none⟩),I q] w fun e w'=>∃v,e=.returned (I v)/\Q9 bs w w'/\CF q v/\Dr rb c L N (n+1) bs w0 w':=h.call hs (zbj h.r.rd hN)
theorem Dr.weight(h:Dr rb c L N n bs w0 w)(hN:N+n<=900000000000)(hs:∀x∈bs,x<w.heap.size) :
  Cz ZF #[.pointer (some ⟨rb,0,none⟩)] w fun e w'=>∃v,e=.returned (I v)/\Q9 bs w w'/\z0p v/\Dr rb c L N (n+2) bs w0 w':=h.call hs (zk3 h.r.rd hN)
end
def z2e:Va->Bool
 | .int .i64 _=>true
 | _=>false
def z2g:Va->Bool
 | .string _=>true
 | _=>false
theorem z07{v:Int}{k:Nat}{ls:List Va}{P:Int->Prop}(ha:ls.all z2e=true)(hl:ls.length=k)(h0:0<=v)(h1:v<(k:Int))(h:∀x,P x):∃x:Int,(0<=v/\ls[Int.toNat v+0]? = some (I x))/\P x:=by
 have IS:Int.toNat v+0<ls.length:=Qo;have:=List.all_eq_true.1 ha _ (List.getElem_mem IS);have e:=Il IS;generalize ls[Int.toNat v+0]=y at this e;unfold z2e at this
 split at this
 ·exact⟨_,⟨h0,e⟩,h _⟩
 ·cases this
theorem z2b{v:Int}{k:Nat}{ls:List Va}{P:ByteArray->Prop}(ha:ls.all z2g=true)(hl:ls.length=k)(h0:0<=v)(h1:v<(k:Int))(h:∀x,P x):∃x:ByteArray,(0<=v/\ls[Int.toNat v+0]? = some (.string x))/\P x:=by
 have IS:Int.toNat v+0<ls.length:=Qo;have:=List.all_eq_true.1 ha _ (List.getElem_mem IS);have e:=Il IS;generalize ls[Int.toNat v+0]=y at this e;unfold z2g at this
 split at this
 ·exact⟨_,⟨h0,e⟩,h _⟩
 ·cases this
theorem zyw(x:Int):Qq .i64 (10-Zx (zi5 x 1) 20):=by
 have:1<=Zx (zi5 x 1) 20/\Zx (zi5 x 1) 20<=20:=by
  have h:1<=zi5 x 1:=by unfold zi5; split <;> omega
  unfold Zx
  split <;> omega
 exact⟨Qo,Qo⟩
section
variable {rb:Nat}{c:OA}{L N n:Nat}{bs:List Nat}{w0 w:Wo}
def zwe(_:Int):Prop:=True
theorem zzw(h:Oe rb c L N w)(hN:N<=900000000000) :
  Cz Yx #[.pointer (some ⟨rb,0,none⟩)] w fun e w'=>∃v,e=.returned (I v)/\zwe v/\Oe rb c L (N+2) w'/\Q0 [rb] w w':=by
 refine(ED (some ⟨rb,0,none⟩) (R:=fun v w'=>∃x,v=I x/\Oe rb c L (N+2) w'/\Q0 [rb] w w') ?_).mono fun e w' ⟨v,he,x,hv,h1⟩=>⟨x,by rw[he,hv],trivial,h1⟩
 have h0:=Dr.start h;intro wr hx hs;refine(Dr.pick (h0.step hx) Qo hs).mono ?_;rintro e w2 ⟨v,he,hk,_,h1⟩;refine⟨_,he,hk,fun _ b hb I' S9 cX=>?_,fun _ b hb I' S9 cX=>?_⟩
 all_goals
  refine(Dr.pick (h1.put S9 hb) Qo cX).mono ?_;rintro e w3 ⟨u,iU,hk3,⟨u0,_,u2⟩,h2⟩;have u2:=u2 Qd;refine⟨_,iU,hk3,⟨Qo,Qo⟩,z07 Qd rfl Qo Qo fun x J' R0=>⟨x,rfl,(h2.step R0).fin Qo⟩⟩
theorem zxj(h:Oe rb c L N w)(hN:N<=900000000000) :
  Cz ZU #[.pointer (some ⟨rb,0,none⟩)] w fun e w'=>∃v,e=.returned (I v)/\zwe v/\Oe rb c L (N+2) w'/\Q0 [rb] w w':=by
 refine(Dl (some ⟨rb,0,none⟩) (R:=fun v w'=>∃x,v=I x/\Oe rb c L (N+2) w'/\Q0 [rb] w w') ?_).mono fun e w' ⟨v,he,x,hv,h1⟩=>⟨x,by rw[he,hv],trivial,h1⟩
 have h0:=Dr.start h;intro wr hx hs;refine(Dr.pick (h0.step hx) Qo hs).mono ?_;rintro e w2 ⟨v,he,hk,_,h1⟩;refine⟨_,he,hk,fun _ b hb I' S9 cX=>?_,fun _ b hb I' S9 cX=>?_⟩
 all_goals
  refine(Dr.pick (h1.put S9 hb) Qo cX).mono ?_;rintro e w3 ⟨u,iU,hk3,⟨u0,_,u2⟩,h2⟩;have u2:=u2 Qd;refine⟨_,iU,hk3,⟨Qo,Qo⟩,z07 Qd rfl Qo Qo fun x J' R0=>⟨x,rfl,(h2.step R0).fin Qo⟩⟩
theorem Dr.mask(h:Dr rb c L N n bs w0 w)(hN:N+n<=900000000000)(hs:∀x∈bs,x<w.heap.size) :
  Cz Yx #[.pointer (some ⟨rb,0,none⟩)] w fun e w'=>∃v,e=.returned (I v)/\Q9 bs w w'/\zwe v/\Dr rb c L N (n+2) bs w0 w':=h.call hs (zzw h.r.rd hN)
theorem Dr.qM(h:Dr rb c L N n bs w0 w)(hN:N+n<=900000000000)(hs:∀x∈bs,x<w.heap.size) :
  Cz ZU #[.pointer (some ⟨rb,0,none⟩)] w fun e w'=>∃v,e=.returned (I v)/\Q9 bs w w'/\zwe v/\Dr rb c L N (n+2) bs w0 w':=h.call hs (zxj h.r.rd hN)
end
theorem Jc.w{W:Q8}(iv:Jc W):Qx W=true:=Ql.2 iv.wp
theorem Jc.len{W:Q8}(iv:Jc W):UN W:=zpf iv.wp.a
def zml(W V:Q8):Prop:=Jc V/\XR W V
theorem zml.refl{W:Q8}(iv:Jc W):zml W W:=⟨iv,.same⟩
theorem zw4{W W':Q8}{bar:Int}(iv:Jc W)(hb:bar=0->zml W W'):zml W (Yp W bar W').1:=by
 unfold Yp;rw[B' (by rw[iv.w]; decide)];split
 ·exact zml.refl iv
 ·rename_i e;exact hb (by simpa using e)
theorem zt5{W W':Q8}{bar a:Int}(iv:Jc W)(hb:bar=0->zml W W'):zml W (VR W bar W' a).1:=by
 unfold VR;rw[B' (by rw[iv.w]; decide)];split
 ·exact zml.refl iv
 ·rename_i e;exact hb (by simpa using e)
section
variable {f:FuncId}{args:Array Va}{W W':Q8}{bar a:Int}{m:MW}{w:Wo}
theorem UC(iv:Jc W)(hc:Cz f args w fun e w'=>∃v,e=.returned v/\QL (Yp W bar W') w v w')(hb:bar=0->zml W W') :
  Cz f args w fun e w'=>∃(V:Q8) (m':MW) (d:Int),e=.returned (.tuple #[.agg (Qa V m').toArray,I d])/\zml W V/\Zf 8 w.heap.size w' V m'/\Q0 [] w w':=
 hc.mono fun e w' ⟨v,he,n,m',hv,hM,hx⟩=>by
  have hi:=zw4 iv hb;have hn:n=8:=hM.len.symm.trans hi.1.wp.a.gl;subst hn;exact⟨_,m',_,by rw[he,hv],hi,hM,hx⟩
theorem zos(iv:Jc W)(hc:Cz f args w fun e w'=>∃v,e=.returned v/\Oo (VR W bar W' a) w v w')(hb:bar=0->zml W W') :
  Cz f args w fun e w'=>∃(V:Q8) (m':MW) (q d:Int),e=.returned (.tuple #[.agg (Qa V m').toArray,I q,I d])/\zml W V/\Zf 8 w.heap.size w' V m'/\Q0 [] w w':=
 hc.mono fun e w' ⟨v,he,n,m',hv,hM,hx⟩=>by
  have hi:=zt5 (a:=a) iv hb;have hn:n=8:=hM.len.symm.trans hi.1.wp.a.gl;subst hn;exact⟨_,m',_,_,by rw[he,hv],hi,hM,hx⟩
theorem zs8{P:Q8->Prop}(iv:Jc W)(h0:P W)(hc:Cz f args w fun e w'=>∃v,e=.returned v/\Oo (VR W bar W' a) w v w')(hb:bar=0->Jc W'/\P W') :
  Cz f args w fun e w'=>∃(V:Q8) (m':MW) (q d:Int),e=.returned (.tuple #[.agg (Qa V m').toArray,I q,I d])/\(Jc V/\P V)/\Zf 8 w.heap.size w' V m'/\Q0 [] w w':=
 hc.mono fun e w' ⟨v,he,n,m',hv,hM,hx⟩=>by
  have hi:Jc (VR W bar W' a).1/\P (VR W bar W' a).1:=by
   unfold VR;rw[B' (by rw[iv.w]; decide)];split
   ·exact⟨iv,h0⟩
   ·rename_i e;exact hb (by simpa using e)
  have hn:n=8:=hM.len.symm.trans hi.1.wp.a.gl;subst hn;exact⟨_,m',_,_,by rw[he,hv],hi,hM,hx⟩
def z12(W:Q8)(w:Wo)(v:Va)(w':Wo):Prop:=∃(V:Q8) (m':MW) (d:Int),v=.tuple #[.agg (Qa V m').toArray,I d]/\zml W V/\Zf 8 w.heap.size w' V m'/\Q0 [] w w'
theorem Jl{bs:List Nat}{w0 w2 w3:Wo}{d:Int}(s:Sc w0 bs w)(hs:∀x∈bs,x<w.heap.size)(hi:zml W W'){m':MW}(hM:Zf 8 w.heap.size w2 W' m')(hy:Q0 [] w w2)(hx:Q0 bs w2 w3):z12 W w0 (.tuple #[.agg (Qa W' m').toArray,I d]) w3:=
 ⟨W',m',d,rfl,hi,(((OW.of hM hs).step hx).own).mono s.ext.size,((s.M' hy).step hx).ext⟩
theorem zzu{c:Int}(iv:Jc W)(h:Ce W c=0):Jc (Rn W c):=by
 obtain⟨c0,c1⟩:=VT (z0o h).1;exact zrf iv c0 c1
theorem zri{k a n q:Int}{s:ByteArray}(h:XQ [] w W m)(iv:Jc W) :
  Cz V7 #[.agg (Qa W m).toArray,.agg #[I k,I a,I n,I q,.string s]] w fun e w'=>∃v,e=.returned v/\z12 W w v w':=by
 refine zam _ _ _ _ _ _ _ _ _ _ k a n q s (R:=fun v w'=>z12 W w v w') ?_;intro b hb b1 dI b2 bT;have hl:=iv.len;have hW:=iv.w;have s0:Sc w ([b]++[b1]++[b2]) w:=(((Sc.start w).add hb).add dI).add bT;have hS:∀{wr:Wo},Q0 [] w wr->Sc w [b,b1,b2] wr:=fun hx=>s0.M' hx
 refine⟨fun _ wr hx hs=>?_,fun _=>⟨fun _ wr hx hs=>?_,fun _=>⟨fun _ wr hx hs=>?_,fun _=>⟨fun _ wr hx hs=>?_,fun _=>⟨fun _ wr hx hs=>?_,fun _=>⟨fun _ wr hx hs=>?_,fun _=>⟨fun _ wr hx hs=>?_,fun _=>⟨fun _ wr hx hs=>?_,fun _=>⟨fun _ wr hx hs=>?_,fun _=>⟨fun _ wr hx hs=>?_,fun _=>⟨fun _ wr hx hs=>?_,fun _=>⟨fun _ wr hx hs=>?_,fun _=>⟨fun _ wr hx hs=>?_,fun _=>⟨fun _ wr hx hs=>?_,fun _=>⟨fun _ wr hx hs=>?_,fun _=>⟨fun _ wr hx hs=>?_,fun _=>⟨fun _ wr hx hs=>?_,fun _=>⟨fun _ wr hx hs=>?_,fun _=>⟨_,Ua h hl.c hl.t hl.g hl.f,fun g=>?_,fun _ wr hx hs=>?_⟩⟩⟩⟩⟩⟩⟩⟩⟩⟩⟩⟩⟩⟩⟩⟩⟩⟩⟩
 case refine_19=>rw[hW] at g; cases g
 case refine_20=>
  refine(Pn (h.ext hx) iv.wp.a).mono ?_;rintro e wv ⟨m',he,hM,hy⟩;exact⟨_,_,_,_,_,_,_,_,_,_,he,Qe hy hs,fun J' R0=>Jl (hS hx) hs (zml.refl iv) hM hy R0⟩
 case refine_3=>
  refine(zos iv (L8 (h.ext hx) hl) (fun hb=>⟨zk0 hW hb,.fork _ _ _ hb⟩)).mono ?_;rintro e wv ⟨V,m',q1,d,he,hi,hM,hy⟩;exact⟨_,_,_,_,_,_,_,_,_,_,_,_,he,Qe hy hs,fun J' R0=>Jl (hS hx) hs hi hM hy R0⟩
 case refine_10=>
  refine(zos iv (Ke (h.ext hx) hl) fun hb=>⟨zt7 iv (zbu hb).1,.mak _ _ _ (zbu hb).1⟩).mono ?_;rintro e wv ⟨V,m',q1,d,he,hi,hM,hy⟩;exact⟨_,_,_,_,_,_,_,_,_,_,_,_,he,Qe hy hs,fun J' R0=>Jl (hS hx) hs hi hM hy R0⟩
 case refine_1=>exact(UC iv (AF (h.ext hx) hl) (fun hb=>⟨zxc iv hb,.run _ _ hb⟩)).mono fun e wv ⟨V,m',d,he,hi,hM,hy⟩=>⟨_,_,_,_,_,_,_,_,_,_,_,he,Qe hy hs,fun J' R0=>Jl (hS hx) hs hi hM hy R0⟩
 case refine_2=>exact(UC iv (EU (h.ext hx) hl) (fun hb=>⟨zzu iv hb,.yld _ hb⟩)).mono fun e wv ⟨V,m',d,he,hi,hM,hy⟩=>⟨_,_,_,_,_,_,_,_,_,_,_,he,Qe hy hs,fun J' R0=>Jl (hS hx) hs hi hM hy R0⟩
 case refine_4=>exact(UC iv (Bz (h.ext hx) hl) (fun hb=>⟨zre hW hb,.block _ hb⟩)).mono fun e wv ⟨V,m',d,he,hi,hM,hy⟩=>⟨_,_,_,_,_,_,_,_,_,_,_,he,Qe hy hs,fun J' R0=>Jl (hS hx) hs hi hM hy R0⟩
 case refine_5=>exact(UC iv (AC (h.ext hx) hl) (fun hb=>⟨zub hW hb,.wake _ hb⟩)).mono fun e wv ⟨V,m',d,he,hi,hM,hy⟩=>⟨_,_,_,_,_,_,_,_,_,_,_,he,Qe hy hs,fun J' R0=>Jl (hS hx) hs hi hM hy R0⟩
 case refine_6=>exact(UC iv (Az (h.ext hx) hl) (fun hb=>⟨zt6 hW hb,.exit _ hb⟩)).mono fun e wv ⟨V,m',d,he,hi,hM,hy⟩=>⟨_,_,_,_,_,_,_,_,_,_,_,he,Qe hy hs,fun J' R0=>Jl (hS hx) hs hi hM hy R0⟩
 case refine_7=>exact(UC iv (AB (h.ext hx) hl) (fun hb=>⟨zt8 hW hb,.nice _ _ hb⟩)).mono fun e wv ⟨V,m',d,he,hi,hM,hy⟩=>⟨_,_,_,_,_,_,_,_,_,_,_,he,Qe hy hs,fun J' R0=>Jl (hS hx) hs hi hM hy R0⟩
 case refine_8=>exact(UC iv (zbl (h.ext hx) hl) (fun hb=>⟨zxb hW hb,.pin _ _ hb⟩)).mono fun e wv ⟨V,m',d,he,hi,hM,hy⟩=>⟨_,_,_,_,_,_,_,_,_,_,_,he,Qe hy hs,fun J' R0=>Jl (hS hx) hs hi hM hy R0⟩
 case refine_9=>exact(UC iv (AA (h.ext hx) hl) (fun hb=>⟨zw9 iv hb,.mov _ _ hb⟩)).mono fun e wv ⟨V,m',d,he,hi,hM,hy⟩=>⟨_,_,_,_,_,_,_,_,_,_,_,he,Qe hy hs,fun J' R0=>Jl (hS hx) hs hi hM hy R0⟩
 case refine_11=>exact(UC iv (Bx (h.ext hx) hl) fun hb=>⟨zw6 iv (zto hb).1,.drp _ (zto hb).1⟩).mono fun e wv ⟨V,m',d,he,hi,hM,hy⟩=>⟨_,_,_,_,_,_,_,_,_,_,_,he,Qe hy hs,fun J' R0=>Jl (hS hx) hs hi hM hy R0⟩
 case refine_12=>exact(UC iv (ET (h.ext hx) hl) (fun hb=>⟨zxd hW hb,.wgh _ _ hb⟩)).mono fun e wv ⟨V,m',d,he,hi,hM,hy⟩=>⟨_,_,_,_,_,_,_,_,_,_,_,he,Qe hy hs,fun J' R0=>Jl (hS hx) hs hi hM hy R0⟩
 case refine_13=>exact(UC iv (Ay (h.ext hx) hl) (fun hb=>⟨zw7 hW hb,.gpn _ _ hb⟩)).mono fun e wv ⟨V,m',d,he,hi,hM,hy⟩=>⟨_,_,_,_,_,_,_,_,_,_,_,he,Qe hy hs,fun J' R0=>Jl (hS hx) hs hi hM hy R0⟩
 case refine_14=>exact(UC iv (ES (h.ext hx) hl) (fun hb=>⟨zw8 hW hb,.lim _ _ _ hb⟩)).mono fun e wv ⟨V,m',d,he,hi,hM,hy⟩=>⟨_,_,_,_,_,_,_,_,_,_,_,he,Qe hy hs,fun J' R0=>Jl (hS hx) hs hi hM hy R0⟩
 case refine_15=>exact(UC iv (AD (h.ext hx) hl) (fun hb=>⟨zua hW hb,.time _ hb⟩)).mono fun e wv ⟨V,m',d,he,hi,hM,hy⟩=>⟨_,_,_,_,_,_,_,_,_,_,_,he,Qe hy hs,fun J' R0=>Jl (hS hx) hs hi hM hy R0⟩
 case refine_16=>exact(UC iv (EP (h.ext hx) hl) (fun hb=>⟨zw5 hW hb,.bal _ hb⟩)).mono fun e wv ⟨V,m',d,he,hi,hM,hy⟩=>⟨_,_,_,_,_,_,_,_,_,_,_,he,Qe hy hs,fun J' R0=>Jl (hS hx) hs hi hM hy R0⟩
 case refine_17=>exact(UC iv (HS (h.ext hx) hl) (fun hb=>⟨zpc hW hb,.off _ hb⟩)).mono fun e wv ⟨V,m',d,he,hi,hM,hy⟩=>⟨_,_,_,_,_,_,_,_,_,_,_,he,Qe hy hs,fun J' R0=>Jl (hS hx) hs hi hM hy R0⟩
 case refine_18=>exact(UC iv (EQ (h.ext hx) hl) (fun hb=>⟨zt9 hW hb,.on _ hb⟩)).mono fun e wv ⟨V,m',d,he,hi,hM,hy⟩=>⟨_,_,_,_,_,_,_,_,_,_,_,he,Qe hy hs,fun J' R0=>Jl (hS hx) hs hi hM hy R0⟩
end
theorem zzv{rb:Nat}{c:OA}{L N:Nat}{w:Wo}{W:Q8}{m:MW}(h:Oe rb c L N w)(hN:N<=800000000000) :
  Cz Jr #[.pointer (some ⟨rb,0,none⟩),.agg (Qa W m).toArray] w fun e w'=>∃(k a n q:Int) (s:ByteArray),e=.returned (.agg #[I k,I a,I n,I q,.string s])/\Oe rb c L (N+20) w'/\Q0 [rb] w w':=by
 refine(EC (some ⟨rb,0,none⟩) W.now m.cO W.ID.length m.cC m.tO W.tasks.length m.tC m.gO W.IC.length m.gC (R:=fun v w'=>∃(k a n q:Int) (s:ByteArray),v=.agg #[I k,I a,I n,I q,.string s]/\Oe rb c L (N+20) w'/\Q0 [rb] w w') ?_).mono fun e w' ⟨v,he,k,a,n,q,s,hv,h1⟩=>⟨k,a,n,q,s,by rw[he,hv],h1⟩
 intro b hb b1 dI;refine⟨_,Tg,fun wr hx hs=>?_⟩;refine(Dr.pick ((Dr.start h).Aq8 hx hb dI) Qo hs).mono ?_;rintro e w1 ⟨v1,he,hk,_,h1⟩;refine⟨_,he,hk,fun wr hx hs=>?_⟩;refine(Dr.pick (h1.step hx) Qo hs).mono ?_;rintro e w2 ⟨v2,he,hk,_,h2⟩;refine⟨_,he,hk,fun vs bs w2=>bs=[]/\(∃x:Int,vs=[I x])/\Dr rb c L N 4 [b,b1] w w2,fun wr hx hs=>?_,?_⟩
 ·refine(Dr.pick (h2.step hx) Qo hs).mono ?_;rintro e w3 ⟨v3,he,hk,_,h3⟩;refine⟨_,he,hk,fun _ wr hx hs=>?_,fun _ wr hx hs=>⟨rfl,⟨_,rfl⟩,(h3.step hx).more Qd⟩⟩;refine(Dr.pick (h3.step hx) Qo hs).mono ?_;rintro e w4 ⟨v4,he,hk,_,h4⟩;exact⟨_,he,hk,fun wr hx _=>⟨rfl,⟨_,rfl⟩,(h4.step hx).more Qd⟩⟩
 clear h1 h2;rintro t bB cJ ⟨-,-,h4⟩ wr hx hs;refine(Dr.pick (h4.step hx) Qo hs).mono ?_;rintro e w5 ⟨v5,he,hk,⟨p50,_,p52⟩,h5⟩;have p52:=p52 Qd;refine⟨_,he,hk,fun wr hx hs=>?_⟩;refine(Dr.pick (h5.step hx) Qo hs).mono ?_;rintro e w6 ⟨v6,he,hk,_,h6⟩;clear h4 h5;refine⟨_,he,hk,fun _=>?_,fun _ wr hx hs=>?_⟩
 rotate_left
 ·refine(Dr.pick (h6.step hx) Qo hs).mono ?_;rintro e w7 ⟨v7,he,hk,_,h7⟩;clear h6;refine⟨_,he,hk,?_⟩;clear he hk hx hs cJ
  repeat' first
   | exact rfl
   | exact zyw _
   | (refine⟨_,Tg,?_⟩)
   | (refine⟨_,Jt,?_⟩)
   | (refine⟨fun _ bs w2=>bs=[]/\Dr rb c L N 7 [b,b1] w w2,?_,?_⟩)
   | (refine And.intro ?_ ?_)
   | (refine z07 Qd rfl Qo Qo fun x=>?_)
   | (refine z2b Qd rfl Qo Qo fun x=>?_)
   | (intro (x:Bool) (wv:Wo) hs hm; obtain⟨_,hD⟩:=hm)
   | (intro (b:Nat) hb)
   | (intro (wr:Wo) hx hs; refine(Dr.pick (Dr.step (by assumption) hx) ?_ hs).mono ?_; rotate_left; rintro e w2 ⟨v,he,hk,⟨hp0,_,fG⟩,hC⟩; have fG:=fG Qd; refine⟨_,he,hk,?_⟩)
   | (intro (wr:Wo) hx hs; refine(Dr.pick (Dr.put (by assumption) hx (by assumption)) ?_ hs).mono ?_; rotate_left; rintro e w2 ⟨v,he,hk,⟨hp0,_,fG⟩,hC⟩; have fG:=fG Qd; refine⟨_,he,hk,?_⟩)
   | (intro (wr:Wo) hx hs; refine(Dr.pick (Dr.Aq8 (by assumption) hx (by assumption) (by assumption)) ?_ hs).mono ?_; rotate_left; rintro e w2 ⟨v,he,hk,⟨hp0,_,fG⟩,hC⟩; have fG:=fG Qd; refine⟨_,he,hk,?_⟩)
   | (intro (wr:Wo) hx hs; refine(Dr.weight (Dr.step (by assumption) hx) ?_ hs).mono ?_; rotate_left; rintro e w2 ⟨v,he,hk,⟨hp0,fG⟩,hC⟩; refine⟨_,he,hk,?_⟩)
   | (intro (wr:Wo) hx hs; refine(Dr.mask (Dr.step (by assumption) hx) ?_ hs).mono ?_; rotate_left; rintro e w2 ⟨v,he,hk,_,hC⟩; refine⟨_,he,hk,?_⟩)
   | (intro (wr:Wo) hx hs; refine(Dr.qM (Dr.step (by assumption) hx) ?_ hs).mono ?_; rotate_left; rintro e w2 ⟨v,he,hk,_,hC⟩; refine⟨_,he,hk,?_⟩)
   | (intro (wr:Wo) hx hs; exact⟨rfl,Dr.step (by assumption) hx⟩)
   | (intro (wr:Wo) hx; exact⟨_,_,_,_,_,rfl,(Dr.step (by assumption) hx).fin Qd⟩)
   | (intro (hh:_=true))
   | (intro (hh:_=false))
   | omega
   | decide
 ·repeat' first
   | exact rfl
   | (refine And.intro ?_ ?_)
   | (refine z07 Qd rfl Qo Qo fun x=>?_)
   | (intro (b:Nat) hb)
   | (intro (wr:Wo) hx hs; refine(Dr.pick (Dr.step (by assumption) hx) ?_ hs).mono ?_; rotate_left; rintro e w2 ⟨v,he,hk,⟨hp0,_,fG⟩,hC⟩; have fG:=fG Qd; refine⟨_,he,hk,?_⟩)
   | (intro (wr:Wo) hx hs; refine(Dr.pick (Dr.put (by assumption) hx (by assumption)) ?_ hs).mono ?_; rotate_left; rintro e w2 ⟨v,he,hk,⟨hp0,_,fG⟩,hC⟩; have fG:=fG Qd; refine⟨_,he,hk,?_⟩)
   | (intro (wr:Wo) hx; exact⟨_,_,_,_,_,rfl,(Dr.step (by assumption) hx).fin Qd⟩)
   | omega
def z2f(lo hi:Int):Va->Bool
 | .int .i64 x=>decide (lo<=x)&&decide (x<=hi)
 | _=>false
theorem z2m{lo hi v:Int}{k:Nat}{ls:List Va}{P:Int->Prop}(ha:ls.all (z2f lo hi)=true)(hl:ls.length=k)(h0:0<=v)(h1:v<(k:Int))(h:∀x,lo<=x->x<=hi->P x):∃x:Int,(0<=v/\ls[Int.toNat v+0]? = some (I x))/\P x:=by
 have IS:Int.toNat v+0<ls.length:=Qo;have:=List.all_eq_true.1 ha _ (List.getElem_mem IS);have e:=Il IS;generalize ls[Int.toNat v+0]=y at this e;unfold z2f at this
 split at this
 ·rw[A',Ij,Ij] at this;exact⟨_,⟨h0,e⟩,h _ this.1 this.2⟩
 ·cases this
structure Uh (P:Nat->Q8->Prop) (rb:Nat) (c:OA) (L N n:Nat) (bs:List Nat) (w0 w:Wo) (W:Q8) (m:MW):Prop where
 iv:Jc W
 lw:P n W
 d:Dr rb c L N n bs w0 w
 o:OW 8 w0.heap.size (rb::bs) w W m
section
variable {P:Nat->Q8->Prop}{rb b b2:Nat}{c:OA}{L N n k:Nat}{bs cs:List Nat}{w0 w w':Wo}{W W':Q8}{m m':MW}
theorem Uh.step(h:Uh P rb c L N n bs w0 w W m)(hx:Q0 bs w w'):Uh P rb c L N n bs w0 w' W m:=⟨h.iv,h.lw,h.d.step hx,h.o.step (hx.mono fun _ hm=>I1 _ hm)⟩
theorem Uh.put(h:Uh P rb c L N n bs w0 w W m)(hx:Q0 bs w w')(hb:w.heap.size<=b):Uh P rb c L N n (bs++[b]) w0 w' W m:=⟨h.iv,h.lw,h.d.put hx hb,h.o.put (hx.mono fun _ hm=>I1 _ hm) hb⟩
theorem Uh.Aq8(h:Uh P rb c L N n bs w0 w W m)(hx:Q0 bs w w')(hb:w.heap.size<=b)(bT:w.heap.size<=b2):Uh P rb c L N n (bs++[b]++[b2]) w0 w' W m:=⟨h.iv,h.lw,h.d.Aq8 hx hb bT,h.o.Aq8 (hx.mono fun _ hm=>I1 _ hm) hb bT⟩
theorem Uh.sub(h:Uh P rb c L N n bs w0 w W m)(hs:∀x∈cs,x∈bs):Uh P rb c L N n cs w0 w W m:=⟨h.iv,h.lw,h.d.sub hs,h.o.sub fun x hx=>by
 rcases Ii.1 hx with h1 | h1
 ·rw[h1]; exact I9
 ·exact I1 _ (hs x h1)⟩
theorem Uh.more{q:Nat}(hP:Py P)(h:Uh P rb c L N n bs w0 w W m)(hm:n<=q):Uh P rb c L N q bs w0 w W m:=⟨h.iv,hP.mono hm h.lw,h.d.more hm,h.o⟩
theorem Uh.rd(h:Uh P rb c L N n bs w0 w W m):XQ [] w W m:=h.o.rd0
theorem Uh.drawn(hP:Py P)(h:Uh P rb c L N n bs w0 w W m)(hr:Oe rb c L (N+n+k) w')(hx:Q0 [rb] w w'):Uh P rb c L N (n+k) bs w0 w' W m:=
 ⟨h.iv,hP.mono Qo h.lw,⟨h.d.r.upd (by rw[<-Nat.add_assoc]; exact hr),h.d.ext.trans hx,h.d.new⟩,h.o.step (hx.mono fun x hm=>by
  have:x=rb:=by simpa using hm
  subst this; exact I9)⟩
theorem Uh.call{f:FuncId}{args:Array Va}{Q:Int->Prop}(hP:Py P)(h:Uh P rb c L N n bs w0 w W m)(hs:∀x∈bs,x<w.heap.size)(hc:Cz f args w fun e w'=>∃v,e=.returned (I v)/\Q v/\Oe rb c L (N+n+k) w'/\Q0 [rb] w w') :
  Cz f args w fun e w'=>∃v,e=.returned (I v)/\Q9 bs w w'/\Q v/\Uh P rb c L N (n+k) bs w0 w' W m:=
 hc.mono fun e w' ⟨v,he,hq,hr,hx⟩=>⟨v,he,zbp h.d.r hx hs,hq,h.drawn hP hr hx⟩
theorem Uh.pick(hP:Py P)(h:Uh P rb c L N n bs w0 w W m)(hN:N+n<=1000000000000)(hs:∀x∈bs,x<w.heap.size){q:Int} :
  Cz Q3 #[.pointer (some ⟨rb,0,none⟩),I q] w fun e w'=>∃v,e=.returned (I v)/\Q9 bs w w'/\CF q v/\Uh P rb c L N (n+1) bs w0 w' W m:=h.call hP hs (zbj h.d.r.rd hN)
theorem Uh.weight(hP:Py P)(h:Uh P rb c L N n bs w0 w W m)(hN:N+n<=900000000000)(hs:∀x∈bs,x<w.heap.size) :
  Cz ZF #[.pointer (some ⟨rb,0,none⟩)] w fun e w'=>∃v,e=.returned (I v)/\Q9 bs w w'/\z0p v/\Uh P rb c L N (n+2) bs w0 w' W m:=h.call hP hs (zk3 h.d.r.rd hN)
theorem Uh.item(hP:Py P)(h:Uh P rb c L N n bs w0 w W m)(hN:N+n<=800000000000)(hs:∀x∈bs,x<w.heap.size){V:Q8}{p:MW} :
  Cz Jr #[.pointer (some ⟨rb,0,none⟩),.agg (Qa V p).toArray] w fun e w'=>∃(k a q r:Int) (s:ByteArray),e=.returned (.agg #[I k,I a,I q,I r,.string s])/\Q9 bs w w'/\Uh P rb c L N (n+20) bs w0 w' W m:=
 (zzv h.d.r.rd hN).mono fun e w' ⟨k,a,q,r,s,he,hr,hx⟩=>⟨k,a,q,r,s,he,zbp h.d.r hx hs,h.drawn hP hr hx⟩
theorem Uh.bsl(h:Uh P rb c L N n bs w0 w W m)(hs:∀x∈bs,x<w.heap.size):∀x∈rb::bs,x<w.heap.size:=fun x hm=>by
 rcases Ii.1 hm with h1 | h1
 ·rw[h1]; exact h.d.r.rd.lt
 ·exact hs x h1
theorem Uh.Sj{P':Nat->Q8->Prop}{q:Nat}(h:Uh P rb c L N n bs w0 w W m)(hq:n<=q)(hs:∀x∈bs,x<w.heap.size)(hi:Jc W')(hl:P' q W')(hM:Zf 8 w.heap.size w' W' m')(hx:Q0 [] w w'):Uh P' rb c L N q bs w0 w' W' m':=
 ⟨hi,hl,Dr.more ⟨h.d.r.M' hx,h.d.ext.trans hx.of_nil,h.d.new⟩ hq,(OW.of hM (h.bsl hs)).mono h.d.ext.size⟩
theorem Uh.mak{p:Int}{name:ByteArray}(hP:Py P)(h:Uh P rb c L N n bs w0 w W m)(hs:∀x∈bs,x<w.heap.size) :
  Cz QC #[.agg (Qa W m).toArray,I p,.string name] w fun e w'=>∃(W':Q8) (m':MW) (a d:Int),e=.returned (.tuple #[.agg (Qa W' m').toArray,I a,I d])/\Q9 bs w w'/\Uh P rb c L N n bs w0 w' W' m':=
 (zs8 (P:=P n) h.iv h.lw (Ke h.rd h.iv.len) fun hb=>⟨zt7 h.iv (zbu hb).1,hP.mak h.iv h.lw (zbu hb).1⟩).mono fun e w' ⟨V,m',a,d,he,hi,hM,hx⟩=>⟨V,m',a,d,he,Qe hx hs,h.Sj (I7 _) hs hi.1 hi.2 hM hx⟩
theorem Uh.fork{g q x:Int}(hP:Py P)(h:Uh P rb c L N n bs w0 w W m)(hs:∀x∈bs,x<w.heap.size) :
  Cz Xd #[.agg (Qa W m).toArray,I g,I q,I x] w fun e w'=>∃(W':Q8) (m':MW) (a d:Int),e=.returned (.tuple #[.agg (Qa W' m').toArray,I a,I d])/\Q9 bs w w'/\Uh P rb c L N n bs w0 w' W' m':=
 (zs8 (P:=P n) h.iv h.lw (L8 h.rd h.iv.len) fun hb=>⟨zk0 h.iv.w hb,hP.fork h.iv h.lw hb⟩).mono fun e w' ⟨V,m',a,d,he,hi,hM,hx⟩=>⟨V,m',a,d,he,Qe hx hs,h.Sj (I7 _) hs hi.1 hi.2 hM hx⟩
theorem Uh.do{k a q r:Int}{s:ByteArray}(hP:Py P)(hn:n<=10000)(h:Uh P rb c L N n bs w0 w W m)(hs:∀x∈bs,x<w.heap.size) :
  Cz V7 #[.agg (Qa W m).toArray,.agg #[I k,I a,I q,I r,.string s]] w fun e w'=>∃(W':Q8) (m':MW) (d:Int),e=.returned (.tuple #[.agg (Qa W' m').toArray,I d])/\Q9 bs w w'/\Uh P rb c L N (n+10) bs w0 w' W' m':=
 (zri h.rd h.iv).mono fun e w' ⟨v,he,V,m',d,hv,hi,hM,hx⟩=>⟨V,m',d,by rw[he,hv],Qe hx hs,h.Sj (Nat.le_add_right _ _) hs hi.1 (hP.Sj hn h.iv h.lw hi.2) hM hx⟩
theorem Uh.fin{q:Nat}(hP:Py P)(h:Uh P rb c L N n bs w0 w W m)(hq:n<=q):(Jc W/\P q W)/\Zf 8 w0.heap.size w W m/\Oe rb c L (N+q) w/\Q0 [rb] w0 w/\∀x∈QR 8 m,x≠rb:=⟨⟨h.iv,hP.mono hq h.lw⟩,h.o.own,(h.d.fin hq).1,h.d.ext,fun x hx e=>h.o.nb x hx (by rw[e]; exact I9)⟩
end
theorem zzx{P:Nat->Q8->Prop}(hP:Py P){rb:Nat}{c:OA}{L N:Nat}{w:Wo}{items:Int}(h:Oe rb c L N w)(hN:N<=700000000000)(hi:items<=27) :
  Cz Vx #[.pointer (some ⟨rb,0,none⟩),I items] w fun e w'=>∃(W:Q8) (m:MW),e=.returned (.agg (Qa W m).toArray)/\(Jc W/\P 1000 W)/\Zf 8 w.heap.size w' W m/\Oe rb c L (N+1000) w'/\Q0 [rb] w w'/\∀x∈QR 8 m,x≠rb:=by
 refine(EF (some ⟨rb,0,none⟩) items (R:=fun v w'=>∃(W:Q8) (m:MW),v=.agg (Qa W m).toArray/\(Jc W/\P 1000 W)/\Zf 8 w.heap.size w' W m/\Oe rb c L (N+1000) w'/\Q0 [rb] w w'/\∀x∈QR 8 m,x≠rb) ?_).mono fun e w' ⟨v,he,W,m,hv,h3⟩=>⟨W,m,by rw[he,hv],h3⟩
 intro b hb b1 dI wr hx hs;refine(Dr.pick ((Dr.start h).Aq8 hx hb dI) Qo hs).mono ?_;rintro e w1 ⟨v,he,hk,⟨p0,_,p2⟩,h1⟩;have p2:=p2 Qd;refine⟨_,he,hk,⟨Qo,Qo⟩,z2m (lo:=1) (hi:=4) Qd rfl Qo Qo fun x x1 x4 wr hx hs=>?_⟩;obtain⟨q,rfl⟩:∃q:Nat,x=(q:Int):=⟨x.toNat,Qo⟩;have h2:=h1.step hx;refine(AE (n:=q) Qo Qo).mono ?_;rintro e2 w2 ⟨m,aE,hM,Sg⟩
 have bT:∀x∈rb::[b,b1],x<wr.heap.size:=fun x hm=>by
  rcases Ii.1 hm with h1 | h1
  ·rw[h1]; exact h2.r.rd.lt
  ·exact hs x h1
 have hK:Uh P rb c L N 1 [b,b1] w w2 (JZ q) m:=⟨zxa Qo Qo,hP.new Qo Qo,⟨h2.r.M' Sg,h2.ext.trans Sg.of_nil,h2.new⟩,(OW.of hM bT).mono h2.ext.size⟩;refine⟨_,_,_,_,_,_,_,_,_,_,_,aE,Qe Sg hs,fun b2 bT wr hx hs=>?_⟩;refine((hK.put hx bT).pick hP Qo hs).mono ?_;rintro e3 w3 ⟨v1,iU,hk3,⟨p10,_,p12⟩,hK1⟩;have p12:=p12 Qd;refine⟨_,iU,hk3,?_⟩;refine⟨fun vs w2=>∃(k n:Nat) (W:Q8) (m:MW),vs=I (k:Int)::Qa W m/\(k:Int)<=v1/\n<=2+2*k/\Uh P rb c L N n [b,b1,b2] w w2 W m,Zq v1.toNat 0,fun wr hx _=>⟨0,2,JZ q,m,rfl,p10,Qo,hK1.step hx⟩,?_⟩;clear hK1 hk3 iU hs hx hM hK aE Sg h1 h2 he hk;rintro i1 l RO RW Sb RR S5 Sa RY RZ S4 wv hs ⟨k,n,W,m,he,hk,hn,hK⟩;simp only[Qa,I4,I5,Iv,true_and,and_true] at he;obtain⟨rfl,rfl,⟨rfl,rfl,rfl⟩,⟨rfl,rfl,rfl⟩,rfl,rfl,rfl⟩:=he;refine⟨fun IS=>?_,fun Ry wr hx hs=>?_⟩
 ·have IS:=Ot IS
  repeat' first
   | exact rfl
   | (refine And.intro ?_ ?_)
   | (refine z07 Qd rfl Qo Qo fun x=>?_)
   | (refine z2b Qd rfl Qo Qo fun x=>?_)
   | (intro (b:Nat) hb)
   | (intro (wr:Wo) hx hs; refine(Uh.pick hP (Uh.step (by assumption) hx) ?_ hs).mono ?_; rotate_left; rintro e w2 ⟨v,he,hk,⟨hp0,_,fG⟩,hC⟩; have fG:=fG Qd; refine⟨_,he,hk,?_⟩)
   | (intro (wr:Wo) hx hs; refine(Uh.pick hP (Uh.put (by assumption) hx (by assumption)) ?_ hs).mono ?_; rotate_left; rintro e w2 ⟨v,he,hk,⟨hp0,_,fG⟩,hC⟩; have fG:=fG Qd; refine⟨_,he,hk,?_⟩)
   | (intro (wr:Wo) hx hs; refine(Uh.pick hP (Uh.Aq8 (by assumption) hx (by assumption) (by assumption)) ?_ hs).mono ?_; rotate_left; rintro e w2 ⟨v,he,hk,⟨hp0,_,fG⟩,hC⟩; have fG:=fG Qd; refine⟨_,he,hk,?_⟩)
   | (intro (wr:Wo) hx hs; refine(Uh.mak hP (Uh.step (by assumption) hx) hs).mono ?_; rintro e w2 ⟨W',m',a,d,he,hk,hC⟩; refine⟨_,_,_,_,_,_,_,_,_,_,_,_,he,hk,⟨Qo,Qo⟩,fun wr hx _=>⟨⟨k+1,n+2,W',m',by simp[Qa],Qo,Qo,((hC.step hx).more hP Qo).sub Qs⟩,Zi (k:=k) rfl rfl Qo⟩⟩)
   | (intro (wr:Wo) hx hs; refine(Uh.mak hP (Uh.put (by assumption) hx (by assumption)) hs).mono ?_; rintro e w2 ⟨W',m',a,d,he,hk,hC⟩; refine⟨_,_,_,_,_,_,_,_,_,_,_,_,he,hk,⟨Qo,Qo⟩,fun wr hx _=>⟨⟨k+1,n+2,W',m',by simp[Qa],Qo,Qo,((hC.step hx).more hP Qo).sub Qs⟩,Zi (k:=k) rfl rfl Qo⟩⟩)
   | (intro (wr:Wo) hx hs; refine(Uh.mak hP (Uh.Aq8 (by assumption) hx (by assumption) (by assumption)) hs).mono ?_; rintro e w2 ⟨W',m',a,d,he,hk,hC⟩; refine⟨_,_,_,_,_,_,_,_,_,_,_,_,he,hk,⟨Qo,Qo⟩,fun wr hx _=>⟨⟨k+1,n+2,W',m',by simp[Qa],Qo,Qo,((hC.step hx).more hP Qo).sub Qs⟩,Zi (k:=k) rfl rfl Qo⟩⟩)
   | omega
 refine((hK.step hx).pick hP Qo hs).mono ?_;rintro e4 w4 ⟨v3,he4,hk4,⟨p30,_,p32⟩,hC6⟩;have p32:=p32 Qd;refine⟨_,he4,hk4,⟨Qo,Qo⟩,?_⟩;refine⟨fun vs w2=>∃(k n:Nat) (W:Q8) (m:MW),vs=I (k:Int)::Qa W m/\(k:Int)<=1+v3/\n<=20+3*k/\Uh P rb c L N n [b,b1,b2] w w2 W m,Zq (1+v3).toNat 0,fun SZ oZ _=>⟨0,n+1,W,m,rfl,Qo,Qo,hC6.step oZ⟩,?_⟩;clear hK hC6 hk4 he4 hs hx Ry hk hn;clear W m n k;rintro i3 l4 lF gS lD kY nM kX jI mQ lG wv hs ⟨k,n,W,m,he,hk,hn,hK⟩;simp only[Qa,I4,I5,Iv,true_and,and_true] at he;obtain⟨rfl,rfl,⟨rfl,rfl,rfl⟩,⟨rfl,rfl,rfl⟩,rfl,rfl,rfl⟩:=he;refine⟨fun IS wr hx hs=>?_,fun Ry=>?_⟩
 ·have IS:=Ot IS;refine((hK.step hx).pick hP Qo hs).mono ?_;rintro e5 w5 ⟨v5,he5,hk5,_,hC5⟩;refine⟨_,he5,hk5,rfl,fun wr hx hs=>?_⟩;refine((hC5.step hx).weight hP Qo hs).mono ?_;rintro e6 w6 ⟨v6,he6,hk6,_,hC6⟩;refine⟨_,he6,hk6,rfl,_,Tg,_,Jt,zyw _,fun wr hx hs=>?_⟩;refine((hC6.step hx).fork hP hs).mono ?_;rintro e7 w7 ⟨W7,m7,a,d,he7,hk7,hC7⟩;exact⟨_,_,_,_,_,_,_,_,_,_,_,_,he7,hk7,⟨Qo,Qo⟩,fun wr hx _=>⟨⟨k+1,n+1+2,W7,m7,by simp[Qa],Qo,Qo,hC7.step hx⟩,Zi (k:=k) rfl rfl Qo⟩⟩
 ·have Ry:=Ou Ry;refine⟨fun vs w2=>∃(k n:Nat) (W:Q8) (m:MW),vs=I (k:Int)::Qa W m/\k<=27/\n<=60+30*k/\Uh P rb c L N n [b,b1,b2] w w2 W m,Zq 27 0,fun SZ oZ _=>⟨0,n,W,m,rfl,Qo,Qo,hK.step oZ⟩,?_⟩;clear hK hs;rintro i5 l8 l9O l9L l9C Aw0 Av9 Av8 mO mN mM wv hs ⟨k,n,W,m,he,hk,hn,hK⟩;simp only[Qa,I4,I5,Iv,true_and,and_true] at he;obtain⟨rfl,rfl,⟨rfl,rfl,rfl⟩,⟨rfl,rfl,rfl⟩,rfl,rfl,rfl⟩:=he;refine⟨fun IS wr hx hs=>?_,fun Ry wr hx=>⟨W,m,rfl,(hK.step hx).fin hP Qo⟩⟩;have IS:=Ot IS;refine((hK.step hx).item hP Qo hs (V:=W) (p:=m)).mono ?_;rintro e5 w5 ⟨k5,a5,q5,r5,s5,he5,hk5,hC5⟩;refine⟨_,_,_,_,_,he5,hk5,rfl,fun wr hx hs=>?_⟩;refine((hC5.step hx).do hP Qo hs).mono ?_;rintro e6 w6 ⟨W6,m6,d,he6,hk6,hC6⟩;exact⟨_,_,_,_,_,_,_,_,_,_,_,he6,hk6,⟨Qo,Qo⟩,fun wr hx _=>⟨⟨k+1,n+20+10,W6,m6,by simp[Qa],Qo,Qo,hC6.step hx⟩,Zi (k:=k) rfl rfl Qo⟩⟩
theorem z1t:Tryz.prog.underlying ty_sl_uint8=some (.slice OS):=Qk
theorem z1s:Tryz.prog.underlying OS=some (.int .u8):=Qk
theorem z1u:Tryz.prog.underlying ZC=some .string:=Qk
theorem Uh.B56{P:Nat->Q8->Prop}(hP:Py P){rb:Nat}{c:OA}{L N n k:Nat}{bs:List Nat}{w0 w w':Wo}{W:Q8}{m:MW}(d:Dr rb c L N n bs w0 w)(hs:∀x∈bs,x<w.heap.size)(iv:Jc W/\P k W)(hM:Zf 8 w.heap.size w' W m)(hr:Oe rb c L (N+n+k) w')(hx:Q0 [rb] w w')(dE:∀x∈QR 8 m,x≠rb):Uh P rb c L N (n+k) bs w0 w' W m:=
 ⟨iv.1,hP.mono Qo iv.2,⟨d.r.upd (by rw[<-Nat.add_assoc]; exact hr),d.ext.trans hx,d.new⟩,⟨hM.mono d.ext.size,fun x S9 hm=>by
  rcases Ii.1 hm with h1 | h1
  ·exact dE x S9 h1
  ·have:=(hM.lt x S9).1;have:=hs x h1;omega⟩⟩
theorem zxk{P:Nat->Q8->Prop}(hP:Py P){rb:Nat}{c:OA}{L N:Nat}{w:Wo}(h:Oe rb c L N w)(hN:N<=600000000000) :
  Cz UH #[.pointer (some ⟨rb,0,none⟩)] w fun e w'=>∃(W:Q8) (m:MW),e=.returned (.agg (Qa W m).toArray)/\(Jc W/\P 1100 W)/\Zf 8 w.heap.size w' W m/\Oe rb c L (N+1100) w'/\Q0 [rb] w w'/\∀x∈QR 8 m,x≠rb:=by
 refine(Do (some ⟨rb,0,none⟩) (R:=fun v w'=>∃(W:Q8) (m:MW),v=.agg (Qa W m).toArray/\(Jc W/\P 1100 W)/\Zf 8 w.heap.size w' W m/\Oe rb c L (N+1100) w'/\Q0 [rb] w w'/\∀x∈QR 8 m,x≠rb) ?_).mono fun e w' ⟨v,he,W,m,hv,h3⟩=>⟨W,m,by rw[he,hv],h3⟩
 intro b hb wr hx hs;refine(Dr.pick ((Dr.start h).put hx hb) Qo hs).mono ?_;rintro e w1 ⟨v,he,hk,⟨p0,_,p2⟩,h1⟩;have p2:=p2 Qd;refine⟨_,he,hk,fun wr hx hs=>?_⟩;have h2:=h1.step hx;refine(zzx hP h2.r.rd Qo (items:=v) Qo).mono ?_;rintro e2 w2 ⟨W,m,aE,iv,hM,hr,hxp,dE⟩;have hK:=Uh.B56 hP h2 hs iv hM hr hxp dE;refine⟨_,_,_,_,_,_,_,_,_,_,aE,zbp h2.r hxp hs,fun b1 dI wr hx hs=>?_⟩;refine((hK.put hx dI).pick hP Qo hs).mono ?_;rintro e3 w3 ⟨v3,iU,hk3,_,pI⟩;refine⟨_,iU,hk3,fun _=>?_,fun _ wr hx=>⟨W,m,rfl,(pI.step hx).fin hP Qo⟩⟩;refine⟨fun vs w2=>∃(k:Nat) (W:Q8) (m:MW),vs=I (k:Int)::Qa W m/\k<=12/\Uh P rb c L N (0+1+1000+1) [b,b1] w w2 W m,Zq 12 0,fun wr hx _=>⟨0,W,m,rfl,Qo,pI.step hx⟩,?_⟩;clear pI hK hM iv dE hr hxp aE hk3 iU h2 h1 hs hx;rintro i1 l RO RW Sb RR S5 Sa RY RZ S4 wv hs ⟨k,W,m,he,hk,hK⟩;simp only[Qa,I4,I5,Iv,true_and,and_true] at he;obtain⟨rfl,rfl,⟨rfl,rfl,rfl⟩,⟨rfl,rfl,rfl⟩,rfl,rfl,rfl⟩:=he;refine⟨fun IS wr hx hs=>?_,fun Ry=>?_⟩
 ·have IS:=Ot IS;refine((hK.step hx).fork hP hs).mono ?_;rintro e7 w7 ⟨W7,m7,a,d,he7,hk7,hC7⟩;exact⟨_,_,_,_,_,_,_,_,_,_,_,_,he7,hk7,⟨Qo,Qo⟩,fun wr hx _=>⟨⟨k+1,W7,m7,by simp[Qa],Qo,hC7.step hx⟩,Zi (k:=k) rfl rfl Qo⟩⟩
 refine⟨fun vs w2=>∃(k:Nat) (W:Q8) (m:MW),vs=I (k:Int)::Qa W m/\k<=8/\Uh P rb c L N (0+1+1000+1) [b,b1] w w2 W m,Zq 8 0,fun wr hx _=>⟨0,W,m,rfl,Qo,hK.step hx⟩,?_⟩;clear hK hs;rintro i3 l4 lF gS lD kY nM kX jI mQ lG wv hs ⟨k,W,m,he,hk,hK⟩;simp only[Qa,I4,I5,Iv,true_and,and_true] at he;obtain⟨rfl,rfl,⟨rfl,rfl,rfl⟩,⟨rfl,rfl,rfl⟩,rfl,rfl,rfl⟩:=he;refine⟨fun IS=>⟨⟨Qo,Qo⟩,⟨by have:=Ot IS; show (0:Int)<=_; omega,by have:=Ot IS; show _<=(255:Int); omega⟩,fun b3 wb hxb qJ hh hn wr hx hs=>?_⟩,fun _ wr hx=>⟨W,m,rfl,(hK.step hx).fin hP Qo⟩⟩;have IS:=Ot IS;have hK1:=(hK.step hxb).step hx
 have hh2:wr.heap[b3]? = some (Obj.cells ([.int .u8 (48+(k:Int))]:List Va).toArray OS (0,0)):=by
  rw[hx.block b3 (JF hh) hn]; exact hh
 have hc:=run_convert_bytes_arg wr ty_sl_uint8 OS z1t z1s b3 0 1 1 [48+(k:Int)] rfl (fun i hi=>by
  have:i=0:=Qo;subst this;rw[UP hh2]; rfl) ZC z1u
 refine⟨_,wr,hc,fun _ _=>rfl,?_,fun J' R0 SS=>?_⟩
 ·have e1:(strOfNums [48+(k:Int)]).size=1:=rfl;rw[e1]; decide
 refine((hK1.step R0).mak hP SS).mono ?_;rintro e7 w7 ⟨W7,m7,a,d,he7,hk7,hC7⟩;exact⟨_,_,_,_,_,_,_,_,_,_,_,_,he7,hk7,⟨Qo,Qo⟩,fun wr hx _=>⟨⟨k+1,W7,m7,by simp[Qa],Qo,hC7.step hx⟩,Zi (k:=k) rfl rfl Qo⟩⟩
section
variable {rb b b2:Nat}{c:OA}{L C N:Nat}{bs:List Nat}{w0 w w':Wo}{W W':Q8}{m m':MW}
theorem zxi(h:HG c L w0)(hC:L<=C)(hx:Q0 [] w0 w)(hn:∀x∈bs,w0.heap.size<=x)(hs:∀x∈bs,x<w.heap.size) :
  Cz V8 #[.slice c L C] w fun e wv=>∃rb c' L',e=.returned (.pointer (some ⟨rb,0,none⟩))/\Q9 bs w wv/\RS rb c' L' 0 bs wv/\Sc w0 (rb::bs) wv:=by
 refine(znh (h.ext hx) hC).mono ?_;rintro e wv ⟨rb,c',L',he,hrb,hR,S9,Cf2⟩
 refine⟨rb,c',L',he,Qe S9 hs,⟨hR,fun hm=>by
  have:=hs rb hm;omega,fun a' ha'=>?_⟩,⟨hx.trans S9,fun x hm=>?_⟩⟩
 ·rcases Cf2 a' ha' with h0 | ⟨h0,a,ha,hab⟩
  ·exact .inr h0
  ·refine .inl fun hm=>?_
   obtain⟨a0,x0,ha0,_,_,h30⟩:=h 0 h0;have Rr:=World.block_lt_of_cell? w0 _ h30;rw[Zz] at Rr;rw[ha] at ha0; cases ha0;have:=hn _ hm;omega
 ·rcases Ii.1 hm with h1 | h1
  ·have:=hx.size; omega
  ·exact hn x h1
end
section
variable {c:OA}{L C:Nat}{w:Wo}
theorem Bw{P:Nat->Q8->Prop}(hP:Py P)(h:HG c L w)(hC:L<=C) :
  Cz T3 #[.slice c L C] w fun e w'=>∃(W:Q8) (m:MW),e=.returned (.agg (Qa W m).toArray)/\(Jc W/\P 1100 W)/\Zf 8 w.heap.size w' W m/\Q0 [] w w':=by
 refine(Bd c L C (R:=fun v w'=>∃(W:Q8) (m:MW),v=.agg (Qa W m).toArray/\(Jc W/\P 1100 W)/\Zf 8 w.heap.size w' W m/\Q0 [] w w') ?_).mono fun e w' ⟨v,he,W,m,hv,h1⟩=>⟨W,m,by rw[he,hv],h1⟩
 intro b hb wr hx hs;refine(zxi (bs:=[b]) h hC hx (by simpa using hb) hs).mono ?_;rintro e wv ⟨rb,c',L',he,hk,hR,hS⟩;refine⟨_,he,hk,fun I' S9 cX=>?_⟩;have hR1:=hR.step S9;have hS1:=hS.Bx4 S9;refine(zxk hP hR1.rd Qd).mono ?_;rintro e1 R1 ⟨W,m,fJ,iv,hM,hr,hxp,dE⟩;exact⟨_,_,_,_,_,_,_,_,_,_,fJ,zbp hR1 hxp cX,fun J' R0=>⟨W,m,rfl,iv,((OW.of hM cX).step R0).own.mono hS1.ext.size,((hS1.CP9 hxp).Bx4 R0).ext⟩⟩
end
section
open Go.RowKit Go.ChangeShapes
theorem zyi:Tryz.prog.underlying OS=some (.int .u8):=Qk
theorem u_sl_uint8:Tryz.prog.underlying ty_sl_uint8=some (.slice OS):=Qk
theorem zwp:Tryz.prog.cellsOf OS=1:=Qk
theorem op_bytes{H:Type}{en:TypeId×Va->H}{w:Wo}{base:Nat}{spare:Nat->Bool}{held:Bool}{fuel:Nat}{cs:List Va}{x:DataW H×List MemPlace}(h:DataW.trod en Tryz.prog w base spare held fuel ty_sl_uint8 cs=some x) :
  ∃(o:OA) (cap L:Nat),cs=[.slice o L cap]/\HG o L w/\L<=cap:=by
 obtain⟨o,len,cap,rfl,h1,_,h3⟩:=zv1 u_sl_uint8 h;refine⟨o,cap,len,rfl,fun i hi=>?_,h1⟩;obtain⟨a,n,y,ec,ho,hc,ht⟩:=h3 i hi;rw[zwp,Nat.mul_one] at hc;obtain⟨v,rfl,_,hw⟩:=DataW.trod_int zyi ht;have hv:0<=v/\v<=255:=by simpa[Lit.wf,IntKind.min,IntKind.max,IntKind.signed,IntKind.bits] using hw
 obtain⟨_,_,Wr⟩:=World.cells?_some hc;have:=Wr 0 Qd;rw[U3,Nat.add_zero] at this;exact⟨a,v,ho,hv.1,hv.2,this⟩
end
theorem XQ.sc{bs:List Nat}{w0 w1:Wo}{W:Q8}{m:MW}(h:XQ [] w0 W m)(s:Sc w0 bs w1):XQ bs w1 W m:=(h.wide (cs:=bs) fun x hm=>.inr (s.new x hm)).ext s.ext.of_nil
theorem XQ.sc0{bs:List Nat}{w0 w1:Wo}{W:Q8}{m:MW}(h:XQ [] w0 W m)(s:Sc w0 bs w1):XQ [] w1 W m:=(h.sc s).less Qs
theorem Zf.n8{n base:Nat}{w:Wo}{W:Q8}{m:MW}(h:Zf n base w W m)(ha:WA W):n=8:=h.len.symm.trans ha.gl
theorem z1r{x n:Int}(h0:0<=x)(h1:0<n):0<=Int.tmod x n/\Int.tmod x n<n:=⟨Int.tmod_nonneg _ h0,Int.tmod_lt_of_pos _ h1⟩
def zwf(bs:List Nat)(w:Wo)(c:OA)(L:Nat)(f:Nat->Int):Prop:=∀i:Nat,i<L->0<=f i/\f i<=255/\Jf bs w c i (.int .u8 (f i))
def bD(L:Nat)(f:Nat->Int)(i:Int):Int:=if i<(L:Int) then f i.toNat else Int.tmod (i*37) 251
section
variable {bs cs:List Nat}{w w':Wo}{c:OA}{L C:Nat}{f:Nat->Int}{i:Int}
theorem zzf(h:HG c L w):∃f:Nat->Int,zwf [] w c L f:=by
 have h1:∀i:Nat,∃x:Int,i<L->0<=x/\x<=255/\Jf [] w c i (.int .u8 x):=fun i=>by
  by_cases hi:i<L
  ·obtain⟨a,x,ha,h1,h2,h3⟩:=h i hi;exact⟨x,fun _=>⟨h1,h2,a,ha,Qs,h3⟩⟩
  ·exact⟨0,fun h=>Ir h hi⟩
 exact⟨fun i=>(h1 i).choose,fun i hi=>(h1 i).choose_spec hi⟩
theorem zwf.ext(h:zwf bs w c L f)(hx:Q0 bs w w'):zwf bs w' c L f:=fun i hi=>⟨(h i hi).1,(h i hi).2.1,(h i hi).2.2.ext hx⟩
theorem zwf.less(h:zwf bs w c L f)(hs:∀x∈cs,x∈bs):zwf cs w c L f:=fun i hi=>by
 obtain⟨h1,h2,a,ha,hb,h3⟩:=h i hi;exact⟨h1,h2,a,ha,fun hm=>hb (hs _ hm),h3⟩
theorem z02(h:zwf bs w c L f)(i0:0<=i):0<=bD L f i/\bD L f i<=255:=by
 unfold bD;split
 ·exact⟨(h i.toNat Qo).1,(h i.toNat Qo).2.1⟩
 ·exact⟨Int.tmod_nonneg _ Qo,by have:=Int.tmod_lt_of_pos (i*37) (show (0:Int)<251 by decide); omega⟩
theorem ze3(h:zwf bs w c L f)(i0:0<=i)(i1:i<=1000):PX bs PM #[.slice c L C,I i] w (I (bD L f i)):=
 zfl c L C i fun wr hx=>by
  have h:=(h.ext hx).less (cs:=[]) Qs;refine⟨fun IS=>?_,fun Ry=>⟨⟨Qo,Qo⟩,Qd,?_⟩⟩
  ·have IS:=Ot IS;obtain⟨h1,h2,h3⟩:=h i.toNat Qo;refine⟨⟨i0,IS,?_⟩,f i.toNat,Xh (by rw[Nat.mul_one]; exact h3),⟨Qo,Qo⟩,?_⟩
   ·obtain⟨a,ha,_⟩:=h3;rw[ha]; rfl
   ·show _=_;unfold bD;rw[C' IS]
  ·have Ry:=Ou Ry;show _=_;unfold bD;rw[B' Ry]
end
def zsn(cs:List Mj):Nat->Int
 | 0=>0
 | k+1=>if (gi cs (k:Int)).up=true then zsn cs k+1 else zsn cs k
theorem He(cs:List Mj):∀k:Nat,0<=zsn cs k/\zsn cs k<=(k:Int)
 | 0=>by simp[zsn]
 | k+1=>by
  have:=He cs k;simp only[zsn]
  split <;> omega
def UO(a b:MM):Prop:=a={ b with IZ:=a.IZ,v:=a.v }
theorem UO.refl(a:MM):UO a a:=rfl
theorem UO.trans{a b c:MM}(h:UO a b)(k:UO b c):UO a c:=by
 unfold UO at *;rw[h,k]
theorem zva(W:Q8){t c:Int}(t0:0<=t)(i:Int)(i0:0<=i):UO (Q7 (Jd W t (Q7 W t).group c) i) (Q7 W i):=by
 have key:UO (Q7 (IT W t (VA W t (Q7 W t).group c)) i) (Q7 W i):=by
  by_cases h1:t<(W.tasks.length:Int)
  ·have e:Q7 (IT W t (VA W t (Q7 W t).group c)) i=if t=i then VA W t (Q7 W t).group c else Q7 W i:=QE _ _ t0 h1 i0;rw[e];split
   ·rename_i e2;subst e2;rfl
   ·rfl
  ·have:IT W t (VA W t (Q7 W t).group c)=W:=by
    show { W with tasks:=W.tasks.set t.toNat _ }=W;rw[List.set_eq_of_length_le Qo]
   rw[this];exact UO.refl _
 unfold Jd;split
 ·exact key
 ·exact key
theorem zct(W:Q8):∀(k:Nat) (i:Int),0<=i->UO (Q7 (X4 W k) i) (Q7 W i)
 | 0,i,_=>UO.refl _
 | k+1,i,h=>by
  simp only[X4];split
  ·exact(zva _ Qo i h).trans (zct W k i h)
  ·exact zct W k i h
theorem zma{cs:List Mj}:∀k:Nat,zsn cs k=0->Ux cs k=0
 | 0,_=>rfl
 | k+1,h=>by
  have hr:=He cs k;simp only[zsn] at h;simp only[Ux]
  split at h
  ·omega
  ·rename_i hu;rw[B' hu];exact zma k h
theorem zv5{cs:List Mj}(h:Ju cs≠0):1<=zsn cs cs.length:=by
 have hr:=He cs cs.length
 by_cases e:zsn cs cs.length=0
 ·exact Ir (zma _ e) h
 ·omega
theorem zx7(W:Q8)(t g c:Int):VL W (Jd W t g c):=by
 unfold Jd;split
 ·exact(zc5 W t _).trans (MB _ c)
 ·exact zc5 W t _
theorem zjl(W:Q8):∀k:Nat,VL W (X4 W k)
 | 0=>VL.refl W
 | k+1=>by
  simp only[X4];split
  ·exact(zjl W k).trans (zx7 _ _ _ _)
  ·exact zjl W k
theorem Cy{V:Q8}(sf:SF Qj (Qj+Qi) V):(∀i:Int,0<=i->UO (Q7 (Qg (P9 V)) i) (Q7 V i))/\VL V (Qg (P9 V)):=by
 obtain⟨a,b⟩:=Pq sf (I2 _);have f:=(VC a.w (by simp only[Qi]; decide)).2;refine⟨fun i i0=>?_,(zjl V 12).trans (zc3 _)⟩;have:Q7 (Qg (P9 V)) i=Q7 (P9 V) i:=by unfold Q7; rw[f.t]
 rw[this];exact zct V 12 i i0
theorem zz8{W:Q8}{c:Int}(hW:Qx W=true)(hb:ZY W c false 0=0):(∀i:Int,0<=i->UO (Q7 (zj1 W c) i) (Q7 W i))/\(gi (zj1 W c).ID c).up=true:=by
 obtain⟨c0,c1,_,sf⟩:=zld hW hb;have h:=Cy sf;refine⟨h.1,(h.2.u c).trans ?_⟩;show (gi (W.ID.set c.toNat _) c).up=true;rw[QE _ _ c0 c1 c0,C' rfl]; rfl
theorem zxy{W:Q8}{c:Int}(hW:Qx W=true)(hb:ZY W c true (U0 W)=0):(∀i:Int,0<=i->UO (Q7 (Lu W c) i) (Q7 W i))/\(gi (Lu W c).ID c).up=false:=by
 obtain⟨c0,c1,_,sf⟩:=zb5 hW hb;have hl:(RM W c (Mh (gi W.ID c) false)).ID.length=W.ID.length:=E';have h:=Cy (sf.Rn c0 (by rw[hl]; exact c1));refine⟨h.1,(h.2.u c).trans (((MB _ c).u c).trans ?_)⟩;show (gi (W.ID.set c.toNat _) c).up=false;rw[QE _ _ c0 c1 c0,C' rfl]; rfl
theorem zyg{W:Q8}(wp:XS W){t:Int}(t0:0<=t)(t1:t<12)(n:(Q7 W t).state≠0):0<=(Q7 W t).IZ/\(Q7 W t).IZ<(W.ID.length:Int)/\(gi W.ID (Q7 W t).IZ).up=true:=by
 rcases wp.t t t0 t1 with hz | ⟨_,hx⟩
 ·exact Ir (by rw[hz.2]; rfl) n
 ·have h:=CD W.ID W.ID.length wp.a.c2 (zhl hx.c);exact⟨(O7 hx.c).2.1,h.1,h.2⟩
structure zsy (W:Q8) (c:Int) (up:Bool) (X:Q8) (k:Int):Prop where
 wp:XS X
 len:X.ID.length=W.ID.length
 up:k=0->(gi X.ID c).up=up
 same:∀t:Int,0<=t->UO (Q7 X t) (Q7 W t)
theorem zz9{W:Q8}{c:Int}(hW:Qx W=true)(hb:ZY W c false 0=0):(zj1 W c).ID.length=W.ID.length:=by
 obtain⟨_,_,_,sf⟩:=zld hW hb;have h:=(Cy sf).2.len;unfold zj1;rw[h];exact E'
theorem zxz{W:Q8}{c:Int}(hW:Qx W=true)(hb:ZY W c true (U0 W)=0):(Lu W c).ID.length=W.ID.length:=by
 obtain⟨c0,c1,_,sf⟩:=zb5 hW hb;have hl:(RM W c (Mh (gi W.ID c) false)).ID.length=W.ID.length:=E';have h:=(Cy (sf.Rn c0 (by rw[hl]; exact c1))).2.len;unfold Lu;rw[h];exact E'.trans hl
theorem zx5{W:Q8}{c:Int}(iv:Jc W):zsy W c true (Yp W (ZY W c false 0) (zj1 W c)).1 (Yp W (ZY W c false 0) (zj1 W c)).2:=by
 have hW:Qx W=true:=Ql.2 iv.wp
 by_cases hb:ZY W c false 0=0
 ·rw[zhz hW hb];have h:=zz8 hW hb;have h0:=(zt9 hW hb).wp;have h1:=zz9 hW hb;generalize zj1 W c=X at *;exact⟨h0,h1,fun _=>h.2,h.1⟩
 ·rw[Ci hW hb];exact⟨iv.wp,rfl,fun h=>Ir h hb,fun t _=>UO.refl _⟩
theorem zu8{W:Q8}{c:Int}(iv:Jc W):zsy W c false (Yp W (ZY W c true (U0 W)) (Lu W c)).1 (Yp W (ZY W c true (U0 W)) (Lu W c)).2:=by
 have hW:Qx W=true:=Ql.2 iv.wp
 by_cases hb:ZY W c true (U0 W)=0
 ·rw[zhz hW hb];have h:=zxy hW hb;have h0:=(zpc hW hb).wp;have h1:=zxz hW hb;generalize Lu W c=X at *;exact⟨h0,h1,fun _=>h.2,h.1⟩
 ·rw[Ci hW hb];exact⟨iv.wp,rfl,fun h=>Ir h hb,fun t _=>UO.refl _⟩
theorem UO.back{a b:MM}(h:UO a b):{ a with IZ:=b.IZ,v:=b.v }=b:=by
 unfold UO at h;rw[h]
theorem k_FnPlug{a b:OA}{La Ca Lb Cb:Nat}{w:Wo}(ha:HG a La w)(hca:La<=Ca)(hb:HG b Lb w)(_:Lb<=Cb)(hg:PA w) :
  Cz G4 #[.slice a La Ca,.slice b Lb Cb] w fun e w'=>e=.returned (.bool true)/\Q0 [] w w':=by
 refine(zem a La Ca b Lb Cb (R:=fun v w'=>v=.bool true/\Q0 [] w w') ?_).mono fun e w' ⟨v,he,hv,h3⟩=>⟨by rw[he,hv],h3⟩
 obtain⟨f,hf⟩:=zzf hb;refine⟨fun _ wr hx=>⟨rfl,hx⟩,fun _ I' S9 _=>?_⟩;refine(Bw z16 (ha.ext S9) hca).mono ?_;rintro e wv ⟨W,m,he,⟨iv,-⟩,hM,R0⟩;have hX0:Q0 [] w wv:=S9.trans R0;have r0:XQ [] wv W m:=hM.rd Qs;have s0:=Sc.start wv;have hl:=iv.len;have wp:=iv.wp;have tN:=wp.a.c1;have iX:=wp.a.t;have hG:∀{bs:List Nat} {w':Wo},Sc wv bs w'->PA w':=fun s=>hg.ext (hX0.trans s.ext)
 have hi0:=z02 hf (show (0:Int)<=0 by decide);obtain⟨c0,c1⟩:=z1r hi0.1 (show (0:Int)<((W.ID.length:Nat):Int) by omega);refine⟨_,_,_,_,_,_,_,_,_,_,he,Yf,fun b hb=>⟨bD Lb f 0,ze3 (hf.ext hX0) Qo Qo,Qo,?_⟩⟩;generalize Int.tmod (bD Lb f 0) ((W.ID.length:Nat):Int)=c at c0 c1 ⊢;refine⟨fun vs w2=>∃k:Nat,vs=[I (k:Int)]/\k<=2/\Sc wv [b] w2,Zq 2 0,fun wr hx _=>⟨0,rfl,Qo,s0.put hx hb⟩,?_⟩;clear he hM R0 hb;rintro i R1 cX ⟨k,he,hk,s⟩;simp only[I4,I5,true_and,and_true] at he;subst he;refine⟨fun IS Rp R4 dQ=>?_,fun _ wr hx=>⟨rfl,hX0.trans (s.step hx).ext⟩⟩;have IS:=Ot IS;have s3:=s.step R4;refine(zev (c:=c) (r0.sc0 s3) hl (hG s3)).mono ?_;rintro e1 Rx ⟨v,fJ,n1,m1,hv,hM1,bE⟩;subst hv;have s4:=s3.M' bE;have o4:=(OW.of hM1 dQ).mono s3.ext.size;refine⟨_,_,_,_,_,_,_,_,_,_,_,fJ,Qe bE dQ,fun b1 dI Rt SD cJ=>?_⟩;have s5:=s4.put SD dI;have o5:=o4.put SD dI;refine(HS (c:=c) (r0.sc0 s5) hl).mono ?_;rintro e2 S6 ⟨v,aE,n2,m2,hv,Wq,Sn⟩;subst hv;have s6:=s5.M' Sn;have o6:=o5.M' Sn;refine⟨_,_,_,_,_,_,_,_,_,_,_,aE,Qe Sn cJ,fun b2 bT=>?_⟩;refine⟨fun vs bs w2=>∃(X:Q8) (mX:MW) (n:Nat) (q:Int),bs=[]/\vs=I q::I q::Qa X mX/\zsy W c ((k:Int)==1) X q/\Sc wv [b,b1,b2] w2/\OW n wv.heap.size [b,b1,b2] w2 X mX,⟨fun g RH Sg jO=>?_,fun g SZ oZ _=>?_⟩,?_⟩
 ·have s7:=s6.put Sg bT;refine(ziy (c:=c) (r0.sc0 s7) hl (hG s7)).mono ?_;rintro e3 bB ⟨v,iU,n3,m3,hv,dZ,fK⟩;subst hv;have s8:=s7.M' fK;have o8:=(OW.of dZ jO).mono s7.ext.size;refine⟨_,_,_,_,_,_,_,_,_,_,_,iU,Qe fK jO,fun Sf aO hs6=>?_⟩;have s9:=s8.step aO;have o9:=o8.step aO;refine(EQ (c:=c) (r0.sc0 s9) hl).mono ?_;rintro e4 dA ⟨v,he4,n4,m4,hv,fH,fL⟩;subst hv;exact⟨_,_,_,_,_,_,_,_,_,_,_,he4,Qe fL hs6,fun SH jH _=>⟨_,m3,n3,_,rfl,rfl,by rw[g]; exact zx5 iv,(s9.M' fL).step jH,(o9.M' fL).step jH⟩⟩
 ·exact⟨_,m1,n1,_,rfl,rfl,by rw[g]; exact zu8 iv,s6.put oZ bT,o6.put oZ bT⟩
 clear s3 s4 s5 s6 o4 o5 o6 hM1 Wq fJ aE bE Sn R4 SD dQ cJ dI bT s cX;rintro q want l RO RW Sb RR S5 Sa RY RZ S4 dJ hs6 ⟨X,mX,n,q',-,hv,hP,s,o⟩;simp only[Qa,I4,I5,Iv,true_and,and_true] at hv;obtain⟨rfl,rfl,rfl,⟨rfl,rfl,rfl⟩,⟨rfl,rfl,rfl⟩,rfl,rfl,rfl⟩:=hv;have wx:=hP.wp;have hn:=o.own.n8 wx.a;subst hn;have lx:=zpf wx.a;have htx:=wx.a.t;have hlen:=hP.len;have hW:Qx X=true:=Ql.2 wx;have DD6:=zv5 (cs:=X.ID) wx.a.sZ;have C87:=wx.a.c2;have c1x:c<(X.ID.length:Int):=Qo;refine⟨_,fun _=>Gg o.rd lx.c lx.g lx.f,fun g=>?_,fun _=>?_⟩
 ·rw[hW] at g;simp at g
 refine⟨fun vs w2=>∃j:Nat,vs=[I (zsn X.ID j),I (j:Int)]/\j<=X.ID.length/\Sc wv [b,b1,b2] w2/\OW 8 wv.heap.size [b,b1,b2] w2 X mX,Zq 4 1,fun wr hx _=>⟨0,rfl,Ic _,s.step hx,o.step hx⟩,?_⟩;clear s o hs6;rintro sZ b3 bS hs7 ⟨j,he,hj,s,o⟩;simp only[I4,I5,true_and,and_true] at he;obtain⟨rfl,rfl⟩:=he;have hr:=He X.ID j;refine⟨fun Rr=>?_,fun Ry=>?_⟩
 ·have Rr:=Ot Rr;refine⟨o.rd.c.ix ZP Qo Rr,_,o.rd.c.f Qo Rr (j:=0) rfl,fun g=>⟨⟨Qo,Qo⟩,⟨Qo,Qo⟩,fun SH jH _=>⟨⟨j+1,?_,Qo,s.step jH,o.step jH⟩,Zi (k:=j) rfl rfl Qo⟩⟩,fun g=>⟨⟨Qo,Qo⟩,fun SZ oZ _=>⟨⟨j+1,?_,Qo,s.step oZ,o.step oZ⟩,Zi (k:=j) rfl rfl Qo⟩⟩⟩
  ·simp only[zsn];rw[C' g]; rfl
  ·simp only[zsn];rw[B' (by rw[g]; decide)]; rfl
 have Ry:=Ou Ry;have:j=X.ID.length:=Qo;subst this;refine⟨fun _ _=>o.rd.c.ix ZP c0 c1x,_,fun _ _=>o.rd.c.f c0 c1x (j:=0) rfl,fun g=>?_,fun _=>?_⟩
 ·rw[Iu,Is,A',Is] at g;rcases g with g | ⟨g1,g2⟩
  ·omega
  ·rw[hP.up g1] at g2;simp at g2
 refine⟨fun vs w2=>∃j:Nat,vs=[I (j:Int)]/\j<=12/\Sc wv [b,b1,b2] w2/\OW 8 wv.heap.size [b,b1,b2] w2 X mX,Zq 12 0,fun wr hx _=>⟨0,rfl,Ic _,s.step hx,o.step hx⟩,?_⟩;clear s o hs7 hr hj Ry;rintro t kZ hs8 ⟨j,he,hj,s,o⟩;simp only[I4,I5,true_and,and_true] at he;subst he;have rk:=r0.sc s;refine⟨fun AM2=>?_,fun _=>⟨⟨Qo,Qo⟩,fun kO Cl4 _=>⟨⟨k+1,rfl,Qo,(s.step Cl4).sub Qs⟩,Zi (k:=k) rfl rfl Qo⟩⟩⟩;have AM2:=Ot AM2;have j0:(0:Int)<=(j:Int):=Qo;have jx:(j:Int)<(X.tasks.length:Int):=Qo;have hsm:=(hP.same (j:Int) j0).back;have hup:=fun (h:(Q7 X (j:Int)).state≠0)=>zyg wx j0 Qo h
 refine⟨o.rd.t.ix QG j0 jx,_,_,_,_,_,_,_,_,_,o.rd.t (j:Int) j0 jx,fun b4 hb4=>⟨rk.t.ix QG j0 AM2,_,rk.t.f j0 AM2 (j:=2) rfl,rk.t.ix QG j0 AM2,_,rk.t.f j0 AM2 (j:=5) rfl,rk.t.ix QG j0 AM2,_,_,_,_,_,_,_,_,_,rk.t (j:Int) j0 AM2,_,fun wq=>zn4 Bk (zio { Q7 X (j:Int) with IZ:=(Q7 W (j:Int)).IZ,v:=(Q7 W (j:Int)).v } (Q7 W (j:Int))) _ _ wq,fun _ _=>o.rd.t.ix QG j0 jx,_,fun _ _=>o.rd.t.f j0 jx (j:=2) rfl,fun g _=>?_,(gi X.ID (Q7 X (j:Int)).IZ).up,fun g _=>?_,fun g=>?_,fun _=>⟨⟨Qo,Qo⟩,fun cZ CL8 _=>⟨⟨j+1,rfl,Qo,s.step CL8,o.step CL8⟩,Zi (k:=j) rfl rfl Qo⟩⟩⟩⟩
 ·obtain⟨u0,u1,_⟩:=hup (by simpa[Q7] using g);exact o.rd.c.ix ZP u0 u1
 ·obtain⟨u0,u1,_⟩:=hup (by simpa[Q7] using g);exact o.rd.c.f u0 u1 (j:=0) rfl
 ·rw[CC,hsm] at g;simp only[decide_true,Bool.not_true,Bool.false_or,A',It,IB] at g;have:=(hup g.1).2.2;rw[g.2] at this;cases this
end Go.Proofs.YtnclplgaicdapaaGreatDoor
