/- Part 14 of what the law FnFork needs. -/
import Derived.Test.YtnclplgaicdapaaGreatDoorFnForkPm
set_option linter.unusedVariables false
set_option linter.unusedSimpArgs false
set_option maxRecDepth 100000
set_option maxHeartbeats 8000000
namespace Go.Proofs.YtnclplgaicdapaaGreatDoor
open Go.RowKit
theorem zvi{W:Q7}(ha:WA W){k c d:Int}(hu:Q6 W.IE k=true)(hd:dep 3 W.IE k=d)(d1:1<=d)(c0:0<=c)(c1:c<(W.IF.length:Int)) :
  WA (Rx W k c (ZM W k c))/\T8 (Rx W k c (ZM W k c)) c k/\∀g:Int,Q6 W.IE g=true->g≠k->(gi W.IE k).parent≠g->T8 W c g->T8 (Rx W k c (ZM W k c)) c g:=by
 have hz:k≠0:=λe=>by subst e; rw[Y4] at hd; omega
 obtain⟨u0,u1,_⟩:=Q5.1 hu;have hl:=ha.gl;have hsl:=ha.sl hu;have uD:c<((gi W.IE k).IG.length:Int):=Qo
 have hpk:(gi W.IE k).parent≠k:=λe=>by
  obtain⟨_,_,_,n,e1,e2,_⟩:=Yl ha.tree hu hz;rw[e] at e2; omega
 have e:∀{i j:Int},0<=i->0<=j->Qb (Rx W k c (ZM W k c)) i j=if k=i/\c=j then ZM W k c else Qb W i j:=λhi hj=>Jw u0 u1 c0 uD hi hj
 have hT:=J5 (W:=W) (g:=k) (c:=c) (s:=ZM W k c) u0 u1
 have act:∀g:Int,(gi W.IE k).parent≠g->QV (Rx W k c (ZM W k c)) g c=QV W g c:=λg hg=>by
  refine OR (W:=W) (W':=Rx W k c (ZM W k c)) rfl hT λj hj _ _ hp=>?_
  rw[e Qo c0,C'];rintro⟨h,_⟩;exact hg (by rw[h]; exact hp)
 refine⟨ha.Rx u0 Qo,?_,λg gu gk hg h=>?_⟩
 ·unfold T8;rw[e u0 c0,E' ⟨rfl,rfl⟩,act k hpk,H6 u0 u1 u0];rfl
 ·unfold T8;have g0:=(Q5.1 gu).1;rw[e g0 c0,C' λh=>gk h.1.symm,act g hg,H6 u0 u1 g0];exact h
theorem zme{W:Q7}(ha:WA W){c d:Int}(d1:1<=d)(c0:0<=c)(c1:c<(W.IF.length:Int))(hI:∀g:Int,Q6 W.IE g=true->d<dep 3 W.IE g->T8 W c g):∀k:Nat,k<=8->
  WA (Zi W c d k)/\XS W (Zi W c d k)/\∀g:Int,Q6 W.IE g=true->d<dep 3 W.IE g\/dep 3 W.IE g=d/\g<(k:Int)->T8 (Zi W c d k) c g
 | 0,_=>⟨ha,XS.refl _,λg gu h=>hI g gu (by
   rcases h with h | h
   ·exact h
   ·have:=(Q5.1 gu).1;have:=h.2;omega)⟩
 | k+1,hk=>by
  obtain⟨a,b,ih⟩:=zme ha d1 c0 c1 hI k Qo;have hl:=a.gl;have hT:=b.g;simp only[Zi];split
  ·rename_i hc;have hu:Q6 (Zi W c d k).IE (k:Int)=true:=Q5.2 ⟨Qo,Qo,hc.1⟩;obtain⟨l1,l3,l4⟩:=zvi a hu hc.2 d1 c0 (c:=c) (by rw[b.c]; exact c1);refine⟨l1,b.trans (UW Qo Qo),λg gu h=>?_⟩
   by_cases e:g=(k:Int)
   ·subst e; exact l3
   ·have hkz:(k:Int)≠0:=λe=>by have:=hc.2; rw[e,Y4] at this; omega
    obtain⟨_,_,_,n,e1,e2,_⟩:=Yl a.tree hu hkz;refine l4 g (by rw[hT.fD]; exact gu) e (λhp=>?_) (ih g gu ?_)
    ·rw[hp,hT.dep] at e2;have:=hc.2;omega
    ·rcases h with h | h
     ·exact .inl h
     ·exact .inr ⟨h.1,by have:=h.2; omega⟩
  ·rename_i hc;refine⟨a,b,λg gu h=>ih g gu ?_⟩;rcases h with h | h
   ·exact .inl h
   ·refine .inr ⟨h.1,?_⟩
    by_cases e:g=(k:Int)
    ·subst e;exact Is ⟨by rw[hT.u]; exact(Q5.1 gu).2.2,by rw[hT.dep]; exact h.1⟩ hc
    ·have:=h.2;omega
theorem zsl{W:Q7}(ha:WA W){c:Int}(c0:0<=c)(c1:c<(W.IF.length:Int)):WA (QL W c)/\XS W (QL W c)/\∀g:Int,Q6 W.IE g=true->g≠0->T8 (QL W c) c g:=by
 have key:∀j:Nat,j<=3->WA (Yy W c j)/\XS W (Yy W c j)/\∀g:Int,Q6 W.IE g=true->3-(j:Int)<dep 3 W.IE g->T8 (Yy W c j) c g:=by
  intro j
  induction j with
  | zero=>exact λ_=>⟨ha,XS.refl _,λg gu h=>by have:=(G8 ha gu).2; omega⟩
  | succ j ih=>
   intro hj;obtain⟨a,b,h⟩:=ih Qo;have hT:=b.g;obtain⟨a2,b2,h2⟩:=zme a (c:=c) (d:=3-(j:Int)) Qo c0 (by rw[b.c]; exact c1) (λg gu hd=>h g (by rwa[hT.fD] at gu) (by rwa[hT.dep] at hd)) 8 (I8 _);refine⟨a2,b.trans b2,λg gu hd=>h2 g (by rw[hT.fD]; exact gu) ?_⟩;rw[hT.dep];have:=(Q5.1 gu).2.1;have:=ha.gl
   by_cases e:dep 3 W.IE g=3-(j:Int)
   ·exact .inr ⟨e,Qo⟩
   ·exact .inl Qo
 obtain⟨a,b,h⟩:=key 3 (I8 _);refine⟨a,b,λg gu gz=>h g gu ?_⟩;obtain⟨_,_,_,n,e1,_⟩:=Yl ha.tree gu gz;omega
theorem zht{W:Q7}(ha:WA W){c d:Int}(d1:1<=d)(c0:0<=c)(c1:c<(W.IF.length:Int)):∀k:Nat,k<=8->Bi c W (Zi W c d k)/\WA (Zi W c d k)
 | 0,_=>⟨Bi.refl _ _,ha⟩
 | k+1,hk=>by
  obtain⟨o,a⟩:=zht ha d1 c0 c1 k Qo;have hl:=a.gl;simp only[Zi];split
  ·rename_i hc;have hu:Q6 (Zi W c d k).IE (k:Int)=true:=Q5.2 ⟨Qo,Qo,hc.1⟩;exact⟨o.trans (Nj Qo Qo c0 (by rw[a.sl hu,o.len]; exact c1)),a.Rx Qo Qo⟩
  ·exact⟨o,a⟩
theorem zox{W:Q7}(ha:WA W){c:Int}(c0:0<=c)(c1:c<(W.IF.length:Int)):Bi c W (QL W c):=by
 have key:∀j:Nat,j<=3->Bi c W (Yy W c j)/\WA (Yy W c j):=by
  intro j
  induction j with
  | zero=>exact λ_=>⟨Bi.refl _ _,ha⟩
  | succ j ih=>
   intro hj;obtain⟨o,a⟩:=ih Qo;obtain⟨o2,a2⟩:=zht a (c:=c) (d:=3-(j:Int)) Qo c0 (by rw[o.len]; exact c1) 8 (I8 _);exact⟨o.trans o2,a2⟩
 exact(key 3 (I8 _)).1
structure Dm (W:Q7) (c:Int):Prop where
 on:∀k:Int,Q6 W.IE k=true->k≠0->T8 W c k
 cu:0<=(gi W.IF c).cur->(Q9 W (gi W.IF c).cur).R3=c/\ZL W (gi W.IF c).cur=true
theorem z2h{W:Q7}(wp:Je W){c:Int}(c0:0<=c)(c1:c<(W.IF.length:Int)):Dm W c:=
 ⟨λk hu hz=>(Ef wp hu c0 c1).on hz,λh=>⟨((wp.c c c0 c1).yes h).2.2.2.1,((wp.c c c0 c1).yes h).2.2.2.2.1⟩⟩
theorem Dm.oth{K:Int}{c d:Int}{W W':Q7}(h:Dm W d)(sw:SW K W)(o:Bi c W W')(d0:0<=d)(d1:d<(W.IF.length:Int))(hd:d≠c):Dm W' d:=by
 refine⟨λk hu hz=>?_,λh0=>?_⟩
 ·rw[o.g.fD] at hu;have k0:=(Q5.1 hu).1;have:=h.on k hu hz;unfold T8 at this ⊢;rw[o.e k d k0 d0 hd,o.Wb d0 hd,zjg (o.b k k0)];exact this
 ·rw[o.cp d d0 hd] at h0 ⊢;rw[Jy o.t];obtain⟨h1,h2⟩:=h.cu h0;refine⟨h1,?_⟩
  have hs:(Q9 W (gi W.IF d).cur).state=1:=by
   unfold ZL at h2;rw[A'] at h2;exact Iz h2.1
  have hu:=(sw.t _ h0 (sw.cu d d0 d1).2 (by rw[hs]; decide)).1;rw[o.line sw.a.tree hu (by rw[h1]; exact d0) (by rw[h1]; exact hd)];exact h2
theorem znb{K:Int}{W:Q7}(sw:SW K W){c:Int}(c0:0<=c)(c1:c<(W.IF.length:Int)):Bi c W (Ul W c)/\Dm (Ul W c) c:=by
 obtain⟨p1,os,hon⟩:=zsl sw.a c0 c1;have ol:=zox sw.a c0 c1;obtain⟨f,hA,_⟩:=BS p1 c0 (c:=c) (by rw[os.c]; exact c1) 8 (I8 _);have f:FC c (QL W c) (Zb (QL W c) c):=f;have hon:∀g:Int,Q6 (QL W c).IE g=true->g≠0->T8 (QL W c) c g:=λg gu gz=>hon g (by rwa[os.g.fD] at gu) gz
 have Ww:Ul W c=if Me (Zb (QL W c) c) c=true then Ry (Zb (QL W c) c) c else Zb (QL W c) c:=rfl;have hO:Bi c W (Zb (QL W c) c):=ol.trans f.o;have hFc:(Zb (QL W c) c).IF.length=W.IF.length:=hO.len;have hT:=f.o.g
 have Bm0:∀k:Int,Q6 (Zb (QL W c) c).IE k=true->k≠0->T8 (Zb (QL W c) c) c k:=λk hu hz=>by
  rw[hT.fD] at hu;have k0:=(Q5.1 hu).1;have:=hon k hu hz;unfold T8 at this ⊢;rw[f.on k c k0 c0,OR f.o.t hT λj _ _ _ _=>f.on _ c Qo c0,zjg (f.o.b k k0)];exact this
 rw[Ww];clear Ww;generalize Zb (QL W c) c=F at Bm0 hO hFc;have cF:c<(F.IF.length:Int):=by rw[hFc]; exact c1
 split
 ·refine⟨hO.trans (zmm c0 cF),Bm0,λh0=>?_⟩;rw[show gi (Ry F c).IF c=Ja (gi F.IF c) from (QG _ _ c0 cF c0).trans (E' rfl)] at h0;have h0:(0:Int)<=-1:=h0;omega
 ·rename_i hg;have hg:Me F c=false:=by simpa using hg
  refine⟨hO,Bm0,λh0=>?_⟩;unfold Me at hg;rw[Ii h0,Bool.true_and,I0] at hg;exact⟨by simpa using hg.1,by simpa using hg.2⟩
theorem zm8{K:Int}{W:Q7}(sw:SW K W)(hK:0<=K):∀c:Nat,c<=W.IF.length->∀d:Int,0<=d->d<(c:Int)->Dm (XC W c) d
 | 0,_=>λd a b=>by omega
 | c+1,hc=>λd d0 d1=>by
  obtain⟨s1,f1⟩:=KH sw hK c Qo;obtain⟨o,dm⟩:=znb s1 (c:=(c:Int)) Qo (by rw[f1.c]; omega)
  by_cases h:d=(c:Int)
  ·subst h; exact dm
  ·exact(zm8 sw hK c Qo d d0 Qo).oth s1 o d0 (by rw[f1.c]; omega) h
theorem zta{K:Int}{W:Q7}(sw:SW K W)(hK:0<=K){d:Int}(d0:0<=d)(d1:d<(W.IF.length:Int)):Dm (Qg W) d:=by
 obtain⟨s1,o1⟩:=Oq (F:=K) (K:=K+Qj) (sw.sf.mono (I3 _) (by simp only[Qj]; omega)) (I3 _) W.IF.length (I8 _);obtain⟨s2,b2⟩:=Vn s1 8 (I8 _);exact zm8 s2.w (by simp only[Qj]; omega) W.IF.length (by show W.IF.length<=(Yi (Y2 W W.IF.length) 8).IF.length; rw[b2.c,o1.c]; exact I8 _) d d0 d1
structure zpt (W:Q7) (t c:Int):Prop where
 t0:0<=t
 t1:t<12
 st:(Q9 W t).state=1
 R3:(Q9 W t).R3=c
 on:∀x∈Zc W.IE (Q9 W t).group,(Qb W x c).on=true
theorem zss{W:Q7}(ha:WA W){c:Int}(f:Nat):∀g:Int,Q6 W.IE g=true->(4-dep 3 W.IE g).toNat=f->(∀x∈Zc W.IE g,(Qb W x c).on=true)->0<=Ky W g c->zpt W (Ky W g c) c:=by
 induction f with
 | zero=>
  intro g hu hf;have:=G8 ha hu;omega
 | succ f ih=>
  intro g hu hf hp h;rw[Ng ha hu] at h ⊢
  by_cases h1:QX W g c<0
  ·rw[E' h1] at h; omega
  ·rw[C' h1] at h ⊢
   by_cases h2:QX W g c<12
   ·rw[E' h2] at h ⊢
    have hm:Zq W g c (QX W g c).toNat=true:=by
     rcases Zu (Zq W g c) (Zn W c) 20 with ⟨a,_⟩ | ⟨_,_,a,_⟩
     ·unfold QX at h1; omega
     ·exact a
    rw[Vh Qo] at hm;unfold OQ at hm;rw[show (((QX W g c).toNat:Nat):Int)=QX W g c by omega] at hm;simp only[A',It] at hm;refine⟨h,h2,hm.1.1,hm.2,?_⟩;rw[show (Q9 W (QX W g c)).group=g from hm.1.2];exact hp
   ·rw[C' h2] at h ⊢;obtain⟨k1,k2,k3,k4⟩:=H8 ha hu (g:=g) (c:=c) Qo
    have hm:Zq W g c (QX W g c).toNat=true:=by
     rcases Zu (Zq W g c) (Zn W c) 20 with ⟨a,_⟩ | ⟨_,_,a,_⟩
     ·unfold QX at h1; omega
     ·exact a
    rw[show (QX W g c).toNat=12+(QX W g c-12).toNat by omega,Ua] at hm;unfold Jf at hm;rw[show (((QX W g c-12).toNat:Nat):Int)=QX W g c-12 by omega] at hm;simp only[A',It] at hm;refine ih _ k1 Qo (λx hx=>?_) h;rw[YP ha.tree k1 k2] at hx;rcases Ij.1 hx with e | e
    ·rw[e]; exact hm.2
    ·rw[hm.1.2.2] at e; exact hp x e
theorem zs1{W:Q7}(ha:WA W){c:Int}(h12:(gi W.IF c).cur<12)(hcu:0<=(gi W.IF c).cur->(Q9 W (gi W.IF c).cur).R3=c/\ZL W (gi W.IF c).cur=true)(h:¬Qv W c<0):zpt W (Qv W c) c:=by
 unfold Qv at h ⊢;split
 ·rename_i hc;obtain⟨h1,h2⟩:=hcu hc.1;unfold ZL Vp at h2;rw[A',List.all_eq_true,h1] at h2;exact⟨hc.1,h12,Iz h2.1,h1,h2.2⟩
 ·rename_i hc;rw[C' hc] at h;exact zss ha _ 0 ha.root rfl (λx hx=>by rw[show Zc W.IE 0=[] from Zr _ _] at hx; cases hx) Qo
structure T6 (W W':Q7):Prop where
 n:W'.now=W.now
 t:W'.tasks=W.tasks
 s:∀i d:Int,(Qb W' i d).sum=(Qb W i d).sum
 g:∀i:Int,(gi W'.IE i).sum=(gi W.IE i).sum
 b:∀i:Int,(gi W'.IF i).busy=(gi W.IF i).busy
 i:∀i:Int,(gi W'.IF i).idle=(gi W.IF i).idle
 u:∀i:Int,(gi W'.IF i).up=(gi W.IF i).up
 r:∀i:Int,(gi W'.IF i).aC=(gi W.IF i).aC\/(gi W'.IF i).aC=0
theorem T6.refl(W:Q7):T6 W W:=⟨rfl,rfl,λ_ _=>rfl,λ_=>rfl,λ_=>rfl,λ_=>rfl,λ_=>rfl,λ_=>.inl rfl⟩
theorem T6.trans{A B C:Q7}(h:T6 A B)(k:T6 B C):T6 A C:=
 ⟨k.n.trans h.n,k.t.trans h.t,λi d=>(k.s i d).trans (h.s i d),λi=>(k.g i).trans (h.g i),λi=>(k.b i).trans (h.b i),λi=>(k.i i).trans (h.i i),λi=>(k.u i).trans (h.u i),λi=>by
  rcases k.r i with e | e
  ·rcases h.r i with e2 | e2
   ·exact .inl (e.trans e2)
   ·exact .inr (e.trans e2)
  ·exact .inr e⟩
theorem zwz(W:Q7){g c:Int}{s:KN}(h:s.sum=(Qb W g c).sum):T6 W (Rx W g c s):=
 ⟨rfl,rfl,λi d=>X4 (f:=λG:ZV=>(gi G.IG d).sum) W.IE g (x:={ gi W.IE g with IG:=(gi W.IE g).IG.set c.toNat s }) (X4 (f:=KN.sum) (gi W.IE g).IG c h d) i,λi=>X4 (f:=ZV.sum) W.IE g (x:={ gi W.IE g with IG:=(gi W.IE g).IG.set c.toNat s }) rfl i,λ_=>rfl,λ_=>rfl,λ_=>rfl,λ_=>.inl rfl⟩
theorem zwy(W:Q7)(g:Int)(b:JB):T6 W (RP W g b):=
 ⟨rfl,rfl,λi d=>X4 (f:=λG:ZV=>(gi G.IG d).sum) W.IE g (x:={ gi W.IE g with IQ:=b }) rfl i,λi=>X4 (f:=ZV.sum) W.IE g (x:={ gi W.IE g with IQ:=b }) rfl i,λ_=>rfl,λ_=>rfl,λ_=>rfl,λ_=>.inl rfl⟩
theorem zr7{α:Type}[Inhabited α](l:List α)(k:Int)(x:α)(i:Int):gi (l.set k.toNat x) i=gi l i\/gi (l.set k.toNat x) i=x:=by
 unfold gi;simp only[List.getD_eq_getElem?_getD,List.getElem?_set];split
 ·split
  ·exact .inr rfl
  ·rename_i e hl;refine .inl ?_;rw[show l[i.toNat]? = none from List.getElem?_eq_none_iff.2 Qo]
 ·exact .inl rfl
theorem zkw(W:Q7)(c:Int):T6 W (Ry W c):=
 ⟨rfl,rfl,λ_ _=>rfl,λ_=>rfl,λi=>X4 (f:=MB.busy) W.IF c (x:=Ja (gi W.IF c)) rfl i,λi=>X4 (f:=MB.idle) W.IF c (x:=Ja (gi W.IF c)) rfl i,λi=>X4 (f:=MB.up) W.IF c (x:=Ja (gi W.IF c)) rfl i,λi=>by
  rcases zr7 W.IF c (Ja (gi W.IF c)) i with e | e
  ·exact .inl (by show (gi (W.IF.set c.toNat (Ja (gi W.IF c))) i).aC=_; rw[e])
  ·exact .inr (by show (gi (W.IF.set c.toNat (Ja (gi W.IF c))) i).aC=0; rw[e]; rfl)⟩
theorem NK(W:Q7)(c d:Int):∀k:Nat,T6 W (Zi W c d k)
 | 0=>T6.refl _
 | k+1=>by
  simp only[Zi];split
  ·exact(NK W c d k).trans (zwz _ rfl)
  ·exact NK W c d k
theorem Ek(W:Q7)(c:Int):∀j:Nat,T6 W (Yy W c j)
 | 0=>T6.refl _
 | j+1=>(Ek W c j).trans (NK _ _ _ _)
theorem zd6(W:Q7):∀c:Nat,T6 W (Y2 W c)
 | 0=>T6.refl _
 | c+1=>(zd6 W c).trans (Ek (Y2 W c) (c:Int) 3)
theorem NI(W:Q7)(k:Int):∀c:Nat,T6 W (ZZ W k c)
 | 0=>T6.refl _
 | c+1=>by
  simp only[ZZ];split
  ·exact(NI W k c).trans (zwy _ _ _)
  ·exact NI W k c
theorem NJ(W:Q7):∀k:Nat,T6 W (Yi W k)
 | 0=>T6.refl _
 | k+1=>by
  simp only[Yi];split
  ·exact(NJ W k).trans (NI _ _ _)
  ·exact NJ W k
theorem Ej(W:Q7)(c:Int):∀k:Nat,T6 W (QQ W c k)
 | 0=>T6.refl _
 | k+1=>by
  simp only[QQ];split
  ·exact(Ej W c k).trans (zwz _ rfl)
  ·exact Ej W c k
theorem ztg(W:Q7)(c:Int):T6 W (Ul W c):=by
 have h:=(Ek W c 3).trans (Ej (QL W c) c 8);unfold Ul;split
 ·exact h.trans (zkw _ _)
 ·exact h
theorem zid(W:Q7):∀c:Nat,T6 W (XC W c)
 | 0=>T6.refl _
 | c+1=>(zid W c).trans (ztg (XC W c) (c:Int))
theorem zd7(W:Q7):T6 W (Qg W):=((zd6 W W.IF.length).trans (NJ (Y2 W W.IF.length) 8)).trans (zid (Ll (Y2 W W.IF.length)) W.IF.length)
structure RB (S:Int) (W:Q7):Prop where
 n:W.now<=50000000000000000
 t:∀t:Int,0<=t->t<12->0<=(Q9 W t).sum/\(Q9 W t).sum<=S/\0<=(Q9 W t).used/\(Q9 W t).used<=S
 s:∀k c:Int,Q6 W.IE k=true->0<=c->c<(W.IF.length:Int)->0<=(Qb W k c).sum/\(Qb W k c).sum<=S
 g:∀k:Int,Q6 W.IE k=true->0<=(gi W.IE k).sum/\(gi W.IE k).sum<=S
 c:∀c:Int,0<=c->c<(W.IF.length:Int)->0<=(gi W.IF c).busy/\(gi W.IF c).busy<=S/\0<=(gi W.IF c).idle/\(gi W.IF c).idle<=50000000000000000/\0<=(gi W.IF c).aC/\(gi W.IF c).aC<=149
theorem RB.sum{S:Int}{W W':Q7}(h:RB S W)(k:T6 W W')(hT:Z1 W.IE W'.IE)(hl:W'.IF.length=W.IF.length):RB S W':=by
 refine⟨by rw[k.n]; exact h.n,λt a b=>by rw[Jy k.t]; exact h.t t a b,λi c u a b=>?_,λi u=>?_,λc a b=>?_⟩
 ·rw[hT.fD] at u;rw[hl] at b;rw[k.s]; exact h.s i c u a b
 ·rw[hT.fD] at u;rw[k.g]; exact h.g i u
 ·rw[hl] at b;have:=h.c c a b;rw[k.b,k.i];refine⟨this.1,this.2.1,this.2.2.1,this.2.2.2.1,?_⟩;rcases k.r c with e | e
  ·rw[e]; exact this.2.2.2.2
  ·rw[e]; exact⟨Qo,Qo⟩
theorem z0g{W:Q7}(wp:Je W)(r:Lj W):RB Ql W:=by
 have hl:=wp.a.gl;have ht:=wp.a.t;refine⟨r.n,λt a b=>?_,λk c u a b=>?_,λk u=>?_,λc a b=>?_⟩
 ·have h:=r.t t a Qo;rcases wp.t t a b with hz | ⟨_,hx⟩
  ·rw[hz.2]; decide
  ·exact⟨(Ys.1 hx.s).1,h.2.1,(Ys.1 hx.u).1,h.2.2⟩
 ·obtain⟨u0,u1,_⟩:=Q5.1 u;have hs:=wp.a.sl u;exact⟨(Ys.1 (Ef wp u a b).s).1,(r.s k c u0 u1 a Qo).2.2⟩
 ·obtain⟨u0,u1,hg⟩:=wp.a.u u;exact⟨(Ys.1 hg.s).1,r.g k u0 Qo⟩
 ·have hc:=wp.c c a b;have hr:=r.c c a b;refine⟨(Ys.1 hc.b).1,hr.1,(Ys.1 hc.i).1,hr.2,?_⟩
  by_cases h:(gi W.IF c).cur<0
  ·rw[hc.no h]; decide
  ·have:=hc.yes Qo; omega
theorem znd{b:JB}(h:V4 b){c:Int}(c0:0<=c)(c1:c<(b.locals.length:Int)):V4 (Yd b c).1/\(Yd b c).1.locals.length=b.locals.length/\(Yd b c).1.IZ=b.IZ:=by
 unfold Yd;split
 ·exact⟨h,rfl,rfl⟩
 ·rename_i hn;have hm:=z8 h.p1;have he:=h.each c c0 c1;have hs:=GR b.locals c (ZH 20 b.RJ) c0 c1 b.locals.length;rw[E' c1] at hs;have p2:=h.p2;have su:=h.sum;have dl:=h.dl;refine⟨⟨h.q1,h.q2,?_,?_,?_,?_,?_,h.s1,h.s2,λd d0 d1=>?_,?_⟩,Qs,rfl⟩
  ·simp only[H']; exact h.l1
  ·simp only[H']; exact h.l2
  ·simp only[H']; exact h.dl
  ·show 0<=b.RJ-ZH 20 b.RJ; omega
  ·show b.RJ-ZH 20 b.RJ<=b.IZ; omega
  ·simp only[H'] at d1;have hd:=h.each d d0 d1;show 0<=gi (b.locals.set c.toNat (ZH 20 b.RJ)) d/\gi (b.locals.set c.toNat (ZH 20 b.RJ)) d<=b.IZ/\(gi (b.Rz.set c.toNat (ZH 20 b.RJ==0)) d=true->gi (b.locals.set c.toNat (ZH 20 b.RJ)) d=0/\b.RJ-ZH 20 b.RJ=0);rw[QG _ _ c0 c1 d0,QG _ _ c0 Qo d0];have hz:ZH 20 b.RJ=0->b.RJ=0:=λe=>by unfold ZH at e; split at e <;> omega
   by_cases e:c=d
   ·subst e;rw[E' rfl,E' rfl];refine⟨hm.1,Qo,λhd0=>?_⟩;have e0:ZH 20 b.RJ=0:=Iz hd0;have:=hz e0;exact⟨e0,Qo⟩
   ·rw[C' e,C' e];refine⟨hd.1,hd.2.1,λhd0=>?_⟩;have:=hd.2.2 hd0;exact⟨this.1,Qo⟩
  ·show b.RJ-ZH 20 b.RJ+b.SB+Vs (b.locals.set c.toNat (ZH 20 b.RJ)) (b.locals.set c.toNat (ZH 20 b.RJ)).length=b.IZ;rw[H',hs];omega
theorem zh9{b:JB}(h:V4 b){c n:Int}(c0:0<=c)(c1:c<(b.locals.length:Int)):V4 (XO b c n).1/\(XO b c n).1.locals.length=b.locals.length/\(XO b c n).1.IZ=b.IZ:=by
 unfold XO;split
 ·exact⟨h,rfl,rfl⟩
 ·rename_i hn;have hs:=GR b.locals c (gi b.locals c-n) c0 c1 b.locals.length;rw[E' c1] at hs;have hnn:=(zkv (λd d0 d1=>(h.each d d0 d1).1) c0 b.locals.length (I8 _)).2 c1;have p1:=h.p1;have su:=h.sum;have s1:=h.s1;have dl:=h.dl;have hn1:¬n<1:=λe=>hn (.inl e)
  have hn2:¬n>gi b.locals c:=λe=>hn (.inr e)
  refine⟨⟨h.q1,h.q2,?_,?_,?_,h.p1,h.p2,?_,?_,λd d0 d1=>?_,?_⟩,Qs,rfl⟩
  ·simp only[H']; exact h.l1
  ·simp only[H']; exact h.l2
  ·simp only[H']; exact h.dl
  ·show 0<=b.SB+n; omega
  ·show b.SB+n<=b.IZ; omega
  ·simp only[H'] at d1;have hd:=h.each d d0 d1;show 0<=gi (b.locals.set c.toNat (gi b.locals c-n)) d/\gi (b.locals.set c.toNat (gi b.locals c-n)) d<=b.IZ/\(gi b.Rz d=true->gi (b.locals.set c.toNat (gi b.locals c-n)) d=0/\b.RJ=0);rw[QG _ _ c0 c1 d0]
   by_cases e:c=d
   ·subst e;rw[E' rfl];exact⟨Qo,Qo,λhd0=>by have:=(hd.2.2 hd0).1; omega⟩
   ·rw[C' e];exact hd
  ·show b.RJ+(b.SB+n)+Vs (b.locals.set c.toNat (gi b.locals c-n)) (b.locals.set c.toNat (gi b.locals c-n)).length=b.IZ;rw[H',hs];omega
def zfq(b:JB)(c:Int):Nat->Nat
 | 0=>0
 | d+1=>zfq b c d+if (d:Int)≠c/\gi b.locals (d:Int)>0 then 1 else 0
def zpn(b:JB)(c:Int):Nat:=if gi b.Rz c=true then 0 else 1
def Jv(b:JB)(c:Int):Nat:=9*zfq b c 4+zpn b c
theorem zqd(b:JB)(c:Int):∀n:Nat,zfq b c n<=n
 | 0=>I8 _
 | n+1=>by
  have:=zqd b c n;simp only[zfq]
  split <;> omega
theorem zzb(b:JB)(c:Int):Jv b c<=37:=by
 have:=zqd b c 4;unfold Jv zpn
 split <;> omega
def zgw(W:Q7)(c:Int):Nat->Nat
 | 0=>0
 | k+1=>zgw W c k+Jv (gi W.IE (k:Int)).IQ c
def LK(W:Q7)(c:Int):Nat:=zgw W c 8
theorem Hg{W W':Q7}{c:Int}(h:∀k:Nat,k<8->Jv (gi W'.IE (k:Int)).IQ c<=Jv (gi W.IE (k:Int)).IQ c):∀k:Nat,k<=8->zgw W' c k<=zgw W c k
 | 0,_=>I8 _
 | k+1,hk=>by
  have:=Hg h k Qo;have:=h k Qo;simp only[zgw];omega
theorem zqu{W W':Q7}{c:Int}(h:∀k:Nat,k<8->Jv (gi W'.IE (k:Int)).IQ c<=Jv (gi W.IE (k:Int)).IQ c){j:Nat}(hj:Jv (gi W'.IE (j:Int)).IQ c<Jv (gi W.IE (j:Int)).IQ c):∀k:Nat,j<k->k<=8->zgw W' c k<zgw W c k
 | 0,h0,_=>Is h0 (Nat.not_lt_zero j)
 | k+1,iP,hk=>by
  have h1:=Hg h k Qo;have h2:=h k Qo;simp only[zgw]
  by_cases e:j=k
  ·subst e; omega
  ·have:=zqu h hj k Qo Qo;omega
theorem zzd(W:Q7)(c:Int):LK W c<=296:=by
 have key:∀k:Nat,zgw W c k<=37*k:=by
  intro k
  induction k with
  | zero=>exact I8 _
  | succ k ih=>
   have:=zzb (gi W.IE (k:Int)).IQ c;simp only[zgw];omega
 exact key 8
theorem Ha{b b':JB}{c:Int}(h:∀d:Nat,(d:Int)≠c->gi b'.locals (d:Int)=gi b.locals (d:Int)):∀n:Nat,zfq b' c n=zfq b c n
 | 0=>rfl
 | n+1=>by
  simp only[zfq];rw[Ha h n]
  by_cases e:(n:Int)=c
  ·simp[e]
  ·rw[h n e]
theorem zl2{b b':JB}{c:Int}{e:Nat}(he:(e:Int)≠c)(h0:gi b'.locals (e:Int)=0)(h1:gi b.locals (e:Int)>0)(h:∀d:Nat,d≠e->gi b'.locals (d:Int)=gi b.locals (d:Int)):∀n:Nat,zfq b' c n+(if e<n then 1 else 0)=zfq b c n
 | 0=>rfl
 | n+1=>by
  have ih:=zl2 he h0 h1 h n;simp only[zfq]
  by_cases hn:n=e
  ·subst hn;rw[C' (Nat.lt_irrefl n)] at ih;rw[E' (Nat.lt_succ_self n),C' (by rintro⟨_,h⟩; omega),E' ⟨he,h1⟩];omega
  ·rw[h n hn];generalize (if (n:Int)≠c/\gi b.locals (n:Int)>0 then 1 else 0)=y
   by_cases IU:e<n
   ·rw[E' IU] at ih;rw[E' Qo];omega
   ·rw[C' IU] at ih;rw[C' Qo];omega
theorem zv5{b:JB}(h:V4 b){c:Int}{e:Nat}(e1:(e:Int)<(b.locals.length:Int))(hp:gi b.locals (e:Int)>0):Jv (Y5 b (e:Int)) c<=Jv b c:=by
 have hl:=h.l2
 have SI:∀d:Nat,gi (Y5 b (e:Int)).locals (d:Int)=if e=d then 0 else gi b.locals (d:Int):=λd=>by
  show gi (b.locals.set (e:Int).toNat 0) (d:Int)=_;rw[QG _ _ Qo e1 Qo]
  by_cases h:e=d
  ·subst h; simp
  ·rw[C' h,C' Qo]
 unfold Jv
 by_cases hc:(e:Int)=c
 ·have h1:=Ha (b:=b) (b':=Y5 b (e:Int)) (c:=c) (λd hd=>by rw[SI d,C' (λh=>hd (by rw[<-h]; exact hc))]) 4
  have hw:gi b.Rz c=false:=by
   cases hd:gi b.Rz c with
   | false=>rfl
   | true=>
    have:=((h.each c Qo Qo).2.2 hd).1;rw[<-hc] at this; omega
  rw[h1];unfold zpn;rw[hw]
  split <;> simp
 ·have h1:=zl2 (b:=b) (b':=Y5 b (e:Int)) (c:=c) hc (by rw[SI e,E' rfl]) hp (λd hd=>by rw[SI d,C' (λh=>hd h.symm)]) 4;rw[E' Qo] at h1;have:zpn (Y5 b (e:Int)) c<=1:=by unfold zpn; split <;> omega
  omega
theorem zv6{b:JB}{c:Int}(c0:0<=c)(c1:c<(b.locals.length:Int))(hdl:b.Rz.length=b.locals.length)(hw:gi b.Rz c=false):Jv (Yd b c).1 c<=Jv b c/\((Yd b c).2=2->Jv (Yd b c).1 c<Jv b c)/\((Yd b c).2≠2->gi (Yd b c).1.Rz c=false):=by
 unfold Yd;split
 ·exact⟨I8 _,λh=>(by cases h),λ_=>hw⟩
 ·have h1:=Ha (b:=b) (b':=⟨b.IZ,b.RJ-ZH 20 b.RJ,b.SB,b.locals.set c.toNat (ZH 20 b.RJ),b.Rz.set c.toNat (ZH 20 b.RJ==0)⟩) (c:=c) (λd hd=>by
   show gi (b.locals.set c.toNat (ZH 20 b.RJ)) (d:Int)=_;rw[QG _ _ c0 c1 Qo,C' λh=>hd h.symm]) 4
  have hd:gi (b.Rz.set c.toNat (ZH 20 b.RJ==0)) c=(ZH 20 b.RJ==0):=by rw[QG _ _ c0 Qo c0,E' rfl]
  unfold Jv;rw[h1];unfold zpn;rw[hw];simp only[hd]
  by_cases hm:ZH 20 b.RJ=0
  ·rw[E' (show (ZH 20 b.RJ==0)=true by rw[hm]; rfl),C' Qd];exact⟨Qo,λ_=>by omega,λh=>Is (E' hm) h⟩
  ·have hb:(ZH 20 b.RJ==0)=false:=by simpa using hm
   rw[hb];exact⟨I8 _,λh=>(by rw[C' hm] at h; cases h),λ_=>rfl⟩
theorem zs0{b:JB}{c n:Int}(c0:0<=c)(c1:c<(b.locals.length:Int)):Jv (XO b c n).1 c=Jv b c:=by
 unfold XO;split
 ·rfl
 ·unfold Jv zpn
  rw[Ha (b:=b) (c:=c) (λd hd=>by
   show gi (b.locals.set c.toNat (gi b.locals c-n)) (d:Int)=_;rw[QG _ _ c0 c1 Qo,C' λh=>hd h.symm]) 4]
theorem zhu{F K:Int}{W:Q7}(h:SF F K W){k:Int}(hu:Q6 W.IE k=true)(hq:(gi W.IE k).IQ.IZ≠0)(c:Int):∀d:Nat,d<=W.IF.length->(∀j:Int,0<=j->Jv (gi (ZZ W k d).IE j).IQ c<=Jv (gi W.IE j).IQ c)
 | 0,_=>λ_ _=>I8 _
 | d+1,hd=>by
  have ih:=zhu h hu hq c d Qo;obtain⟨a,b,q⟩:=Gk h hu hq d Qo;simp only[ZZ];split
  ·rename_i hc;have hu':Q6 (ZZ W k d).IE k=true:=by rw[b.g.fD]; exact hu
   obtain⟨u0,u1,hg⟩:=a.w.a.u hu';have hb:=hg.IQ q;have hl:=a.w.a.gl;intro j hj;show Jv (gi (Rf _ k _).IE j).IQ c<=_;rw[Yz u0 Qo hj];split
   ·rename_i e;subst e;exact IB (zv5 hb.1 (by rw[hb.2.1,b.c]; omega) hc.1) (ih k hj)
   ·exact ih j hj
  ·exact ih
theorem zhv{F K:Int}{W:Q7}(h:SF F K W)(c:Int):∀k:Nat,k<=8->∀j:Int,0<=j->Jv (gi (Yi W k).IE j).IQ c<=Jv (gi W.IE j).IQ c
 | 0,_=>λ_ _=>I8 _
 | k+1,hk=>by
  have ih:=zhv h c k Qo;obtain⟨a,b⟩:=Vn h k Qo;have hl:=a.w.a.gl;simp only[Yi];split
  ·rename_i hc;exact λj hj=>IB (zhu a (Q5.2 ⟨Qo,Qo,hc.1⟩) hc.2 c _ (I8 _) j hj) (ih j hj)
  ·exact ih
theorem zrr{K:Int}{W:Q7}(sw:SW K W){c:Int}(c0:0<=c)(c1:c<(W.IF.length:Int))(i:Int)(hi:0<=i):(gi (Ul W c).IE i).IQ=(gi W.IE i).IQ:=(znb sw c0 c1).1.b i hi
theorem zg8{K:Int}{W:Q7}(sw:SW K W)(hK:0<=K)(i:Int)(hi:0<=i):∀c:Nat,c<=W.IF.length->(gi (XC W c).IE i).IQ=(gi W.IE i).IQ
 | 0,_=>rfl
 | c+1,hc=>by
  obtain⟨s1,f1⟩:=KH sw hK c Qo;rw[show XC W (c+1)=Ul (XC W c) (c:Int) from rfl,zrr s1 Qo (by rw[f1.c]; omega) i hi,zg8 sw hK i hi c Qo]
theorem zoz{K:Int}{W:Q7}(sw:SW K W)(hK:0<=K)(c:Int):LK (Qg W) c<=LK W c:=by
 obtain⟨s1,o1⟩:=Oq (F:=K) (K:=K+Qj) (sw.sf.mono (I3 _) (by simp only[Qj]; omega)) (I3 _) W.IF.length (I8 _);obtain⟨s2,b2⟩:=Vn s1 8 (I8 _);refine Hg (λk hk=>?_) 8 (I8 _);have h1:(gi (Qg W).IE (k:Int)).IQ=(gi (Yi (Y2 W W.IF.length) 8).IE (k:Int)).IQ:=zg8 s2.w (by simp only[Qj]; omega) (k:Int) Qo W.IF.length (by show W.IF.length<=(Yi (Y2 W W.IF.length) 8).IF.length; rw[b2.c,o1.c]; exact I8 _);rw[h1];have h2:=zhv s1 c 8 (I8 _) (k:Int) Qo;rw[o1.b (k:Int) Qo] at h2;exact h2
def X6(W:Q7)(t:Int):List Int:=Zc W.IE (Q9 W t).group++[0]
def zae(W:Q7)(c g:Int):Q7×Bool:=if (gi W.IE g).IQ.IZ=0 then (W,true) else (RP W g (Yd (gi W.IE g).IQ c).1,decide ((Yd (gi W.IE g).IQ c).2≠2))
def zih(c:Int):List Int->Q7->Q7×Bool
 | [],W=>(W,true)
 | g::l,W=>if (zae W c g).2=true then zih c l (zae W c g).1 else ((zae W c g).1,false)
def zmj(W:Q7)(c g n:Int):Int:=if (gi W.IE g).IQ.IZ>0 then ZH n (gi (gi W.IE g).IQ.locals c) else n
def zc3(W:Q7)(c:Int):List Int->Int->Int
 | [],n=>n
 | g::l,n=>zc3 W c l (zmj W c g n)
def j8(W:Q7)(c n g:Int):KN:={ Qb W g c with v:=if g≠0 then (Qb W g c).v+Zf n (Qb W g c).w else (Qb W g c).v,sum:=(Qb W g c).sum+n }
def zha(W:Q7)(c n g:Int):JB:=if (gi W.IE g).IQ.IZ>0 then (ZK (gi W.IE g).IQ ⟨2,c,n⟩).1 else (gi W.IE g).IQ
def G4(W:Q7)(c n g:Int):Q7:=Rx W g c (j8 W c n g)
def NS(W:Q7)(c n g:Int):ZV:={ gi (G4 W c n g).IE g with sum:=(gi W.IE g).sum+n }
def zbf(W:Q7)(c n g:Int):Q7:=RP (Rf (G4 W c n g) g (NS W c n g)) g (zha W c n g)
def zi9(c n:Int):List Int->Q7->Q7
 | [],W=>W
 | g::l,W=>zi9 c n l (zbf W c n g)
def G5(W:Q7)(t n:Int):Kf:={ Q9 W t with v:=(Q9 W t).v+Zf n (Qf (Q9 W t).nice),sum:=(Q9 W t).sum+n,used:=(Q9 W t).used+n }
def zp4(W:Q7)(c n:Int):MB:={ gi W.IF c with busy:=(gi W.IF c).busy+n,aC:=(gi W.IF c).aC+n }
def PY(W:Q7)(c t n:Int):Q7:=S8 (zi9 c n (X6 W t) (IV W t (G5 W t n))) c (zp4 W c n)
def YJ(W:Q7)(c t:Int):MB:=if t≠(gi W.IF c).cur\/(gi W.IF c).aC>=50 then { gi W.IF c with cur:=t,aC:=0 } else gi W.IF c
def Xl(W:Q7)(c t:Int):Q7:=S8 W c (YJ W c t)
def Gl(W:Q7)(c n:Int):MB:={ gi W.IF c with idle:=(gi W.IF c).idle+n }
def Xd(W:Q7)(c:Int):Q7×Bool:=zih c (X6 W (Qv W c)) (Xl W c (Qv W c))
def Vi(W:Q7)(c left:Int):Int:=zc3 (Xd W c).1 c (X6 W (Qv W c)) left
def FT(W:Q7)(c left:Int):Q7×Int:=
 if (Xd W c).2=true then (Qg (PY (Xd W c).1 c (Qv W c) (Vi W c left)),left-Vi W c left) else (Qg (Ry (Xd W c).1 c),left)
def zdt(c:Int):Nat->Q7->Int->Q7
 | 0,W,_=>W
 | f+1,W,left=>if left<=0 then Qg W else if Qv W c<0 then Qg (Ry (S8 W c (Gl W c left)) c) else zdt c f (FT W c left).1 (FT W c left).2
structure ztw (K c:Int) (W W':Q7):Prop where
 sw:SW K W'
 o:Td W W'
 q:∀i:Int,0<=i->(gi W'.IE i).IQ.IZ=(gi W.IE i).IQ.IZ
 l:∀i:Int,0<=i->gi (gi W.IE i).IQ.locals c>0->gi (gi W'.IE i).IQ.locals c>0
 p:∀i:Int,0<=i->Jv (gi W'.IE i).IQ c<=Jv (gi W.IE i).IQ c
 su:T6 W W'
theorem ztw.refl{K c:Int}{W:Q7}(h:SW K W):ztw K c W W:=⟨h,Td.refl _,λ_ _=>rfl,λ_ _ h=>h,λ_ _=>I8 _,T6.refl _⟩
theorem ztw.trans{K c:Int}{A B C:Q7}(h:ztw K c A B)(k:ztw K c B C):ztw K c A C:=⟨k.sw,h.o.trans k.o,λi hi=>(k.q i hi).trans (h.q i hi),λi hi g=>k.l i hi (h.l i hi g),λi hi=>IB (k.p i hi) (h.p i hi),h.su.trans k.su⟩
theorem zth{b:JB}(h:V4 b){c:Int}(c0:0<=c)(c1:c<(b.locals.length:Int)):(gi b.locals c>0->(Yd b c).1=b)/\((Yd b c).2≠2->gi (Yd b c).1.locals c>0):=by
 unfold Yd;split
 ·rename_i hp;exact⟨λ_=>rfl,λ_=>hp⟩
 ·rename_i hn;refine⟨λh=>Is h hn,λh2=>?_⟩;show gi (b.locals.set c.toNat (ZH 20 b.RJ)) c>0;rw[QG _ _ c0 c1 c0,E' rfl];have hm:=z8 h.p1
  by_cases e:ZH 20 b.RJ=0
  ·exact Is (E' e) h2
  ·omega
theorem zw3{K c:Int}{W:Q7}(sw:SW K W)(c0:0<=c)(c1:c<(W.IF.length:Int)){g:Int}(hu:Q6 W.IE g=true)(hd:(gi W.IE g).IQ.IZ≠0->gi (gi W.IE g).IQ.Rz c=false) :
  ztw K c W (zae W c g).1/\((zae W c g).2=true->((gi W.IE g).IQ.IZ≠0->gi (gi (zae W c g).1.IE g).IQ.locals c>0)/\∀i:Int,0<=i->((gi W.IE i).IQ.IZ≠0->gi (gi W.IE i).IQ.Rz c=false)->(gi W.IE i).IQ.IZ≠0->gi (gi (zae W c g).1.IE i).IQ.Rz c=false)
   /\ ((zae W c g).2=false->Jv (gi (zae W c g).1.IE g).IQ c<Jv (gi W.IE g).IQ c):=by
 obtain⟨u0,u1,hg⟩:=sw.a.u hu;have cP:=sw.a.gl;unfold zae;split
 ·rename_i hq;exact⟨ztw.refl sw,λ_=>⟨λh=>Is hq h,λi _ h h2=>h h2⟩,λh=>by cases h⟩
 ·rename_i hq;obtain⟨hb,hbl,_⟩:=hg.IQ hq;have tP:c<((gi W.IE g).IQ.locals.length:Int):=Qo;obtain⟨cN,hl2,hq2⟩:=znd hb c0 tP;obtain⟨p1,p2,p3⟩:=zv6 c0 tP hb.dl (hd hq);obtain⟨l1,l2⟩:=zth hb c0 tP;have ha:=sw.a.RP (g:=g) hu hq cN (by rw[hl2]; exact hbl) hq2;have e:∀i:Int,0<=i->gi (RP W g (Yd (gi W.IE g).IQ c).1).IE i=if g=i then { gi W.IE g with IQ:=(Yd (gi W.IE g).IQ c).1 } else gi W.IE i:=λi hi=>Yz u0 Qo hi
  have ob:=Ni (W:=W) (b:=(Yd (gi W.IE g).IQ c).1) u0 Qo;refine⟨⟨(sw.sf.BK6 ob ha).w,ob,λi hi=>?_,λi hi h=>?_,λi hi=>?_,zwy _ _ _⟩,λh=>?_,λh=>?_⟩
  ·show (gi (RP W g _).IE i).IQ.IZ=_;rw[e i hi]; split
   ·rename_i e; subst e; exact hq2
   ·rfl
  ·show gi (gi (RP W g _).IE i).IQ.locals c>0;rw[e i hi]; split
   ·rename_i e; subst e;show gi (Yd (gi W.IE g).IQ c).1.locals c>0;rw[l1 h]; exact h
   ·exact h
  ·show Jv (gi (RP W g _).IE i).IQ c<=_;rw[e i hi]; split
   ·rename_i e; subst e; exact p1
   ·exact I8 _
  ·have h:(Yd (gi W.IE g).IQ c).2≠2:=Ot h;refine⟨λ_=>?_,λi hi h1 h2=>?_⟩
   ·show gi (gi (RP W g _).IE g).IQ.locals c>0;rw[e g u0,E' rfl];exact l2 h
   ·show gi (gi (RP W g _).IE i).IQ.Rz c=false;rw[e i hi]; split
    ·rename_i e; subst e; exact p3 h
    ·exact h1 h2
  ·have h:(Yd (gi W.IE g).IQ c).2=2:=Ir λhn=>Ou h hn
   show Jv (gi (RP W g _).IE g).IQ c<_;rw[e g u0,E' rfl];exact p2 h
theorem zw4{K c:Int}(c0:0<=c):∀(l:List Int) {W:Q7},SW K W->c<(W.IF.length:Int)->(∀g∈l,Q6 W.IE g=true)->(∀g∈l,(gi W.IE g).IQ.IZ≠0->gi (gi W.IE g).IQ.Rz c=false)->
  ztw K c W (zih c l W).1/\((zih c l W).2=true->∀g∈l,(gi W.IE g).IQ.IZ≠0->gi (gi (zih c l W).1.IE g).IQ.locals c>0)/\((zih c l W).2=false->∃g∈l,Jv (gi (zih c l W).1.IE g).IQ c<Jv (gi W.IE g).IQ c)
 | [],W,sw,_,_,_=>⟨ztw.refl sw,λ_ g hg=>(by cases hg),λh=>by cases h⟩
 | g::l,W,sw,c1,hu,hd=>by
  obtain⟨a,b,d⟩:=zw3 sw c0 c1 (hu g Ia) (hd g Ia);simp only[zih]
  by_cases h2:(zae W c g).2=true
  ·rw[E' h2];obtain⟨b1,b2⟩:=b h2;have h0:∀x∈l,0<=x:=λx hx=>(Q5.1 (hu x (I2 _ hx))).1
   obtain⟨a',b',d'⟩:=zw4 c0 l (W:=(zae W c g).1) a.sw (by rw[a.o.c]; exact c1) (λx hx=>by rw[a.o.g.fD]; exact hu x (I2 _ hx)) λx hx hq=>by
    rw[a.q x (h0 x hx)] at hq;exact b2 x (h0 x hx) (hd x (I2 _ hx)) hq
   refine⟨a.trans a',λh x hx hq=>?_,λh=>?_⟩
   ·rcases Ij.1 hx with e | e
    ·subst e;exact a'.l x (Q5.1 (hu x Ia)).1 (b1 hq)
    ·exact b' h x e (by rw[a.q x (h0 x e)]; exact hq)
   ·obtain⟨x,hx,IU⟩:=d' h;exact⟨x,I2 _ hx,Nat.lt_of_lt_of_le IU (a.p x (h0 x hx))⟩
  ·rw[C' h2];exact⟨a,λh=>(by cases h),λ_=>⟨g,Ia,d (by simpa using h2)⟩⟩
theorem zhp{W:Q7}{c:Int}:∀(l:List Int) (n:Int),1<=n->(∀g∈l,(gi W.IE g).IQ.IZ>0->gi (gi W.IE g).IQ.locals c>0)->1<=zc3 W c l n/\zc3 W c l n<=n
 | [],n,h,_=>⟨h,I3 _⟩
 | g::l,n,h,hl=>by
  simp only[zc3]
  have hm:1<=zmj W c g n/\zmj W c g n<=n:=by
   unfold zmj;split
   ·rename_i hq;have:=hl g Ia hq;unfold ZH
    split <;> omega
   ·exact⟨h,I3 _⟩
  have:=zhp l (zmj W c g n) hm.1 λx hx=>hl x (I2 _ hx)
  omega
theorem Hp(n w:Int)(h0:0<=n)(h1:n<=100):0<=Zf n w/\Zf n w<=Qj:=by
 by_cases h:1<=w/\w<=20
 ·rw[P7 h0 Qo h.1 h.2];have hs:=zd5 h.1 h.2;refine⟨Int.mul_nonneg h0 Qo,?_⟩
  calc n*zic w<=100*zic w:=Int.mul_le_mul_of_nonneg_right h1 Qo
   _<=100*232792560:=Int.mul_le_mul_of_nonneg_left hs.2 Qd
   _<=Qj:=Qd
 ·rw[Hq Qo]; exact⟨I3 _,Qd⟩
theorem zrp{b:JB}(h:V4 b){c n:Int}(c0:0<=c)(c1:c<(b.locals.length:Int)):V4 (ZK b ⟨2,c,n⟩).1/\(ZK b ⟨2,c,n⟩).1.locals.length=b.locals.length/\(ZK b ⟨2,c,n⟩).1.IZ=b.IZ/\Jv (ZK b ⟨2,c,n⟩).1 c=Jv b c:=by
 have e:ZK b ⟨2,c,n⟩=XO b c n:=by
  unfold ZK;rw[C' (show ¬(2:Int)=4 by decide),C' (by rw[Qu.2 (by show 0<=c/\c<=_; omega)]; decide),C' (show ¬(2:Int)=1 by decide),E' rfl]
 rw[e];obtain⟨a,b',d⟩:=zh9 h (n:=n) c0 c1;exact⟨a,b',d,zs0 c0 c1⟩
structure zxc (K S c n:Int) (W W':Q7):Prop where
 sw:SW K W'
 rb:RB S W'
 now:W'.now=W.now
 t:W'.tasks=W.tasks
 cp:W'.IF=W.IF
 g:Z1 W.IE W'.IE
 p:∀i:Int,0<=i->Jv (gi W'.IE i).IQ c=Jv (gi W.IE i).IQ c
theorem zn4{K S c n:Int}{W:Q7}(sw:SW K W)(rb:RB S W)(hS:S+n<=100000000000000000)(c0:0<=c)(c1:c<(W.IF.length:Int)){g:Int}(hu:Q6 W.IE g=true)(n0:0<=n)(n1:n<=100):zxc (K+Qj) (S+n) c n W (zbf W c n g):=by
 obtain⟨u0,u1,hg⟩:=sw.a.u hu;have cP:=sw.a.gl;have hsl:=sw.a.sl hu;have hsr:=sw.s g c hu c0 c1;have hv:=Hp n (Qb W g c).w n0 n1;have hlg:0<=Qj:=Qd;have ea:∀{i:Int},0<=i->gi (G4 W c n g).IE i=if g=i then { gi W.IE g with IG:=(gi W.IE g).IG.set c.toNat (j8 W c n g) } else gi W.IE i:=λhi=>Yz u0 Qo hi
 have eg:∀i:Int,0<=i->gi (zbf W c n g).IE i=if g=i then { gi W.IE g with IG:=(gi W.IE g).IG.set c.toNat (j8 W c n g),sum:=(gi W.IE g).sum+n,IQ:=zha W c n g } else gi W.IE i:=λi hi=>by
  have wA:g<((Rf (G4 W c n g) g (NS W c n g)).IE.length:Int):=by
   have:(Rf (G4 W c n g) g (NS W c n g)).IE.length=W.IE.length:=by simp[Rf,G4,Rx]
   rw[this]; omega
  have hl2:g<((G4 W c n g).IE.length:Int):=by
   have:(G4 W c n g).IE.length=W.IE.length:=by simp[Rf,G4,Rx]
   rw[this]; omega
  unfold zbf RP;rw[Yz u0 wA hi,Yz u0 hl2 hi,Yz u0 hl2 u0,E' rfl,ea hi];split
  ·unfold NS;rw[ea u0,E' rfl]
  ·rfl
 have es:∀i d:Int,0<=i->0<=d->Qb (zbf W c n g) i d=if g=i/\c=d then j8 W c n g else Qb W i d:=λi d hi hd=>by
  rw[<-Jw (W:=W) (s:=j8 W c n g) u0 Qo c0 Qo hi hd];unfold Qb;show gi (gi (zbf W c n g).IE i).IG d=gi (gi (G4 W c n g).IE i).IG d;rw[eg i hi,ea hi]
  split <;> rfl
 have hT:Z1 W.IE (zbf W c n g).IE:=by
  have t1:=J5 (W:=W) (g:=g) (c:=c) (s:=j8 W c n g) u0 Qo;have t2:=U5 (W:=G4 W c n g) (g:=g) (x:=NS W c n g) u0 (by show g<((G4 W c n g).IE.length:Int); rw[show (G4 W c n g).IE.length=W.IE.length from t1.len]; omega) rfl rfl rfl;have t3:=U5 (W:=Rf (G4 W c n g) g (NS W c n g)) (g:=g) (x:={ gi (Rf (G4 W c n g) g (NS W c n g)).IE g with IQ:=zha W c n g }) u0 (by rw[t2.len,show (G4 W c n g).IE.length=W.IE.length from t1.len]; omega) rfl rfl rfl;exact(t1.trans t2).trans t3
 have hB:(zha W c n g).IZ=(gi W.IE g).IQ.IZ/\Jv (zha W c n g) c=Jv (gi W.IE g).IQ c/\((gi W.IE g).IQ.IZ=0->zha W c n g=(gi W.IE g).IQ)/\((gi W.IE g).IQ.IZ≠0->V4 (zha W c n g)/\(zha W c n g).locals.length=W.IF.length):=by
  unfold zha;split
  ·rename_i hq;obtain⟨hb,hbl,_⟩:=hg.IQ Qo;obtain⟨a,b,d,e⟩:=zrp hb (n:=n) c0 Qo;exact⟨d,e,λh=>by omega,λ_=>⟨a,by rw[b]; exact hbl⟩⟩
  ·rename_i hq;refine⟨rfl,rfl,λ_=>rfl,λh=>?_⟩;obtain⟨hb,hbl,_⟩:=hg.IQ h;exact⟨hb,hbl⟩
 have hrg:=rb.g g hu
 have hW:WA (zbf W c n g):=by
  have hl:=sw.a;refine⟨hl.n1,hl.n2,hl.c1,hl.c2,hl.t,hT.tree hl.tree,hl.ups,λk k0 k1=>?_⟩;unfold MR;rw[eg k k0];split
  ·rename_i e;subst e;refine⟨λh=>?_,λ_=>⟨hg.w1,hg.w2,hg.m,hg.m0,Ys.2 ⟨by show 0<=(gi W.IE g).sum+n; omega,by show (gi W.IE g).sum+n<=_; omega⟩,by show (List.set _ _ _).length=_; rw[H']; exact hg.len,λh=>⟨(hg.root h).1,(hg.root h).2.1,by show (zha W c n g).IZ=0; rw[hB.1]; exact(hg.root h).2.2⟩,λh=>?_,λh=>?_⟩⟩
   ·have h:(gi W.IE g).used=false:=h;rw[(Q5.1 hu).2.2] at h; cases h
   ·have h:(zha W c n g).IZ=0:=h;rw[hB.1] at h;have:=hg.none h;exact⟨by show Ow (zha W c n g)=true; rw[hB.2.2.1 h]; exact this.1,this.2⟩
   ·have h:(zha W c n g).IZ≠0:=h;rw[hB.1] at h;obtain⟨_,_,hp⟩:=hg.IQ h;exact⟨(hB.2.2.2 h).1,(hB.2.2.2 h).2,hp⟩
  ·have:=hl.grp k k0 k1;exact⟨this.1,λhu=>by have:=this.2 hu; exact⟨this.w1,this.w2,this.m,this.m0,this.s,this.len,this.root,this.none,this.IQ⟩⟩
 refine⟨⟨hW,λt a b m=>?_,λt a b=>?_,λk d u a b=>?_,sw.cu⟩,⟨rb.n,λt a b=>?_,λk d u a b=>?_,λk u=>?_,λd a b=>?_⟩,rfl,rfl,rfl,hT,λi hi=>?_⟩
 ·rw[hT.fD]; exact sw.t t a b m
 ·have:=sw.tv t a b;exact⟨this.1,by show (Q9 W t).v<=_; omega⟩
 ·rw[hT.fD] at u;have hk:=(Q5.1 u).1;have h:=sw.s k d u a b;rw[es k d hk a];split
  ·refine⟨hsr.1,by show (Qb W g c).floor<=_; omega,?_,?_,hsr.2.2.2.2.1,hsr.2.2.2.2.2⟩
   ·show 0<=if g≠0 then (Qb W g c).v+Zf n (Qb W g c).w else (Qb W g c).v
    split <;> omega
   ·show (if g≠0 then (Qb W g c).v+Zf n (Qb W g c).w else (Qb W g c).v)<=_
    split <;> omega
  ·exact⟨h.1,Qo,h.2.2.1,Qo,h.2.2.2.2.1,h.2.2.2.2.2⟩
 ·have:=rb.t t a b;exact⟨this.1,by show (Q9 W t).sum<=_; omega,this.2.2.1,by show (Q9 W t).used<=_; omega⟩
 ·rw[hT.fD] at u;have hk:=(Q5.1 u).1;have h:=rb.s k d u a b;rw[es k d hk a];split
  ·have h2:=rb.s g c hu c0 c1;exact⟨by show 0<=(Qb W g c).sum+n; omega,by show (Qb W g c).sum+n<=_; omega⟩
  ·exact⟨h.1,Qo⟩
 ·rw[hT.fD] at u;have h:=rb.g k u;rw[eg k (Q5.1 u).1];split
  ·exact⟨by show 0<=(gi W.IE g).sum+n; omega,by show (gi W.IE g).sum+n<=_; omega⟩
  ·exact⟨h.1,Qo⟩
 ·have:=rb.c d a b;exact⟨this.1,by show (gi W.IF d).busy<=_; omega,this.2.2.1,this.2.2.2.1,this.2.2.2.2⟩
 ·rw[eg i hi];split
  ·rename_i e; subst e; exact hB.2.1
  ·rfl
theorem RB.mono{S S':Int}{W:Q7}(h:RB S W)(k:S<=S'):RB S' W:=
 ⟨h.n,λt a b=>by have:=h.t t a b; omega,λk c u a b=>by have:=h.s k c u a b; omega,λk u=>by have:=h.g k u; omega,λc a b=>by have:=h.c c a b; omega⟩
theorem RB.S8{S:Int}{W:Q7}(h:RB S W){c:Int}(c0:0<=c)(c1:c<(W.IF.length:Int)){x:MB}(hx:0<=x.busy/\x.busy<=S/\0<=x.idle/\x.idle<=50000000000000000/\0<=x.aC/\x.aC<=149):RB S (S8 W c x):=by
 have hl:(W.IF.set c.toNat x).length=W.IF.length:=H';refine⟨h.n,h.t,λk d u a b=>?_,h.g,λd a b=>?_⟩
 ·have b:d<(((W.IF.set c.toNat x).length:Nat):Int):=b;rw[hl] at b;exact h.s k d u a b
 ·have b:d<(((W.IF.set c.toNat x).length:Nat):Int):=b;rw[hl] at b;show _<=(gi (W.IF.set c.toNat x) d).busy/\(gi (W.IF.set c.toNat x) d).busy<=_/\_<=(gi (W.IF.set c.toNat x) d).idle/\(gi (W.IF.set c.toNat x) d).idle<=_/\_<=(gi (W.IF.set c.toNat x) d).aC/\(gi (W.IF.set c.toNat x) d).aC<=_;rw[QG _ _ c0 c1 a];split
  ·exact hx
  ·exact h.c d a b
theorem RB.IV{S:Int}{W:Q7}(h:RB S W)(hl:W.tasks.length=12){t:Int}(t0:0<=t)(t1:t<12){x:Kf}(hx:0<=x.sum/\x.sum<=S/\0<=x.used/\x.used<=S):RB S (IV W t x):=by
 refine⟨h.n,λu a b=>?_,h.s,h.g,h.c⟩;show _<=(gi (W.tasks.set t.toNat x) u).sum/\(gi (W.tasks.set t.toNat x) u).sum<=_/\_<=(gi (W.tasks.set t.toNat x) u).used/\(gi (W.tasks.set t.toNat x) u).used<=_;rw[QG _ _ t0 Qo a];split
 ·exact hx
 ·exact h.t u a b
theorem zxc.trans{K S K' S' c n:Int}{A B C:Q7}(h:zxc K S c n A B)(k:zxc K' S' c n B C):zxc K' S' c n A C:=
 ⟨k.sw,k.rb,k.now.trans h.now,k.t.trans h.t,k.cp.trans h.cp,h.g.trans k.g,λi hi=>(k.p i hi).trans (h.p i hi)⟩
theorem zuf{c n:Int}(c0:0<=c)(n0:0<=n)(n1:n<=100):∀(l:List Int) {K S:Int} {W:Q7},SW K W->RB S W->S+100*(l.length:Int)<=100000000000000000->c<(W.IF.length:Int)->(∀g∈l,Q6 W.IE g=true)->
  zxc (K+Qj*(l.length:Int)) (S+100*(l.length:Int)) c n W (zi9 c n l W)
 | [],K,S,W,sw,rb,_,_,_=>⟨sw.mono Qs,rb.mono Qs,rfl,rfl,rfl,Z1.refl _,λ_ _=>rfl⟩
 | g::l,K,S,W,sw,rb,hS,c1,hu=>by
  rw[List.length_cons] at hS ⊢;have h1:=zn4 sw rb Qo c0 c1 (hu g Ia) n0 n1;have h2:=zuf c0 n0 n1 l (W:=zbf W c n g) h1.sw (h1.rb.mono (show S+n<=S+100 by omega)) Qo (by rw[h1.cp]; exact c1) λx hx=>by rw[h1.g.fD]; exact hu x (I2 _ hx)
  have h3:=h1.trans h2;exact⟨h3.sw.mono (by simp only[Qj]; omega),h3.rb.mono Qo,h3.now,h3.t,h3.cp,h3.g,h3.p⟩
theorem zzc{W W':Q7}{c:Int}(h:∀i:Int,0<=i->Jv (gi W'.IE i).IQ c=Jv (gi W.IE i).IQ c):LK W' c=LK W c:=
 Nat.le_antisymm (Hg (λk _=>Nat.le_of_eq (h k Qo)) 8 (I8 _)) (Hg (λk _=>Nat.le_of_eq (h k Qo).symm) 8 (I8 _))
theorem zaa{W:Q7}(ha:WA W){t:Int}(hu:Q6 W.IE (Q9 W t).group=true):(∀g∈X6 W t,Q6 W.IE g=true)/\(X6 W t).length<=4:=by
 refine⟨λg hg=>?_,?_⟩
 ·rcases Io.1 hg with h | h
  ·exact(YV ha.tree _ hu g h).1
  ·rw[IA.1 h]; exact ha.root
 ·have:=zdn W.IE 3 (Q9 W t).group;unfold X6;rw[Ip];show (V2 3 W.IE (Q9 W t).group).length+1<=4;omega
theorem zkn{W W':Q7}(ht:W'.tasks=W.tasks)(hT:Z1 W.IE W'.IE)(t:Int):X6 W' t=X6 W t:=by
 unfold X6;rw[Jy ht,TF hT]
def FV(f:Nat):Int:=Ql+(400-(f:Int))*346860914400
def Ny(f:Nat):Int:=Ql+(400-(f:Int))*500
structure zei (f:Nat) (c:Int) (W0 W:Q7) (left:Int):Prop where
 sw:SW (FV f) W
 rb:RB (Ny f) W
 dm:Dm W c
 c0:0<=c
 c1:c<(W.IF.length:Int)
 up:(gi W.IF c).up=true
 now:W.now=W0.now
 len:W.IF.length=W0.IF.length
 l0:0<=left
 l1:left<=100
 f1:left+LK W c<(f:Int)
 f2:f<=400
theorem FW{f:Nat}(h:f<=400):Ql<=FV f/\FV f<=50200000000000000:=by
 unfold FV Ql; omega
theorem zkq{f:Nat}(h:f<=400):Ql<=Ny f/\Ny f<=50000000000200000:=by
 unfold Ny Ql; omega
theorem zo9{W:Q7}(wp:Je W)(r:Lj W){c n:Int}(c0:0<=c)(c1:c<(W.IF.length:Int))(up:(gi W.IF c).up=true)(n0:0<=n)(n1:n<=100):zei 400 c W W n:=by
 have hp:=zzd W c;exact⟨(PH wp r).mono (by unfold FV; omega),(z0g wp r).mono (by unfold Ny; omega),z2h wp c0 c1,c0,c1,up,rfl,rfl,n0,n1,Qo,I8 _⟩
theorem B1{K S:Int}{c t:Int}{W:Q7}(sw:SW K W)(rb:RB S W)(c0:0<=c)(c1:c<(W.IF.length:Int))(up:(gi W.IF c).up=true)(t0:0<=t)(t1:t<12) :
  SW K (Xl W c t)/\RB S (Xl W c t)/\(gi (Xl W c t).IF c).up=true/\(gi (Xl W c t).IF c).aC<50/\(gi (Xl W c t).IF c).cur=t/\(Xl W c t).IF.length=W.IF.length:=by
 have e:gi (Xl W c t).IF c=YJ W c t:=(QG _ _ c0 c1 c0).trans (E' rfl);have hl:(Xl W c t).IF.length=W.IF.length:=H';have hup:(YJ W c t).up=true:=by unfold YJ; split <;> exact up
 have hr:=rb.c c c0 c1;have hcu:=sw.cu c c0 c1;refine⟨sw.S8 c0 c1 (NN (c:=c) (by rw[H']; exact sw.a.c2) c0 (by rw[H']; exact c1) (by rw[show gi (W.IF.set c.toNat (YJ W c t)) c=_ from e]; exact hup)) ?_ ?_,rb.S8 c0 c1 ?_,by rw[e]; exact hup,?_,?_,hl⟩
 ·unfold YJ; split
  ·show -1<=t; omega
  ·exact hcu.1
 ·unfold YJ; split
  ·exact t1
  ·exact hcu.2
 ·unfold YJ; split
  ·exact⟨hr.1,hr.2.1,hr.2.2.1,hr.2.2.2.1,by show (0:Int)<=0; decide,by show (0:Int)<=149; decide⟩
  ·exact hr
 ·rw[e];unfold YJ; split
  ·show (0:Int)<50; decide
  ·omega
 ·rw[e];unfold YJ; split
  ·rfl
  ·rename_i h;exact Ir λhn=>h (.inl λe=>hn e.symm)
structure z3c (f:Nat) (c:Int) (W0 W:Q7) (left:Int):Prop where
 line:zpt W (Qv W c) c
 us:Q6 W.IE (Q9 W (Qv W c)).group=true
 pin:∀g∈X6 W (Qv W c),Q6 W.IE g=true
 len:(X6 W (Qv W c)).length<=4
 s1:SW (FV (f+1)) (Xl W c (Qv W c))
 r1:RB (Ny (f+1)) (Xl W c (Qv W c))
 aC:(gi (Xl W c (Qv W c)).IF c).aC<50
 tk:ztw (FV (f+1)) c (Xl W c (Qv W c)) (Xd W c).1
 dr:∀g∈X6 W (Qv W c),(gi (Xl W c (Qv W c)).IE g).IQ.IZ≠0->gi (gi (Xl W c (Qv W c)).IE g).IQ.Rz c=false
 m:(Xd W c).2=true->1<=Vi W c left/\Vi W c left<=left
 ch:(Xd W c).2=true->SW (FV (f+1)+5*Qj) (PY (Xd W c).1 c (Qv W c) (Vi W c left))/\RB (Ny (f+1)+500) (PY (Xd W c).1 c (Qv W c) (Vi W c left))
 nx:zei f c W0 (FT W c left).1 (FT W c left).2
 gt:Z1 W.IE (FT W c left).1.IE
theorem zja{K S c t n:Int}{W:Q7}(sw:SW K W)(rb:RB S W)(hS:S+500<=100000000000000000)(c0:0<=c)(c1:c<(W.IF.length:Int))(up:(gi W.IF c).up=true)(aC:(gi W.IF c).aC<50)(t0:0<=t)(t1:t<12)(hu:Q6 W.IE (Q9 W t).group=true)(n0:0<=n)(n1:n<=100) :
  SW (K+5*Qj) (PY W c t n)/\RB (S+500) (PY W c t n)/\LK (PY W c t n) c=LK W c/\(PY W c t n).now=W.now/\(PY W c t n).IF.length=W.IF.length/\(gi (PY W c t n).IF c).up=true/\SW (K+Qj) (IV W t (G5 W t n))/\RB (S+100) (IV W t (G5 W t n))/\zxc (K+5*Qj) (S+500) c n (IV W t (G5 W t n)) (zi9 c n (X6 W t) (IV W t (G5 W t n))):=by
 have hv:=Hp n (Qf (Q9 W t).nice) n0 n1;have hlg:0<=Qj:=Qd;have htv:=sw.tv t t0 t1;have htr:=rb.t t t0 t1;have hcr:=rb.c c c0 c1;obtain⟨hp1,gV⟩:=zaa sw.a hu;have s1:SW (K+Qj) (IV W t (G5 W t n)):=(sw.mono (K':=K+Qj) Qo).IV t0 t1 (x:=G5 W t n) (λh=>sw.t t t0 t1 h) (by show 0<=(Q9 W t).v+Zf n (Qf (Q9 W t).nice); omega) (by show (Q9 W t).v+Zf n (Qf (Q9 W t).nice)<=_; omega);have r1:RB (S+100) (IV W t (G5 W t n)):=(rb.mono (S':=S+100) Qo).IV sw.a.t t0 t1 (x:=G5 W t n) ⟨by show 0<=(Q9 W t).sum+n; omega,by show (Q9 W t).sum+n<=_; omega,by show 0<=(Q9 W t).used+n; omega,by show (Q9 W t).used+n<=_; omega⟩;have h0:=zuf c0 n0 n1 (X6 W t) s1 r1 Qo c1 hp1;have h2:zxc (K+5*Qj) (S+500) c n (IV W t (G5 W t n)) (zi9 c n (X6 W t) (IV W t (G5 W t n))):=⟨h0.sw.mono (by simp only[Qj]; omega),h0.rb.mono Qo,h0.now,h0.t,h0.cp,h0.g,h0.p⟩;have mR:(zi9 c n (X6 W t) (IV W t (G5 W t n))).IF=W.IF:=h2.cp
 have e:gi (PY W c t n).IF c=zp4 W c n:=by
  show gi ((zi9 c n (X6 W t) (IV W t (G5 W t n))).IF.set c.toNat (zp4 W c n)) c=_;rw[mR];exact(QG _ _ c0 c1 c0).trans (E' rfl)
 have hlen:(PY W c t n).IF.length=W.IF.length:=by
  show ((zi9 c n (X6 W t) (IV W t (G5 W t n))).IF.set c.toNat (zp4 W c n)).length=_;rw[H',mR]
 have hcu:=sw.cu c c0 c1;refine⟨h2.sw.S8 c0 (by rw[mR]; exact c1) (x:=zp4 W c n) (NN (c:=c) ?_ c0 ?_ ?_) hcu.1 hcu.2,h2.rb.S8 c0 (by rw[mR]; exact c1) (x:=zp4 W c n) ⟨by show 0<=(gi W.IF c).busy+n; omega,by show (gi W.IF c).busy+n<=_; omega,hcr.2.2.1,hcr.2.2.2.1,by show 0<=(gi W.IF c).aC+n; omega,by show (gi W.IF c).aC+n<=149; omega⟩,zzc (W':=PY W c t n) h2.p,h2.now,hlen,by rw[e]; exact up,s1,r1,h2⟩
 ·rw[H',mR]; exact sw.a.c2
 ·rw[H',mR]; exact c1
 ·rw[show gi ((zi9 c n (X6 W t) (IV W t (G5 W t n))).IF.set c.toNat (zp4 W c n)) c=_ from e]; exact up
theorem zdz{K S c:Int}{W:Q7}(sw:SW K W)(rb:RB S W)(hK:0<=K)(c0:0<=c)(c1:c<(W.IF.length:Int))(up:(gi W.IF c).up=true) :
  SW (K+Vj) (Qg W)/\RB S (Qg W)/\Dm (Qg W) c/\(gi (Qg W).IF c).up=true/\(Qg W).now=W.now/\(Qg W).IF.length=W.IF.length/\LK (Qg W) c<=LK W c:=by
 obtain⟨s,f⟩:=UI sw hK;have su:=zd7 W;exact⟨s,rb.sum su f.g f.c,zta sw hK c0 c1,by rw[su.u]; exact up,f.n,f.c,zoz sw hK c⟩
theorem zo8{f:Nat}{c left:Int}{W0 W:Q7}(h:zei (f+1) c W0 W left)(hl:0<left)(hp:¬Qv W c<0):z3c f c W0 W left:=by
 have hf:=h.f2;have hh0:(0:Int)<=Ql:=Qd;have hK:=FW (f:=f+1) hf;have hS:=zkq (f:=f+1) hf;have c0:=h.c0;have c1:=h.c1;have eK:FV f=FV (f+1)+346860914400:=by unfold FV; omega
 have eS:Ny f=Ny (f+1)+500:=by unfold Ny; omega
 have oG:=zs1 h.sw.a (h.sw.cu c c0 c1).2 h.dm.cu hp;have hM:Vi W c left=zc3 (Xd W c).1 c (X6 W (Qv W c)) left:=rfl;have hT:Xd W c=zih c (X6 W (Qv W c)) (Xl W c (Qv W c)):=rfl;have hR:FT W c left=if (Xd W c).2=true then (Qg (PY (Xd W c).1 c (Qv W c) (Vi W c left)),left-Vi W c left) else (Qg (Ry (Xd W c).1 c),left):=rfl;have t0:=oG.t0;have t1:=oG.t1;obtain⟨us,_,_⟩:=h.sw.t _ t0 t1 (by rw[oG.st]; decide);obtain⟨pin,CS7⟩:=zaa h.sw.a us;obtain⟨s1,r1,u1,Cm9,cu1,l1⟩:=B1 h.sw h.rb c0 c1 h.up t0 t1
 have hdr:∀g∈X6 W (Qv W c),(gi (Xl W c (Qv W c)).IE g).IQ.IZ≠0->gi (gi (Xl W c (Qv W c)).IE g).IQ.Rz c=false:=λg hg hq=>by
  have hq:(gi W.IE g).IQ.IZ≠0:=hq;show gi (gi W.IE g).IQ.Rz c=false;have hug:=pin g hg;obtain⟨u0,u8,mB⟩:=h.sw.a.u hug;rcases Io.1 hg with hg | hg
  ·have hon:=oG.on g hg;have hz:=(YV h.sw.a.tree _ us g hg).2;have:=h.dm.on g hug hz;unfold T8 at this;rw[hon] at this
   have hd:Uq W g c=false:=by
    cases hd:Uq W g c with
    | false=>rfl
    | true=>rw[hd] at this; simp at this
   unfold Uq at hd;have:=(mB.IQ hq).1.q1;rw[Ii Qo,Bool.true_and] at hd;exact hd
  ·rw[IA.1 hg] at hq mB;exact Is (mB.root rfl).2.2 hq
 obtain⟨tk,tl,tf⟩:=zw4 c0 (X6 W (Qv W c)) s1 (by rw[l1]; exact c1) pin hdr;rw[<-hT] at tk tl tf;have eT:(Xd W c).1.tasks=W.tasks:=tk.o.t;have eC:(Xd W c).1.IF=(Xl W c (Qv W c)).IF:=tk.o.c;have eG:Z1 W.IE (Xd W c).1.IE:=tk.o.g;have lT:(Xd W c).1.IF.length=W.IF.length:=by rw[eC,l1]
 have rT:RB (Ny (f+1)) (Xd W c).1:=r1.sum tk.su tk.o.g (by rw[eC]);have uT:Q6 (Xd W c).1.IE (Q9 (Xd W c).1 (Qv W c)).group=true:=by rw[eG.fD,Jy eT]; exact us
 have pT:X6 (Xd W c).1 (Qv W c)=X6 W (Qv W c):=zkn eT eG _;have upT:(gi (Xd W c).1.IF c).up=true:=by rw[eC]; exact u1
 have BY4:(gi (Xd W c).1.IF c).aC<50:=by rw[eC]; exact Cm9
 have phT:LK (Xd W c).1 c<=LK W c:=Hg (λk _=>tk.p (k:Int) Qo) 8 (I8 _)
 have hm:(Xd W c).2=true->1<=Vi W c left/\Vi W c left<=left:=λht=>by
  refine zhp _ left Qo λg hg hq=>?_
  have g0:=(Q5.1 (pin g hg)).1;rw[tk.q g g0] at hq;exact tl ht g hg Qo
 have wA:=h.l1;have hch:(Xd W c).2=true->_:=λht=>zja (t:=Qv W c) (n:=Vi W c left) tk.sw rT Qo c0 (by rw[lT]; exact c1) upT BY4 t0 t1 uT (by have:=hm ht; omega) (by have:=hm ht; omega)
 refine⟨oG,us,pin,CS7,s1,r1,Cm9,tk,hdr,hm,λht=>⟨(hch ht).1,(hch ht).2.1⟩,?_,?_⟩
 rotate_left
 ·rw[hR]
  by_cases ht:(Xd W c).2=true
  ·rw[E' ht];have a:=(hch ht).1;have g1:Z1 (Xd W c).1.IE (PY (Xd W c).1 c (Qv W c) (Vi W c left)).IE:=(hch ht).2.2.2.2.2.2.2.2.g;exact(eG.trans g1).trans (UI a (by simp only[Qj]; omega)).2.g
  ·rw[C' ht];have g1:Z1 (Xd W c).1.IE (Ry (Xd W c).1 c).IE:=Z1.refl _;exact(eG.trans g1).trans (UI (tk.sw.Ry c0 (by rw[lT]; exact c1)) Qo).2.g
 rw[hR];have hf1:=h.f1
 by_cases ht:(Xd W c).2=true
 ·rw[E' ht];obtain⟨a,b,d,e1,e2,e3,_⟩:=hch ht;obtain⟨b1,b2,b3,b4,b5,b6,b7⟩:=zdz a b (by simp only[Qj]; omega) c0 (by rw[e2,lT]; exact c1) e3;have hm:=hm ht
  exact⟨b1.mono (by simp only[Qj,Vj]; omega),b2.mono Qo,b3,c0,by rw[b6,e2,lT]; exact c1,b4,by rw[b5,e1,tk.o.n]; exact h.now,by rw[b6,e2,lT]; exact h.len,by show 0<=left-Vi W c left; omega,by show left-Vi W c left<=100; omega,by
   rw[d] at b7;show left-Vi W c left+((LK (Qg (PY (Xd W c).1 c (Qv W c) (Vi W c left))) c:Nat):Int)<_;omega,Qo⟩
 ·rw[C' ht];have ht:(Xd W c).2=false:=by simpa using ht
  obtain⟨g,hg,IU⟩:=tf ht;have g0:=Q5.1 (pin g hg);have cP:=h.sw.a.gl
  have hp1:LK (Xd W c).1 c<LK W c:=by
   refine zqu (λk _=>tk.p (k:Int) Qo) (j:=g.toNat) ?_ 8 Qo (I8 _);rw[show ((g.toNat:Nat):Int)=g by omega];exact IU
  have ce:c<((Xd W c).1.IF.length:Int):=by rw[lT]; exact c1
  have sE:=tk.sw.Ry c0 ce;have eE:gi (Ry (Xd W c).1 c).IF c=Ja (gi (Xd W c).1.IF c):=(QG _ _ c0 ce c0).trans (E' rfl);have lE:(Ry (Xd W c).1 c).IF.length=(Xd W c).1.IF.length:=H';obtain⟨b1,b2,b3,b4,b5,b6,b7⟩:=zdz sE (rT.sum (zkw _ c) (Z1.refl _) lE) Qo c0 (by rw[lE]; exact ce) (by rw[eE]; exact upT)
  exact⟨b1.mono (by simp only[Qj,Vj]; omega),b2.mono Qo,b3,c0,by rw[b6,lE]; exact ce,b4,by rw[b5]; show (Xd W c).1.now=_; rw[tk.o.n]; exact h.now,by rw[b6,lE,lT]; exact h.len,h.l0,h.l1,by
   have b7:LK (Qg (Ry (Xd W c).1 c)) c<=LK (Xd W c).1 c:=b7;show left+((LK (Qg (Ry (Xd W c).1 c)) c:Nat):Int)<_;omega,Qo⟩
theorem z0s{b:JB}{c:Int}(c0:0<=c)(c1:c<(b.locals.length:Int)):ZK b ⟨1,c,0⟩=Yd b c:=by
 unfold ZK;rw[C' (show ¬(1:Int)=4 by decide),C' (by rw[Qu.2 (by show 0<=c/\c<=_; omega)]; decide),E' rfl]
theorem zjr{α:Type}[Inhabited α]{l:List α}{k:Nat}(h:k<l.length):l.drop k=gi l (k:Int)::l.drop (k+1):=by
 rw[List.drop_eq_getElem_cons h]
 congr 1
 unfold gi;rw[Ih,List.getD_eq_getElem?_getD,Im h]; rfl
theorem zjs{α:Type}[Inhabited α]{l:List α}{k:Nat}(h:k<l.length):gi l (k:Int)∈l:=by
 have:=List.getElem_mem h;unfold gi;rw[Ih,List.getD_eq_getElem?_getD,Im h]; exact this
theorem znf{c g:Int}{l:List Int}{W:Q7}:zih c (g::l) W=if (zae W c g).2=true then zih c l (zae W c g).1 else ((zae W c g).1,false):=rfl
section
variable {base:Nat}{W:Q7}{m:MW}{w:Wo}
theorem Mq{pb n:Nat}{l:List Int}{pO:OA}{pC:Nat}{w2:Wo}{bs:List Nat}{V:Q7}{m2:MW}(hp:Uo Jn 1 Qc pb w pO pC l)(hpn:∀x∈QE pO,x∉QB n m)(hM:Mv n base bs w m w2 V m2):Uo Jn 1 Qc pb w2 pO pC l/\znt bs w2 pO l:=by
 have h:=hp.ext hM.ext hpn
 exact⟨h,h.rd Yb.len λx hx hm=>by
  have:=(hp.lt x hx).2;have:=hM.new x hm;omega⟩
theorem Mv.put{n:Nat}{bs:List Nat}{w0 w w':Wo}{m0:MW}{b:Nat}(h:Mv n base bs w0 m0 w W m)(hx:Q0 bs w w')(hb:w.heap.size<=b):Mv n base (bs++[b]) w0 m0 w' W m:=(h.add hb).step (hx.mono λx hm=>Ib _ hm)
theorem zf7{K c:Int}{l:List Int}{pO:OA}{pC pb:Nat}(h:Zj 8 base w W m)(sw:SW K W)(uX:base<=w.heap.size)(hp:Uo Jn 1 Qc pb w pO pC l)(hpn:∀x∈QE pO,x∉QB 8 m)(hl4:l.length<=4)(c0:0<=c)(c1:c<(W.IF.length:Int))(hu:∀g∈l,Q6 W.IE g=true)(hd:∀g∈l,(gi W.IE g).IQ.IZ≠0->gi (gi W.IE g).IQ.Rz c=false) :
  Cz Md #[.agg (Qa W m).toArray,.slice pO l.length pC,I c] w λe w'=>∃m',e=.returned (.tuple #[.agg (Qa W m).toArray,.bool (zih c l W).2])/\Mv 8 base [] w m w' (zih c l W).1 m':=by
 refine(zfo _ _ _ _ _ _ _ _ _ _ pO l.length pC c (R:=λv w'=>∃m',v=.tuple #[.agg (Qa W m).toArray,.bool (zih c l W).2]/\Mv 8 base [] w m w' (zih c l W).1 m') ?_).mono λe w' ⟨v,he,m',hv,h3⟩=>⟨m',by rw[he,hv],h3⟩
 intro x hx x1 RZ;have cP:=sw.a.gl;have qD:=YW hx RZ
 refine⟨λvs w2=>∃(k:Nat) (r:List Va) (V:Q7) (m2:MW),vs=I (k:Int)::r/\k<=l.length/\Mv 8 base [x,x1] w m w2 V m2/\zih c l W=zih c (l.drop k) V/\SW K V/\Td W V/\∀g∈l.drop k,(gi V.IE g).IQ.IZ≠0->gi (gi V.IE g).IQ.Rz c=false,
  Zt l.length 0,λwr Rb _=>⟨0,_,W,m,rfl,Ie _,(Mv.two h hx RZ).R5 Rb,rfl,sw,Td.refl _,hd⟩,?_⟩
 rintro i1 ll Se Sm Sv Sl Sq Su Sf Sg Sj w2 We ⟨k,r,V,m2,he,hk,aB,hE,swV,oV,hdV⟩;simp only[I5,I6,true_and] at he;obtain⟨rfl,_⟩:=he;have hmg:m2.gO=m.gO:=by rw[aB.hd]
 have hr:=aB.rd;have CP1:V.IE.length=8:=swV.a.gl;obtain⟨_,hpr⟩:=Mq hp hpn aB;refine⟨λIU=>?_,λRN=>?_⟩
 ·have Cf9:=Ot IU;have IU:k<l.length:=Qo;have hdr:=zjr IU;have mB:=hu _ (zjs IU);rw[hdr] at hE hdV;have hug:Q6 V.IE (gi l (k:Int))=true:=by rw[oV.g.fD]; exact mB
  have qA:=hpr (k:Int) Qo Qo;have AK9:=hpr.ix JH (i:=(k:Int)) Qo Qo;have hdk:=hdV _ Ia;generalize uF:gi l (k:Int)=g at hE hdV hug qA hdk mB hdr;obtain⟨u0,u1,hgg⟩:=swV.a.u hug;have RM:g<(V.IE.length:Int):=Qo;have Wl:Ix m.gO W.IE.length g:=by have:=hr.g.ix (i:=g) u0 RM; rwa[CP1,<-cP,hmg] at this
  have AQ8:=hr.g.cells g u0 RM;rw[hmg] at AQ8;refine⟨AK9,g,qA,Wl,_,_,_,_,_,_,_,_,_,_,_,_,_,_,_,_,_,_,_,_,AQ8,λb4 hb4=>⟨AQ8,qA,rfl,λg1=>?_,λg1=>?_⟩⟩
  ·have g1:(gi V.IE g).IQ.IZ=0:=by simpa using g1
   have hT:zae V c g=(V,true):=by unfold zae; rw[E' g1]
   rw[znf,hT,E' rfl] at hE;exact⟨⟨Qo,Qo⟩,λwr Rb _=>⟨⟨k+1,_,V,m2,by simp; rfl,Qo,aB.step Rb,hE,swV,oV,λy hy=>hdV y (I2 _ hy)⟩,Ze (k:=k) rfl rfl IU⟩⟩
  ·have g1:(gi V.IE g).IQ.IZ≠0:=by simpa using g1
   obtain⟨hb,hbl,_⟩:=hgg.IQ g1;have BT8:c<(V.IF.length:Int):=by rw[oV.c]; exact c1
   have tP:c<((gi V.IE g).IQ.locals.length:Int):=Qo;intro Rq Rb gY;have lJ:=aB.put Rb hb4;have hr4:=lJ.rd0;refine I4 (U1 (op:=⟨1,c,0⟩) hb (hr4.g.locals g u0 RM) (hr4.g.Rz g u0 RM)) ?_;rintro e Rr ⟨p,he,hO,hy⟩;rw[z0s c0 tP] at he hO;have hM5:=lJ.R5 hy;have hbs:base<=Rq.heap.size:=by have:=lJ.ext.size; omega
   have hOb:∀y∈ZP p,Rq.heap.size<=y:=λy hy=>(hO.lt y hy).1
   have BU8:=hM5.own.CC3 (i:=g) u0 Qo (hO.mono hbs) (λy hy hm=>by have:=hOb y hy; have:=(lJ.own.lt y hm).2; omega);have wQ:=zef hM5.own hM5.nb (i:=g) u0 Qo (j:=8) (k:=5) Qd;have nT:=lJ.ext.size
   have hM6:=hM5.swap BU8 B2 rfl λy hy=>by
    rcases Oz y hy with h1 | h1
    ·exact .inl h1
    ·rcases Oy y h1 with h2 | h2
     ·have:=hOb y h2;exact .inr ⟨Qo,λhm=>by have:=gY y hm; omega⟩
     ·exact .inl (Jb Qo h2)
   rw[hmg] at wQ;have hgO:m2.gO=m.gO:=hmg;rw[hgO] at hM6;obtain⟨_,C59⟩:=Mq hp hpn hM5;have Ch1:=C59 (k:Int) Qo Qo;rw[uF] at Ch1;have hTk:zae V c g=(RP V g (Yd (gi V.IE g).IQ c).1,decide ((Yd (gi V.IE g).IQ c).2≠2)):=by unfold zae; rw[C' g1]
   obtain⟨tk,t2,_⟩:=zw3 swV c0 BT8 hug hdk;rw[znf] at hE;refine⟨_,_,_,_,_,_,_,_,_,_,he,Qe hy gY,λb5 hb5=>⟨AK9,g,Ch1,Wl,wQ,λg2 Si aS=>?_,λg2=>⟨⟨Qo,Qo⟩,λSi aS hs6=>⟨⟨k+1,_,RP V g (Yd (gi V.IE g).IQ c).1,_,by simp; rfl,Qo,(hM6.step aS).BY6 Qs,?_,?_,?_,λy hy hq=>?_⟩,Ze (k:=k) rfl rfl IU⟩⟩⟩⟩
   ·have g2:(Yd (gi V.IE g).IQ c).2=2:=by simpa using g2
    have:(zae V c g).2=false:=by rw[hTk]; simp[g2]
    rw[hE,this,C' Qd,hTk];exact⟨_,rfl,(hM6.step aS).close⟩
   all_goals
    have g2:(Yd (gi V.IE g).IQ c).2≠2:=by simpa using g2
    have ht2:(zae V c g).2=true:=by rw[hTk]; simp[g2]
    have hT1:(zae V c g).1=RP V g (Yd (gi V.IE g).IQ c).1:=by rw[hTk]
   ·rw[hE,E' ht2,hT1]
   ·rw[<-hT1]; exact tk.sw
   ·rw[<-hT1]; exact oV.trans tk.o
   ·have y0:=(Q5.1 (hu y (List.mem_of_mem_drop hy))).1;rw[<-hT1] at hq ⊢;rw[tk.q y y0] at hq;exact(t2 ht2).2 y y0 (hdV y (I2 _ hy)) hq
 ·have RN:=Ou RN;have xJ:k=l.length:=Qo;subst xJ;rw[List.drop_length] at hE;rw[hE];exact λw3 Rb=>⟨m2,rfl,(aB.step Rb).close⟩
theorem zf4{c n:Int}{l:List Int}{pO:OA}{pC:Nat}{bs:List Nat}(h:Xg bs w W m)(ha:WA W)(hp:znt bs w pO l)(hl4:l.length<=4)(c0:0<=c)(c1:c<(W.IF.length:Int))(hu:∀g∈l,Q6 W.IE g=true) :
  PX bs Mb #[.agg (Qa W m).toArray,.slice pO l.length pC,I c,I n] w (I (zc3 W c l n)):=
 zgt _ _ _ _ _ _ _ _ _ _ pO l.length pC c n λwr hx=>by
  have h:=(h.ext hx).less (cs:=[]) Qs;have hp:=(hp.ext hx).less (cs:=[]) Qs;intro _ _;refine P3 l.length 0 rfl (λy k=>k<=l.length/\zc3 W c l n=zc3 W c (l.drop k) y) ⟨Ie _,rfl⟩ λy k ⟨hk,hy⟩=>⟨λIU=>?_,λRN=>?_⟩
  ·have Cf9:=Ot IU;have IU:k<l.length:=Qo;have hdr:=zjr IU;have mB:=hu _ (zjs IU);rw[hdr] at hy;have qA:=hp (k:Int) Qo Qo;generalize gi l (k:Int)=g at hy qA mB;obtain⟨u0,u1,hgg⟩:=ha.u mB;have cP:=ha.gl;have hyy:zc3 W c (g::l.drop (k+1)) y=zc3 W c (l.drop (k+1)) (zmj W c g y):=rfl;rw[hyy] at hy;refine⟨hp.ix JH (i:=(k:Int)) Qo Qo,g,qA,h.g.ix u0 Qo,_,_,_,_,_,_,_,_,_,h.g.IQ u0 Qo,λb1 gH=>⟨h.g.IQ u0 Qo,qA,rfl,λg1=>?_,λg1=>?_⟩⟩
   ·have g1:=Ot g1;obtain⟨hb,hbl,_⟩:=hgg.IQ Qo;have hLo:=h.g.locals g u0 Qo;refine⟨hLo.ix JH c0 Qo,_,hLo c c0 Qo,_,JQ,⟨Qo,Qo⟩,QO Qo ⟨Qo,?_⟩⟩;rw[hy]; unfold zmj; rw[E' g1]
   ·have g1:=Ou g1;refine⟨⟨Qo,Qo⟩,QO Qo ⟨Qo,?_⟩⟩;rw[hy]; unfold zmj; rw[C' g1]
  ·have RN:=Ou RN;have:k=l.length:=Qo;subst this;rw[List.drop_length] at hy;show I y=_;rw[hy]; rfl
end
theorem zlf{c n g:Int}{l:List Int}{W:Q7}:zi9 c n (g::l) W=zi9 c n l (zbf W c n g):=rfl
theorem H4(W:Q7)(c n g:Int):(G4 W c n g).IE.length=W.IE.length:=by simp[G4,Rx,Rf]
theorem zn3{W:Q7}{c n g:Int}(u0:0<=g)(u1:g<(W.IE.length:Int)):gi (G4 W c n g).IE g={ gi W.IE g with IG:=(gi W.IE g).IG.set c.toNat (j8 W c n g) }:=by
 unfold G4 Rx;rw[Yz u0 u1 u0,E' rfl]
theorem zn5{W:Q7}{c n g:Int}(u0:0<=g)(u1:g<(W.IE.length:Int)):gi (Rf (G4 W c n g) g (NS W c n g)).IE g=NS W c n g:=by
 rw[Yz u0 (by rw[H4]; exact u1) u0,E' rfl]
theorem zbg{W:Q7}{c n g:Int}(u0:0<=g)(u1:g<(W.IE.length:Int)):(NS W c n g).IQ=(gi W.IE g).IQ:=by
 unfold NS;rw[zn3 u0 u1]
theorem zle{W:Q7}{c n g:Int}(u0:0<=g)(u1:g<(W.IE.length:Int))(h:¬(gi W.IE g).IQ.IZ>0):zbf W c n g=Rf (G4 W c n g) g (NS W c n g):=by
 unfold zbf zha;rw[C' h,<-zbg (c:=c) (n:=n) u0 u1];have:=zn5 (c:=c) (n:=n) u0 u1
 conv=>lhs; arg 3; rw[<-this]
 exact zdy u0 (by simp only[Rf,H']; rw[H4]; exact u1)
section
variable {base:Nat}{W:Q7}{m:MW}{w:Wo}
theorem Cr{K S t c n:Int}{pO:OA}{pC pb:Nat}(h:Zj 8 base w W m)(uX:base<=w.heap.size)(hp:Uo Jn 1 Qc pb w pO pC (X6 W t))(hpn:∀x∈QE pO,x∉QB 8 m)(sw:SW K W)(rb:RB S W)(hK:0<=K/\K<=60000000000000000)(hS:0<=S/\S<=60000000000000000)(c0:0<=c)(c1:c<(W.IF.length:Int))(up:(gi W.IF c).up=true)(aC:(gi W.IF c).aC<50)(t0:0<=t)(t1:t<12)(hu:Q6 W.IE (Q9 W t).group=true)(n0:0<=n)(n1:n<=100) :
  Cz Ok #[.agg (Qa W m).toArray,I t,.slice pO (X6 W t).length pC,I c,I n] w λe w'=>∃m',e=.returned (.agg (Qa (Qg (PY W c t n)) m').toArray)/\Mv 8 base [] w m w' (Qg (PY W c t n)) m':=by
 obtain⟨sE,rE,_,_,hlE,_,s1,r1,cp1⟩:=zja sw rb Qo c0 c1 up aC t0 t1 hu n0 n1;obtain⟨pin,CS7⟩:=zaa sw.a hu;refine(C6 _ _ _ _ _ _ _ _ _ _ t pO (X6 W t).length pC c n (R:=λv w'=>∃m',v=.agg (Qa (Qg (PY W c t n)) m').toArray/\Mv 8 base [] w m w' (Qg (PY W c t n)) m') ?_).mono λe w' ⟨v,he,m',hv,h3⟩=>⟨m',by rw[he,hv],h3⟩
 intro x hx x1 RZ;have cP:=sw.a.gl;have fH:=sw.a.t;have hlg:Qj=34686091440:=rfl;have cD:=h.rd (bs:=[]) Qs;have Wl:=cD.t.ix QF t0 Qo;have htv:=sw.tv t t0 t1;have htr:=rb.t t t0 t1;have hv:=Hp n (Qf (Q9 W t).nice) n0 n1;refine⟨Wl,_,_,_,_,_,_,_,_,_,cD.t t t0 Qo,λx2 R2=>⟨_,ZX,_,Xz,⟨?_,?_⟩,⟨?_,?_⟩,⟨?_,?_⟩,Wl,zik h Qs t0 Qo (j:=0) Qd,?_⟩⟩
 ·show _<=(Q9 W t).v+Zf n (Qf (Q9 W t).nice); omega
 ·show (Q9 W t).v+Zf n (Qf (Q9 W t).nice)<=_; omega
 ·show _<=(Q9 W t).sum+n; omega
 ·show (Q9 W t).sum+n<=_; omega
 ·show _<=(Q9 W t).used+n; omega
 ·show (Q9 W t).used+n<=_; omega
 have eT:Zj 8 base (R9 w m.tO (Int.toNat t*9) (YK (G5 W t n))) (IV W t (G5 W t n)) m:=h.xS t0 Qo (j:=0) (vs:=YK (G5 W t n)) (x:=G5 W t n) (by simp[YK]) (by simp[YK]);have hM1:Mv 8 base [x,x1,x2] w m (R9 w m.tO (Int.toNat t*9) (YK (G5 W t n))) (IV W t (G5 W t n)) m:=((Mv.two h hx RZ).add R2).SH eT LR
 refine⟨λvs w2=>∃(k:Nat) (V:Q7) (m2:MW),vs=[I (k:Int)]/\k<=(X6 W t).length/\Mv 8 base [x,x1,x2] w m w2 V m2/\zi9 c n (X6 W t) (IV W t (G5 W t n))=zi9 c n ((X6 W t).drop k) V/\zxc (K+Qj+Qj*(k:Int)) (S+100+100*(k:Int)) c n (IV W t (G5 W t n)) V,
  Zt (X6 W t).length 0,λwr Rb _=>⟨0,_,m,rfl,Ie _,hM1.R5 Rb,rfl,⟨s1.mono Qs,r1.mono Qs,rfl,rfl,rfl,Z1.refl _,λ_ _=>rfl⟩⟩,?_⟩
 rintro i1 w2 We ⟨k,V,m2,he,hk,aB,hE,hC⟩;simp only[I5,I6,true_and,and_true] at he;subst he;have hkk:0<=Qj*(k:Int)/\Qj*(k:Int)<=138744365760:=by simp only[Qj]; omega
 have hk1:Qj*((k+1:Nat):Int)=Qj*(k:Int)+Qj:=by simp only[Qj]; omega
 have hmg:m2.gO=m.gO:=by rw[aB.hd]
 have hmc:m2.cO=m.cO:=by rw[aB.hd]
 have hr:=aB.rd;have CP1:V.IE.length=8:=hC.sw.a.gl;have BT8:V.IF.length=W.IF.length:=by rw[hC.cp]; rfl
 obtain⟨_,hpr⟩:=Mq hp hpn aB;refine⟨λIU=>?_,λRN=>?_⟩
 ·have Cf9:=Ot IU;have IU:k<(X6 W t).length:=Qo;have hdr:=zjr IU;have mB:=pin _ (zjs IU);rw[hdr,zlf] at hE;have hug:Q6 V.IE (gi (X6 W t) (k:Int))=true:=by rw[hC.g.fD]; exact mB
  have qA:=hpr (k:Int) Qo Qo;have AK9:=hpr.ix JH (i:=(k:Int)) Qo Qo;generalize uF:gi (X6 W t) (k:Int)=g at hE hug qA mB hdr;have hC2:=hC.trans (zn4 hC.sw hC.rb Qo c0 (by rw[BT8]; exact c1) hug n0 n1);have hC3:zxc (K+Qj+Qj*((k+1:Nat):Int)) (S+100+100*((k+1:Nat):Int)) c n (IV W t (G5 W t n)) (zbf V c n g):=⟨hC2.sw.mono Qo,hC2.rb.mono Qo,hC2.now,hC2.t,hC2.cp,hC2.g,hC2.p⟩;obtain⟨u0,u1,hgg⟩:=hC.sw.a.u hug;have RM:g<(V.IE.length:Int):=Qo;have hsl:=hC.sw.a.sl hug;have hcs:c<((gi V.IE g).IG.length:Int):=Qo;have BU5:Ix m.gO W.IE.length g:=by have:=hr.g.ix (i:=g) u0 RM; rwa[CP1,<-cP,hmg] at this
  have AQ8:=hr.g.cells g u0 RM;rw[hmg] at AQ8;have wY:=hr.g.IG g u0 RM;have hsc:=wY c c0 hcs;have CP4:=wY.ix Y7 c0 hcs;have hsv:=hC.sw.s g c hug c0 (by rw[BT8]; exact c1);have hsr:=hC.rb.s g c hug c0 (by rw[BT8]; exact c1);have hgr:=hC.rb.g g hug;have hv2:=Hp n (Qb V g c).w n0 n1;refine⟨AK9,g,qA,BU5,_,_,_,_,_,_,_,_,_,_,_,_,_,_,_,_,_,_,_,_,AQ8,λb3 hb3=>⟨AQ8,qA,rfl,CP4,_,_,_,_,_,hsc,λb4 hb4=>⟨AK9,g,qA,?_⟩⟩⟩
  have eA:∀s:KN,s=j8 V c n g->Zj 8 base (R9 w2 (m2.ms g.toNat).sO (Int.toNat c*5) (M1 s)) (G4 V c n g) m2:=λs hs=>by
   subst hs;exact aB.own.BK8 u0 Qo c0 hcs (j:=0) (vs:=M1 (j8 V c n g)) (x:=j8 V c n g) (by simp[M1]) (by simp[M1])
  have Cj3:=zzt aB.own aB.nb (i:=g) u0 Qo c0 hcs (j:=0) (k:=5) Qd;have CQ9:=hr.g.RF (i:=g) u0 RM;rw[hmg] at CQ9;refine⟨λg1=>?_,λg1=>?_⟩
  ·have g1:g≠0:=by simpa using g1
   have hs:(⟨(Qb V g c).floor,(Qb V g c).on,(Qb V g c).v+Zf n (Qb V g c).w,(Qb V g c).w,(Qb V g c).sum+n⟩:KN)=j8 V c n g:=by unfold j8; rw[E' g1]
   have eA:=eA _ hs;refine⟨_,Xz,⟨?_,?_⟩,⟨?_,?_⟩,AK9,g,qA,BU5,_,_,_,CQ9,CP4,Cj3,AK9,g,?_,⟨?_,?_⟩,BU5,?_,?_⟩
   ·show _<=(Qb V g c).v+Zf n (Qb V g c).w; omega
   ·show (Qb V g c).v+Zf n (Qb V g c).w<=_; omega
   ·show _<=(Qb V g c).sum+n; omega
   ·show (Qb V g c).sum+n<=_; omega
   ·have:=(Mq hp hpn (aB.SH eA (NG Qo))).2 (k:Int) Qo Qo;rw[uF] at this;exact this
   ·show _<=(gi V.IE g).sum+n; omega
   ·show (gi V.IE g).sum+n<=_; omega
   ·have:=zef eA aB.nb (i:=g) u0 Qo (j:=7) (k:=1) Qd;rw[hmg] at this;exact this
   have kQ:=((aB.add hb3).add hb4).SH eA (NG Qo);have eU:=eA.Ap0 (i:=g) u0 Qo (g:=NS V c n g) rfl rfl rfl (j:=7) (vs:=[I ((gi V.IE g).sum+n)]) (by unfold NS; rw[zn3 u0 RM]; rfl) Qs;have lJ:=kQ.SH eU B2;rw[hmg] at lJ;have lJ:Mv 8 base [x,x1,x2,b3,b4] w m _ (Rf (G4 V c n g) g (NS V c n g)) m2:=lJ;have hgb:=zbg (c:=c) (n:=n) u0 RM;have hgi:=zn5 (c:=c) (n:=n) u0 RM;have hl5:(Rf (G4 V c n g) g (NS V c n g)).IE.length=V.IE.length:=by simp only[Rf,H']; exact H4 _ _ _ _
   have AV8:=zle (c:=c) (n:=n) u0 RM;have Ww:zbf V c n g=RP (Rf (G4 V c n g) g (NS V c n g)) g (zha V c n g):=rfl;generalize Rf (G4 V c n g) g (NS V c n g)=V5 at lJ hgi hl5 AV8 Ww;refine⟨λg2 M' Rb iB=>?_,λg2=>⟨⟨Qo,Qo⟩,λM' Rb _=>⟨⟨k+1,zbf V c n g,m2,Qs,Qo,?_,hE,hC3⟩,Ze (k:=k) rfl rfl IU⟩⟩⟩
   ·have g2:(gi V.IE g).IQ.IZ>0:=Ot g2;have hB:zha V c n g=(ZK (gi V.IE g).IQ ⟨2,c,n⟩).1:=by unfold zha; rw[E' g2]
    rw[hB] at Ww;obtain⟨hb,hbl,_⟩:=hgg.IQ Qo;have hM6:Mv 8 base [x,x1,x2,b3,b4] w m M' V5 m2:=lJ.step (Rb.mono λy hy=>by simp only[Ij,List.not_mem_nil,or_false] at hy ⊢; rcases hy with h | h | h <;> simp[h]);have hr6:=hM6.rd0;have hg5:g<(V5.IE.length:Int):=by rw[hl5]; exact RM
    have hLo:=hr6.g.locals g u0 hg5;have hDo:=hr6.g.Rz g u0 hg5;rw[hgi,hgb] at hLo hDo;refine I4 (U1 (op:=⟨2,c,n⟩) hb hLo hDo) ?_;rintro e Rr ⟨p,he,hO,hy⟩;have uV:=hM6.R5 hy;have hbs:base<=M'.heap.size:=by have:=hM6.ext.size; omega
    have hOb:∀y∈ZP p,M'.heap.size<=y:=λy hy=>(hO.lt y hy).1
    have BU8:=uV.own.CC3 (i:=g) u0 Qo (hO.mono hbs) (λy hy hm=>by have:=hOb y hy; have:=(hM6.own.lt y hm).2; omega);have wQ:=zef uV.own uV.nb (i:=g) u0 Qo (j:=8) (k:=5) Qd;have nT:=hM6.ext.size
    have hM8:=uV.swap BU8 B2 rfl λy hy=>by
     rcases Oz y hy with h1 | h1
     ·exact .inl h1
     ·rcases Oy y h1 with h2 | h2
      ·have:=hOb y h2;exact .inr ⟨Qo,λhm=>by have:=iB y hm; omega⟩
      ·exact .inl (Jb Qo h2)
    rw[hmg] at wQ hM8;rw[<-Ww] at hM8;have B04:=(Mq hp hpn uV).2 (k:Int) Qo Qo;rw[uF] at B04;exact⟨_,_,_,_,_,_,_,_,_,_,he,Qe hy iB,λb5 hb5=>⟨AK9,g,B04,BU5,wQ,⟨Qo,Qo⟩,λSi aS _=>⟨⟨k+1,zbf V c n g,_,Qs,Qo,(hM8.step aS).BY6 Qs,hE,hC3⟩,Ze (k:=k) rfl rfl IU⟩⟩⟩
   ·have g2:¬(gi V.IE g).IQ.IZ>0:=Ou g2;rw[AV8 g2];exact(lJ.BY6 (cs:=[x,x1,x2]) (λy hy=>by simp only[Ij,List.not_mem_nil,or_false] at hy ⊢; rcases hy with h | h | h <;> simp[h])).step Rb
  ·have g1:¬g≠0:=by simpa using g1
   have hs:(⟨(Qb V g c).floor,(Qb V g c).on,(Qb V g c).v,(Qb V g c).w,(Qb V g c).sum+n⟩:KN)=j8 V c n g:=by unfold j8; rw[C' g1]
   have eA:=eA _ hs;refine⟨⟨?_,?_⟩,AK9,g,qA,BU5,_,_,_,CQ9,CP4,Cj3,AK9,g,?_,⟨?_,?_⟩,BU5,?_,?_⟩
   ·show _<=(Qb V g c).sum+n; omega
   ·show (Qb V g c).sum+n<=_; omega
   ·have:=(Mq hp hpn (aB.SH eA (NG Qo))).2 (k:Int) Qo Qo;rw[uF] at this;exact this
   ·show _<=(gi V.IE g).sum+n; omega
   ·show (gi V.IE g).sum+n<=_; omega
   ·have:=zef eA aB.nb (i:=g) u0 Qo (j:=7) (k:=1) Qd;rw[hmg] at this;exact this
   have kQ:=((aB.add hb3).add hb4).SH eA (NG Qo);have eU:=eA.Ap0 (i:=g) u0 Qo (g:=NS V c n g) rfl rfl rfl (j:=7) (vs:=[I ((gi V.IE g).sum+n)]) (by unfold NS; rw[zn3 u0 RM]; rfl) Qs;have lJ:=kQ.SH eU B2;rw[hmg] at lJ;have lJ:Mv 8 base [x,x1,x2,b3,b4] w m _ (Rf (G4 V c n g) g (NS V c n g)) m2:=lJ;have hgb:=zbg (c:=c) (n:=n) u0 RM;have hgi:=zn5 (c:=c) (n:=n) u0 RM;have hl5:(Rf (G4 V c n g) g (NS V c n g)).IE.length=V.IE.length:=by simp only[Rf,H']; exact H4 _ _ _ _
   have AV8:=zle (c:=c) (n:=n) u0 RM;have Ww:zbf V c n g=RP (Rf (G4 V c n g) g (NS V c n g)) g (zha V c n g):=rfl;generalize Rf (G4 V c n g) g (NS V c n g)=V5 at lJ hgi hl5 AV8 Ww;refine⟨λg2 M' Rb iB=>?_,λg2=>⟨⟨Qo,Qo⟩,λM' Rb _=>⟨⟨k+1,zbf V c n g,m2,Qs,Qo,?_,hE,hC3⟩,Ze (k:=k) rfl rfl IU⟩⟩⟩
   ·have g2:(gi V.IE g).IQ.IZ>0:=Ot g2;have hB:zha V c n g=(ZK (gi V.IE g).IQ ⟨2,c,n⟩).1:=by unfold zha; rw[E' g2]
    rw[hB] at Ww;obtain⟨hb,hbl,_⟩:=hgg.IQ Qo;have hM6:Mv 8 base [x,x1,x2,b3,b4] w m M' V5 m2:=lJ.step (Rb.mono λy hy=>by simp only[Ij,List.not_mem_nil,or_false] at hy ⊢; rcases hy with h | h | h <;> simp[h]);have hr6:=hM6.rd0;have hg5:g<(V5.IE.length:Int):=by rw[hl5]; exact RM
    have hLo:=hr6.g.locals g u0 hg5;have hDo:=hr6.g.Rz g u0 hg5;rw[hgi,hgb] at hLo hDo;refine I4 (U1 (op:=⟨2,c,n⟩) hb hLo hDo) ?_;rintro e Rr ⟨p,he,hO,hy⟩;have uV:=hM6.R5 hy;have hbs:base<=M'.heap.size:=by have:=hM6.ext.size; omega
    have hOb:∀y∈ZP p,M'.heap.size<=y:=λy hy=>(hO.lt y hy).1
    have BU8:=uV.own.CC3 (i:=g) u0 Qo (hO.mono hbs) (λy hy hm=>by have:=hOb y hy; have:=(hM6.own.lt y hm).2; omega);have wQ:=zef uV.own uV.nb (i:=g) u0 Qo (j:=8) (k:=5) Qd;have nT:=hM6.ext.size
    have hM8:=uV.swap BU8 B2 rfl λy hy=>by
     rcases Oz y hy with h1 | h1
     ·exact .inl h1
     ·rcases Oy y h1 with h2 | h2
      ·have:=hOb y h2;exact .inr ⟨Qo,λhm=>by have:=iB y hm; omega⟩
      ·exact .inl (Jb Qo h2)
    rw[hmg] at wQ hM8;rw[<-Ww] at hM8;have B04:=(Mq hp hpn uV).2 (k:Int) Qo Qo;rw[uF] at B04;exact⟨_,_,_,_,_,_,_,_,_,_,he,Qe hy iB,λb5 hb5=>⟨AK9,g,B04,BU5,wQ,⟨Qo,Qo⟩,λSi aS _=>⟨⟨k+1,zbf V c n g,_,Qs,Qo,(hM8.step aS).BY6 Qs,hE,hC3⟩,Ze (k:=k) rfl rfl IU⟩⟩⟩
   ·have g2:¬(gi V.IE g).IQ.IZ>0:=Ou g2;rw[AV8 g2];exact(lJ.BY6 (cs:=[x,x1,x2]) (λy hy=>by simp only[Ij,List.not_mem_nil,or_false] at hy ⊢; rcases hy with h | h | h <;> simp[h])).step Rb
 ·have RN:=Ou RN;have xJ:k=(X6 W t).length:=Qo;subst xJ;rw[List.drop_length] at hE;have hE:zi9 c n (X6 W t) (IV W t (G5 W t n))=V:=hE;have hcV:V.IF=W.IF:=hC.cp;have cV:c<(V.IF.length:Int):=by rw[BT8]; exact c1
  have AV6:Ix m.cO W.IF.length c:=by have:=hr.c.ix Ym c0 cV; rwa[BT8,hmc] at this
  have hcr:=rb.c c c0 c1;have e1:=aB.own.Am3 c0 cV (j:=3) (vs:=[I ((gi W.IF c).busy+n)]) (x:={ gi W.IF c with busy:=(gi W.IF c).busy+n }) (by rw[hcV]; rfl) Qs;have wA:(V.IF.set c.toNat { gi W.IF c with busy:=(gi W.IF c).busy+n }).length=V.IF.length:=H';have hg1:gi (V.IF.set c.toNat { gi W.IF c with busy:=(gi W.IF c).busy+n }) c={ gi W.IF c with busy:=(gi W.IF c).busy+n }:=(QG _ _ c0 cV c0).trans (E' rfl);have e2:=e1.Am3 c0 (by simpa using cV) (j:=2) (vs:=[I ((gi W.IF c).aC+n)]) (x:=zp4 W c n) (by rw[hg1]; rfl) Qs;have hb:=hr.c.f c0 cV (j:=3) rfl;have xM:=zri aB.own aB.nb c0 cV (j:=3) (k:=1) Qd;have kQ:=aB.SH e1 CR;have hrn:=kQ.rd.c.f c0 (by show c<((V.IF.set c.toNat { gi W.IF c with busy:=(gi W.IF c).busy+n }).length:Int); rw[wA]; exact cV) (j:=2) rfl;have hw2:=zri e1 aB.nb c0 (by show c<((V.IF.set c.toNat { gi W.IF c with busy:=(gi W.IF c).busy+n }).length:Int); rw[wA]; exact cV) (j:=2) (k:=1) Qd;rw[hmc] at hb xM hrn hw2;rw[hcV] at hb;rw[show gi ({ V with IF:=V.IF.set c.toNat { gi W.IF c with busy:=(gi W.IF c).busy+n } }:Q7).IF c=_ from hg1] at hrn;have lJ:=kQ.SH e2 CR
  have hW4:({ V with IF:=(V.IF.set c.toNat { gi W.IF c with busy:=(gi W.IF c).busy+n }).set c.toNat (zp4 W c n) }:Q7)=PY W c t n:=by
   unfold PY S8;rw[hE,List.set_set]
  rw[hmc] at lJ;have lJ:Mv 8 base [x,x1,x2] w m _ ({ V with IF:=(V.IF.set c.toNat { gi W.IF c with busy:=(gi W.IF c).busy+n }).set c.toNat (zp4 W c n) }:Q7) m2:=lJ;rw[hW4] at lJ;refine⟨AV6,_,hb,⟨?_,?_⟩,AV6,xM,AV6,_,hrn,⟨?_,?_⟩,AV6,hw2,λSz kR hs7=>?_⟩
  ·show _<=(gi W.IF c).busy+n; omega
  ·show (gi W.IF c).busy+n<=_; omega
  ·show _<=(gi W.IF c).aC+n; omega
  ·show (gi W.IF c).aC+n<=_; omega
  have uV:=lJ.step kR;have nT:=uV.ext.size;have RD:=Qx uV.own sE Qo Qo Qo;rw[show Qa (PY W c t n) m2=Qa W m from uV.AS2 (by rw[show (PY W c t n).now=V.now from by rw[<-hW4]]; exact hC.now) hlE (by rw[<-hW4,show ({ V with IF:=(V.IF.set c.toNat { gi W.IF c with busy:=(gi W.IF c).busy+n }).set c.toNat (zp4 W c n) }:Q7).tasks=V.tasks from rfl,hC.t]; simp[IV]) (by rw[<-hW4]; exact hC.g.len)] at RD;refine I4 RD ?_;rintro e wv ⟨m3,he,hy⟩;exact⟨_,_,_,_,_,_,_,_,_,_,he,uV.kept hy hs7,λW5 oH=>⟨m3,rfl,((uV.call hy hs7).step oH).close⟩⟩
end
theorem zos{Q:Nat->Prop}(h:∃f,Q f):∃f,Q f/\∀g,Q g->f<=g:=by
 obtain⟨f,hf⟩:=h
 induction f using Nat.strongRecOn with
 | ind f ih=>
  by_cases h:∃g,g<f/\Q g
  ·obtain⟨g,hg,hq⟩:=h;exact ih g hg hq
  ·exact⟨f,hf,λg hq=>Nat.le_of_not_lt λIU=>h ⟨g,IU,hq⟩⟩
open Classical in
noncomputable def zor(Q:Nat->Prop):Nat:=if h:∃f,Q f then (zos h).choose else 0
theorem zsm{Q:Nat->Prop}(h:∃f,Q f):Q (zor Q):=by
 unfold zor;rw[dif_pos h];exact(zos h).choose_spec.1
theorem zyz{Q:Nat->Prop}{f:Nat}(h:Q f):zor Q<=f:=by
 unfold zor;rw[dif_pos ⟨f,h⟩];exact(zos ⟨f,h⟩).choose_spec.2 f h
noncomputable def FU(W:Q7)(c n:Int):Int:=if YQ n 1 100=false\/XJ W c=false then 1 else if (gi W.IF c).up=false then 6 else if QM W=false then 10 else 0
def zs5(W:Q7)(c n:Int):Q7:=zdt c 400 W n
theorem zmy{c:Int}{f:Nat}{W:Q7}{left:Int}(h:left<=0):zdt c (f+1) W left=Qg W:=by
 rw[zdt,E' h]
theorem zh1{c:Int}{f:Nat}{W:Q7}{left:Int}(h:¬left<=0)(hp:Qv W c<0):zdt c (f+1) W left=Qg (Ry (S8 W c (Gl W c left)) c):=by
 rw[zdt,C' h,E' hp]
theorem zh2{c:Int}{f:Nat}{W:Q7}{left:Int}(h:¬left<=0)(hp:¬Qv W c<0):zdt c (f+1) W left=zdt c f (FT W c left).1 (FT W c left).2:=by
 rw[zdt,C' h,C' hp]
theorem zwj{W:Q7}{c n:Int}(hW:Qw W=true)(hb:FU W c n=0):YQ n 1 100=true/\XJ W c=true/\(gi W.IF c).up=true/\QM W=true/\zei 400 c W W n:=by
 unfold FU at hb
 split at hb
 ·cases hb
 ·rename_i h1
  split at hb
  ·cases hb
  ·rename_i h2
   split at hb
   ·cases hb
   ·rename_i h3
    have h1a:YQ n 1 100=true:=by
     cases h:YQ n 1 100 with
     | true=>rfl
     | false=>exact Is (.inl h) h1
    have h1b:XJ W c=true:=by
     cases h:XJ W c with
     | true=>rfl
     | false=>exact Is (.inr h) h1
    have h2:(gi W.IF c).up=true:=by simpa using h2
    have h3:QM W=true:=by simpa using h3
    obtain⟨c0,c1⟩:=OD h1b;have:=Qu.1 h1a;exact⟨h1a,h1b,h2,h3,zo9 (Qh.1 hW) (Qh.1 h3) c0 c1 h2 Qo Qo⟩
theorem zwh{f:Nat}{c left:Int}{W0 W:Q7}(h:zei f c W0 W left):∃g,f=g+1:=by
 have h1:=h.f1;have h2:=h.l0;exact⟨f-1,Qo⟩
theorem zu1{f:Nat}{c left:Int}{W0 W:Q7}(h:zei f c W0 W left):SW (FV f) (Ry (S8 W c (Gl W c left)) c)/\SW (FV f) (S8 W c (Gl W c left))/\0<=(gi W.IF c).idle+left/\(gi W.IF c).idle+left<=60000000000000000:=by
 have c0:=h.c0;have c1:=h.c1;have hcu:=h.sw.cu c c0 c1;have hl0:=h.l0;have wA:=h.l1;have hr:=h.rb.c c c0 c1;have s1:SW (FV f) (S8 W c (Gl W c left)):=h.sw.S8 c0 c1 (NN (c:=c) (by rw[H']; exact h.sw.a.c2) c0 (by rw[H']; exact c1) (by rw[show gi (W.IF.set c.toNat (Gl W c left)) c=Gl W c left from (QG _ _ c0 c1 c0).trans (E' rfl)]; exact h.up)) hcu.1 hcu.2;exact⟨s1.Ry c0 (by show c<((W.IF.set c.toNat (Gl W c left)).length:Int); rw[H']; exact c1),s1,Qo,Qo⟩
section
variable {W:Q7}{m:MW}{w:Wo}
def zrj(y y1:Nat)(w0:Wo)(c n:Int)(W:Q7)(f:Nat)(vs:List Va)(w2:Wo):Prop:=
 ∃(V:Q7) (m2:MW) (left:Int),vs=I left::Qa V m2/\Wk 8 [y,y1] w0 w2 V m2/\zei f c W V left/\zdt c f V left=zs5 W c n
theorem Cj{c n:Int}(h:Xg [] w W m)(hl:XM W) :
  Cz Oe #[.agg (Qa W m).toArray,I c,I n] w λe w'=>∃v,e=.returned v/\QU (Xi W (FU W c n) (zs5 W c n)) w v w':=by
 refine C0 _ _ _ _ _ _ _ _ _ _ c n (R:=λv w'=>QU (Xi W (FU W c n) (zs5 W c n)) w v w') ?_;intro y hy y1 dG;have hm0:=Js;have vC:=hl.c;refine⟨_,UD h hl.c hl.t hl.g hl.f,λg wr hx=>QU.bad (by simpa using g) hx,λg wr R2 We=>?_⟩;have hW:Qw W=true:=by simpa using g
 have wp:=Qh.1 hW;refine I4 (PM (h.ext R2) wp.a) ?_;rintro e wv ⟨m',he,hM,SE⟩;have hK:=Wk.begin hy dG R2 We hM SE;have hr:=hK.rd;refine⟨_,_,_,_,_,_,_,_,_,_,he,Qe SE We,_,Qr,λ_=>⟨Qo,Qo⟩,XJ W c,λ_=>Qr,λg M' Rb=>?_,λg=>?_⟩
 ·have hb:FU W c n=1:=by
   unfold FU; rw[E']
   simpa using g
  exact QU.no hW (by rw[hb]; decide) (hK.step Rb) hb
 have g:YQ n 1 100=true/\XJ W c=true:=by simpa using g
 have hn1:¬(YQ n 1 100=false\/XJ W c=false):=by rw[g.1,g.2]; simp
 obtain⟨c0,c1⟩:=OD g.2;have hro:=Ks hr hl;refine⟨hr.c.ix Ym c0 c1,_,hr.c.f c0 c1 (j:=0) rfl,λg2 M' Rb=>?_,λg2=>⟨_,hro,λg3 M' Rb=>?_,λg3=>?_⟩⟩
 ·have hb:FU W c n=6:=by unfold FU; rw[C' hn1,E' (by simpa using g2)]
  exact QU.no hW (by rw[hb]; decide) (hK.step Rb) hb
 ·have g2:(gi W.IF c).up=true:=by simpa using g2
  have cD:¬QM W=true:=λhr=>by
   rw[show U6 (Je W/\Lj W)=true from Qh.2 ⟨wp,Qh.1 hr⟩] at g3;cases g3
  have hb:FU W c n=10:=by unfold FU; rw[C' hn1,C' (by rw[g2]; decide),E' (by simpa using cD)]
  exact QU.no hW (by rw[hb]; decide) (hK.step Rb) hb
 have g2:(gi W.IF c).up=true:=by simpa using g2
 have cD:QM W=true:=by
  have hd:U6 (Je W/\Lj W)=true:=by simpa using g3
  exact Qh.2 (Qh.1 hd).2
 have hb:FU W c n=0:=by unfold FU; rw[C' hn1,C' (by rw[g2]; decide),C' (by rw[cD]; decide)]
 obtain⟨_,_,_,_,hI0⟩:=zwj hW hb;refine⟨λvs _ w2=>∃(V:Q7) (m2:MW) (K:Int),vs=Qa V m2/\Wk 8 [y,y1] w w2 V m2/\SW K V/\0<=K/\K<=60000000000000000/\Qg V=zs5 W c n,?_,?_⟩
 ·refine⟨λvs w2=>∃f,zrj y y1 w c n W f vs w2,λvs w2=>zor λf=>zrj y y1 w c n W f vs w2,λwr Rb _=>⟨400,W,m',n,rfl,hK.step Rb,hI0,rfl⟩,?_⟩;intro left l0 Se Sm Sv Sl Sq Su Sf Sg Sj w2 iB hinv;obtain⟨f0,hf0⟩:∃f0,f0=zor λf=>zrj y y1 w c n W f [I left,I l0,.slice Se Sm Sv,.slice Sl Sq Su,.slice Sf Sg Sj] w2:=⟨_,rfl⟩
  have hS:=zsm hinv;simp only[<-hf0] at hS ⊢;clear hf0 hinv;obtain⟨V,m2,DJ6,hv,iL,hI,hN⟩:=hS;simp only[Qa,I5,I6,Iw,true_and,and_true] at hv;obtain⟨rfl,rfl,⟨rfl,rfl,rfl⟩,⟨rfl,rfl,rfl⟩,rfl,rfl,rfl⟩:=hv;obtain⟨f,rfl⟩:=zwh hI;have Bd1:∀{vs:List Va} {w9:Wo},zrj y y1 w c n W f vs w9->(∃f,zrj y y1 w c n W f vs w9)/\(zor λf=>zrj y y1 w c n W f vs w9)<f+1:=λhh=>⟨⟨f,hh⟩,Nat.lt_succ_of_le (zyz hh)⟩
  have vD:=iL.rd;have hf:=hI.f2;have hKu:=FW hf;have hSu:=zkq hf;have hh0:(0:Int)<=Ql:=Qd;have c1V:=hI.c1;have AV6:=vD.c.ix Ym c0 c1V;refine⟨λIU=>?_,λRN=>?_⟩
  ·have IU:=Ot IU;refine⟨_,zf6 vD hI.sw.a c0 c1V,λgp=>?_,λgp=>?_⟩
   ·have gp:=Ot gp;rw[zh1 Qo gp] at hN;obtain⟨i1,i2,i3,i4⟩:=zu1 hI;have e1:Zj 8 w.heap.size _ (S8 V c (Gl V c left)) m2:=iL.own.Am3 c0 c1V (j:=4) (vs:=[I ((gi V.IF c).idle+left)]) (x:=Gl V c left) rfl Qs;refine⟨AV6,_,vD.c.f c0 c1V (j:=4) rfl,⟨Qo,Qo⟩,AV6,zri iL.own iL.nb c0 c1V (j:=4) Qd,λRw SZ gY=>?_⟩;have fE:=(iL.R9 e1 CR).step SZ;have RD:=ZF fE.own c0 (by show c<((V.IF.set c.toNat (Gl V c left)).length:Int); rw[H']; exact c1V);rw[q9] at RD;refine I4 RD ?_;rintro e2 Rr ⟨aT,kJ⟩;exact⟨_,_,_,_,_,_,_,_,_,_,aT,fE.kept kJ gY,λRQ Sy _=>⟨_,m2,_,rfl,(fE.SH kJ gY).step Sy,i1,Qo,Qo,hN⟩⟩
   ·have gp:=Ou gp;rw[zh2 Qo gp] at hN;have hR:=zo8 hI IU gp;have t0:=hR.line.t0;have t1:=hR.line.t1;have fH:V.tasks.length=12:=hI.sw.a.t;refine⟨λ_ _ w3=>Wk 8 [y,y1] w w3 (Xl V c (Qv V c)) m2,?_,?_⟩
    ·refine⟨AV6,_,vD.c.f c0 c1V (j:=1) rfl,λ_=>AV6,_,λ_=>vD.c.f c0 c1V (j:=2) rfl,λg5=>?_,λg5 Rw SZ _=>?_⟩
     ·have g5:Qv V c≠(gi V.IF c).cur\/(gi V.IF c).aC>=50:=by simpa using g5
      have hS:YJ V c (Qv V c)={ gi V.IF c with cur:=Qv V c,aC:=0 }:=by unfold YJ; rw[E' g5]
      have e1:=iL.own.Am3 c0 c1V (j:=1) (vs:=[I (Qv V c)]) (x:={ gi V.IF c with cur:=Qv V c }) rfl Qs;have wA:(V.IF.set c.toNat { gi V.IF c with cur:=Qv V c }).length=V.IF.length:=H';have hg1:gi (V.IF.set c.toNat { gi V.IF c with cur:=Qv V c }) c={ gi V.IF c with cur:=Qv V c }:=(QG _ _ c0 c1V c0).trans (E' rfl);have e2:=e1.Am3 c0 (by simpa using c1V) (j:=2) (vs:=[I 0]) (x:=YJ V c (Qv V c)) (by rw[hg1,hS]; rfl) Qs
      have hW2:({ V with IF:=(V.IF.set c.toNat { gi V.IF c with cur:=Qv V c }).set c.toNat (YJ V c (Qv V c)) }:Q7)=Xl V c (Qv V c):=by
       unfold Xl S8;rw[List.set_set]
      have oY:=iL.R9 e1 CR;have fE:Wk 8 [y,y1] w _ ({ V with IF:=(V.IF.set c.toNat { gi V.IF c with cur:=Qv V c }).set c.toNat (YJ V c (Qv V c)) }:Q7) m2:=oY.R9 e2 CR;rw[hW2] at fE;exact⟨AV6,zri iL.own iL.nb c0 c1V (j:=1) Qd,AV6,zri e1 iL.nb c0 (by show c<((V.IF.set c.toNat { gi V.IF c with cur:=Qv V c }).length:Int); rw[wA]; exact c1V) (j:=2) Qd,λRw SZ _=>fE.step SZ⟩
     ·have g5:¬(Qv V c≠(gi V.IF c).cur\/(gi V.IF c).aC>=50):=by simpa using g5
      have hS:Xl V c (Qv V c)=V:=by
       unfold Xl YJ S8;rw[C' g5,zs9 c0 c1V]
      rw[hS];exact iL.step SZ
    ·intro Wx mM dV Si aS hs6;have uE:=dV.step aS;have hcG:=Lu (t:=Qv V c) (uE.rd.less (cs:=[]) Qs) hR.s1.a.tree t0 (by show _<((V.tasks.length:Nat):Int); omega) hR.us;have ecp:Qa (Xl V c (Qv V c)) m2=Qa V m2:=q9 _ _ _ _;rw[ecp] at hcG;refine I4 hcG ?_;rintro e3 gF ⟨pO,pC,gP,hO,hy6⟩;have hO:Uo Jn 1 Qc Si.heap.size gF pO pC (X6 V (Qv V c)):=hO;have gP:e3=.returned (.slice pO (X6 V (Qv V c)).length pC):=gP;have hK7:=uE.R5 hy6;refine⟨_,_,_,gP,Qe hy6 hs6,λW5 oH hs8=>?_⟩;have hK8:=hK7.step oH
     have CQ1:∀z∈QE pO,z∉[y,y1]:=λz hz hm=>by
      have:=(hO.lt z hz).1;have:=hs6 z hm;omega
     have hO8:=hO.ext oH CQ1
     have CQ2:∀z∈QE pO,z∉QB 8 m2:=λz hz hm=>by
      have:=(hO.lt z hz).1;have:=(uE.own.lt z hm).2;omega
     have hcT:=zf7 hK8.own hR.s1 hK8.base hO8 CQ2 hR.len c0 (by rw[(B1 hI.sw hI.rb c0 c1V hI.up t0 t1).2.2.2.2.2]; exact c1V) hR.pin hR.dr;rw[ecp] at hcT;refine I4 hcT ?_;rintro e4 pU ⟨m3,he4,hy9⟩;have hK9:Wk 8 [y,y1] w pU (Xd V c).1 m3:=hK8.SH hy9 hs8;have hTk:zih c (X6 V (Qv V c)) (Xl V c (Qv V c))=Xd V c:=rfl;rw[hTk] at he4 hy9;have hO9:=hO8.ext hy9.ext CQ2
     have C58:∀z∈QE pO,z∉QB 8 m3:=λz hz hm=>by
      rcases hy9.sub z hm with h1 | h1
      ·exact CQ2 z hz h1
      ·have:=(hO8.lt z hz).2;omega
     have eC:(Xd V c).1.IF=(Xl V c (Qv V c)).IF:=hR.tk.o.c;have lT:(Xd V c).1.IF.length=V.IF.length:=by rw[eC]; exact(B1 hI.sw hI.rb c0 c1V hI.up t0 t1).2.2.2.2.2
     have cT:c<((Xd V c).1.IF.length:Int):=by rw[lT]; exact c1V
     have e9:Qa (Xd V c).1 m3=Qa V m2:=by
      rw[hy9.AS2 (W0:=Xl V c (Qv V c)) hR.tk.o.n (by rw[eC]) (by rw[hR.tk.o.t]) hR.tk.o.g.len];exact ecp
     have rT:RB (Ny (f+1)) (Xd V c).1:=hR.r1.sum hR.tk.su hR.tk.o.g (by rw[eC]);have eT:(Xd V c).1.tasks=V.tasks:=hR.tk.o.t;have eG:Z1 V.IE (Xd V c).1.IE:=hR.tk.o.g;have pT:X6 (Xd V c).1 (Qv V c)=X6 V (Qv V c):=zkn eT eG _;have uT:Q6 (Xd V c).1.IE (Q9 (Xd V c).1 (Qv V c)).group=true:=by rw[eG.fD,Jy eT]; exact hR.us
     have upT:(gi (Xd V c).1.IF c).up=true:=by rw[eC]; exact(B1 hI.sw hI.rb c0 c1V hI.up t0 t1).2.2.1
     have BY4:(gi (Xd V c).1.IF c).aC<50:=by rw[eC]; exact hR.aC
     have hnx:=hR.nx;refine⟨_,_,_,_,_,_,_,_,_,_,_,he4,hK8.kept hy9 hs8,λgt S6 AF8 pD=>?_,λgt=>?_⟩
     ·have gt:¬(Xd V c).2=true:=by simpa using gt
      have hRW:FT V c left=(Qg (Ry (Xd V c).1 c),left):=by unfold FT; rw[C' gt]
      rw[hRW] at hnx hN;have AK5:=hK9.step AF8;have hcE:=ZF AK5.own c0 cT;rw[e9] at hcE;refine I4 hcE ?_;rintro e5 iJ ⟨he5,Bm7⟩;refine⟨_,_,_,_,_,_,_,_,_,_,he5,AK5.kept Bm7 pD,λSr vE AW0=>?_⟩;have BE6:=(AK5.SH Bm7 pD).step vE;refine I4 (Qx BE6.own (hR.tk.sw.Ry c0 cT) Qo Qo BE6.base) ?_;rintro e6 lV ⟨m4,he6,CS0⟩;generalize Qg (Ry (Xd V c).1 c)=V9 at he6 CS0 hnx hN;exact⟨_,_,_,_,_,_,_,_,_,_,he6,BE6.kept CS0 AW0,λWm BV2 _=>Bd1 ⟨V9,m4,left,rfl,(BE6.SH CS0 AW0).step BV2,hnx,hN⟩⟩
     ·have gt:(Xd V c).2=true:=by simpa using gt
      have hRW:FT V c left=(Qg (PY (Xd V c).1 c (Qv V c) (Vi V c left)),left-Vi V c left):=by unfold FT; rw[E' gt]
      rw[hRW] at hnx hN;obtain⟨m1,m2'⟩:=hR.m gt;have wA:=hI.l1;have hcM:=zf4 (n:=left) hK9.rd hR.tk.sw.a (hO9.rd Yb.len CQ1) (pC:=pC) hR.len c0 cT (λz hz=>by rw[eG.fD]; exact hR.pin z hz);rw[e9] at hcM;refine⟨_,hcM,λS6 AF8 pD=>?_⟩;have AK5:=hK9.step AF8;have C03:Uo Jn 1 Qc Si.heap.size S6 pO pC (X6 (Xd V c).1 (Qv V c)):=by rw[pT]; exact hO9.ext AF8 CQ1
      have hcC:=Cr (t:=Qv V c) (n:=Vi V c left) AK5.own AK5.base C03 C58 hR.tk.sw rT ⟨Qo,Qo⟩ ⟨Qo,Qo⟩ c0 cT upT BY4 t0 t1 uT Qo Qo;rw[e9,pT] at hcC;refine I4 hcC ?_;rintro e7 iJ ⟨m4,he7,Bm7⟩;generalize Qg (PY (Xd V c).1 c (Qv V c) (Vi V c left))=V9 at he7 Bm7 hnx hN;exact⟨_,_,_,_,_,_,_,_,_,_,he7,AK5.kept Bm7 pD,⟨by show _<=left-Vi V c left; omega,by show left-Vi V c left<=_; omega⟩,λSr vE _=>Bd1 ⟨V9,m4,left-Vi V c left,rfl,(AK5.SH Bm7 pD).step vE,hnx,hN⟩⟩
  ·have RN:=Ou RN;rw[zmy Qo] at hN;exact λRw SZ _=>⟨V,m2,_,rfl,iL.step SZ,hI.sw,Qo,Qo,hN⟩
 ·rintro a0 a1O a1L a1C a2O a2L a2C a3O a3L a3C w2 iB ⟨V,m2,K,hv,iL,sw,k0,k1,hN⟩ Rw SZ gY;simp only[Qa,I5,I6,Iw,true_and,and_true] at hv;obtain⟨rfl,⟨rfl,rfl,rfl⟩,⟨rfl,rfl,rfl⟩,rfl,rfl,rfl⟩:=hv;have fE:=iL.step SZ;refine I4 (Qx fE.own sw k0 Qo fE.base) ?_;rintro e3 S3 ⟨m3,gP,hy5⟩;rw[hN] at gP hy5;exact⟨_,_,_,_,_,_,_,_,_,_,gP,fE.kept hy5 gY,λW5 oH=>QU.ok hW hb ((fE.SH hy5 gY).step oH)⟩
end
def cO:Code->Code
 | .loop c=>c
 | c=>c
theorem zoe{W:Q7}{g c:Int}(h:¬QX W g c<0):Zx W g c 20=true/\Z5 W g c 20=Zn W c (QX W g c).toNat:=by
 unfold Zx Z5;unfold QX at h ⊢;rw[C' h];exact⟨Ii Qo,rfl⟩
theorem zvv{W:Q7}(ha:WA W)(fl:z27 W){c:Int}(c0:0<=c)(c1:c<(W.IF.length:Int))(f:Nat):∀g:Int,Q6 W.IE g=true->(4-dep 3 W.IE g).toNat=f->(∀x∈Zc W.IE g,(Qb W x c).v<=(Qb W (gi W.IE x).parent c).floor)->0<=Ky W g c->
  (Q9 W (Ky W g c)).v<=(Qb W (Q9 W (Ky W g c)).group c).floor/\∀x∈Zc W.IE (Q9 W (Ky W g c)).group,(Qb W x c).v<=(Qb W (gi W.IE x).parent c).floor:=by
 induction f with
 | zero=>
  intro g hu hf;have:=G8 ha hu;omega
 | succ f ih=>
  intro g hu hf hp h;rw[Ng ha hu] at h ⊢
  by_cases h1:QX W g c<0
  ·rw[E' h1] at h; omega
  ·rw[C' h1] at h ⊢;obtain⟨b1,b2⟩:=zoe h1;have sQ:=fl g c hu c0 c1 b1;rw[b2] at sQ
   by_cases h2:QX W g c<12
   ·rw[E' h2] at h ⊢
    have hm:Zq W g c (QX W g c).toNat=true:=by
     rcases Zu (Zq W g c) (Zn W c) 20 with ⟨a,_⟩ | ⟨_,_,a,_⟩
     ·unfold QX at h1; omega
     ·exact a
    rw[Vh Qo] at hm;unfold OQ at hm;rw[show (((QX W g c).toNat:Nat):Int)=QX W g c by omega] at hm;simp only[A',It] at hm;unfold Zn at sQ;rw[E' Qo,show (((QX W g c).toNat:Nat):Int)=QX W g c by omega] at sQ;rw[show (Q9 W (QX W g c)).group=g from hm.1.2];exact⟨sQ,hp⟩
   ·rw[C' h2] at h ⊢;obtain⟨k1,k2,k3,k4⟩:=H8 ha hu (g:=g) (c:=c) Qo
    have hm:Zq W g c (QX W g c).toNat=true:=by
     rcases Zu (Zq W g c) (Zn W c) 20 with ⟨a,_⟩ | ⟨_,_,a,_⟩
     ·unfold QX at h1; omega
     ·exact a
    rw[show (QX W g c).toNat=12+(QX W g c-12).toNat by omega,Ua] at hm;unfold Jf at hm;rw[show (((QX W g c-12).toNat:Nat):Int)=QX W g c-12 by omega] at hm;simp only[A',It] at hm;unfold Zn at sQ;rw[C' Qo,show (((QX W g c).toNat-12:Nat):Int)=QX W g c-12 by omega] at sQ;refine ih _ k1 Qo (λx hx=>?_) h;rw[YP ha.tree k1 k2] at hx;rcases Ij.1 hx with e | e
    ·rw[e,hm.1.2.2]; exact sQ
    ·rw[hm.1.2.2] at e; exact hp x e
structure z18 (W:Q7) (c t aC:Int):Prop where
 r0:0<=aC
 r1:aC<50
 t1:(Q9 W t).v-(Qb W (Q9 W t).group c).floor<=Zf aC (Qf (Q9 W t).nice)
 t2:(Qb W (Q9 W t).group c).floor<=(Q9 W t).v
 p1:∀x∈Zc W.IE (Q9 W t).group,(Qb W x c).v-(Qb W (gi W.IE x).parent c).floor<=Zf aC (Qb W x c).w
 p2:∀x∈Zc W.IE (Q9 W t).group,(Qb W (gi W.IE x).parent c).floor<=(Qb W x c).v
theorem zxr{W:Q7}(iv:JS W){c:Int}(c0:0<=c)(c1:c<(W.IF.length:Int))(hl:zpt W (Qv W c) c)(hp:¬Qv W c<0):z18 W c (Qv W c) (gi (Xl W c (Qv W c)).IF c).aC:=by
 have wp:=iv.wp;have p:=XB wp;have h:=OI p hl.t0 hl.t1 (by rw[hl.st]; decide);have e:gi (Xl W c (Qv W c)).IF c=YJ W c (Qv W c):=(QG _ _ c0 c1 c0).trans (E' rfl)
 have t2:(Qb W (Q9 W (Qv W c)).group c).floor<=(Q9 W (Qv W c)).v:=by
  have:=(h.f hl.st).1
  rwa[hl.R3] at this
 have p2:∀x∈Zc W.IE (Q9 W (Qv W c)).group,(Qb W (gi W.IE x).parent c).floor<=(Qb W x c).v:=λx hx=>by
  obtain⟨xu,xz⟩:=YV wp.a.tree _ h.g x hx;exact((p.s x c xu c0 c1).st xz (hl.on x hx)).1
 rw[e]
 by_cases hc:(gi W.IF c).cur>=0/\(gi W.IF c).aC<50
 ·have hpk:Qv W c=(gi W.IF c).cur:=by unfold Qv; rw[E' hc]
  have hs:YJ W c (Qv W c)=gi W.IF c:=by
   unfold YJ;rw[C'];rintro (h | h)
   ·exact h hpk
   ·omega
  rw[hs];have hy:=(p.c c c0 c1).yes hc.1;have hq:=(p.c c c0 c1).q hc.1 (by rw[<-hpk]; exact hl.st) (by rw[<-hpk]; exact hl.R3);rw[<-hpk] at hq;exact⟨Qo,hc.2,hq.1,t2,λx hx=>(hq.2 x hx).2,p2⟩
 ·have hpk:Qv W c=Ky W 0 c:=by unfold Qv; rw[C' hc]
  have hs:(YJ W c (Qv W c)).aC=0:=by
   unfold YJ;rw[E']
   by_cases h0:(gi W.IF c).cur>=0
   ·exact .inr Qo
   ·exact .inl Qo
  rw[hs];have hn:=zvv wp.a iv.fl c0 c1 _ 0 wp.a.root rfl (λx hx=>by rw[show Zc W.IE 0=[] from Zr _ _] at hx; cases hx) (by rw[<-hpk]; omega);rw[<-hpk] at hn;have v0:∀w:Int,0<=Zf 0 w:=λw=>(H0 0 w).1
  refine⟨I3 _,Qd,?_,t2,λx hx=>?_,p2⟩
  ·have:=v0 (Qf (Q9 W (Qv W c)).nice);have:=hn.1;omega
  ·have:=v0 (Qb W x c).w;have:=hn.2 x hx;omega
theorem zv3{gs:List ZV}(ht:Yk gs):∀g:Int,Q6 gs g=true->∀x∈Zc gs g,dep 3 gs x<=dep 3 gs g:=
 Mo ht (λx hx=>by rw[show Zc gs 0=[] from Zr _ _] at hx; cases hx) λh hu hz ih x hx=>by
  rw[YP ht hu hz] at hx;rcases Ij.1 hx with e | e
  ·subst e; exact I3 _
  ·obtain⟨_,_,_,d,e1,e2,_⟩:=Yl ht hu hz;have:=ih x e;omega
theorem zza{gs:List ZV}(ht:Yk gs):∀g:Int,Q6 gs g=true->(Zc gs g++[0]).Nodup:=
 Mo ht (by rw[show Zc gs 0=[] from Zr _ _]; simp) λh hu hz ih=>by
  rw[YP ht hu hz,List.cons_append,List.nodup_cons];refine⟨λhm=>?_,ih⟩;rcases Io.1 hm with hm | hm
  ·obtain⟨hp,_,_,d,e1,e2,_⟩:=Yl ht hu hz;have:=zv3 ht _ hp h hm;omega
  ·exact hz (IA.1 hm)
theorem zxw{W:Q7}{c n g:Int}(cP:W.IE.length=8)(u0:0<=g)(u1:g<8)(c0:0<=c)(cs:c<((gi W.IE g).IG.length:Int))(i d:Int)(hi:0<=i)(hd:0<=d):Qb (zbf W c n g) i d=if g=i/\c=d then j8 W c n g else Qb W i d:=by
 rw[<-Jw (W:=W) (s:=j8 W c n g) u0 Qo c0 cs hi hd];have hl2:g<((G4 W c n g).IE.length:Int):=by rw[H4]; omega
 have wA:g<((Rf (G4 W c n g) g (NS W c n g)).IE.length:Int):=by simp only[Rf,H']; rw[H4]; omega
 unfold Qb;show gi (gi (zbf W c n g).IE i).IG d=gi (gi (G4 W c n g).IE i).IG d;unfold zbf RP;rw[Yz u0 wA hi,Yz u0 hl2 hi,Yz u0 hl2 u0,E' rfl];split
 ·rename_i e;subst e;rfl
 ·rfl
theorem zxx{K S c n:Int}(c0:0<=c)(n0:0<=n)(n1:n<=100):∀(l:List Int) {W:Q7},l.Nodup->SW K W->RB S W->S+100*(l.length:Int)<=100000000000000000->c<(W.IF.length:Int)->(∀g∈l,Q6 W.IE g=true)->
  ∀i d:Int,0<=i->0<=d->Qb (zi9 c n l W) i d=if i∈l/\c=d then j8 W c n i else Qb W i d:=by
 intro l
 induction l generalizing K S with
 | nil=>
  intro W _ _ _ _ _ _ i d _ _;rw[C' Qs]; rfl
 | cons g l ih=>
  intro W nd sw rb hS c1 hu i d hi hd;rw[List.length_cons] at hS;have hug:=hu g Ia;obtain⟨u0,u1,_⟩:=sw.a.u hug;have hsl:=sw.a.sl hug;have h1:=zn4 sw rb Qo c0 c1 hug n0 n1;obtain⟨hng,ndl⟩:=List.nodup_cons.1 nd;have e:=zxw (n:=n) sw.a.gl u0 u1 c0 Qo;rw[zlf,ih ndl h1.sw (h1.rb.mono (show S+n<=S+100 by omega)) Qo (by rw[h1.cp]; exact c1) (λx hx=>by rw[h1.g.fD]; exact hu x (I2 _ hx)) i d hi hd]
  by_cases hil:i∈l
  ·have hgi:g≠i:=λh=>hng (h▸hil)
   by_cases hcd:c=d
   ·rw[E' ⟨hil,hcd⟩,E' ⟨I2 _ hil,hcd⟩];unfold j8;rw[e i c hi c0,C' λh=>hgi h.1]
   ·rw[C' λh=>hcd h.2,C' λh=>hcd h.2,e i d hi hd,C' λh=>hcd h.2]
  ·rw[C' λh=>hil h.1,e i d hi hd]
   by_cases hgi:g=i
   ·subst hgi
    by_cases hcd:c=d
    ·rw[E' ⟨rfl,hcd⟩,E' ⟨Ia,hcd⟩]
    ·rw[C' λh=>hcd h.2,C' λh=>hcd h.2]
   ·rw[C' λh=>hgi h.1,C'];rintro⟨hm,_⟩;rcases Ij.1 hm with h | h
    ·exact hgi h.symm
    ·exact hil h
theorem zrf{a b w:Int}(ha:0<=a)(hb:0<=b)(h:a+b<=149)(w1:1<=w)(w2:w<=20):Zf (a+b) w=Zf a w+Zf b w/\Zf a w+Zf b w<=ZB w:=by
 have e1:=zij ha hb Qo w1 w2;have e2:=zij (a:=a+b) (b:=149-(a+b)) (w:=w) Qo Qo Qo w1 w2;rw[show a+b+(149-(a+b))=149 by omega] at e2;have:=(H0 (149-(a+b)) w).1;unfold ZB;omega
structure z3a (V T:Q7) (c t:Int):Prop where
 tk:T.tasks=V.tasks
 g:Z1 V.IE T.IE
 s:∀i:Int,0<=i->(gi T.IE i).IG=(gi V.IE i).IG
 cp:∀d:Int,0<=d->gi T.IF d=if c=d then YJ V c t else gi V.IF d
 l:T.IF.length=V.IF.length
theorem z0t{K S:Int}{V T:Q7}{c t m:Int}(iv:JS V)(hM:z3a V T c t)(sw:SW K T)(rb:RB S T)(hS:0<=S/\S+500<=100000000000000000)(c0:0<=c)(c1:c<(V.IF.length:Int))(up:(gi V.IF c).up=true)(t0:0<=t)(t1:t<12)(mS:(Q9 V t).state=1)(mR:(Q9 V t).R3=c)(sP:(YJ V c t).cur=t)(hb:z18 V c t (YJ V c t).aC)(m0:1<=m)(m1:m<=100):TI (PY T c t m):=by
 have wp:=iv.wp;have p:=XB wp;have hht:=OI p t0 t1 (by rw[mS]; decide);have cP:=wp.a.gl;have fH:=wp.a.t;have c1T:c<(T.IF.length:Int):=by rw[hM.l]; exact c1
 have eTc:gi T.IF c=YJ V c t:=(hM.cp c c0).trans (E' rfl);have upT:(gi T.IF c).up=true:=by rw[eTc]; unfold YJ; split <;> exact up
 have BY4:(gi T.IF c).aC<50:=by rw[eTc]; exact hb.r1
 have hg:Q6 V.IE (Q9 V t).group=true:=hht.g;have huT:Q6 T.IE (Q9 T t).group=true:=by rw[hM.g.fD,Jy hM.tk]; exact hg
 have pT:X6 T t=X6 V t:=zkn hM.tk hM.g t;obtain⟨sE,rE,_,_,hlE,_,s1,r1,cp1⟩:=zja sw rb hS.2 c0 c1T upT BY4 t0 t1 huT Qo m1;obtain⟨pin,CS7⟩:=zaa sw.a huT;have hTG:Z1 V.IE (PY T c t m).IE:=hM.g.trans cp1.g;have shT:∀i d:Int,0<=i->Qb T i d=Qb V i d:=λi d hi=>by unfold Qb; rw[hM.s i hi]
 have hnd:(X6 T t).Nodup:=by rw[pT]; exact zza wp.a.tree _ hg
 have eS:∀i d:Int,0<=i->0<=d->Qb (PY T c t m) i d=if i∈X6 V t/\c=d then j8 V c m i else Qb V i d:=λi d hi hd=>by
  have e:=zxx c0 Qo m1 (X6 T t) hnd s1 r1 Qo c1T pin i d hi hd;have e':Qb (PY T c t m) i d=if i∈X6 T t/\c=d then j8 T c m i else Qb T i d:=e;rw[e',pT,shT i d hi];have:j8 T c m i=j8 V c m i:=by unfold j8; rw[shT i c hi]
  rw[this]
 have fF:∀i d:Int,0<=i->0<=d->(Qb (PY T c t m) i d).floor=(Qb V i d).floor:=λi d hi hd=>by
  rw[eS i d hi hd]; split
  ·rename_i h; rw[<-h.2]; rfl
  ·rfl
 have fO:∀i d:Int,0<=i->0<=d->(Qb (PY T c t m) i d).on=(Qb V i d).on:=λi d hi hd=>by
  rw[eS i d hi hd]; split
  ·rename_i h; rw[<-h.2]; rfl
  ·rfl
 have fW:∀i d:Int,0<=i->0<=d->(Qb (PY T c t m) i d).w=(Qb V i d).w:=λi d hi hd=>by
  rw[eS i d hi hd]; split
  ·rename_i h; rw[<-h.2]; rfl
  ·rfl
 have fV:∀i d:Int,0<=i->0<=d->¬(i∈Zc V.IE (Q9 V t).group/\c=d)->(Qb (PY T c t m) i d).v=(Qb V i d).v:=λi d hi hd hn=>by
  rw[eS i d hi hd]; split
  ·rename_i h
   have hz:¬i≠0:=λhz=>by
    rcases Io.1 h.1 with h' | h'
    ·exact hn ⟨h',h.2⟩
    ·exact hz (IA.1 h')
   rw[<-h.2];show (if i≠0 then _ else _)=_;rw[C' hz]
  ·rfl
 have fP:∀i:Int,i∈Zc V.IE (Q9 V t).group->(Qb (PY T c t m) i c).v=(Qb V i c).v+Zf m (Qb V i c).w:=λi hi=>by
  obtain⟨iu,iz⟩:=YV wp.a.tree _ hg i hi;rw[eS i c (Q5.1 iu).1 c0,E' ⟨Ib _ hi,rfl⟩];show (if i≠0 then _ else _)=_;rw[E' iz]
 have eK:∀i:Int,0<=i->Q9 (PY T c t m) i=if t=i then G5 V t m else Q9 V i:=λi hi=>by
  have h1:Q9 (PY T c t m) i=gi (T.tasks.set t.toNat (G5 T t m)) i:=by
   show gi (zi9 c m (X6 T t) (IV T t (G5 T t m))).tasks i=_;rw[cp1.t]; rfl
  have h2:G5 T t m=G5 V t m:=by unfold G5; rw[Jy hM.tk]
  rw[h1,QG _ _ t0 (by rw[hM.tk]; omega) hi,h2];split
  ·rfl
  ·exact Jy hM.tk i
 have eC:∀d:Int,0<=d->gi (PY T c t m).IF d=if c=d then zp4 T c m else gi V.IF d:=λd hd=>by
  have h1:gi (PY T c t m).IF d=gi (T.IF.set c.toNat (zp4 T c m)) d:=by
   show gi ((zi9 c m (X6 T t) (IV T t (G5 T t m))).IF.set c.toNat (zp4 T c m)) d=_;rw[cp1.cp]; rfl
  rw[h1,QG _ _ c0 c1T hd];split
  ·rfl
  ·rename_i h;rw[hM.cp d hd,C' h]
 have wn:1<=Qf (Q9 V t).nice/\Qf (Q9 V t).nice<=20:=by
  have:=Jz (Q9 V t).nice;have:=hht.n;omega
 have hv0:∀w:Int,0<=Zf m w:=λw=>(H0 m w).1
 have C77:∀i d:Int,Q6 V.IE i=true->0<=d->d<(V.IF.length:Int)->1<=(Qb V i d).w/\(Qb V i d).w<=20:=λi d hu d0 d1=>by
  have:=Ef wp hu d0 d1;exact⟨this.w1,this.w2⟩
 have vt:=zrf hb.r0 (show 0<=m by omega) (by have:=hb.r1; omega) wn.1 wn.2
 have vp:∀i:Int,i∈Zc V.IE (Q9 V t).group->Zf ((YJ V c t).aC+m) (Qb V i c).w=Zf (YJ V c t).aC (Qb V i c).w+Zf m (Qb V i c).w/\Zf (YJ V c t).aC (Qb V i c).w+Zf m (Qb V i c).w<=ZB (Qb V i c).w:=λi hi=>by
  have h:=C77 i c (YV wp.a.tree _ hg i hi).1 c0 c1;exact zrf hb.r0 (show 0<=m by omega) (by have:=hb.r1; omega) h.1 h.2
 have CC2:∀i:Int,Q6 V.IE i=true->i≠0->0<=(gi V.IE i).parent:=λi hu hz=>(Q5.1 (Yl wp.a.tree hu hz).1).1
 have Ci5:∀i:Int,i∈Zc V.IE (Q9 V t).group->VY (PY T c t m) i c:=λi hi=>by
  obtain⟨iu,iz⟩:=YV wp.a.tree _ hg i hi;have i0:=(Q5.1 iu).1;unfold VY;rw[hTG.p,fF _ c (CC2 i iu iz) c0,fP i hi,fW i c i0 c0];have h1:=hb.p1 i hi;have h2:=hb.p2 i hi;have h3:=vp i hi;have:=hv0 (Qb V i c).w;omega
 refine⟨⟨sE.a,λi a b=>?_,λi a b n=>?_,λk d hk d0 d1=>?_⟩,λd d0 d1=>?_⟩
 ·have hrt:=rE.t i a b;rw[eK i a] at hrt ⊢;split
  ·rename_i he;rw[E' he] at hrt;refine .inr ⟨by show (Q9 V t).state≠0; rw[mS]; decide,hht.st,by rw[hTG.fD]; exact hg,hht.n,hht.m,hht.m0,Ys.2 ⟨hrt.1,Qo⟩,Ys.2 ⟨hrt.2.2.1,Qo⟩,hht.l1,hht.l2,λ_=>?_⟩;show (Qb (PY T c t m) (Q9 V t).group (Q9 V t).R3).floor<=(Q9 V t).v+Zf m (Qf (Q9 V t).nice)/\(Q9 V t).v+Zf m (Qf (Q9 V t).nice)-(Qb (PY T c t m) (Q9 V t).group (Q9 V t).R3).floor<=ZB (Qf (Q9 V t).nice);rw[mR,fF _ c (Q5.1 hg).1 c0];have:=hb.t1;have:=hb.t2;have:=hv0 (Qf (Q9 V t).nice);omega
  ·rcases p.t i a b with h | ⟨h1,h2⟩
   ·exact .inl h
   ·refine .inr ⟨h1,h2.st,by rw[hTG.fD]; exact h2.g,h2.n,h2.m,h2.m0,h2.s,h2.u,h2.l1,h2.l2,λhs=>?_⟩;rw[fF _ _ (Q5.1 h2.g).1 (p.l i a b h1).1];exact h2.f hs
 ·rw[hlE,hM.l];rw[eK i a] at n ⊢;split
  ·show 0<=(Q9 V t).R3/\(Q9 V t).R3<_;rw[mR]; exact⟨c0,c1⟩
  ·rename_i he;rw[C' he] at n;exact p.l i a b n
 ·have xK:=rE.s k d hk d0 d1;rw[hTG.fD] at hk;rw[hlE,hM.l] at d1;have k0:=(Q5.1 hk).1;have hp:=p.s k d hk d0 d1;refine⟨Ys.2 ⟨xK.1,Qo⟩,λhz=>?_,λhz ho=>?_⟩
  ·have h:=hp.root hz;rw[fO k d k0 d0,fW k d k0 d0,fV k d k0 d0 λh=>(YV wp.a.tree _ hg k h.1).2 hz];exact h
  ·rw[fO k d k0 d0] at ho
   by_cases vZ:k∈Zc V.IE (Q9 V t).group/\c=d
   ·obtain⟨h1,rfl⟩:=vZ;exact Ci5 k h1
   ·have h:=hp.st hz ho;unfold VY at h ⊢;rw[hTG.p,fF _ d (CC2 k hk hz) d0,fV k d k0 d0 vZ,fW k d k0 d0];exact h
 ·have hrc:=rE.c d d0 d1;rw[hlE,hM.l] at d1
  by_cases hd:c=d
  ·subst hd;have e:=(eC c c0).trans (E' rfl);have Cy0:(gi (PY T c t m).IF c).cur=t:=by rw[e]; show (gi T.IF c).cur=t; rw[eTc]; exact sP
   have Cy4:(gi (PY T c t m).IF c).aC=(YJ V c t).aC+m:=by rw[e]; show (gi T.IF c).aC+m=_; rw[eTc]
   have cD:=hb.r0;have wX:=hb.r1;refine⟨Ys.2 ⟨hrc.1,Qo⟩,Ys.2 ⟨hrc.2.2.1,by have:=hrc.2.2.2.1; omega⟩,Qo,Qo,λh0=>by omega,λ_=>⟨by rw[e]; exact upT,Qo,Qo⟩,λ_ _ _=>?_⟩;rw[Cy0,Cy4,eK t t0,E' rfl];refine⟨?_,λx hx=>?_⟩
   ·show (Q9 V t).v+Zf m (Qf (Q9 V t).nice)-(Qb (PY T c t m) (Q9 V t).group c).floor<=Zf ((YJ V c t).aC+m) (Qf (Q9 V t).nice);rw[fF _ c (Q5.1 hg).1 c0,vt.1];have:=hb.t1;omega
   ·have hx:x∈Zc (PY T c t m).IE (Q9 V t).group:=hx;rw[TF hTG] at hx;obtain⟨xu,xz⟩:=YV wp.a.tree _ hg x hx;refine⟨Ci5 x hx,?_⟩;rw[hTG.p,fF _ c (CC2 x xu xz) c0,fP x hx,fW x c (Q5.1 xu).1 c0,(vp x hx).1];have:=hb.p1 x hx;omega
  ·have e:=(eC d d0).trans (C' hd);have h:=p.c d d0 d1;refine⟨by rw[e]; exact h.b,by rw[e]; exact h.i,by rw[e]; exact h.c1,by rw[e]; exact h.c2,by rw[e]; exact h.no,by rw[e]; exact h.yes,?_⟩;rw[e];intro h0 h1 h2;rw[eK _ h0] at h1 h2 ⊢
   by_cases ht:t=(gi V.IF d).cur
   ·rw[E' ht] at h2;have h2:(Q9 V t).R3=d:=h2;exact Is (mR.symm.trans h2) hd
   ·rw[C' ht] at h1 h2 ⊢;obtain⟨q1,q2⟩:=h.q h0 h1 h2;have mB:=(OI p h0 h.c2 (by rw[h1]; decide)).g;refine⟨by rw[fF _ d (Q5.1 mB).1 d0]; exact q1,λx hx=>?_⟩;rw[TF hTG] at hx;obtain⟨xu,xz⟩:=YV wp.a.tree _ mB x hx;have x0:=(Q5.1 xu).1;have:=q2 x hx;unfold VY at this ⊢;rw[hTG.p,fF _ d (CC2 x xu xz) d0,fV x d x0 d0 λh=>hd h.2,fW x d x0 d0];exact this
theorem zzl(W:Q7)(c n g:Int):TM W (zbf W c n g):=
 ((zd3 W g c (j8 W c n g)).trans (zpg (W:=G4 W c n g) (g:=g) (x:=NS W c n g) rfl rfl rfl rfl rfl)).trans (zpf _ _ _)
theorem zq4(c n:Int):∀(l:List Int) (W:Q7),TM W (zi9 c n l W)
 | [],W=>TM.refl _
 | g::l,W=>(zzl W c n g).trans (zq4 c n l _)
theorem zq5(W:Q7)(c g:Int):TM W (zae W c g).1:=by
 unfold zae;split
 ·exact TM.refl _
 ·exact zpf _ _ _
theorem zq6(c:Int):∀(l:List Int) (W:Q7),TM W (zih c l W).1
 | [],W=>TM.refl _
 | g::l,W=>by
  simp only[zih];split
  ·exact(zq5 W c g).trans (zq6 c l _)
  ·exact zq5 W c g
theorem zwr(W:Q7)(c t:Int):TM W (Xl W c t):=zkt (by unfold YJ; split <;> rfl)
theorem zr1(W:Q7)(c t:Int):Ja (YJ W c t)=Ja (gi W.IF c):=by unfold YJ; split <;> rfl
theorem zya{f:Nat}{c left:Int}{W0 V:Q7}(h:zei f c W0 V left)(iv:JS V):JS (Qg (Ry (S8 V c (Gl V c left)) c)):=by
 have p:=XB iv.wp;have c0:=h.c0;have c1:=h.c1;have hK:=FW h.f2;have hh0:(0:Int)<=Ql:=Qd;have mS:Vj=173430457200:=rfl;obtain⟨sE,s1,i3,i4⟩:=zu1 h;have hl:(S8 V c (Gl V c left)).IF.length=V.IF.length:=H'
 have hP:TI (S8 V c (Gl V c left)):=by
  refine⟨⟨s1.a,λt t0 t1=>(p.t t t0 t1).imp id λh=>⟨h.1,h.2.gr rfl⟩,λt t0 t1 n=>?_,λk d hk d0 d1=>?_⟩,λd d0 d1=>?_⟩
  ·rw[hl]; exact p.l t t0 t1 n
  ·rw[hl] at d1; exact(p.s k d hk d0 d1).Bx1 rfl λ_=>rfl
  ·rw[hl] at d1;have hd:=p.c d d0 d1;have e:gi (S8 V c (Gl V c left)).IF d=if c=d then Gl V c left else gi V.IF d:=QG _ _ c0 c1 d0
   by_cases he:c=d
   ·subst he;have e:=e.trans (E' rfl);exact⟨by rw[e]; exact hd.b,by rw[e]; exact Ys.2 ⟨i3,by show (gi V.IF c).idle+left<=_; omega⟩,by rw[e]; exact hd.c1,by rw[e]; exact hd.c2,by rw[e]; exact hd.no,by rw[e]; exact hd.yes,by rw[e]; exact hd.q⟩
   ·have e:=e.trans (C' he);exact⟨by rw[e]; exact hd.b,by rw[e]; exact hd.i,by rw[e]; exact hd.c1,by rw[e]; exact hd.c2,by rw[e]; exact hd.no,by rw[e]; exact hd.yes,by rw[e]; exact hd.q⟩
 exact ZE sE Qo Qo (hP.Ry c0 (by rw[hl]; exact c1)) (((zkt (W:=V) (c:=c) (x:=Gl V c left) rfl).loc rfl (Vg iv.wp)).Ry _)
theorem zzh{f:Nat}{c left:Int}{W0 V:Q7}(h:zei (f+1) c W0 V left)(iv:JS V)(hl:0<left)(hp:¬Qv V c<0):JS (FT V c left).1:=by
 have hR:=zo8 h hl hp;have c0:=h.c0;have c1:=h.c1;have hK:=FW h.f2;have hSu:=zkq h.f2;have hh0:(0:Int)<=Ql:=Qd;have mS:Vj=173430457200:=rfl;have hlg:Qj=34686091440:=rfl;have t0:=hR.line.t0;have t1:=hR.line.t1;obtain⟨q1,q2,q3,q4,q5,q6⟩:=B1 h.sw h.rb c0 c1 h.up t0 t1;have eC:(Xd V c).1.IF=(Xl V c (Qv V c)).IF:=hR.tk.o.c;have lT:(Xd V c).1.IF.length=V.IF.length:=by rw[eC]; exact q6
 have cT:c<((Xd V c).1.IF.length:Int):=by rw[lT]; exact c1
 have rT:RB (Ny (f+1)) (Xd V c).1:=hR.r1.sum hR.tk.su hR.tk.o.g (by rw[eC]);have eT:(Xd V c).1.tasks=V.tasks:=hR.tk.o.t;have eG:Z1 V.IE (Xd V c).1.IE:=hR.tk.o.g;have eN:(Xd V c).1.now=V.now:=hR.tk.o.n;have eSh:∀i:Int,0<=i->(gi (Xd V c).1.IE i).IG=(gi V.IE i).IG:=hR.tk.o.s;have sT:TM V (Xd V c).1:=(zwr V c (Qv V c)).trans (zq6 c _ _);have lcT:zah (Xd V c).1:=sT.loc eT (Vg iv.wp)
 have eCp:∀d:Int,0<=d->gi (Xd V c).1.IF d=if c=d then YJ V c (Qv V c) else gi V.IF d:=λd hd=>by
  rw[eC]; exact QG _ _ c0 c1 hd
 have hRW:FT V c left=if (Xd V c).2=true then (Qg (PY (Xd V c).1 c (Qv V c) (Vi V c left)),left-Vi V c left) else (Qg (Ry (Xd V c).1 c),left):=rfl;rw[hRW]
 by_cases gt:(Xd V c).2=true
 ·rw[E' gt];obtain⟨m1,m2⟩:=hR.m gt;obtain⟨sC,rC⟩:=hR.ch gt;have wA:=h.l1;have hb:=zxr iv c0 c1 hR.line hp;have es:gi (Xl V c (Qv V c)).IF c=YJ V c (Qv V c):=(QG _ _ c0 c1 c0).trans (E' rfl);rw[es] at hb q5;have hP:TI (PY (Xd V c).1 c (Qv V c) (Vi V c left)):=z0t iv ⟨eT,eG,eSh,eCp,lT⟩ hR.tk.sw rT ⟨Qo,Qo⟩ c0 c1 h.up t0 t1 hR.line.st hR.line.R3 q5 hb m1 Qo;refine ZE sC Qo Qo hP ?_;have uT:Q6 (Xd V c).1.IE (Q9 (Xd V c).1 (Qv V c)).group=true:=by rw[eG.fD,Jy eT]; exact hR.us
  have upT:(gi (Xd V c).1.IF c).up=true:=by rw[eC]; exact q3
  have BY4:(gi (Xd V c).1.IF c).aC<50:=by rw[eC]; exact hR.aC
  have cp1:=(zja (t:=Qv V c) (n:=Vi V c left) hR.tk.sw rT Qo c0 cT upT BY4 t0 t1 uT Qo Qo).2.2.2.2.2.2.2.2;have l1:zah (IV (Xd V c).1 (Qv V c) (G5 (Xd V c).1 (Qv V c) (Vi V c left))):=lcT.IV hR.tk.sw.a t0 t1 λn=>lcT _ t0 t1 n
  have l2:=(zq4 c (Vi V c left) (X6 (Xd V c).1 (Qv V c)) (IV (Xd V c).1 (Qv V c) (G5 (Xd V c).1 (Qv V c) (Vi V c left)))).loc cp1.t l1;refine TM.loc (zkt ?_) rfl l2;show (gi (Xd V c).1.IF c).up=(gi (zi9 c (Vi V c left) (X6 (Xd V c).1 (Qv V c)) (IV (Xd V c).1 (Qv V c) (G5 (Xd V c).1 (Qv V c) (Vi V c left)))).IF c).up;rw[cp1.cp]; rfl
 ·rw[C' gt]
  have hE:Ry (Xd V c).1 c=Ry { (Xd V c).1 with IF:=V.IF } c:=by
   have e1:=(eCp c c0).trans (E' rfl);show ({ (Xd V c).1 with IF:=(Xd V c).1.IF.set c.toNat (Ja (gi (Xd V c).1.IF c)) }:Q7)={ (Xd V c).1 with IF:=V.IF.set c.toNat (Ja (gi V.IF c)) };rw[e1,zr1,eC];show ({ (Xd V c).1 with IF:=(V.IF.set c.toNat (YJ V c (Qv V c))).set c.toNat (Ja (gi V.IF c)) }:Q7)=_;rw[List.set_set]
  have ha:WA ({ (Xd V c).1 with IF:=V.IF }:Q7):=hR.tk.sw.a.cp lT.symm iv.wp.a.ups;have p2:TI ({ (Xd V c).1 with IF:=V.IF }:Q7):=(XB iv.wp).BK6 ⟨eN,rfl,eT,eG,eSh⟩ ha;have pB:=lcT.Ry c;have sE:=hR.tk.sw.Ry c0 cT;rw[hE] at pB sE ⊢;exact ZE sE Qo Qo (p2.Ry c0 c1) pB
theorem zmz{c:Int}{W0:Q7}:∀(f:Nat) {V:Q7} {left:Int},zei f c W0 V left->JS V->JS (zdt c f V left)
 | 0,V,left,h,_=>by
  have:=h.f1;have:=h.l0;omega
 | f+1,V,left,h,iv=>by
  have hK:=FW h.f2;have hh0:(0:Int)<=Ql:=Qd;have mS:Vj=173430457200:=rfl
  by_cases hl:left<=0
  ·rw[zmy hl];exact ZE h.sw Qo Qo (XB iv.wp) (Vg iv.wp)
  ·by_cases hp:Qv V c<0
   ·rw[zh1 hl hp];exact zya h iv
   ·rw[zh2 hl hp];have hR:=zo8 h Qo hp;exact zmz f hR.nx (zzh h iv Qo hp)
theorem zyk{W:Q7}{c n:Int}(iv:JS W)(hb:FU W c n=0):JS (zs5 W c n):=zmz 400 (zwj (Qh.2 iv.wp) hb).2.2.2.2 iv
theorem ztm{W:Q7}(wp:Je W){c:Int}(c0:0<=c)(c1:c<(W.IF.length:Int)):Je (Ry W c):=by
 have hl:(Ry W c).IF.length=W.IF.length:=H';have e:∀d:Int,0<=d->gi (Ry W c).IF d=if c=d then Ja (gi W.IF c) else gi W.IF d:=λd d0=>QG _ _ c0 c1 d0
 have sta:=Hl W c
 have ha:WA (Ry W c):=wp.a.cp (cs:=W.IF.set c.toNat (Ja (gi W.IF c))) H' (by
  rw[show JZ (W.IF.set c.toNat (Ja (gi W.IF c)))=JZ W.IF from sta.ups];exact wp.a.ups)
 refine⟨ha,λt t0 t1=>?_,λk d k0 k1 d0 d1=>?_,λd d0 d1=>?_⟩
 ·rcases wp.t t t0 t1 with hz | ⟨n,hx⟩
  ·exact .inl hz
  ·refine .inr ⟨n,hx.st,hx.g,hx.n,hx.m,hx.m0,hx.v,hx.s,hx.u,hx.l1,hx.l2,?_,hx.f⟩;rw[sta.wh]; exact hx.c
 ·have hs:=wp.s k d k0 k1 d0 d1;exact⟨hs.f,hs.v,hs.s,hs.w1,hs.w2,hs.root,hs.on,hs.st⟩
 ·rw[hl] at d1;have h:=wp.c d d0 d1
  by_cases hd:c=d
  ·subst hd;have e1:=(e c c0).trans (E' rfl);refine⟨by rw[e1]; exact h.b,by rw[e1]; exact h.i,by rw[e1]; show (-1:Int)<=-1; decide,by rw[e1]; show (-1:Int)<_; have:=wp.a.t; show (-1:Int)<(W.tasks.length:Int); omega,λ_=>by rw[e1]; rfl,λh0=>?_⟩;rw[e1] at h0;have h0:(0:Int)<=-1:=h0;omega
  ·have e1:=(e d d0).trans (C' hd);refine⟨by rw[e1]; exact h.b,by rw[e1]; exact h.i,by rw[e1]; exact h.c1,by rw[e1]; exact h.c2,by rw[e1]; exact h.no,λh0=>?_⟩;rw[e1] at h0 ⊢;obtain⟨y1,y2,y3,y4,y5,y6⟩:=h.yes h0;refine⟨y1,y2,y3,y4,y5,?_⟩;unfold Mt at y6 ⊢;rw[e1];exact y6
theorem zsb{W:Q7}(iv:JS W){c:Int}(c0:0<=c)(c1:c<(W.IF.length:Int)):JS (Ry W c):=
 ⟨ztm iv.wp c0 c1,λk d hu d0 d1 hb=>by
  have hl:(Ry W c).IF.length=W.IF.length:=H';rw[hl] at d1;exact iv.fl k d hu d0 d1 hb⟩
def FD(W:Q7)(t g:Int):Int:=if Z7 (Qy W g (Q9 W t).mask) (Q9 W t).R3=true then (Q9 W t).R3 else HP (Qy W g (Q9 W t).mask)
noncomputable def zc2(W:Q7)(t g:Int):Int:=if ZA W t=false\/Q6 W.IE g=false then 2 else if QM W=false then 10 else 0
def zf8(W:Q7)(t g:Int):Q7:=if (Q9 W t).group=g then W else Qg (VW (QH W t) t g (FD W t g))
theorem zqn{W:Q7}(wp:Je W){t g:Int}(t0:0<=t)(t1:t<12)(n:(Q9 W t).state≠0):0<=FD W t g/\FD W t g<(W.IF.length:Int)/\Z7 (Qy W g (Q9 W t).mask) (FD W t g)=true:=by
 unfold FD;split
 ·rename_i h;have:=(XB wp).l t t0 t1 n;exact⟨this.1,this.2,h⟩
 ·have hw:=KM wp.a g (Q9 W t).mask;have hf:=Hr wp.a g (Q9 W t).mask;exact⟨hf.1,hf.2,FA hw.1 hw.2⟩
theorem zyg{W:Q7}{t g:Int}(iv:JS W)(hb:zc2 W t g=0):JS (zf8 W t g):=by
 have wp:=iv.wp;unfold zc2 at hb
 split at hb
 ·cases hb
 ·rename_i h1
  split at hb
  ·cases hb
  ·rename_i h3;have hth:ZA W t=true:=by cases h:ZA W t with | true=>rfl | false=>exact Is (.inl h) h1
   have hu:Q6 W.IE g=true:=by cases h:Q6 W.IE g with | true=>rfl | false=>exact Is (.inr h) h1
   have hr:QM W=true:=by simpa using h3
   obtain⟨t0,t1,n⟩:=YA hth;have fH:=wp.a.t;unfold zf8;split
   ·exact iv
   ·obtain⟨m0,m1,m2⟩:=zqn wp (g:=g) t0 Qo n;have sw:=PH wp (Qh.1 hr);obtain⟨c0,c1⟩:=(XB wp).l t t0 Qo n
    have key:TI (QH W t)/\TM W (QH W t)/\SW Ql (QH W t)/\Q9 (QH W t) t=Q9 W t/\(QH W t).tasks=W.tasks/\(QH W t).IE=W.IE:=by
     unfold QH;split
     ·exact⟨(XB wp).Ry c0 c1,Hl _ _,sw.Ry c0 c1,rfl,rfl,rfl⟩
     ·exact⟨XB wp,TM.refl _,sw,rfl,rfl,rfl⟩
    obtain⟨k1,k2,k3,k4,k5,k6⟩:=key;have hlo:=k2.loc k5 (Vg wp);have hu2:Q6 (QH W t).IE g=true:=by rw[k6]; exact hu
    have hm1:FD W t g<((QH W t).IF.length:Int):=by rw[k2.len]; exact m1
    have sf:=(zab (KI k3) (I3 _) (t:=t) t0 Qo hu2 m0 hm1).2;refine ZE sf.w (by simp only[Qj]; decide) (by simp only[Qj,Vj]; decide) (zdq k1 t0 Qo (by rw[k4]; exact n) hu2 m0 hm1) λi i0 i1 hn=>?_
    rw[(zad (QH W t) t g (FD W t g)).wh];rw[zo6 k1.a.t t0 Qo i0] at hn ⊢
    split at hn
    ·rename_i he;rw[E' he];show Z7 (Qy (QH W t) g (Q9 (QH W t) t).mask) (FD W t g)=true;rw[k4,k2.wh]; exact m2
    ·rename_i he;rw[C' he];exact hlo i i0 i1 hn
structure zg1 (W:Q7) (g:Int):Prop where
 g1:1<=g
 us:Q6 W.IE g=true
 nk:∀h:Int,1<=h->h<8->(gi W.IE h).used=true->(gi W.IE h).parent≠g
 nt:∀t:Int,0<=t->t<12->(Q9 W t).state≠0->(Q9 W t).group≠g
def J9(W:Q7)(g:Int):Q7:=Rf W g zed
section
variable {W:Q7}{g:Int}
theorem zg1.g8(h:zg1 W g)(ha:WA W):g<8:=by
 have:=ha.gl;have:=(Q5.1 h.us).2.1;omega
theorem D3(ha:WA W)(h:zg1 W g){i:Int}(hi:0<=i):gi (J9 W g).IE i=if g=i then zed else gi W.IE i:=Yz (by have:=h.g1; omega) (Q5.1 h.us).2.1 hi
theorem DF(ha:WA W)(h:zg1 W g){k:Int}(hu:Q6 W.IE k=true)(hk:k≠g):gi (J9 W g).IE k=gi W.IE k:=by
 rw[D3 ha h (Q5.1 hu).1,C' λe=>hk e.symm]
theorem zje(ha:WA W):(J9 W g).IE.length=8:=by
 have:=ha.gl;simp[J9,Rf]; omega
theorem zbh(ha:WA W)(h:zg1 W g){k:Int}(hu:Q6 W.IE k=true)(hz:k≠0):(gi W.IE k).parent≠g:=by
 obtain⟨a,b,c⟩:=Q5.1 hu;have:=ha.gl;exact h.nk k Qo Qo c
theorem j9(ha:WA W)(h:zg1 W g){k:Int}:Q6 (J9 W g).IE k=true↔Q6 W.IE k=true/\k≠g:=by
 have cP:=ha.gl;rw[Q5,Q5,zje ha,cP];constructor
 ·rintro⟨x,y,z⟩;rw[D3 ha h x] at z
  by_cases e:g=k
  ·rw[E' e] at z; cases z
  ·rw[C' e] at z;exact⟨⟨x,y,z⟩,λe2=>e e2.symm⟩
 ·rintro⟨⟨x,y,z⟩,e⟩;refine⟨x,y,?_⟩;rw[D3 ha h x,C' λe2=>e e2.symm];exact z
theorem zul(ha:WA W)(h:zg1 W g):∀(f:Nat) (k:Int),Q6 W.IE k=true->k≠g->dep f (J9 W g).IE k=dep f W.IE k
 | 0,_,_,_=>rfl
 | f+1,k,hu,hk=>by
  by_cases hz:k=0
  ·subst hz; rw[Y4,Y4]
  ·have ih:=zul ha h f _ (Yl ha.tree hu hz).1 (zbh ha h hu hz);simp only[dep];rw[DF ha h hu hk,ih]
theorem zjf(ha:WA W)(h:zg1 W g):∀(f:Nat) (k:Int),Q6 W.IE k=true->k≠g->V2 f (J9 W g).IE k=V2 f W.IE k
 | 0,_,_,_=>rfl
 | f+1,k,hu,hk=>by
  by_cases hz:k=0
  ·subst hz; rw[Zr,Zr]
  ·have ih:=zjf ha h f _ (Yl ha.tree hu hz).1 (zbh ha h hu hz);simp only[V2];rw[DF ha h hu hk,ih]
theorem zn6(ha:WA W)(h:zg1 W g):∀k:Int,Q6 W.IE k=true->k≠g->∀x∈Zc W.IE k,x≠g:=
 Mo ha.tree (λ_ x hx=>by rw[show Zc W.IE 0=[] from Zr _ _] at hx; cases hx) λk hu hz ih hk x hx=>by
  rw[YP ha.tree hu hz] at hx;rcases Ij.1 hx with e | e
  ·rw[e]; exact hk
  ·exact ih (zbh ha h hu hz) x e
theorem zx1(ha:WA W)(h:zg1 W g):Yk (J9 W g).IE:=by
 have ht:=ha.tree;have r:=DF ha h ha.root (by have:=h.g1; omega)
 have sp:∀{k:Int},1<=k->k<8->(gi (J9 W g).IE k).used=true->Q6 W.IE k=true/\k≠g/\gi (J9 W g).IE k=gi W.IE k:=λ{k} b d hh=>by
  have:=(j9 ha h).1 (Q5.2 ⟨Qo,by rw[zje ha]; omega,hh⟩);exact⟨this.1,this.2,DF ha h this.1 this.2⟩
 refine⟨zje ha,by rw[r]; exact ht.ru,by rw[r]; exact ht.rp,by rw[r]; exact ht.rn,λk b d hh=>?_,λk b d hh=>?_,λk b d hh=>?_,λx k b d e hx hk=>?_⟩
 ·obtain⟨_,_,e⟩:=sp b d hh;rw[e] at hh ⊢; exact ht.nm k b d hh
 ·obtain⟨_,_,e⟩:=sp b d hh;rw[e] at hh ⊢;exact(j9 ha h).2 ⟨ht.par k b d hh,h.nk k b d hh⟩
 ·obtain⟨u,n,_⟩:=sp b d hh;rw[zul ha h 3 k u n]; exact ht.dp k b d (Q5.1 u).2.2
 ·rintro⟨q1,q2⟩;obtain⟨u1,_,e1⟩:=sp Qo e hx;obtain⟨u2,_,e2⟩:=sp b Qo hk;rw[e1,e2] at q1 q2;exact ht.uniq x k b d e (Q5.1 u1).2.2 (Q5.1 u2).2.2 ⟨q1,q2⟩
theorem KW(ha:WA W)(h:zg1 W g){k c:Int}(hu:Q6 W.IE k=true)(hk:k≠g):Qb (J9 W g) k c=Qb W k c:=by
 unfold Qb;rw[DF ha h hu hk]
theorem zx0(wp:Je W)(h:zg1 W g){c:Int}:QV W g c=false:=by
 have hl:=wp.a.gl;have ht:=wp.a.t
 have e1:∀j,j<W.tasks.length->OQ W g c j=false:=λj hj=>by
  unfold OQ
  cases hs:((gi W.tasks (j:Int)).state==1) with
  | false=>rfl
  | true=>
   have hs:(gi W.tasks (j:Int)).state=1:=by simpa using hs
   have:(gi W.tasks (j:Int)).group≠g:=h.nt (j:Int) Qo Qo (by rw[show (Q9 W (j:Int)).state=1 from hs]; decide);rw[show ((gi W.tasks (j:Int)).group==g)=false by simpa using this];rfl
 have e2:∀j,j<W.IE.length->Jf W g c j=false:=λj hj=>by
  unfold Jf
  by_cases hj1:1<=j
  ·cases hs:(gi W.IE (j:Int)).used with
   | false=>simp
   | true=>
    have:=h.nk (j:Int) Qo Qo hs;rw[show ((gi W.IE (j:Int)).parent==g)=false by simpa using this];simp
  ·rw[decide_eq_false hj1]; rfl
 unfold QV;rw[Ki e1,Ki e2];rfl
theorem z0w(wp:Je W)(h:zg1 W g){c:Int}(c0:0<=c)(c1:c<(W.IF.length:Int)):(Qb W g c).on=false:=by
 have g1:=h.g1;have:=(wp.s g c Qo (h.g8 wp.a) c0 (by rw[wp.a.sl h.us]; exact c1)).on Qo;rw[this,zx0 wp h]; rfl
theorem zp8(wp:Je W)(h:zg1 W g){k c:Int}(c0:0<=c)(c1:c<(W.IF.length:Int))(j:Nat):Jf (J9 W g) k c j=Jf W k c j:=by
 have ha:=wp.a;unfold Jf
 by_cases e:g=(j:Int)
 ·rw[D3 ha h Qo,E' e,<-e,z0w wp h c0 c1];simp[zed]
 ·rw[D3 ha h Qo,C' e]
  have:Qb (J9 W g) (j:Int) c=Qb W (j:Int) c:=by
   unfold Qb;rw[D3 ha h Qo,C' e]
  rw[this]
theorem z0v(wp:Je W)(h:zg1 W g){k c:Int}(c0:0<=c)(c1:c<(W.IF.length:Int)):QV (J9 W g) k c=QV W k c:=by
 unfold QV;rw[show TN (OQ (J9 W g) k c) (J9 W g).tasks.length=TN (OQ W k c) W.tasks.length from rfl,zje wp.a,wp.a.gl];rw[Kh λj _=>zp8 wp h c0 c1 j]
theorem z0x(ha:WA W)(h:zg1 W g){k:Int}(hu:Q6 W.IE k=true)(hk:k≠g)(u:Int):T9 (J9 W g).IE k u=T9 W.IE k u:=by
 have e:Zc (J9 W g).IE k=Zc W.IE k:=zjf ha h 3 k hu hk;have g1:=h.g1;unfold T9;rw[e];refine BT _ _ λs x hx=>?_
 have hxu:Q6 W.IE x=true/\x≠g:=by
  rcases Io.1 hx with hx | hx
  ·exact⟨(YV ha.tree k hu x hx).1,zn6 ha h k hu hk x hx⟩
  ·rw[IA.1 hx]; exact⟨ha.root,Qo⟩
 rw[DF ha h hxu.1 hxu.2]
theorem z2i(ha:WA W)(h:zg1 W g){k:Int}(hu:Q6 W.IE k=true)(hk:k≠g)(m:Int):Qy (J9 W g) k m=Qy W k m:=zxb (W:=W) (W':=J9 W g) rfl (z0x ha h hu hk) m
theorem zyd(iv:JS W)(h:zg1 W g):JS (J9 W g):=by
 have wp:=iv.wp;have ha:=wp.a;have g1:=h.g1;have g8:=h.g8 ha;have cP:=ha.gl;have hpu:∀{k:Int},Q6 W.IE k=true->k≠0->Q6 W.IE (gi W.IE k).parent=true:=λhu hz=>(Yl ha.tree hu hz).1
 have hA:WA (J9 W g):=by
  refine⟨ha.n1,ha.n2,ha.c1,ha.c2,ha.t,zx1 ha h,ha.ups,λk k0 k1=>?_⟩;unfold MR;rw[D3 ha h k0];split
  ·exact⟨λ_=>⟨rfl,rfl,rfl,rfl,rfl,rfl,rfl,rfl,show Ow ⟨0,0,0,[],[]⟩=true by decide⟩,λhh=>by cases hh⟩
  ·have:=ha.grp k k0 k1;exact⟨this.1,λhu=>by have:=this.2 hu; exact⟨this.w1,this.w2,this.m,this.m0,this.s,this.len,this.root,this.none,this.IQ⟩⟩
 refine⟨⟨hA,λt t0 t1=>?_,λk c k0 k1 c0 c1=>?_,λc c0 c1=>?_⟩,λk c hu c0 c1 hb=>?_⟩
 ·rcases wp.t t t0 t1 with hz | ⟨n,hx⟩
  ·exact .inl hz
  ·have hn:=h.nt t t0 t1 n;refine .inr ⟨n,hx.st,(j9 ha h).2 ⟨hx.g,hn⟩,hx.n,hx.m,hx.m0,hx.v,hx.s,hx.u,hx.l1,hx.l2,?_,λhs=>?_⟩
   ·rw[show (Q9 (J9 W g) t)=Q9 W t from rfl,z2i ha h hx.g hn]; exact hx.c
   ·rw[show (Q9 (J9 W g) t)=Q9 W t from rfl,KW ha h hx.g hn]; exact hx.f hs
 ·by_cases e:g=k
  ·subst e;rw[D3 ha h k0,E' rfl] at c1;have c1:c<(0:Int):=c1;omega
  ·have hg:gi (J9 W g).IE k=gi W.IE k:=by rw[D3 ha h k0,C' e]
   have e2:k≠g:=λh=>e h.symm
   rw[hg] at c1
   have hu:Q6 W.IE k=true:=by
    cases hh:(gi W.IE k).used with
    | true=>exact Q5.2 ⟨k0,Qo,hh⟩
    | false=>
     have:=((ha.grp k k0 k1).1 hh).l;omega
   have cl:c<(W.IF.length:Int):=by rw[<-ha.sl hu]; exact c1
   have hs:=wp.s k c k0 k1 c0 c1;have es:=KW ha h (c:=c) hu e2;refine⟨by rw[es]; exact hs.f,by rw[es]; exact hs.v,by rw[es]; exact hs.s,by rw[es]; exact hs.w1,by rw[es]; exact hs.w2,λhz=>by rw[es]; exact hs.root hz,λhz=>?_,λhz ho=>?_⟩
   ·rw[es,z0v wp h c0 cl,show Uq (J9 W g) k c=Uq W k c by unfold Uq; rw[hg]];exact hs.on hz
   ·rw[es] at ho;rw[es,hg,KW ha h (hpu hu hz) (zbh ha h hu hz)];exact hs.st hz ho
 ·have hc:=wp.c c c0 c1;refine⟨hc.b,hc.i,hc.c1,hc.c2,hc.no,λh0=>?_⟩;have h0:0<=(gi W.IF c).cur:=h0;obtain⟨y1,y2,y3,y4,y5,y6⟩:=hc.yes h0;have hl:=ha.t;have hc2:=hc.c2
  have mB:Q6 W.IE (Q9 W (gi W.IF c).cur).group=true/\(Q9 W (gi W.IF c).cur).group≠g:=by
   rcases wp.t _ h0 Qo with hz | ⟨n,hx⟩
   ·unfold ZL at y5;rw[hz.1] at y5;simp at y5
   ·exact⟨hx.g,h.nt _ h0 Qo n⟩
  obtain⟨mB,hgn⟩:=mB;have hpt:Zc (J9 W g).IE (Q9 W (gi W.IF c).cur).group=Zc W.IE (Q9 W (gi W.IF c).cur).group:=zjf ha h 3 _ mB hgn;refine⟨y1,y2,y3,y4,?_,?_⟩
  ·unfold ZL Vp at y5 ⊢;rw[show (gi (J9 W g).IF c).cur=(gi W.IF c).cur from rfl,show Q9 (J9 W g) (gi W.IF c).cur=Q9 W (gi W.IF c).cur from rfl,hpt];rw[A',List.all_eq_true] at y5 ⊢;exact⟨y5.1,λx hx=>by rw[KW ha h (YV ha.tree _ mB x hx).1 (zn6 ha h _ mB hgn x hx)]; exact y5.2 x hx⟩
  ·unfold Mt TZ at y6 ⊢;rw[show (gi (J9 W g).IF c).cur=(gi W.IF c).cur from rfl,show (gi (J9 W g).IF c).aC=(gi W.IF c).aC from rfl,show Q9 (J9 W g) (gi W.IF c).cur=Q9 W (gi W.IF c).cur from rfl,hpt,KW ha h mB hgn];rw[A',List.all_eq_true] at y6 ⊢;refine⟨y6.1,λx hx=>?_⟩;obtain⟨xu,xz⟩:=YV ha.tree _ mB x hx;have xg:=zn6 ha h _ mB hgn x hx;rw[KW ha h xu xg,DF ha h xu xg,KW ha h (hpu xu xz) (zbh ha h xu xz)];exact y6.2 x hx
 ·have cl:c<(W.IF.length:Int):=c1;obtain⟨hk,hkg⟩:=(j9 ha h).1 hu
  have Al9:∀j,j<20->Zq (J9 W g) k c j=Zq W k c j:=λj hj=>by
   by_cases wL:j<12
   ·rw[Vh wL,Vh wL]; rfl
   ·rw[show j=12+(j-12) by omega,Ua,Ua,zp8 wp h c0 cl (j-12)]
  have hv:∀j,j<20->Zq (J9 W g) k c j=true->Zn (J9 W g) c j=Zn W c j:=λj hj hm=>by
   unfold Zn;split
   ·rfl
   ·rename_i wL;have hm2:=hm;rw[show j=12+(j-12) by omega,Ua] at hm2;unfold Jf at hm2;simp only[A'] at hm2
    have gE:((j-12:Nat):Int)≠g:=λe=>by
     have hu2:=hm2.1.2.1;rw[D3 ha h Qo,E' e.symm] at hu2;cases hu2
    rw[Al9 j hj,show j=12+(j-12) by omega,Ua] at hm;unfold Jf at hm;simp only[A'] at hm;rw[KW ha h (Q5.2 ⟨Qo,Qo,hm.1.2.1⟩) gE]
  have e:QZ (Zq (J9 W g) k c) (Zn (J9 W g) c) 20=QZ (Zq W k c) (Zn W c) 20:=MJ Al9 hv;have sQ:=iv.fl k c hk c0 cl (by unfold Zx at hb ⊢; rwa[e] at hb);rw[KW ha h hk hkg];refine IC (Int.le_of_eq ?_) sQ;unfold Zx at hb;have hb:=Ot hb;rw[e] at hb;unfold Z5;rw[e,C' Qo,C' Qo];rcases Zu (Zq W k c) (Zn W c) 20 with ⟨q,_⟩ | ⟨_,q2,q3,_⟩
  ·omega
  ·have IU:(QZ (Zq W k c) (Zn W c) 20).toNat<20:=Qo;exact hv _ IU (by rw[Al9 _ IU]; exact q3)
def zts(W:Q7)(g:Int):Prop:=(∃h:Int,1<=h/\h<8/\(gi W.IE h).used=true/\(gi W.IE h).parent=g)\/∃t:Int,0<=t/\t<12/\(Q9 W t).state≠0/\(Q9 W t).group=g
noncomputable def BJ(W:Q7)(g:Int):Int:=if g=0 then 1 else if Q6 W.IE g=false then 2 else if U6 (zts W g)=true then 4 else if QM W=false then 10 else 0
theorem zum{W:Q7}{g:Int}(hb:BJ W g=0):zg1 W g/\QM W=true:=by
 unfold BJ at hb
 split at hb
 ·cases hb
 rename_i h1
 split at hb
 ·cases hb
 rename_i h2
 split at hb
 ·cases hb
 rename_i h3
 split at hb
 ·cases hb
 rename_i h4;have h3:¬zts W g:=λh=>h3 (Qh.2 h)
 have hu:Q6 W.IE g=true:=by simpa using h2
 have:=(Q5.1 hu).1;exact⟨⟨Qo,hu,λh a b c d=>h3 (.inl ⟨h,a,b,c,d⟩),λt a b c d=>h3 (.inr ⟨t,a,b,c,d⟩)⟩,by simpa using h4⟩
end
def CU(W:Q7)(c:Int):Int:=if XJ W c=false then 1 else if (gi W.IF c).cur<0 then 6 else 0
theorem z12{W:Q7}{c:Int}(h:CU W c=0):XJ W c=true/\0<=(gi W.IF c).cur:=by
 unfold CU at h
 split at h
 ·cases h
 ·rename_i h1
  split at h
  ·cases h
  ·exact⟨by simpa using h1,Qo⟩
section
variable {W:Q7}{m:MW}{w:Wo}{bs:List Nat}
theorem Fo{c:Int}(h:Xg [] w W m)(hl:XM W) :
  Cz VR #[.agg (Qa W m).toArray,I c] w λe w'=>∃v,e=.returned v/\QU (Xi W (CU W c) (Ry W c)) w v w':=by
 refine F3 _ _ _ _ _ _ _ _ _ _ c (R:=λv w'=>QU (Xi W (CU W c) (Ry W c)) w v w') ?_;intro y hy y1 dG;have hm0:=Js;have vC:=hl.c;refine⟨_,UD h hl.c hl.t hl.g hl.f,λg wr hx=>QU.bad (by simpa using g) hx,λg wr R2 We=>?_⟩;have hW:Qw W=true:=by simpa using g
 have wp:=Qh.1 hW;refine I4 (PM (h.ext R2) wp.a) ?_;rintro e wv ⟨m',he,hM,SE⟩;have hK:=Wk.begin hy dG R2 We hM SE;have hr:=hK.rd;refine⟨_,_,_,_,_,_,_,_,_,_,he,Qe SE We,⟨Qo,Qo⟩,XJ W c,Qr,λg M' Rb=>?_,λg=>?_⟩
 ·have hb:CU W c=1:=by unfold CU; rw[E' (by simpa using g)]
  exact QU.no hW (by rw[hb]; decide) (hK.step Rb) hb
 have g:XJ W c=true:=by simpa using g
 obtain⟨c0,c1⟩:=OD g;refine⟨hr.c.ix Ym c0 c1,_,hr.c.f c0 c1 (j:=1) rfl,λg2 O' Rb=>?_,λg2 Rw SZ gY=>?_⟩
 ·have g2:=Ot g2;have hb:CU W c=6:=by unfold CU; rw[C' (by rw[g]; decide),E' g2]
  exact QU.no hW (by rw[hb]; decide) (hK.step Rb) hb
 have g2:=Ou g2;have hb:CU W c=0:=by unfold CU; rw[C' (by rw[g]; decide),C' g2]
 have fE:=hK.step SZ;refine I4 (ZF fE.own c0 c1) ?_;rintro e1 R7 ⟨jG,jL⟩;exact⟨_,_,_,_,_,_,_,_,_,_,jG,fE.kept jL gY,λRQ Sy=>QU.ok hW hb ((fE.SH jL gY).step Sy)⟩
theorem zr0(V:Q7)(t g c:Int)(m:MW):Qa (VW V t g c) m=Qa V m:=by
 unfold VW
 split <;> simp[Qa,Ry,S8,IV]
theorem z1g{K:Int}{W:Q7}(sw:SW K W){t:Int}(t0:0<=t)(t1:t<12)(n:(Q9 W t).state≠0):SW K (QH W t):=by
 unfold QH;split
 ·have:=sw.t t t0 t1 n;exact sw.Ry this.2.1 this.2.2
 ·exact sw
theorem Ce{t g:Int}(h:Xg [] w W m)(hl:XM W) :
  Cz O8 #[.agg (Qa W m).toArray,I t,I g] w λe w'=>∃v,e=.returned v/\QU (Xi W (zc2 W t g) (zf8 W t g)) w v w':=by
 refine AT _ _ _ _ _ _ _ _ _ _ t g (R:=λv w'=>QU (Xi W (zc2 W t g) (zf8 W t g)) w v w') ?_;intro y hy y1 dG wr R2 We;refine I4 (Zh (h.ext R2) hl) ?_;rintro e wv (⟨hW,he,SE⟩ | ⟨hW,m',he,hM,SE⟩)
 ·exact⟨_,_,_,_,_,_,_,_,_,_,_,he,Qe SE We,λ_ M' Rb=>QU.bad hW ((R2.trans SE).fresh Rb λz hm=>.inl (YW hy dG z hm)),λg=>by simp at g⟩
 have hK:=Wk.begin hy dG R2 We hM SE;have hr:=hK.rd;have wp:=Qh.1 hW;have fH:=wp.a.t;refine⟨_,_,_,_,_,_,_,_,_,_,_,he,Qe SE We,λg=>by split at g <;> simp at g,λ_=>⟨_,U2 hr hl.t,_,λ_=>Xs hr.g,λq O' Rb=>?_,λq=>?_⟩⟩
 ·have hb:zc2 W t g=2:=by
   unfold zc2;rw[E']
   simpa using q
  exact QU.no hW (by rw[hb]; decide) (hK.step Rb) hb
 simp only[I0,I7] at q;obtain⟨q1,q2⟩:=q;have n1:¬(ZA W t=false\/Q6 W.IE g=false):=by rw[q1,q2]; simp
 obtain⟨t0,t1,tn⟩:=YA q1;have Wl:=hr.t.ix QF t0 t1;refine⟨λg3 Rw Rb=>?_,λg3=>?_⟩
 ·have cD:¬QM W=true:=λhr=>by rw[E' hr] at g3; simp at g3
  have hb:zc2 W t g=10:=by unfold zc2; rw[C' n1,E' (by simpa using cD)]
  rw[C' cD];exact QU.no hW (by rw[hb]; decide) (hK.step Rb) hb
 have cD:QM W=true:=Ir λhr=>by rw[C' hr] at g3; simp at g3
 have hb:zc2 W t g=0:=by unfold zc2; rw[C' n1,C' (by rw[cD]; decide)]
 have sw:=PH wp (Qh.1 cD);obtain⟨hu,c0,c1⟩:=sw.t t t0 Qo tn;refine⟨Wl,_,_,_,_,_,_,_,_,_,hr.t t t0 t1,λb2 cN=>⟨λg4 Rw SZ=>?_,λg4=>?_⟩⟩
 ·have g4:(Q9 W t).group=g:=by simpa[Q9] using g4
  have hE:zf8 W t g=W:=by unfold zf8; rw[E' g4]
  have:=QU.ok (W':=zf8 W t g) hW hb (m':=m') (hE.symm▸hK.step SZ)
  rwa[hE] at this ⊢
 have g4:¬(Q9 W t).group=g:=by simpa[Q9] using g4
 have hE:zf8 W t g=Qg (VW (QH W t) t g (FD W t g)):=by unfold zf8; rw[C' g4]
 obtain⟨m0,m1,_⟩:=zqn wp (g:=g) t0 Qo tn;have hK0:=hK.add cN;refine⟨_,Jr hr wp.a.c2 wp.a.tree q2,λvs bs w1=>bs=[]/\vs=[I (FD W t g)]/\Q0 [y,y1] wv w1,⟨_,Yj,λg5=>⟨_,Kr,λRQ Sy _=>⟨rfl,?_,Sy⟩⟩,λg5 Si aS _=>⟨rfl,?_,aS⟩⟩,?_⟩
 ·have g5:¬Z7 (Qy W g (Q9 W t).mask) (Q9 W t).R3=true:=by simpa[Q9] using g5
  unfold FD; rw[C' g5]; rfl
 ·have g5:Z7 (Qy W g (Q9 W t).mask) (Q9 W t).R3=true:=by simpa[Q9] using g5
  unfold FD; rw[E' g5]; rfl
 rintro cv R7 dK ⟨-,hv,hxv⟩;simp only[I5,I6,true_and,and_true] at hv;subst hv;have C80:Q0 ([y,y1]++[b2]) wv R7:=hxv.mono λx hm=>Ib _ hm
 have hK1:=hK0.step C80;have e5:Qa (Ry W (Q9 W t).R3) m'=Qa W m':=by simp[Qa,Ry,S8]
 refine⟨λvs bs w1=>bs=[]/\vs=Qa W m'/\Wk 8 ([y,y1]++[b2]) w w1 (QH W t) m',⟨hK1.rd.c.ix Ym c0 c1,_,hK1.rd.c.f c0 c1 (j:=1) rfl,λg6 Sz kR hs7=>?_,λg6 WO lQ _=>⟨rfl,rfl,?_⟩⟩,?_⟩
 ·have g6:(gi W.IF (Q9 W t).R3).cur=t:=by simpa using g6
  have iL:=hK1.step kR;refine I4 (ZF iL.own c0 c1) ?_;rintro e1 Rr ⟨jG,jL⟩;rw[show Qa (Ry W (gi W.tasks t).R3) m'=Qa W m' from e5] at jG;refine⟨_,_,_,_,_,_,_,_,_,_,jG,iL.kept jL hs7,λW5 oH _=>⟨rfl,rfl,?_⟩⟩;have hlv:QH W t=Ry W (Q9 W t).R3:=by unfold QH; rw[E' g6]
  rw[hlv];exact(iL.SH jL hs7).step oH
 ·have g6:¬(gi W.IF (Q9 W t).R3).cur=t:=by simpa using g6
  have hlv:QH W t=W:=by unfold QH; rw[C' g6]
  rw[hlv];exact hK1.step lQ
 rintro l Se Sm Sv Sl Sq Su Sf Sg Sj S3 iB ⟨-,hv,oY⟩;simp only[Qa,I5,I6,Iw,true_and,and_true] at hv;obtain⟨rfl,⟨rfl,rfl,rfl⟩,⟨rfl,rfl,rfl⟩,rfl,rfl,rfl⟩:=hv;have swl:=z1g sw t0 Qo tn;have ht:(QH W t).tasks=W.tasks:=by unfold QH; split <;> rfl
 have hg:(QH W t).IE=W.IE:=by unfold QH; split <;> rfl
 have tP:(QH W t).IF.length=W.IF.length:=by
  unfold QH; split
  ·exact H'
  ·rfl
 have hn:(QH W t).now=W.now:=by unfold QH; split <;> rfl
 have eL:∀mm,Qa (QH W t) mm=Qa W mm:=λmm=>by simp[Qa,ht,hg,tP,hn]
 have tn2:(Q9 (QH W t) t).state≠0:=by rw[Jy ht]; exact tn
 have hu2:Q6 (QH W t).IE g=true:=by rw[hg]; exact q2
 have hm1:FD W t g<((QH W t).IF.length:Int):=by rw[tP]; exact m1
 rw[hE];generalize QH W t=V at oY swl eL tn2 hu2 hm1;generalize FD W t g=c at m0 hm1;intro S6 AF8 pD;have fE:=oY.step AF8;have RD:=Vo fE.own (KI swl) (I3 _) (by simp only[Qj]; decide) (t:=t) (g:=g) (c:=c) t0 Qo tn2 hu2 m0 hm1;rw[eL] at RD;refine I4 RD ?_;rintro e2 aF ⟨aT,kJ⟩;have dV:=fE.SH kJ pD;have sf2:=(zab (KI swl) (I3 _) (t:=t) t0 Qo hu2 m0 hm1).2;have eP:Qa (VW V t g c) m'=Qa W m':=by rw[<-eL]; exact zr0 V t g c m'
 refine⟨_,_,_,_,_,_,_,_,_,_,aT,fE.kept kJ pD,λS9 AF9 wP=>?_⟩;have uE:=dV.step AF9;have uY:=Qx uE.own sf2.w (by simp only[Qj]; decide) (by simp only[Qj]; decide) uE.base;rw[eP] at uY;refine I4 uY ?_;rintro e3 Wx ⟨m2,gP,hy5⟩;exact⟨_,_,_,_,_,_,_,_,_,_,gP,uE.kept hy5 wP,λSr vE=>QU.ok hW hb ((uE.SH hy5 wP).step vE)⟩
theorem Ck{g:Int}(h:Xg bs w W m)(hg8:W.IE.length=8)(CR4:W.tasks.length=12) :
  PX bs Of #[.agg (Qa W m).toArray,I g] w (.bool (U6 (zts W g))):=
 CF _ _ _ _ _ _ _ _ _ _ g λwr hx=>by
  have h:=(h.ext hx).less (cs:=[]) Qs;intro b hb;refine XL 8 1 rfl (λk=>1<=k/\k<=8/\∀j:Int,1<=j->j<(k:Int)->¬((gi W.IE j).used=true/\(gi W.IE j).parent=g)) ⟨Qo,Qo,λj a b=>by omega⟩ λk ⟨hk1,hk8,jH⟩=>⟨λIU=>?_,λRN=>?_⟩
  ·have IU:=Ot IU;have k0:(0:Int)<=(k:Int):=Qo;refine⟨h.g.ix k0 IU,_,h.g.used k0 IU,λ_=>h.g.ix k0 IU,_,λ_=>h.g.parent k0 IU,λq=>?_,λq=>⟨⟨Qo,Qo⟩,QI Qo ⟨Qo,Qo,λj a b=>?_⟩⟩⟩
   ·rw[A',It] at q;exact znm (.inl ⟨(k:Int),Qo,Qo,q.1,q.2⟩)
   ·by_cases e:j<(k:Int)
    ·exact jH j a e
    ·have:j=(k:Int):=Qo;subst this;rintro⟨q1,q2⟩;rw[q1,It.2 q2] at q;cases q
  ·have RN:=Ou RN;refine XL 12 0 rfl (λk=>k<=12/\∀j:Int,0<=j->j<(k:Int)->¬((Q9 W j).state≠0/\(Q9 W j).group=g)) ⟨Qo,λj a b=>by omega⟩ λk2 ⟨wM,hnt⟩=>⟨λRM=>?_,λbS=>?_⟩
   ·have RM:=Ot RM;have k0:(0:Int)<=(k2:Int):=Qo;refine⟨h.t.ix QF k0 RM,_,h.t.f k0 RM (j:=0) rfl,λ_=>h.t.ix QF k0 RM,_,λ_=>h.t.f k0 RM (j:=1) rfl,λq=>?_,λq=>⟨⟨Qo,Qo⟩,QI Qo ⟨Qo,λj a b=>?_⟩⟩⟩
    ·rw[A',It,Iu] at q;exact znm (.inr ⟨(k2:Int),Qo,Qo,q.1,q.2⟩)
    ·by_cases e:j<(k2:Int)
     ·exact hnt j a e
     ·have:j=(k2:Int):=Qo;subst this;rintro⟨q1,q2⟩;have q1:(gi W.tasks (k2:Int)).state≠0:=q1;have q2:(gi W.tasks (k2:Int)).group=g:=q2;rw[Iu.2 q1,It.2 q2] at q;cases q
   ·have bS:=Ou bS;refine LI ?_;rintro (⟨j,a,b,c,d⟩ | ⟨j,a,b,c,d⟩)
    ·exact jH j a Qo ⟨c,d⟩
    ·exact hnt j a Qo ⟨c,d⟩
theorem N0{g:Int}(h:Xg [] w W m)(hl:XM W) :
  Cz Tm #[.agg (Qa W m).toArray,I g] w λe w'=>∃v,e=.returned v/\QU (Xi W (BJ W g) (J9 W g)) w v w':=by
 refine BM _ _ _ _ _ _ _ _ _ _ g (R:=λv w'=>QU (Xi W (BJ W g) (J9 W g)) w v w') ?_;intro x hx x1 RZ wr R2 We;refine I4 (VD (g:=g) (ok:=true) (h.ext R2) hl) ?_;rintro e wv (⟨hW,he,hy⟩ | ⟨hW,m',he,hM,hy⟩)
 ·exact⟨_,_,_,_,_,_,_,_,_,_,_,he,Qe hy We,λ_ M' Rb=>QU.bad hW ((R2.trans hy).fresh Rb λy hm=>.inl (YW hx RZ y hm)),λg=>by simp at g⟩
 have hK:=Wk.begin hx RZ R2 We hM hy;have hr:=hK.rd;have wp:=Qh.1 hW;refine⟨_,_,_,_,_,_,_,_,_,_,_,he,Qe hy We,λg1 M' Rb=>?_,λg1=>⟨_,Ck hr wp.a.gl wp.a.t,λg2 O' Rb=>?_,λg2=>⟨λg3 Rq Rb=>?_,λg3=>?_⟩⟩⟩
 ·have hb:BJ W g=K2 W g true:=by
   by_cases h0:g=0
   ·unfold BJ K2;rw[E' h0,E' (.inr h0)]
   ·have e0:¬(true=false\/g=0):=by simp[h0]
    by_cases h1:Q6 W.IE g=false
    ·unfold BJ K2;rw[C' h0,C' e0,E' h1,E' h1]
    ·exfalso
     unfold K2 at g1;rw[C' e0,C' h1] at g1
     split at g1 <;> simp at g1
  exact QU.no hW (λh0=>by rw[<-hb,h0] at g1; simp at g1) (hK.step Rb) hb
 all_goals
  have g1':¬g=0/\¬Q6 W.IE g=false:=by
   unfold K2 at g1
   by_cases h0:g=0
   ·rw[E' (.inr h0)] at g1; simp at g1
   ·refine⟨h0,λh1=>?_⟩;rw[C' (show ¬(true=false\/g=0) by simp[h0]),E' h1] at g1;simp at g1
  have hgB:K2 W g true=if QM W=false then 10 else 0:=by
   unfold K2;rw[C' (show ¬(true=false\/g=0) by simp[g1'.1]),C' g1'.2]
 ·have hb:BJ W g=4:=by unfold BJ; rw[C' g1'.1,C' g1'.2,E' g2]
  exact QU.no hW (by rw[hb]; decide) (hK.step Rb) hb
 ·have cD:QM W=false:=by
   cases hq:QM W with
   | false=>rfl
   | true=>rw[hgB,hq] at g3; simp at g3
  have hb:BJ W g=10:=by unfold BJ; rw[C' g1'.1,C' g1'.2,C' (by rw[g2]; decide),E' cD]
  rw[hgB,E' cD];exact QU.no hW (by rw[hb]; decide) (hK.step Rb) hb
 ·have cD:QM W=true:=by
   cases hq:QM W with
   | true=>rfl
   | false=>rw[hgB,hq] at g3; simp at g3
  have hb:BJ W g=0:=by unfold BJ; rw[C' g1'.1,C' g1'.2,C' (by rw[g2]; decide),C' (by rw[cD]; decide)]
  have hu:Q6 W.IE g=true:=by simpa using g1'.2
  obtain⟨u0,u1,_⟩:=Q5.1 hu;have cP:=wp.a.gl
  have SI:Wk 8 [x,x1] w (R9 wv m'.gO (Int.toNat g*14) (Yv zed Ct)) (J9 W g) (PO m' g.toNat Ct):=
   ⟨hK.s.call B2 λy hy=>(hK.own.lt y hy).1,⟨hK.own.B36 u0 Qo (g:=zed) (p:=Ct) (j:=0) (vs:=Yv zed Ct) ⟨.inl ⟨rfl,rfl,rfl⟩,.inl ⟨rfl,rfl,rfl⟩,.inl ⟨rfl,rfl,rfl⟩⟩ (λy hy=>by simp[Qn,Ct,QE] at hy) (by simp[Yv]) (by simp[Yv]),λy hy hm=>by
    rcases Oz y hy with h1 | h1
    ·exact hK.nb y h1 hm
    ·simp[Qn,Ct,QE] at h1⟩⟩
  refine⟨hr.g.ix u0 u1,zef hK.own hK.nb u0 Qo (j:=0) Qd,λRw SZ=>?_⟩;have BF1:=QU.ok hW hb (SI.step SZ);have ew:Qa (J9 W g) (PO m' g.toNat Ct)=Qa W m':=by simp[Qa,J9,Rf,PO]
  rw[ew] at BF1;have hgz:K2 W g true=0:=by rw[hgB,C' (by rw[cD]; decide)]
  exact BF1
end
theorem zj3{V:Q7}(ha:WA V):XM V:=by
 have h1:=ha.c2;have h2:=ha.t;have h3:=ha.gl;have hm:=Zl;have hn1:=ha.n1;have hn2:=ha.n2;refine⟨Qo,Qo,Qo,λi a b=>?_⟩;have hb:=Kj ha a Qo;have hg:=ha.grp i a Qo;have hz:(⟨[].toArray⟩:ByteArray).size=0:=rfl;refine⟨?_,?_,Qo,Qo,Qo⟩
 ·cases hu:(gi V.IE i).used with
  | false=>rw[(hg.1 hu).n,hz]; omega
  | true=>
   by_cases e:i=0
   ·rw[e,ha.tree.rn,hz]; omega
   ·have:=(L7.1 (ha.tree.nm i Qo Qo hu)).1;omega
 cases hu:(gi V.IE i).used with
 | false=>rw[(hg.1 hu).ne]; exact⟨Qd,Qd⟩
 | true=>
  have hg:=hg.2 hu
  by_cases hq:(gi V.IE i).IQ.IZ=0
  ·rw[(hg.none hq).2.2]; exact⟨Qd,Qd⟩
  ·have:=hg.IQ hq;exact⟨Qo,Qo⟩
theorem Gs{n:Nat}{p:Int}{name:ByteArray}{w:Wo}(hn:n<=4) :
  Cz Vy #[I (n:Int),I p,.string name] w λe w'=>∃mg,e=.returned (.agg (Yv (PN n p name) mg).toArray)/\PI w.heap.size w' (PN n p name,mg)/\Q0 [] w w':=by
 refine(zbq (n:Int) p name (R:=λv w'=>∃mg,v=.agg (Yv (PN n p name) mg).toArray/\PI w.heap.size w' (PN n p name,mg)/\Q0 [] w w') ?_).mono λe w' ⟨v,he,mg,hv,h3⟩=>⟨mg,by rw[he,hv],h3⟩
 intro b hb b1 gH
 refine⟨λvs w2=>∃(k:Nat) (o:OA) (cap:Nat),vs=[I (k:Int),.bool true,I p,.string name,I 10,I 15,I 0,I 0,I 0,I 0,I 0,I 0,.slice none 0 0,.slice none 0 0,.slice o k cap]/\k<=n/\Sc w [b,b1] w2/\Ob M1 5 YX w.heap.size [b,b1] w2 o cap (List.replicate k zf9),
  Zt n 0,λwr hx _=>⟨0,none,0,rfl,Ie _,(((Sc.start w).add hb).add gH).R5 hx,⟨.inl ⟨rfl,rfl,rfl⟩,by simp[QE]⟩⟩,?_⟩
 rintro c1 l l1 l2 l3 l4 l5 l6 l7 l8 l9 l10 pI pH pG AR2 AR1 AR0 AR4 wR AR3 wv We ⟨k,o,cap,he,hk,s1,hO⟩;simp only[I5,I6,Value.bool.injEq,Value.string.injEq,Iw,true_and,and_true] at he;obtain⟨rfl,rfl,rfl,rfl,rfl,rfl,rfl,rfl,rfl,rfl,rfl,rfl,⟨rfl,rfl,rfl⟩,⟨rfl,rfl,rfl⟩,rfl,rfl,rfl⟩:=he;refine⟨λIU=>?_,λRN=>?_⟩
 ·have IU:=Ot IU;intro b3 hb3 Rq Rb iB Wd;have s2:=s1.put Rb hb3;have oZ:=hO.put Rb hb3;obtain⟨o2,c2,w2,WK,xJ,hO3,R2⟩:=oZ.AU1 T1 Pt (x:=zf9) iB s2.ext.size Wd (z1r _) (by simp; omega) Qd Za #[false,false];have s3:=s2.call R2 λx hm=>(oZ.own.lt x hm).1
  have hL:List.replicate wR zf9++[zf9]=List.replicate (wR+1) zf9:=by rw[List.replicate_succ']
  rw[hL] at WK hO3;rw[List.length_replicate,List.length_replicate] at WK;exact⟨_,_,_,w2,WK,xJ,⟨Qo,Qo⟩,λRw SZ _=>⟨⟨wR+1,o2,c2,Qs,Qo,(s3.step SZ).sub Qs,(hO3.step SZ).sub Qs⟩,Ze (k:=wR) rfl rfl Qo⟩⟩
 ·have RN:=Ou RN;have:wR=n:=Qo;subst this;intro RQ Sy;refine⟨⟨none,0,none,0,AR4,AR3⟩,?_,⟨.inl ⟨rfl,rfl,rfl⟩,.inl ⟨rfl,rfl,rfl⟩,(hO.step Sy).own⟩,(s1.step Sy).ext⟩;simp[Yv,PN,Z2]
theorem z2t:QK≠ZD:=Qd
theorem zz6:QP≠ZD:=Qd
theorem z2s:QP≠QK:=Qd
theorem Fd{i:Int}(h0:0<=i)(h1:i<8):gi (List.replicate 8 P8) i=P8:=by
 obtain⟨k,rfl⟩:=Int.eq_ofNat_of_zero_le h0;rw[Ui (by rw[List.length_replicate]; omega)];exact List.getElem_replicate _
theorem zsv{base:Nat}{w:Wo}{o:OA}{cap:Nat}(h:Uo TP 14 QP base w o cap (List.replicate 8 P8)):KP base w o cap (List.replicate 8 P8):=by
 refine⟨h,λi h0 h1=>?_,λi j h0 h1 _ _ _ x hm=>?_⟩
 ·rw[Fd h0 (by simpa using h1)];exact⟨.inl ⟨rfl,rfl,rfl⟩,.inl ⟨rfl,rfl,rfl⟩,.inl ⟨rfl,rfl,rfl⟩⟩
 ·rw[Fd h0 (by simpa using h1)] at hm;simp[Qn,P8,QE] at hm
section
variable {w:Wo}{b:Nat}
def z3b(b:Nat)(w:Wo)(vs:List Va)(bs:List Nat)(w2:Wo):Prop:=
 ∃(bx:Nat) (tO gO:OA) (tC gC:Nat),bs=[bx]/\vs=[I 0,.slice none 0 0,.slice tO 12 tC,.slice gO 8 gC]/\Sc w [b,bx] w2/\Ob YK 9 QK w.heap.size [b,bx] w2 tO tC (List.replicate 12 O0)/\Ob TP 14 QP w.heap.size [b,bx] w2 gO gC (List.replicate 8 P8)
theorem zvo{bs:List Nat}{w1:Wo}(s:Sc w bs w1)(hs:∀x∈bs,x<w1.heap.size):∃(o:OA) (c:Nat) (w2:Wo),(Instr.makeSlice Z4 (I 12) (I 12):Sem Va).run Tryz.prog w1=.ok (.slice o 12 c) w2/\Q8 bs w1 w2/\Q0 [] w1 w2/\Ob YK 9 QK w.heap.size bs w2 o c (List.replicate 12 O0):=
 ⟨_,_,_,Kc OZ Mw 12 Qd (by have:=Zl; omega) w1,Qe (Z9 _ _) hs,Z9 _ _,(Ob.of (Vq (enc:=YK) OZ.len QK 12 O0 w1) hs).mono s.ext.size⟩
theorem zvn{bs:List Nat}{w1:Wo}(s:Sc w bs w1)(hs:∀x∈bs,x<w1.heap.size):∃(o:OA) (c:Nat) (w2:Wo),(Instr.makeSlice QA (I 8) (I 8):Sem Va).run Tryz.prog w1=.ok (.slice o 8 c) w2/\Q8 bs w1 w2/\Q0 [] w1 w2/\Ob TP 14 QP w.heap.size bs w2 o c (List.replicate 8 P8):=
 ⟨_,_,_,Kc Yf Ps 8 Qd (by have:=Zl; omega) w1,Qe (Z9 _ _) hs,Z9 _ _,(Ob.of (Vq (enc:=TP) Yf.len QP 8 P8 w1) hs).mono s.ext.size⟩
theorem Ci{n:Nat}(n0:1<=n)(n1:n<=4) :
  Cz Od #[I (n:Int)] w λe w'=>∃m,e=.returned (.tuple #[.agg (Qa (Ur n) m).toArray,.bool true])/\Zj 8 w.heap.size w' (Ur n) m/\Q0 [] w w':=by
 refine(AZ (n:Int) (R:=λv w'=>∃m,v=.tuple #[.agg (Qa (Ur n) m).toArray,.bool true]/\Zj 8 w.heap.size w' (Ur n) m/\Q0 [] w w') ?_).mono λe w' ⟨v,he,m,hv,h3⟩=>⟨m,by rw[he,hv],h3⟩
 intro b hb;have vZ:YQ (n:Int) 1 4=true:=Qu.2 ⟨Qo,Qo⟩;have s0:Sc w [b] w:=(Sc.start w).add hb;refine⟨_,Qr,λg=>(by rw[vZ] at g; cases g),λ_=>⟨z3b b w,?_,?_⟩⟩
 ·refine⟨λM' RZ dK=>?_,λSi aS hs6=>?_,λb5 hb5=>⟨λS9 AF9 wP=>?_,λWm BV2 C65=>?_⟩⟩
  ·have s1:=s0.R5 RZ;obtain⟨tO,tC,w2,hr,hk,he,hT⟩:=zvo s1 dK;have s2:=s1.R5 he;refine⟨_,_,_,w2,hr,hk,λO' R2 We=>?_,λb2 cN Rw SZ gY=>?_⟩
   ·have s3:=s2.step R2;obtain⟨gO,gC,w3,hr3,wN,gP,hG⟩:=zvn s3 We;exact⟨_,_,_,w3,hr3,wN,λb1 gH Rq Rb _=>⟨b1,tO,gO,tC,gC,rfl,rfl,(s3.R5 gP).put Rb gH,((hT.step R2).R5 gP).put Rb gH,hG.put Rb gH⟩⟩
   ·have s3:=s2.put SZ cN;obtain⟨gO,gC,w3,hr3,wN,gP,hG⟩:=zvn s3 gY;exact⟨_,_,_,w3,hr3,wN,λRQ Sy _=>⟨b2,tO,gO,tC,gC,rfl,rfl,(s3.R5 gP).step Sy,((hT.put SZ cN).R5 gP).step Sy,hG.step Sy⟩⟩
  ·have s1:=s0.R5 aS;obtain⟨gO,gC,w2,hr,hk,he,hG⟩:=zvn s1 hs6;have s2:=s1.R5 he;refine⟨_,_,_,w2,hr,hk,λO' R2 We=>?_,λb2 cN Rw SZ gY=>?_⟩
   ·have s3:=s2.step R2;obtain⟨tO,tC,w3,hr3,wN,gP,hT⟩:=zvo s3 We;exact⟨_,_,_,w3,hr3,wN,λb1 gH Rq Rb _=>⟨b1,tO,gO,tC,gC,rfl,rfl,(s3.R5 gP).put Rb gH,hT.put Rb gH,((hG.step R2).R5 gP).put Rb gH⟩⟩
   ·have s3:=s2.put SZ cN;obtain⟨tO,tC,w3,hr3,wN,gP,hT⟩:=zvo s3 gY;exact⟨_,_,_,w3,hr3,wN,λRQ Sy _=>⟨b2,tO,gO,tC,gC,rfl,rfl,(s3.R5 gP).step Sy,hT.step Sy,((hG.put SZ cN).R5 gP).step Sy⟩⟩
  ·have s1:=(s0.add hb5).R5 AF9;obtain⟨tO,tC,w2,hr,hk,he,hT⟩:=zvo s1 wP;refine⟨_,_,_,w2,hr,hk,λO' R2 We=>?_⟩;have s3:=(s1.R5 he).step R2;obtain⟨gO,gC,w3,hr3,wN,gP,hG⟩:=zvn s3 We;exact⟨_,_,_,w3,hr3,wN,λRQ Sy _=>⟨b5,tO,gO,tC,gC,rfl,rfl,(s3.R5 gP).step Sy,((hT.step R2).R5 gP).step Sy,hG.step Sy⟩⟩
  ·have s1:=(s0.add hb5).R5 BV2;obtain⟨gO,gC,w2,hr,hk,he,hG⟩:=zvn s1 C65;refine⟨_,_,_,w2,hr,hk,λO' R2 We=>?_⟩;have s3:=(s1.R5 he).step R2;obtain⟨tO,tC,w3,hr3,wN,gP,hT⟩:=zvo s3 We;exact⟨_,_,_,w3,hr3,wN,λRQ Sy _=>⟨b5,tO,gO,tC,gC,rfl,rfl,(s3.R5 gP).step Sy,hT.step Sy,((hG.step R2).R5 gP).step Sy⟩⟩
 ·rintro l Se Sm Sv Sl Sq Su Sf Sg Sj b6 dJ pD ⟨bx,tO,gO,tC,gC,hbx,hv,s1,hT,hG⟩;simp only[I5,I6,Iw,true_and,and_true] at hbx hv;subst hbx;obtain⟨rfl,⟨rfl,rfl,rfl⟩,⟨rfl,rfl,rfl⟩,rfl,rfl,rfl⟩:=hv
  refine⟨λvs w2=>∃(k:Nat) (o:OA) (cap:Nat),vs=[I (k:Int),I 0,.slice o k cap,.slice Sl 12 Su,.slice Sf 8 Sj]/\k<=n/\Sc w [b,b6] w2/\Ob KY 5 ZD w.heap.size [b,b6] w2 o cap (List.replicate k (⟨true,-1,0,0,0⟩:MB))/\Ob YK 9 QK w.heap.size [b,b6] w2 Sl Su (List.replicate 12 O0)/\Ob TP 14 QP w.heap.size [b,b6] w2 Sf Sj (List.replicate 8 P8),
   Zt n 0,λwr hx _=>⟨0,none,0,rfl,Ie _,s1.step hx,⟨.inl ⟨rfl,rfl,rfl⟩,by simp[QE]⟩,hT.step hx,hG.step hx⟩,?_⟩
  rintro c1 l4 oA kK nZ nV qN nU mN pK oB wv We ⟨k,o,cap,he,hk,s2,hC,hT2,hG2⟩;simp only[I5,I6,Iw,true_and,and_true] at he;obtain⟨rfl,rfl,⟨rfl,rfl,rfl⟩,⟨rfl,rfl,rfl⟩,rfl,rfl,rfl⟩:=he;clear hT hG;refine⟨λIU=>?_,λRN=>?_⟩
  ·have IU:=Ot IU;intro b3 hb3 Rq Rb iB Wd;have s3:=s2.put Rb hb3;have hC2:=hC.put Rb hb3;obtain⟨o2,c2,w2,WK,xJ,hC3,R2⟩:=hC2.AU1 KX Ke (x:=(⟨true,-1,0,0,0⟩:MB)) iB s3.ext.size Wd (z1p _) (by simp; omega) Qd Zs #[false,false];have s4:=s3.call R2 λx hm=>(hC2.own.lt x hm).1
   have hT3:=(hT2.put Rb hb3);have hT4:Ob YK 9 QK w.heap.size [b,b6,b3] w2 nV nU (List.replicate 12 O0):=⟨hT3.own.ext R2 (hT3.own.Wf hC2.own z2t),hT3.nb⟩;have hG3:=(hG2.put Rb hb3);have hG4:Ob TP 14 QP w.heap.size [b,b6,b3] w2 mN oB (List.replicate 8 P8):=⟨hG3.own.ext R2 (hG3.own.Wf hC2.own zz6),hG3.nb⟩;have hL:List.replicate kK (⟨true,-1,0,0,0⟩:MB)++[⟨true,-1,0,0,0⟩]=List.replicate (kK+1) (⟨true,-1,0,0,0⟩:MB):=by rw[List.replicate_succ']
   rw[hL] at WK hC3;rw[List.length_replicate,List.length_replicate] at WK;exact⟨_,_,_,w2,WK,xJ,⟨Qo,Qo⟩,λRw SZ _=>⟨⟨kK+1,o2,c2,Qs,Qo,(s4.step SZ).sub Qs,(hC3.step SZ).sub Qs,(hT4.step SZ).sub Qs,(hG4.step SZ).sub Qs⟩,Ze (k:=kK) rfl rfl Qo⟩⟩
  ·have RN:=Ou RN;have:kK=n:=Qo;subst this;intro RQ Sy mM;have s3:=s2.step Sy;have hC3:=hC.step Sy;have hT3:=hT2.step Sy;have hG3:=hG2.step Sy;refine(Gs n1).mono λe w3 ⟨mg,he,hM,Rb⟩=>?_
   have s4:=s3.R5 Rb;have hC4:=hC3.R5 Rb;have hT4:=hT3.R5 Rb;have hG4:=hG3.R5 Rb;have G:=zsv hG4.own
   have hmb:∀x∈Qn mg,x∉[b,b6]:=λx hm hx=>by
    have h1:=(hM.lt x hm).1;have h2:=mM x hx;omega
   have P:=G.put (i:=0) (I3 _) Qs (p:=(PN kK (-1) ⟨[].toArray⟩,mg)) (hM.mono s3.ext.size) λj j0 j1 _ x hm=>by
    rw[Fd j0 (by simpa using j1)] at hm;simp[Qn,P8,QE] at hm
   have hxs:=hG4.own.rD (Int.toNat 0*14) (TP (PN kK (-1) ⟨[].toArray⟩,mg));have s5:Sc w [b,b6] (R9 w3 mN (Int.toNat 0*14) (TP (PN kK (-1) ⟨[].toArray⟩,mg))):=⟨hG4.own.Cn2 _ _ s4.ext (I8 _),s4.new⟩;have hC5:=hC4.own.ext hxs (hC4.own.Wf hG4.own zz6.symm);have hT5:=hT4.own.ext hxs (hT4.own.Wf hG4.own z2s.symm);refine⟨_,_,_,_,_,_,_,_,_,_,_,_,_,_,_,_,_,_,_,_,he,Qe Rb mM,rfl,hG4.own.ix (I3 _) Qs,hG4.own.wr Yf.len hG4.nb (i:=0) (j:=0) (I3 _) Qs Qd,λwr hx=>⟨⟨oA,nZ,nV,nU,mN,oB,λk=>if k=0 then mg else P8.2⟩,?_,⟨?_,?_,?_,rfl⟩,(s5.step hx).ext⟩⟩
   ·simp[Qa,Ur]
   ·exact hC5.ext hx hC4.nb
   ·exact hT5.ext hx hT4.nb
   ·have hps:zo2 (Ur kK) ⟨oA,nZ,nV,nU,mN,oB,λk=>if k=0 then mg else P8.2⟩=(List.replicate 8 P8).set (Int.toNat 0) (PN kK (-1) ⟨[].toArray⟩,mg):=rfl;rw[hps];refine⟨P.row.ext hx hG4.nb,λi i0 i1=>(P.each i i0 i1).ext hx λx hm=>?_,P.dj⟩;have hi8:i<8:=by simpa using i1
    have:=QG (List.replicate 8 P8) (PN kK (-1) ⟨[].toArray⟩,mg) (i:=0) (j:=i) (I3 _) Qs i0;rw[this] at hm
    split at hm
    ·exact hmb x hm
    ·rw[Fd i0 hi8] at hm;simp[Qn,P8,QE] at hm
end
def Ol(W:Q7)(j:Nat):Bool:=decide (1<=j) && !(gi W.IE (j:Int)).used
def Tw(W:Q7):Int:=LE (Ol W) 8
def z19(W:Q7)(p:Int)(name:ByteArray):Prop:=∃h:Int,1<=h/\h<8/\(gi W.IE h).used=true/\(gi W.IE h).parent=p/\(gi W.IE h).name=name
open Classical in
noncomputable def LH(W:Q7)(p:Int)(name:ByteArray):Int:=if UG name=false then 1 else if Q6 W.IE p=false then 2 else if z19 W p name then 7 else if dep 3 W.IE p=3 then 9 else if Tw W<0 then 3 else if QM W=false then 10 else 0
def zvl(W:Q7)(p:Int)(name:ByteArray):Q7:=P9 W (Tw W) p name
theorem zlx(W:Q7):(Tw W = -1/\∀h:Int,1<=h->h<8->(gi W.IE h).used=true)\/(1<=Tw W/\Tw W<8/\(gi W.IE (Tw W)).used=false):=by
 rcases T2 (Ol W) 8 with ⟨h1,h2⟩ | ⟨h1,h2,h3,_⟩
 ·refine .inl ⟨h1,λh a b=>?_⟩;have:=h2 h.toNat Qo;unfold Ol at this;rw[show ((h.toNat:Nat):Int)=h by omega,Ii (by omega:1<=h.toNat)] at this
  simpa using this
 ·have e:(((Tw W).toNat:Nat):Int)=Tw W:=by unfold Tw; omega
  have h3:Ol W (Tw W).toNat=true:=h3;unfold Ol at h3;rw[e,A',Ik,ID] at h3;refine .inr ⟨Qo,by unfold Tw; omega,h3.2⟩
theorem zc0{W:Q7}{p:Int}{name:ByteArray}(hb:LH W p name=0):zeh W (Tw W) p name/\QM W=true:=by
 unfold LH at hb
 split at hb
 ·cases hb
 rename_i h1
 split at hb
 ·cases hb
 rename_i h2
 split at hb
 ·cases hb
 rename_i h3
 split at hb
 ·cases hb
 rename_i h4
 split at hb
 ·cases hb
 rename_i h5
 split at hb
 ·cases hb
 rename_i h6;rcases zlx W with ⟨a,_⟩ | ⟨a,b,c⟩
 ·omega
 ·exact⟨⟨a,b,c,by simpa using h2,by simpa using h1,λh a1 a2 u e=>h3 ⟨h,a1,a2,u,e.1,e.2⟩,h4⟩,by simpa using h6⟩
section
variable {W:Q7}{m:MW}{w:Wo}
theorem Kq{p:Int}{name:ByteArray}(h:Xg [] w W m)(hl:XM W) :
  Cz QJ #[.agg (Qa W m).toArray,I p,.string name] w λe w'=>∃v,e=.returned v/\TJ (Xh W (LH W p name) (zvl W p name) (Tw W)) w v w':=by
 refine BN _ _ _ _ _ _ _ _ _ _ p name (R:=λv w'=>TJ (Xh W (LH W p name) (zvl W p name) (Tw W)) w v w') ?_;intro y hy y1 dG wr R2 We;refine I4 (Zh (h.ext R2) hl) ?_;rintro e wv (⟨hW,he,SE⟩ | ⟨hW,m',he,hM,SE⟩)
 ·exact⟨_,_,_,_,_,_,_,_,_,_,_,he,Qe SE We,true,λg=>by simp at g,λ_ M' Rb=>TJ.bad hW ((R2.trans SE).fresh Rb λz hm=>.inl (YW hy dG z hm)),λg=>by simp at g⟩
 have hK:=Wk.begin hy dG R2 We hM SE;have hr:=hK.rd;have wp:=Qh.1 hW;have cP:=wp.a.gl;have vY:((if QM W=true then 0 else 10:Int)==1)=false:=by split <;> rfl
 refine⟨_,_,_,_,_,_,_,_,_,_,_,he,Qe SE We,_,λ_=>Db,λg1 M' Rb=>?_,λg1=>⟨_,Xs hr.g,λg2 O' Rb=>?_,λg2=>?_⟩⟩
 ·rw[vY] at g1;have hb:LH W p name=1:=by unfold LH; rw[E' (by simpa using g1)]
  exact TJ.no hW (by rw[hb]; decide) (hK.step Rb) hb
 ·rw[vY] at g1;have n1:¬UG name=false:=by simpa using g1
  have hb:LH W p name=2:=by unfold LH; rw[C' n1,E' (by simpa using g2)]
  exact TJ.no hW (by rw[hb]; decide) (hK.step Rb) hb
 rw[vY] at g1;have n1:¬UG name=false:=by simpa using g1
 have hu:Q6 W.IE p=true:=by simpa using g2
 have n2:¬Q6 W.IE p=false:=by rw[hu]; decide
 refine⟨λvs w1=>∃k:Nat,vs=[I (k:Int),I 0,.slice none 0 0,.slice none 0 0,.slice none 0 0]/\1<=k/\k<=8/\(∀q:Int,1<=q->q<(k:Int)->(gi W.IE q).used=true->¬((gi W.IE q).parent=p/\(gi W.IE q).name=name))/\Q0 [y,y1] wv w1,
  Zt 8 0,λw1 wB _=>⟨1,rfl,Qo,Qo,λq a b=>by omega,wB⟩,?_⟩
 rintro h1 l Se Sm Sv Sl Sq Su Sf Sg Sj Rr iB ⟨k,aT,hk1,hk8,jH,hxw⟩;simp only[I5,I6,Iw,true_and,and_true] at aT;obtain⟨rfl,rfl,⟨rfl,rfl,rfl⟩,⟨rfl,rfl,rfl⟩,rfl,rfl,rfl⟩:=aT;have hK1:=hK.step hxw;have wX:=hK1.rd;refine⟨λIU=>?_,λRN=>?_⟩
 ·have IU:=Ot IU;have gD:(0:Int)<=(k:Int):=Qo;refine⟨wX.g.ix gD IU,_,wX.g.used gD IU,λ_=>wX.g.ix gD IU,_,λ_=>wX.g.parent gD IU,λ_=>wX.g.ix gD IU,_,λ_=>wX.g.name gD IU,λg3 RQ Sy=>?_,λg3=>⟨⟨Qo,Qo⟩,λSi aS _=>⟨⟨k+1,Qs,Qo,Qo,λq q1 q2 qu=>?_,hxw.trans aS⟩,Ze (k:=k) rfl rfl Qo⟩⟩⟩
  ·rw[A',A',UY,It] at g3;have hb:LH W p name=7:=by unfold LH; rw[C' n1,C' n2,E' ⟨k,Qo,Qo,g3.1.1,g3.1.2,g3.2⟩]
   exact TJ.no hW (by rw[hb]; decide) (hK1.step Sy) hb
  ·by_cases e:q<(k:Int)
   ·exact jH q q1 e qu
   ·have:q=(k:Int):=Qo;subst this;rintro⟨c1,c2⟩;rw[qu,It.2 c1,UY.2 c2] at g3;cases g3
 have RN:=Ou RN;have:k=8:=Qo;subst this;have n3:¬z19 W p name:=λ⟨q,a,b,c,d,e⟩=>jH q a Qo c ⟨d,e⟩
 refine⟨_,Mk wX.g (by rw[cP]; have:=Zl; omega),λg4 Sz kR=>?_,λg4=>⟨⟨Qo,Qo⟩,?_⟩⟩
 ·rw[zjd wp.a.tree hu,It] at g4;have hb:LH W p name=9:=by unfold LH; rw[C' n1,C' n2,C' n3,E' g4]
  exact TJ.no hW (by rw[hb]; decide) (hK1.step kR) hb
 rw[zjd wp.a.tree hu,beq_eq_false_iff_ne] at g4
 refine⟨λvs w1=>∃a t:Int,vs=[I a,I t]/\0<=t/\t<8/\(a = -1/\(∀j:Nat,t<(j:Int)->j<8->Ol W j=false)\/t<a/\a<8/\Ol W a.toNat=true/\∀j:Nat,t<(j:Int)->(j:Int)<a->Ol W j=false)/\Q0 [y,y1] Rr w1,
  λvs _=>(ZQ 1 vs+1).toNat,λw1 wB _=>⟨-1,_,rfl,Qo,Qo,.inl ⟨rfl,λj h1 h2=>by omega⟩,wB⟩,?_⟩
 rintro av tv S3 gY ⟨a,t,aT,ht0,ht1,uZ,CR9⟩;simp only[I5,I6,true_and,and_true] at aT;obtain⟨rfl,rfl⟩:=aT;have iL:=hK1.step CR9;have vD:=iL.rd;refine⟨λIU=>?_,λbS=>?_⟩
 ·have IU:=Ot IU;have e:((tv.toNat:Nat):Int)=tv:=Qo;have mS:Ol W tv.toNat = !(gi W.IE tv).used:=by unfold Ol; rw[e,Ii (by omega:1<=tv.toNat)]; rfl
  refine⟨vD.g.ix Qo Qo,_,vD.g.used Qo Qo,λg3=>⟨⟨Qo,Qo⟩,λRQ Sy _=>⟨⟨tv,tv-1,rfl,Qo,Qo,.inr ⟨Qo,ht1,by rw[mS]; exact g3,λj h1 h2=>by omega⟩,CR9.trans Sy⟩,?_⟩⟩,λg3=>⟨⟨Qo,Qo⟩,λSi aS _=>⟨⟨av,tv-1,rfl,Qo,Qo,?_,CR9.trans aS⟩,?_⟩⟩⟩
  ·simp only[ZQ,Ig,List.getElem?_cons_succ]; omega
  ·have g3:Ol W tv.toNat=false:=by rw[mS]; exact g3
   have one:∀j:Nat,tv-1<(j:Int)->¬tv<(j:Int)->Ol W j=false:=λj h1 h2=>by
    have:j=tv.toNat:=Qo;rw[this]; exact g3
   rcases uZ with ⟨h1,h2⟩ | ⟨h1,h2,h3,h4⟩
   ·exact .inl ⟨h1,λj j1 j2=>if h:tv<(j:Int) then h2 j h j2 else one j j1 h⟩
   ·exact .inr ⟨Qo,h2,h3,λj j1 j2=>if h:tv<(j:Int) then h4 j h j2 else one j j1 h⟩
  ·simp only[ZQ,Ig,List.getElem?_cons_succ]; omega
 have bS:=Ou bS;have ht:tv=0:=Qo;subst ht;have hz:Ol W 0=false:=rfl
 have vB:av=Tw W:=by
  rcases uZ with ⟨h1,h2⟩ | ⟨h1,h2,h3,h4⟩
  ·rw[h1]; exact(zjp λj hj=>if e:j=0 then by rw[e]; exact hz else h2 j Qo hj).symm
  ·exact(zjo Qo h2 h3 λj hj=>if e:j=0 then by rw[e]; exact hz else h4 j Qo hj).symm
 subst vB;refine⟨λg5 Sz kR=>?_,λg5=>⟨λg6 W5 oH=>?_,λg6 Wa B08 Ci2=>?_⟩⟩
 ·have g5:=Ot g5;have hb:LH W p name=3:=by unfold LH; rw[C' n1,C' n2,C' n3,C' g4,E' g5]
  exact TJ.no hW (by rw[hb]; decide) (iL.step kR) hb
 ·have g5:=Ou g5;have cD:¬QM W=true:=λhr=>by rw[E' hr] at g6; simp at g6
  have hb:LH W p name=10:=by unfold LH; rw[C' n1,C' n2,C' n3,C' g4,C' g5,E' (by simpa using cD)]
  rw[C' cD];exact TJ.no hW (by rw[hb]; decide) (iL.step oH) hb
 have g5:=Ou g5;have cD:QM W=true:=Ir λhr=>by rw[C' hr] at g6; simp at g6
 have hb:LH W p name=0:=by unfold LH; rw[C' n1,C' n2,C' n3,C' g4,C' g5,C' (by rw[cD]; decide)]
 obtain⟨hf,_⟩:=zc0 hb;have a1:=hf.a1;have a8:=hf.a8;have oY:=iL.step B08;refine(Gs (n:=W.IF.length) wp.a.c2).mono λe1 aF ⟨mg,jG,hMg,SZ⟩=>?_
 have fE:=oY.R5 SZ;have hold:∀x∈QB 8 m',x<Wa.heap.size:=λx hx=>(oY.own.lt x hx).2
 have qD:∀x∈Qn mg,Wa.heap.size<=x:=λx hx=>(hMg.lt x hx).1
 have SI:Wk 8 [y,y1] w (R9 aF m'.gO (Int.toNat (Tw W)*14) (Yv (PN W.IF.length p name) mg)) (zvl W p name) (PO m' (Tw W).toNat mg):=
  ⟨fE.s.call B2 λx hx=>(fE.own.lt x hx).1,⟨fE.own.B36 Qo a8 (g:=PN W.IF.length p name) (p:=mg) (j:=0) (vs:=Yv (PN W.IF.length p name) mg) (hMg.mono oY.base) (λx hx=>.inl λgM=>by have:=hold x gM; have:=qD x hx; omega) (by simp[Yv,Z2]) (by simp[Yv,Z2]),λx hx hm=>by
   rcases Oz x hx with h1 | h1
   ·exact fE.nb x h1 hm
   ·have:=qD x h1;have:=Ci2 x hm;omega⟩⟩
 refine⟨_,_,_,_,_,_,_,_,_,_,_,_,_,_,_,_,_,_,_,_,jG,Qe SZ Ci2,rfl,vD.g.ix Qo Qo,zef fE.own fE.nb Qo a8 (j:=0) (k:=14) Qd,λWm BV2=>?_⟩;have BF1:=TJ.ok (a:=Tw W) hW hb (SI.step BV2);have ew:Qa (zvl W p name) (PO m' (Tw W).toNat mg)=Qa W m':=by simp[Qa,zvl,P9,Rf,PO]
 rw[ew] at BF1;exact BF1
end
inductive J7 (W:Q7):Q7->Prop
 | same:J7 W W
 | run (c n:Int) (hb:FU W c n=0):J7 W (zs5 W c n)
 | yld (c:Int) (hb:CU W c=0):J7 W (Ry W c)
 | fork (g n x:Int) (hb:Zz W g n x=0):J7 W (ZY W g n x)
 | block (t:Int) (hb:Tf W t=0):J7 W (zi8 W t)
 | wake (t:Int) (hb:MN W t=0):J7 W (A4 W t)
 | exit (t:Int) (hb:YD W t=0):J7 W (XK W t)
 | nice (t n:Int) (hb:PG W t n=0):J7 W (GD W t n)
 | pin (t x:Int) (hb:Ec W t x=0):J7 W (zv7 W t x)
 | mov (t g:Int) (hb:zc2 W t g=0):J7 W (zf8 W t g)
 | mak (a p:Int) (name:ByteArray) (hm:zeh W a p name):J7 W (P9 W a p name)
 | drp (g:Int) (hd:zg1 W g):J7 W (J9 W g)
 | wgh (g x:Int) (hb:znl W g x=0):J7 W (zw9 W g x)
 | gpn (g x:Int) (hb:zlz W g x=0):J7 W (zuy W g x)
 | lim (g q p:Int) (hb:zmb W g q p=0):J7 W (zyy W g q p)
 | time (n:Int) (hb:Lv W n=0):J7 W (zig W n)
 | bal (c:Int) (hb:ER W c=0):J7 W (zi5 W c)
 | off (c:Int) (hb:VJ W c true (GF W)=0):J7 W (zvx W c)
 | on (c:Int) (hb:VJ W c false 0=0):J7 W (z2u W c)
structure MC (P:Nat->Q7->Prop):Prop where
 mono:∀{n m:Nat} {W:Q7},n<=m->P n W->P m W
 new:∀{n k:Nat},1<=k->k<=4->P n (Ur k)
 fork:∀{n:Nat} {W:Q7} {g q x:Int},JS W->P n W->Zz W g q x=0->P n (ZY W g q x)
 mak:∀{n:Nat} {W:Q7} {a p:Int} {name:ByteArray},JS W->P n W->zeh W a p name->P n (P9 W a p name)
 SH:∀{n:Nat} {W V:Q7},n<=10000->JS W->P n W->J7 W V->P (n+10) V
def Be(_:Nat)(_:Q7):Prop:=True
theorem KU:MC Be:=⟨λ_ _=>trivial,λ_ _=>trivial,λ_ _ _=>trivial,λ_ _ _=>trivial,λ_ _ _ _=>trivial⟩
theorem Q0.kept{bs B:List Nat}{w w':Wo}(h:Q0 bs w w')(hB:∀x∈B,x<w.heap.size/\x∉bs):Q8 B w w':=λx hx=>h.block x (hB x hx).1 (hB x hx).2
theorem zve{b x:Nat}{w w':Wo}(h:Q0 [b] w w')(h1:x<w.heap.size)(h2:x≠b):Q8 [x] w w':=h.kept λy hy=>by
 rw[IA.1 hy]; exact⟨h1,by simpa using h2⟩
def z14(v:Int):Prop := -2<=v/\v<=21
theorem zl8{b:Nat}{c:OA}{L N:Nat}{w:Wo}(h:UK b c L N w)(hN:N<=900000000000) :
  Cz ZS #[.pointer (some ⟨b,0,none⟩)] w λe w'=>∃v,e=.returned (I v)/\z14 v/\UK b c L (N+2) w'/\Q0 [b] w w':=by
 refine(HJ (some ⟨b,0,none⟩) (R:=λv w'=>∃x,v=I x/\z14 x/\UK b c L (N+2) w'/\Q0 [b] w w') ?_).mono λe w' ⟨v,he,x,hv,h1,h2,h3⟩=>⟨x,by rw[he,hv],h1,h2,h3⟩
 refine λwr hx _=>(Gq (h.WQ hx) Qo).mono λe w1 ⟨v,he,hv,wX,RZ⟩=>⟨v,he,Y6,λ_=>?_,λ_ b1 gH Rq Rb nT=>?_⟩
 ·refine λM' hy _=>(Gq (wX.WQ hy) Qo).mono λe w2 ⟨u,he,hu,vD,R2⟩=>⟨u,he,Y6,?_⟩
  have hu1:=hu.1;have hu2:=hu.2.2 Qd;exact⟨Uj Qo Qo,λO' hz=>⟨_,rfl,⟨Qo,Qo⟩,vD.WQ hz,(hx.of_nil.trans RZ).trans (hy.of_nil.trans (R2.trans hz.of_nil))⟩⟩
 ·refine(Gq (wX.WQ Rb) Qo).mono λe w2 ⟨u,he,hu,vD,R2⟩=>⟨u,he,zve R2 (nT b1 Qs) (by have:=wX.lt; omega),?_⟩
  have hu1:=hu.1;have hu2:=hu.2.2 Qd
  have fin:∀(x:Int),z14 x->∀Rw,Q0 [b1] w2 Rw->∃x',I x=I x'/\z14 x'/\UK b c L (N+2) Rw/\Q0 [b] w Rw:=λx hxv Rw hz=>
   ⟨x,rfl,hxv,wX.Cy5 vD hz (by simpa using gH),(hx.of_nil.trans RZ).trans ((Rb.of_nil.trans R2)) |>.fresh hz (λy hy=>by
    rw[IA.1 hy];have h1:=hx.size; have h2:=RZ.size;exact .inl Qo)⟩
  have:u=0\/u=1\/u=2\/u=3\/u=4\/u=5\/u=6\/u=7\/u=8\/u=9:=Qo;refine⟨⟨hu1,hu2⟩,?_⟩;rcases this with rfl | rfl | rfl | rfl | rfl | rfl | rfl | rfl | rfl | rfl <;> exact⟨_,⟨Qd,rfl⟩,fin _ ⟨Qd,Qd⟩⟩
def NO(c:OA)(L:Nat)(w:Wo):Prop:=∀i<L,∃(a:Addr) (x:Int),c=some a/\0<=x/\x<=255/\w.cell? (a.add i)=some (.int .u8 x)
theorem NO.ext{c:OA}{L:Nat}{w w':Wo}(h:NO c L w)(hx:Q0 [] w w'):NO c L w':=λi hi=>by
 obtain⟨a,x,ha,h1,h2,h3⟩:=h i hi;obtain⟨a',e,_,h''⟩:=(show Ub [] w c i (.int .u8 x) from ⟨a,ha,Qs,h3⟩).ext hx;rw[ha] at e; cases e; exact⟨a,x,ha,h1,h2,h''⟩
structure RS (rb:Nat) (c:OA) (L N:Nat) (bs:List Nat) (w:Wo):Prop where
 rd:UK rb c L N w
 nb:rb∉bs
 oc:∀a,c=some a->a.block∉bs\/L=0
section
variable {rb:Nat}{c:OA}{L N:Nat}{bs cs:List Nat}{w w':Wo}{b:Nat}
theorem RS.step(h:RS rb c L N bs w)(hx:Q0 bs w w'):RS rb c L N bs w':=⟨h.rd.ext hx h.nb h.oc,h.nb,h.oc⟩
theorem RS.R5(h:RS rb c L N bs w)(hx:Q0 [] w w'):RS rb c L N bs w':=⟨h.rd.WQ hx,h.nb,h.oc⟩
theorem RS.call(h:RS rb c L N bs w)(hx:Q0 cs w w')(h1:rb∉cs)(h2:∀a,c=some a->a.block∉cs\/L=0):RS rb c L N bs w':=⟨h.rd.ext hx h1 h2,h.nb,h.oc⟩
theorem RS.add(h:RS rb c L N bs w)(hb:w.heap.size<=b):RS rb c L N (bs++[b]) w:=⟨h.rd,λhm=>by
 rcases Io.1 hm with hm | hm
 ·exact h.nb hm
 ·have:rb=b:=by simpa using hm
  have:=h.rd.lt;omega,λa ha=>by
 rcases h.oc a ha with h1 | h1
 ·rcases h.rd.ltc a ha with h2 | h2
  ·refine .inl λhm=>?_
   rcases Io.1 hm with hm | hm
   ·exact h1 hm
   ·have:a.block=b:=by simpa using hm
    omega
  ·exact .inr h2
 ·exact .inr h1⟩
theorem RS.sub(h:RS rb c L N bs w)(hs:∀x∈cs,x∈bs):RS rb c L N cs w:=⟨h.rd,λhm=>h.nb (hs _ hm),λa ha=>by
 rcases h.oc a ha with h1 | h1
 ·exact .inl λhm=>h1 (hs _ hm)
 ·exact .inr h1⟩
theorem RS.upd{M:Nat}(h:RS rb c L N bs w)(k:UK rb c L M w'):RS rb c L M bs w':=⟨k,h.nb,h.oc⟩
theorem RS.mono{M:Nat}(h:RS rb c L N bs w)(hm:N<=M):RS rb c L M bs w:=⟨h.rd.mono hm,h.nb,h.oc⟩
theorem Sc.CK5{w0:Wo}(h:Sc w0 (rb::bs) w)(hx:Q0 bs w w'):Sc w0 (rb::bs) w':=h.step (hx.mono λ_ hm=>I2 _ hm)
theorem Sc.CK6{w0:Wo}(h:Sc w0 (rb::bs) w)(hx:Q0 [rb] w w'):Sc w0 (rb::bs) w':=h.step (hx.mono λx hm=>by
 have:x=rb:=by simpa using hm
 subst this; simp)
theorem Ml(h:RS rb c L N bs w)(hx:Q0 [rb] w w')(hs:∀x∈bs,x<w.heap.size):Q8 bs w w':=Gw hx hs λx hm gX=>by
 have:x=rb:=by simpa using hm
 subst this; exact h.nb gX
end
section
variable {α:Type}{enc:α->List Va}{z:Nat}{ty:TypeId}{base rb:Nat}{bs:List Nat}{w w':Wo}{o:OA}{cap:Nat}{l:List α}{b:Nat}
end
theorem zon{c:OA}{L C:Nat}{w:Wo}(h:NO c L w)(hC:L<=C) :
  Cz Vx #[.slice c L C] w λe w'=>∃b c' L',e=.returned (.pointer (some ⟨b,0,none⟩))/\w.heap.size<=b/\UK b c' L' 0 w'/\Q0 [] w w'/\∀a',c'=some a'->L'=0\/(0<L/\∃a,c=some a/\a'.block=a.block):=by
 refine(zbp c L C (R:=λv w'=>∃b c' L',v=.pointer (some ⟨b,0,none⟩)/\w.heap.size<=b/\UK b c' L' 0 w'/\Q0 [] w w'/\∀a',c'=some a'->L'=0\/(0<L/\∃a,c=some a/\a'.block=a.block)) ?_).mono λe w' ⟨v,he,b,c',L',hv,h1,h2,h3⟩=>⟨b,c',L',by rw[he,hv],h1,h2,h3⟩
 refine⟨λIU=>⟨⟨Qo,Qo,by have:=Ot IU; omega⟩,λb wb hx hb hh _ wr hy=>⟨b,if C=Int.toNat 0 then c else c.map (·.add (Int.toNat 0*1)),Int.toNat 2000-Int.toNat 0,rfl,hb,?_,hx.trans hy,λa' ha'=>?_⟩⟩,λIU b wb hx hb hh _ wr hy=>⟨b,c,L,rfl,hb,?_,hx.trans hy,λa' ha'=>?_⟩⟩
 ·refine UK.WQ ⟨⟨_,0,hh,Qo,Qo⟩,λi hi=>?_⟩ hy;have IU:=Ot IU;obtain⟨a,x,ha,h1,h2,h3⟩:=h.ext hx i (by have:i<2000-0:=hi; omega);obtain⟨a0,x0,ha0,_,_,h30⟩:=h i (by have:i<2000-0:=hi; omega);have RM:=World.block_lt_of_cell? w _ h30;rw[Zv] at RM;rw[ha] at ha0; cases ha0;rw[C' (show ¬C=Int.toNat 0 from λe=>by have:C=0:=e; omega),ha];refine⟨a.add 0,x,rfl,by rw[Zv]; omega,h1,h2,?_⟩;rw[Jl,Nat.zero_add]; exact h3
 ·have IU:=Ot IU;refine .inr ⟨Qo,?_⟩;rw[C' (show ¬C=Int.toNat 0 from λe=>by have:C=0:=e; omega)] at ha'
  cases c with
  | none=>cases ha'
  | some a=>
   simp only[Option.map_some,I1] at ha';exact⟨a,rfl,by rw[<-ha',Zv]⟩
 ·refine UK.WQ ⟨⟨_,0,hh,Qo,Qo⟩,λi hi=>?_⟩ hy;obtain⟨a,x,ha,h1,h2,h3⟩:=h.ext hx i hi;obtain⟨a0,x0,ha0,_,_,h30⟩:=h i hi;have RM:=World.block_lt_of_cell? w _ h30;rw[Zv] at RM;rw[ha] at ha0; cases ha0;exact⟨a,x,ha,Qo,h1,h2,h3⟩
 ·rcases Nat.eq_zero_or_pos L with h0 | h0
  ·exact .inl h0
  ·exact .inr ⟨h0,a',ha',rfl⟩
structure Dr (rb:Nat) (c:OA) (L N n:Nat) (bs:List Nat) (w0 w:Wo):Prop where
 r:RS rb c L (N+n) bs w
 ext:Q0 [rb] w0 w
 new:∀x∈bs,w0.heap.size<=x
section
variable {rb b b2:Nat}{c:OA}{L N n k:Nat}{bs cs:List Nat}{w0 w w':Wo}
theorem Dr.start(h:UK rb c L N w):Dr rb c L N 0 [] w w:=⟨⟨h,Qs,λ_ _=>.inl Qs⟩,Q0.refl _ _,Qs⟩
theorem Dr.step(h:Dr rb c L N n bs w0 w)(hx:Q0 bs w w'):Dr rb c L N n bs w0 w':=⟨h.r.step hx,h.ext.fresh hx λx hm=>.inl (h.new x hm),h.new⟩
theorem Dr.add(h:Dr rb c L N n bs w0 w)(hb:w.heap.size<=b):Dr rb c L N n (bs++[b]) w0 w:=⟨h.r.add hb,h.ext,λx hm=>by
 rcases Io.1 hm with hm | hm
 ·exact h.new x hm
 ·have:x=b:=by simpa using hm
  have:=h.ext.size;omega⟩
theorem Dr.put(h:Dr rb c L N n bs w0 w)(hx:Q0 bs w w')(hb:w.heap.size<=b):Dr rb c L N n (bs++[b]) w0 w':=(h.add hb).step (hx.mono λ_ hm=>Ib _ hm)
theorem Dr.Aa6(h:Dr rb c L N n bs w0 w)(hx:Q0 bs w w')(hb:w.heap.size<=b)(cN:w.heap.size<=b2):Dr rb c L N n (bs++[b]++[b2]) w0 w':=((h.add hb).add cN).step (hx.mono λ_ hm=>Ib _ (Ib _ hm))
theorem Dr.more{m:Nat}(h:Dr rb c L N n bs w0 w)(hm:n<=m):Dr rb c L N m bs w0 w:=⟨h.r.mono Qo,h.ext,h.new⟩
theorem Dr.sub(h:Dr rb c L N n bs w0 w)(hs:∀x∈cs,x∈bs):Dr rb c L N n cs w0 w:=⟨h.r.sub hs,h.ext,λx hm=>h.new x (hs x hm)⟩
theorem Dr.fin{m:Nat}(h:Dr rb c L N n bs w0 w)(hm:n<=m):UK rb c L (N+m) w/\Q0 [rb] w0 w:=⟨(h.more hm).r.rd,h.ext⟩
theorem Dr.call{f:FuncId}{args:Array Va}{Q:Int->Prop}(h:Dr rb c L N n bs w0 w)(hs:∀x∈bs,x<w.heap.size)(hc:Cz f args w λe w'=>∃v,e=.returned (I v)/\Q v/\UK rb c L (N+n+k) w'/\Q0 [rb] w w') :
  Cz f args w λe w'=>∃v,e=.returned (I v)/\Q8 bs w w'/\Q v/\Dr rb c L N (n+k) bs w0 w':=
 hc.mono λe w' ⟨v,he,hq,hr,hx⟩=>⟨v,he,Ml h.r hx hs,hq,⟨h.r.upd (by rw[<-Nat.add_assoc]; exact hr),h.ext.trans hx,h.new⟩⟩
theorem Dr.pick(h:Dr rb c L N n bs w0 w)(hN:N+n<=1000000000000)(hs:∀x∈bs,x<w.heap.size){q:Int} :
  Cz Q2 #[.pointer (some ⟨rb,0,none⟩),I q] w λe w'=>∃v,e=.returned (I v)/\Q8 bs w w'/\Ep q v/\Dr rb c L N (n+1) bs w0 w':=h.call hs (Gq h.r.rd hN)
theorem Dr.weight(h:Dr rb c L N n bs w0 w)(hN:N+n<=900000000000)(hs:∀x∈bs,x<w.heap.size) :
  Cz ZS #[.pointer (some ⟨rb,0,none⟩)] w λe w'=>∃v,e=.returned (I v)/\Q8 bs w w'/\z14 v/\Dr rb c L N (n+2) bs w0 w':=h.call hs (zl8 h.r.rd hN)
end
def z3l:Va->Bool
 | .int .i64 _=>true
 | _=>false
def z3n:Va->Bool
 | .string _=>true
 | _=>false
theorem zz1{v:Int}{k:Nat}{ls:List Va}{P:Int->Prop}(ha:ls.all z3l=true)(hl:ls.length=k)(h0:0<=v)(h1:v<(k:Int))(h:∀x,P x):∃x:Int,(0<=v/\ls[Int.toNat v+0]? = some (I x))/\P x:=by
 have IU:Int.toNat v+0<ls.length:=Qo;have:=List.all_eq_true.1 ha _ (List.getElem_mem IU);have e:=Im IU;generalize ls[Int.toNat v+0]=y at this e;unfold z3l at this
 split at this
 ·exact⟨_,⟨h0,e⟩,h _⟩
 ·cases this
theorem z3i{v:Int}{k:Nat}{ls:List Va}{P:ByteArray->Prop}(ha:ls.all z3n=true)(hl:ls.length=k)(h0:0<=v)(h1:v<(k:Int))(h:∀x,P x):∃x:ByteArray,(0<=v/\ls[Int.toNat v+0]? = some (.string x))/\P x:=by
 have IU:Int.toNat v+0<ls.length:=Qo;have:=List.all_eq_true.1 ha _ (List.getElem_mem IU);have e:=Im IU;generalize ls[Int.toNat v+0]=y at this e;unfold z3n at this
 split at this
 ·exact⟨_,⟨h0,e⟩,h _⟩
 ·cases this
theorem zz5(x:Int):Qm .i64 (10-ZH (zj7 x 1) 20):=by
 have:1<=ZH (zj7 x 1) 20/\ZH (zj7 x 1) 20<=20:=by
  have h:1<=zj7 x 1:=by unfold zj7; split <;> omega
  unfold ZH
  split <;> omega
 exact⟨Qo,Qo⟩
section
variable {rb:Nat}{c:OA}{L N n:Nat}{bs:List Nat}{w0 w:Wo}
def ztp(_:Int):Prop:=True
theorem zvd(h:UK rb c L N w)(hN:N<=900000000000) :
  Cz Yn #[.pointer (some ⟨rb,0,none⟩)] w λe w'=>∃v,e=.returned (I v)/\ztp v/\UK rb c L (N+2) w'/\Q0 [rb] w w':=by
 refine(F7 (some ⟨rb,0,none⟩) (R:=λv w'=>∃x,v=I x/\UK rb c L (N+2) w'/\Q0 [rb] w w') ?_).mono λe w' ⟨v,he,x,hv,h1⟩=>⟨x,by rw[he,hv],trivial,h1⟩
 have h0:=Dr.start h;intro wr hx hs;refine(Dr.pick (h0.step hx) Qo hs).mono ?_;rintro e w2 ⟨v,he,hk,_,h1⟩;refine⟨_,he,hk,λ_ b hb M' RZ dK=>?_,λ_ b hb M' RZ dK=>?_⟩
 all_goals
  refine(Dr.pick (h1.put RZ hb) Qo dK).mono ?_;rintro e w3 ⟨u,gP,wN,⟨u0,_,u2⟩,h2⟩;have u2:=u2 Qd;refine⟨_,gP,wN,⟨Qo,Qo⟩,zz1 Qd rfl Qo Qo λx O' R2=>⟨x,rfl,(h2.step R2).fin Qo⟩⟩
theorem zyt(h:UK rb c L N w)(hN:N<=900000000000) :
  Cz Y9 #[.pointer (some ⟨rb,0,none⟩)] w λe w'=>∃v,e=.returned (I v)/\ztp v/\UK rb c L (N+2) w'/\Q0 [rb] w w':=by
 refine(DK (some ⟨rb,0,none⟩) (R:=λv w'=>∃x,v=I x/\UK rb c L (N+2) w'/\Q0 [rb] w w') ?_).mono λe w' ⟨v,he,x,hv,h1⟩=>⟨x,by rw[he,hv],trivial,h1⟩
 have h0:=Dr.start h;intro wr hx hs;refine(Dr.pick (h0.step hx) Qo hs).mono ?_;rintro e w2 ⟨v,he,hk,_,h1⟩;refine⟨_,he,hk,λ_ b hb M' RZ dK=>?_,λ_ b hb M' RZ dK=>?_⟩
 all_goals
  refine(Dr.pick (h1.put RZ hb) Qo dK).mono ?_;rintro e w3 ⟨u,gP,wN,⟨u0,_,u2⟩,h2⟩;have u2:=u2 Qd;refine⟨_,gP,wN,⟨Qo,Qo⟩,zz1 Qd rfl Qo Qo λx O' R2=>⟨x,rfl,(h2.step R2).fin Qo⟩⟩
theorem zyq(h:UK rb c L N w)(hN:N<=900000000000) :
  Cz Ve #[.pointer (some ⟨rb,0,none⟩)] w λe w'=>∃v,e=.returned (I v)/\ztp v/\UK rb c L (N+2) w'/\Q0 [rb] w w':=by
 refine(DJ (some ⟨rb,0,none⟩) (R:=λv w'=>∃x,v=I x/\UK rb c L (N+2) w'/\Q0 [rb] w w') ?_).mono λe w' ⟨v,he,x,hv,h1⟩=>⟨x,by rw[he,hv],trivial,h1⟩
 have h0:=Dr.start h;intro wr hx hs;refine(Dr.pick (h0.step hx) Qo hs).mono ?_;rintro e w2 ⟨v,he,hk,_,h1⟩;refine⟨_,he,hk,λ_ b hb M' RZ dK=>?_,λ_ M' RZ dK=>?_⟩
 ·refine(Dr.pick (h1.put RZ hb) Qo dK).mono ?_;rintro e w3 ⟨u,gP,wN,⟨u0,_,u2⟩,h2⟩;have u2:=u2 Qd;refine⟨_,gP,wN,⟨Qo,Qo⟩,zz1 Qd rfl Qo Qo λx O' R2=>⟨x,rfl,(h2.step R2).fin Qo⟩⟩
 ·refine(Dr.pick (h1.step RZ) Qo dK).mono ?_;rintro e w3 ⟨u,gP,wN,_,h2⟩;exact⟨_,gP,wN,λO' R2=>⟨u,rfl,(h2.step R2).fin Qo⟩⟩
theorem Dr.mask(h:Dr rb c L N n bs w0 w)(hN:N+n<=900000000000)(hs:∀x∈bs,x<w.heap.size) :
  Cz Yn #[.pointer (some ⟨rb,0,none⟩)] w λe w'=>∃v,e=.returned (I v)/\Q8 bs w w'/\ztp v/\Dr rb c L N (n+2) bs w0 w':=h.call hs (zvd h.r.rd hN)
theorem Dr.tR(h:Dr rb c L N n bs w0 w)(hN:N+n<=900000000000)(hs:∀x∈bs,x<w.heap.size) :
  Cz Y9 #[.pointer (some ⟨rb,0,none⟩)] w λe w'=>∃v,e=.returned (I v)/\Q8 bs w w'/\ztp v/\Dr rb c L N (n+2) bs w0 w':=h.call hs (zyt h.r.rd hN)
end
theorem JS.w{W:Q7}(iv:JS W):Qw W=true:=Qh.2 iv.wp
theorem JS.len{W:Q7}(iv:JS W):XM W:=zj3 iv.wp.a
def znr(W V:Q7):Prop:=JS V/\J7 W V
theorem znr.refl{W:Q7}(iv:JS W):znr W W:=⟨iv,.same⟩
theorem zyb{W W':Q7}{bar:Int}(iv:JS W)(hb:bar=0->znr W W'):znr W (Xi W bar W').1:=by
 unfold Xi;rw[C' (by rw[iv.w]; decide)];split
 ·exact znr.refl iv
 ·rename_i e;exact hb (by simpa using e)
theorem zu3{W W':Q7}{bar a:Int}(iv:JS W)(hb:bar=0->znr W W'):znr W (Xh W bar W' a).1:=by
 unfold Xh;rw[C' (by rw[iv.w]; decide)];split
 ·exact znr.refl iv
 ·rename_i e;exact hb (by simpa using e)
section
variable {f:FuncId}{args:Array Va}{W W':Q7}{bar a:Int}{m:MW}{w:Wo}
theorem V6(iv:JS W)(hc:Cz f args w λe w'=>∃v,e=.returned v/\QU (Xi W bar W') w v w')(hb:bar=0->znr W W') :
  Cz f args w λe w'=>∃(V:Q7) (m':MW) (d:Int),e=.returned (.tuple #[.agg (Qa V m').toArray,I d])/\znr W V/\Zj 8 w.heap.size w' V m'/\Q0 [] w w':=
 hc.mono λe w' ⟨v,he,n,m',hv,hM,hx⟩=>by
  have hi:=zyb iv hb;have hn:n=8:=hM.len.symm.trans hi.1.wp.a.gl;subst hn;exact⟨_,m',_,by rw[he,hv],hi,hM,hx⟩
theorem zpx(iv:JS W)(hc:Cz f args w λe w'=>∃v,e=.returned v/\TJ (Xh W bar W' a) w v w')(hb:bar=0->znr W W') :
  Cz f args w λe w'=>∃(V:Q7) (m':MW) (q d:Int),e=.returned (.tuple #[.agg (Qa V m').toArray,I q,I d])/\znr W V/\Zj 8 w.heap.size w' V m'/\Q0 [] w w':=
 hc.mono λe w' ⟨v,he,n,m',hv,hM,hx⟩=>by
  have hi:=zu3 (a:=a) iv hb;have hn:n=8:=hM.len.symm.trans hi.1.wp.a.gl;subst hn;exact⟨_,m',_,_,by rw[he,hv],hi,hM,hx⟩
theorem zt5{P:Q7->Prop}(iv:JS W)(h0:P W)(hc:Cz f args w λe w'=>∃v,e=.returned v/\TJ (Xh W bar W' a) w v w')(hb:bar=0->JS W'/\P W') :
  Cz f args w λe w'=>∃(V:Q7) (m':MW) (q d:Int),e=.returned (.tuple #[.agg (Qa V m').toArray,I q,I d])/\(JS V/\P V)/\Zj 8 w.heap.size w' V m'/\Q0 [] w w':=
 hc.mono λe w' ⟨v,he,n,m',hv,hM,hx⟩=>by
  have hi:JS (Xh W bar W' a).1/\P (Xh W bar W' a).1:=by
   unfold Xh;rw[C' (by rw[iv.w]; decide)];split
   ·exact⟨iv,h0⟩
   ·rename_i e;exact hb (by simpa using e)
  have hn:n=8:=hM.len.symm.trans hi.1.wp.a.gl;subst hn;exact⟨_,m',_,_,by rw[he,hv],hi,hM,hx⟩
def z29(W:Q7)(w:Wo)(v:Va)(w':Wo):Prop:=∃(V:Q7) (m':MW) (d:Int),v=.tuple #[.agg (Qa V m').toArray,I d]/\znr W V/\Zj 8 w.heap.size w' V m'/\Q0 [] w w'
theorem JG{bs:List Nat}{w0 w2 w3:Wo}{d:Int}(s:Sc w0 bs w)(hs:∀x∈bs,x<w.heap.size)(hi:znr W W'){m':MW}(hM:Zj 8 w.heap.size w2 W' m')(hy:Q0 [] w w2)(hx:Q0 bs w2 w3):z29 W w0 (.tuple #[.agg (Qa W' m').toArray,I d]) w3:=
 ⟨W',m',d,rfl,hi,(((OW.of hM hs).step hx).own).mono s.ext.size,((s.R5 hy).step hx).ext⟩
theorem z07{c:Int}(iv:JS W)(h:CU W c=0):JS (Ry W c):=by
 obtain⟨c0,c1⟩:=OD (z12 h).1;exact zsb iv c0 c1
theorem zsd{k a n q:Int}{s:ByteArray}(h:Xg [] w W m)(iv:JS W) :
  Cz Vv #[.agg (Qa W m).toArray,.agg #[I k,I a,I n,I q,.string s]] w λe w'=>∃v,e=.returned v/\z29 W w v w':=by
 refine zbn _ _ _ _ _ _ _ _ _ _ k a n q s (R:=λv w'=>z29 W w v w') ?_;intro b hb b1 gH b2 cN;have hl:=iv.len;have hW:=iv.w;have s0:Sc w ([b]++[b1]++[b2]) w:=(((Sc.start w).add hb).add gH).add cN;have hS:∀{wr:Wo},Q0 [] w wr->Sc w [b,b1,b2] wr:=λhx=>s0.R5 hx
 refine⟨λ_ wr hx hs=>?_,λ_=>⟨λ_ wr hx hs=>?_,λ_=>⟨λ_ wr hx hs=>?_,λ_=>⟨λ_ wr hx hs=>?_,λ_=>⟨λ_ wr hx hs=>?_,λ_=>⟨λ_ wr hx hs=>?_,λ_=>⟨λ_ wr hx hs=>?_,λ_=>⟨λ_ wr hx hs=>?_,λ_=>⟨λ_ wr hx hs=>?_,λ_=>⟨λ_ wr hx hs=>?_,λ_=>⟨λ_ wr hx hs=>?_,λ_=>⟨λ_ wr hx hs=>?_,λ_=>⟨λ_ wr hx hs=>?_,λ_=>⟨λ_ wr hx hs=>?_,λ_=>⟨λ_ wr hx hs=>?_,λ_=>⟨λ_ wr hx hs=>?_,λ_=>⟨λ_ wr hx hs=>?_,λ_=>⟨λ_ wr hx hs=>?_,λ_=>⟨_,UD h hl.c hl.t hl.g hl.f,λg=>?_,λ_ wr hx hs=>?_⟩⟩⟩⟩⟩⟩⟩⟩⟩⟩⟩⟩⟩⟩⟩⟩⟩⟩⟩
 case refine_19=>rw[hW] at g; cases g
 case refine_20=>
  refine(PM (h.ext hx) iv.wp.a).mono ?_;rintro e wv ⟨m',he,hM,hy⟩;exact⟨_,_,_,_,_,_,_,_,_,_,he,Qe hy hs,λO' R2=>JG (hS hx) hs (znr.refl iv) hM hy R2⟩
 case refine_3=>
  refine(zpx iv (Po (h.ext hx) hl) (λhb=>⟨Gm hW hb,.fork _ _ _ hb⟩)).mono ?_;rintro e wv ⟨V,m',q1,d,he,hi,hM,hy⟩;exact⟨_,_,_,_,_,_,_,_,_,_,_,_,he,Qe hy hs,λO' R2=>JG (hS hx) hs hi hM hy R2⟩
 case refine_10=>
  refine(zpx iv (Kq (h.ext hx) hl) λhb=>⟨zu4 iv (zc0 hb).1,.mak _ _ _ (zc0 hb).1⟩).mono ?_;rintro e wv ⟨V,m',q1,d,he,hi,hM,hy⟩;exact⟨_,_,_,_,_,_,_,_,_,_,_,_,he,Qe hy hs,λO' R2=>JG (hS hx) hs hi hM hy R2⟩
 case refine_1=>exact(V6 iv (Cj (h.ext hx) hl) (λhb=>⟨zyk iv hb,.run _ _ hb⟩)).mono λe wv ⟨V,m',d,he,hi,hM,hy⟩=>⟨_,_,_,_,_,_,_,_,_,_,_,he,Qe hy hs,λO' R2=>JG (hS hx) hs hi hM hy R2⟩
 case refine_2=>exact(V6 iv (Fo (h.ext hx) hl) (λhb=>⟨z07 iv hb,.yld _ hb⟩)).mono λe wv ⟨V,m',d,he,hi,hM,hy⟩=>⟨_,_,_,_,_,_,_,_,_,_,_,he,Qe hy hs,λO' R2=>JG (hS hx) hs hi hM hy R2⟩
 case refine_4=>exact(V6 iv (N2 (h.ext hx) hl) (λhb=>⟨zsa hW hb,.block _ hb⟩)).mono λe wv ⟨V,m',d,he,hi,hM,hy⟩=>⟨_,_,_,_,_,_,_,_,_,_,_,he,Qe hy hs,λO' R2=>JG (hS hx) hs hi hM hy R2⟩
 case refine_5=>exact(V6 iv (Cg (h.ext hx) hl) (λhb=>⟨zu7 hW hb,.wake _ hb⟩)).mono λe wv ⟨V,m',d,he,hi,hM,hy⟩=>⟨_,_,_,_,_,_,_,_,_,_,_,he,Qe hy hs,λO' R2=>JG (hS hx) hs hi hM hy R2⟩
 case refine_6=>exact(V6 iv (Cd (h.ext hx) hl) (λhb=>⟨zca hW hb,.exit _ hb⟩)).mono λe wv ⟨V,m',d,he,hi,hM,hy⟩=>⟨_,_,_,_,_,_,_,_,_,_,_,he,Qe hy hs,λO' R2=>JG (hS hx) hs hi hM hy R2⟩
 case refine_7=>exact(V6 iv (Cf (h.ext hx) hl) (λhb=>⟨zu5 hW hb,.nice _ _ hb⟩)).mono λe wv ⟨V,m',d,he,hi,hM,hy⟩=>⟨_,_,_,_,_,_,_,_,_,_,_,he,Qe hy hs,λO' R2=>JG (hS hx) hs hi hM hy R2⟩
 case refine_8=>exact(V6 iv (zcq (h.ext hx) hl) (λhb=>⟨zyj hW hb,.pin _ _ hb⟩)).mono λe wv ⟨V,m',d,he,hi,hM,hy⟩=>⟨_,_,_,_,_,_,_,_,_,_,_,he,Qe hy hs,λO' R2=>JG (hS hx) hs hi hM hy R2⟩
 case refine_9=>exact(V6 iv (Ce (h.ext hx) hl) (λhb=>⟨zyg iv hb,.mov _ _ hb⟩)).mono λe wv ⟨V,m',d,he,hi,hM,hy⟩=>⟨_,_,_,_,_,_,_,_,_,_,_,he,Qe hy hs,λO' R2=>JG (hS hx) hs hi hM hy R2⟩
 case refine_11=>exact(V6 iv (N0 (h.ext hx) hl) λhb=>⟨zyd iv (zum hb).1,.drp _ (zum hb).1⟩).mono λe wv ⟨V,m',d,he,hi,hM,hy⟩=>⟨_,_,_,_,_,_,_,_,_,_,_,he,Qe hy hs,λO' R2=>JG (hS hx) hs hi hM hy R2⟩
 case refine_12=>exact(V6 iv (Fm (h.ext hx) hl) (λhb=>⟨zyl hW hb,.wgh _ _ hb⟩)).mono λe wv ⟨V,m',d,he,hi,hM,hy⟩=>⟨_,_,_,_,_,_,_,_,_,_,_,he,Qe hy hs,λO' R2=>JG (hS hx) hs hi hM hy R2⟩
 case refine_13=>exact(V6 iv (Cc (h.ext hx) hl) (λhb=>⟨zye hW hb,.gpn _ _ hb⟩)).mono λe wv ⟨V,m',d,he,hi,hM,hy⟩=>⟨_,_,_,_,_,_,_,_,_,_,_,he,Qe hy hs,λO' R2=>JG (hS hx) hs hi hM hy R2⟩
 case refine_14=>exact(V6 iv (Fl (h.ext hx) hl) (λhb=>⟨zyf hW hb,.lim _ _ _ hb⟩)).mono λe wv ⟨V,m',d,he,hi,hM,hy⟩=>⟨_,_,_,_,_,_,_,_,_,_,_,he,Qe hy hs,λO' R2=>JG (hS hx) hs hi hM hy R2⟩
 case refine_15=>exact(V6 iv (Ch (h.ext hx) hl) (λhb=>⟨zu6 hW hb,.time _ hb⟩)).mono λe wv ⟨V,m',d,he,hi,hM,hy⟩=>⟨_,_,_,_,_,_,_,_,_,_,_,he,Qe hy hs,λO' R2=>JG (hS hx) hs hi hM hy R2⟩
 case refine_16=>exact(V6 iv (Fj (h.ext hx) hl) (λhb=>⟨zyc hW hb,.bal _ hb⟩)).mono λe wv ⟨V,m',d,he,hi,hM,hy⟩=>⟨_,_,_,_,_,_,_,_,_,_,_,he,Qe hy hs,λO' R2=>JG (hS hx) hs hi hM hy R2⟩
 case refine_17=>exact(V6 iv (zfz (h.ext hx) hl) (λhb=>⟨zyi hW hb,.off _ hb⟩)).mono λe wv ⟨V,m',d,he,hi,hM,hy⟩=>⟨_,_,_,_,_,_,_,_,_,_,_,he,Qe hy hs,λO' R2=>JG (hS hx) hs hi hM hy R2⟩
 case refine_18=>exact(V6 iv (zj2 (h.ext hx) hl) (λhb=>⟨z06 hW hb,.on _ hb⟩)).mono λe wv ⟨V,m',d,he,hi,hM,hy⟩=>⟨_,_,_,_,_,_,_,_,_,_,_,he,Qe hy hs,λO' R2=>JG (hS hx) hs hi hM hy R2⟩
end
theorem z1c{rb:Nat}{c:OA}{L N:Nat}{w:Wo}{W:Q7}{m:MW}(h:UK rb c L N w)(hN:N<=800000000000) :
  Cz JO #[.pointer (some ⟨rb,0,none⟩),.agg (Qa W m).toArray] w λe w'=>∃(k a n q:Int) (s:ByteArray),e=.returned (.agg #[I k,I a,I n,I q,.string s])/\UK rb c L (N+20) w'/\Q0 [rb] w w':=by
 refine(F6 (some ⟨rb,0,none⟩) W.now m.cO W.IF.length m.cC m.tO W.tasks.length m.tC m.gO W.IE.length m.gC (R:=λv w'=>∃(k a n q:Int) (s:ByteArray),v=.agg #[I k,I a,I n,I q,.string s]/\UK rb c L (N+20) w'/\Q0 [rb] w w') ?_).mono λe w' ⟨v,he,k,a,n,q,s,hv,h1⟩=>⟨k,a,n,q,s,by rw[he,hv],h1⟩
 intro b hb b1 gH;refine⟨_,TA,λwr hx hs=>?_⟩;refine(Dr.pick ((Dr.start h).Aa6 hx hb gH) Qo hs).mono ?_;rintro e w1 ⟨v1,he,hk,_,h1⟩;refine⟨_,he,hk,λwr hx hs=>?_⟩;refine(Dr.pick (h1.step hx) Qo hs).mono ?_;rintro e w2 ⟨v2,he,hk,_,h2⟩;refine⟨_,he,hk,λvs bs w2=>bs=[]/\(∃x:Int,vs=[I x])/\Dr rb c L N 4 [b,b1] w w2,λwr hx hs=>?_,?_⟩
 ·refine(Dr.pick (h2.step hx) Qo hs).mono ?_;rintro e w3 ⟨v3,he,hk,_,h3⟩;refine⟨_,he,hk,λ_ wr hx hs=>?_,λ_ wr hx hs=>⟨rfl,⟨_,rfl⟩,(h3.step hx).more Qd⟩⟩;refine(Dr.pick (h3.step hx) Qo hs).mono ?_;rintro e w4 ⟨v4,he,hk,_,h4⟩;exact⟨_,he,hk,λwr hx _=>⟨rfl,⟨_,rfl⟩,(h4.step hx).more Qd⟩⟩
 clear h1 h2;rintro t aF gY ⟨-,-,h4⟩ wr hx hs;refine(Dr.pick (h4.step hx) Qo hs).mono ?_;rintro e w5 ⟨v5,he,hk,⟨p50,_,p52⟩,h5⟩;have p52:=p52 Qd;refine⟨_,he,hk,λwr hx hs=>?_⟩;refine(Dr.pick (h5.step hx) Qo hs).mono ?_;rintro e w6 ⟨v6,he,hk,_,h6⟩;clear h4 h5;refine⟨_,he,hk,λ_=>?_,λ_ wr hx hs=>?_⟩
 rotate_left
 ·refine(Dr.pick (h6.step hx) Qo hs).mono ?_;rintro e w7 ⟨v7,he,hk,_,h7⟩;clear h6;refine⟨_,he,hk,?_⟩;clear he hk hx hs gY
  repeat' first
   | exact rfl
   | exact zz5 _
   | (refine⟨_,TA,?_⟩)
   | (refine⟨_,JQ,?_⟩)
   | (refine⟨λ_ bs w2=>bs=[]/\Dr rb c L N 7 [b,b1] w w2,?_,?_⟩)
   | (refine And.intro ?_ ?_)
   | (refine zz1 Qd rfl Qo Qo λx=>?_)
   | (refine z3i Qd rfl Qo Qo λx=>?_)
   | (intro (x:Bool) (wv:Wo) hs hm; obtain⟨_,hD⟩:=hm)
   | (intro (b:Nat) hb)
   | (intro (wr:Wo) hx hs; refine(Dr.pick (Dr.step (by assumption) hx) ?_ hs).mono ?_; rotate_left; rintro e w2 ⟨v,he,hk,⟨hp0,_,gV⟩,hC⟩; have gV:=gV Qd; refine⟨_,he,hk,?_⟩)
   | (intro (wr:Wo) hx hs; refine(Dr.pick (Dr.put (by assumption) hx (by assumption)) ?_ hs).mono ?_; rotate_left; rintro e w2 ⟨v,he,hk,⟨hp0,_,gV⟩,hC⟩; have gV:=gV Qd; refine⟨_,he,hk,?_⟩)
   | (intro (wr:Wo) hx hs; refine(Dr.pick (Dr.Aa6 (by assumption) hx (by assumption) (by assumption)) ?_ hs).mono ?_; rotate_left; rintro e w2 ⟨v,he,hk,⟨hp0,_,gV⟩,hC⟩; have gV:=gV Qd; refine⟨_,he,hk,?_⟩)
   | (intro (wr:Wo) hx hs; refine(Dr.weight (Dr.step (by assumption) hx) ?_ hs).mono ?_; rotate_left; rintro e w2 ⟨v,he,hk,⟨hp0,gV⟩,hC⟩; refine⟨_,he,hk,?_⟩)
   | (intro (wr:Wo) hx hs; refine(Dr.mask (Dr.step (by assumption) hx) ?_ hs).mono ?_; rotate_left; rintro e w2 ⟨v,he,hk,_,hC⟩; refine⟨_,he,hk,?_⟩)
   | (intro (wr:Wo) hx hs; refine(Dr.tR (Dr.step (by assumption) hx) ?_ hs).mono ?_; rotate_left; rintro e w2 ⟨v,he,hk,_,hC⟩; refine⟨_,he,hk,?_⟩)
   | (intro (wr:Wo) hx hs; exact⟨rfl,Dr.step (by assumption) hx⟩)
   | (intro (wr:Wo) hx; exact⟨_,_,_,_,_,rfl,(Dr.step (by assumption) hx).fin Qd⟩)
   | (intro (hh:_=true))
   | (intro (hh:_=false))
   | omega
   | decide
 ·repeat' first
   | exact rfl
   | (refine And.intro ?_ ?_)
   | (refine zz1 Qd rfl Qo Qo λx=>?_)
   | (intro (b:Nat) hb)
   | (intro (wr:Wo) hx hs; refine(Dr.pick (Dr.step (by assumption) hx) ?_ hs).mono ?_; rotate_left; rintro e w2 ⟨v,he,hk,⟨hp0,_,gV⟩,hC⟩; have gV:=gV Qd; refine⟨_,he,hk,?_⟩)
   | (intro (wr:Wo) hx hs; refine(Dr.pick (Dr.put (by assumption) hx (by assumption)) ?_ hs).mono ?_; rotate_left; rintro e w2 ⟨v,he,hk,⟨hp0,_,gV⟩,hC⟩; have gV:=gV Qd; refine⟨_,he,hk,?_⟩)
   | (intro (wr:Wo) hx; exact⟨_,_,_,_,_,rfl,(Dr.step (by assumption) hx).fin Qd⟩)
   | omega
def z3m(lo hi:Int):Va->Bool
 | .int .i64 x=>decide (lo<=x)&&decide (x<=hi)
 | _=>false
theorem z3s{lo hi v:Int}{k:Nat}{ls:List Va}{P:Int->Prop}(ha:ls.all (z3m lo hi)=true)(hl:ls.length=k)(h0:0<=v)(h1:v<(k:Int))(h:∀x,lo<=x->x<=hi->P x):∃x:Int,(0<=v/\ls[Int.toNat v+0]? = some (I x))/\P x:=by
 have IU:Int.toNat v+0<ls.length:=Qo;have:=List.all_eq_true.1 ha _ (List.getElem_mem IU);have e:=Im IU;generalize ls[Int.toNat v+0]=y at this e;unfold z3m at this
 split at this
 ·rw[A',Ik,Ik] at this;exact⟨_,⟨h0,e⟩,h _ this.1 this.2⟩
 ·cases this
structure Jd (P:Nat->Q7->Prop) (rb:Nat) (c:OA) (L N n:Nat) (bs:List Nat) (w0 w:Wo) (W:Q7) (m:MW):Prop where
 iv:JS W
 lw:P n W
 d:Dr rb c L N n bs w0 w
 o:OW 8 w0.heap.size (rb::bs) w W m
section
variable {P:Nat->Q7->Prop}{rb b b2:Nat}{c:OA}{L N n k:Nat}{bs cs:List Nat}{w0 w w':Wo}{W W':Q7}{m m':MW}
theorem Jd.step(h:Jd P rb c L N n bs w0 w W m)(hx:Q0 bs w w'):Jd P rb c L N n bs w0 w' W m:=⟨h.iv,h.lw,h.d.step hx,h.o.step (hx.mono λ_ hm=>I2 _ hm)⟩
theorem Jd.put(h:Jd P rb c L N n bs w0 w W m)(hx:Q0 bs w w')(hb:w.heap.size<=b):Jd P rb c L N n (bs++[b]) w0 w' W m:=⟨h.iv,h.lw,h.d.put hx hb,h.o.put (hx.mono λ_ hm=>I2 _ hm) hb⟩
theorem Jd.Aa6(h:Jd P rb c L N n bs w0 w W m)(hx:Q0 bs w w')(hb:w.heap.size<=b)(cN:w.heap.size<=b2):Jd P rb c L N n (bs++[b]++[b2]) w0 w' W m:=⟨h.iv,h.lw,h.d.Aa6 hx hb cN,h.o.Aa6 (hx.mono λ_ hm=>I2 _ hm) hb cN⟩
theorem Jd.sub(h:Jd P rb c L N n bs w0 w W m)(hs:∀x∈cs,x∈bs):Jd P rb c L N n cs w0 w W m:=⟨h.iv,h.lw,h.d.sub hs,h.o.sub λx hx=>by
 rcases Ij.1 hx with h1 | h1
 ·rw[h1]; exact Ia
 ·exact I2 _ (hs x h1)⟩
theorem Jd.more{q:Nat}(hP:MC P)(h:Jd P rb c L N n bs w0 w W m)(hm:n<=q):Jd P rb c L N q bs w0 w W m:=⟨h.iv,hP.mono hm h.lw,h.d.more hm,h.o⟩
theorem Jd.rd(h:Jd P rb c L N n bs w0 w W m):Xg [] w W m:=h.o.rd0
theorem Jd.drawn(hP:MC P)(h:Jd P rb c L N n bs w0 w W m)(hr:UK rb c L (N+n+k) w')(hx:Q0 [rb] w w'):Jd P rb c L N (n+k) bs w0 w' W m:=
 ⟨h.iv,hP.mono Qo h.lw,⟨h.d.r.upd (by rw[<-Nat.add_assoc]; exact hr),h.d.ext.trans hx,h.d.new⟩,h.o.step (hx.mono λx hm=>by
  have:x=rb:=by simpa using hm
  subst this; exact Ia)⟩
theorem Jd.call{f:FuncId}{args:Array Va}{Q:Int->Prop}(hP:MC P)(h:Jd P rb c L N n bs w0 w W m)(hs:∀x∈bs,x<w.heap.size)(hc:Cz f args w λe w'=>∃v,e=.returned (I v)/\Q v/\UK rb c L (N+n+k) w'/\Q0 [rb] w w') :
  Cz f args w λe w'=>∃v,e=.returned (I v)/\Q8 bs w w'/\Q v/\Jd P rb c L N (n+k) bs w0 w' W m:=
 hc.mono λe w' ⟨v,he,hq,hr,hx⟩=>⟨v,he,Ml h.d.r hx hs,hq,h.drawn hP hr hx⟩
theorem Jd.pick(hP:MC P)(h:Jd P rb c L N n bs w0 w W m)(hN:N+n<=1000000000000)(hs:∀x∈bs,x<w.heap.size){q:Int} :
  Cz Q2 #[.pointer (some ⟨rb,0,none⟩),I q] w λe w'=>∃v,e=.returned (I v)/\Q8 bs w w'/\Ep q v/\Jd P rb c L N (n+1) bs w0 w' W m:=h.call hP hs (Gq h.d.r.rd hN)
theorem Jd.weight(hP:MC P)(h:Jd P rb c L N n bs w0 w W m)(hN:N+n<=900000000000)(hs:∀x∈bs,x<w.heap.size) :
  Cz ZS #[.pointer (some ⟨rb,0,none⟩)] w λe w'=>∃v,e=.returned (I v)/\Q8 bs w w'/\z14 v/\Jd P rb c L N (n+2) bs w0 w' W m:=h.call hP hs (zl8 h.d.r.rd hN)
theorem Jd.item(hP:MC P)(h:Jd P rb c L N n bs w0 w W m)(hN:N+n<=800000000000)(hs:∀x∈bs,x<w.heap.size){V:Q7}{p:MW} :
  Cz JO #[.pointer (some ⟨rb,0,none⟩),.agg (Qa V p).toArray] w λe w'=>∃(k a q r:Int) (s:ByteArray),e=.returned (.agg #[I k,I a,I q,I r,.string s])/\Q8 bs w w'/\Jd P rb c L N (n+20) bs w0 w' W m:=
 (z1c h.d.r.rd hN).mono λe w' ⟨k,a,q,r,s,he,hr,hx⟩=>⟨k,a,q,r,s,he,Ml h.d.r hx hs,h.drawn hP hr hx⟩
theorem Jd.bsl(h:Jd P rb c L N n bs w0 w W m)(hs:∀x∈bs,x<w.heap.size):∀x∈rb::bs,x<w.heap.size:=λx hm=>by
 rcases Ij.1 hm with h1 | h1
 ·rw[h1]; exact h.d.r.rd.lt
 ·exact hs x h1
theorem Jd.SH{P':Nat->Q7->Prop}{q:Nat}(h:Jd P rb c L N n bs w0 w W m)(hq:n<=q)(hs:∀x∈bs,x<w.heap.size)(hi:JS W')(hl:P' q W')(hM:Zj 8 w.heap.size w' W' m')(hx:Q0 [] w w'):Jd P' rb c L N q bs w0 w' W' m':=
 ⟨hi,hl,Dr.more ⟨h.d.r.R5 hx,h.d.ext.trans hx.of_nil,h.d.new⟩ hq,(OW.of hM (h.bsl hs)).mono h.d.ext.size⟩
theorem Jd.mak{p:Int}{name:ByteArray}(hP:MC P)(h:Jd P rb c L N n bs w0 w W m)(hs:∀x∈bs,x<w.heap.size) :
  Cz QJ #[.agg (Qa W m).toArray,I p,.string name] w λe w'=>∃(W':Q7) (m':MW) (a d:Int),e=.returned (.tuple #[.agg (Qa W' m').toArray,I a,I d])/\Q8 bs w w'/\Jd P rb c L N n bs w0 w' W' m':=
 (zt5 (P:=P n) h.iv h.lw (Kq h.rd h.iv.len) λhb=>⟨zu4 h.iv (zc0 hb).1,hP.mak h.iv h.lw (zc0 hb).1⟩).mono λe w' ⟨V,m',a,d,he,hi,hM,hx⟩=>⟨V,m',a,d,he,Qe hx hs,h.SH (I8 _) hs hi.1 hi.2 hM hx⟩
theorem Jd.fork{g q x:Int}(hP:MC P)(h:Jd P rb c L N n bs w0 w W m)(hs:∀x∈bs,x<w.heap.size) :
  Cz YM #[.agg (Qa W m).toArray,I g,I q,I x] w λe w'=>∃(W':Q7) (m':MW) (a d:Int),e=.returned (.tuple #[.agg (Qa W' m').toArray,I a,I d])/\Q8 bs w w'/\Jd P rb c L N n bs w0 w' W' m':=
 (zt5 (P:=P n) h.iv h.lw (Po h.rd h.iv.len) λhb=>⟨Gm h.iv.w hb,hP.fork h.iv h.lw hb⟩).mono λe w' ⟨V,m',a,d,he,hi,hM,hx⟩=>⟨V,m',a,d,he,Qe hx hs,h.SH (I8 _) hs hi.1 hi.2 hM hx⟩
theorem Jd.do{k a q r:Int}{s:ByteArray}(hP:MC P)(hn:n<=10000)(h:Jd P rb c L N n bs w0 w W m)(hs:∀x∈bs,x<w.heap.size) :
  Cz Vv #[.agg (Qa W m).toArray,.agg #[I k,I a,I q,I r,.string s]] w λe w'=>∃(W':Q7) (m':MW) (d:Int),e=.returned (.tuple #[.agg (Qa W' m').toArray,I d])/\Q8 bs w w'/\Jd P rb c L N (n+10) bs w0 w' W' m':=
 (zsd h.rd h.iv).mono λe w' ⟨v,he,V,m',d,hv,hi,hM,hx⟩=>⟨V,m',d,by rw[he,hv],Qe hx hs,h.SH (Nat.le_add_right _ _) hs hi.1 (hP.SH hn h.iv h.lw hi.2) hM hx⟩
theorem Jd.fin{q:Nat}(hP:MC P)(h:Jd P rb c L N n bs w0 w W m)(hq:n<=q):(JS W/\P q W)/\Zj 8 w0.heap.size w W m/\UK rb c L (N+q) w/\Q0 [rb] w0 w/\∀x∈QB 8 m,x≠rb:=⟨⟨h.iv,hP.mono hq h.lw⟩,h.o.own,(h.d.fin hq).1,h.d.ext,λx hx e=>h.o.nb x hx (by rw[e]; exact Ia)⟩
end
end Go.Proofs.YtnclplgaicdapaaGreatDoor
