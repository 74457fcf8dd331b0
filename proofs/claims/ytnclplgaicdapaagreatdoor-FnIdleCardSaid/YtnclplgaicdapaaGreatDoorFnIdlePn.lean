/- Part 14 of what the law FnIdle needs. -/
import Derived.Test.YtnclplgaicdapaaGreatDoorFnIdlePm
set_option linter.unusedVariables false
set_option linter.unusedSimpArgs false
set_option maxRecDepth 100000
set_option maxHeartbeats 8000000
namespace Go.Proofs.YtnclplgaicdapaaGreatDoor
open Go.RowKit
theorem zn7{W:Q8}{g n x:Int}(hW:QD W=true)(hb:Pa W g n x=0):JF (znx W g n x):=by
 have wp:=Qj.1 hW;have h:=zsc hW hb;have p:=XL wp
 have hT:Fd W (GK W g n x):=⟨.inl rfl,h.u,h.w,h.m,h.m0,by show ZW 0=true; decide,by show ZW 0=true; decide,I2 _,by show (0:Int)<=8000000; decide,λ_=>by
  have:=(Y0 (Qe n)).1;show (Qa W g (LU W g x)).floor<=(Qa W g (LU W g x)).floor/\(Qa W g (LU W g x)).floor-(Qa W g (LU W g x)).floor<=ZM (Qe n);omega⟩
 exact ZF (h.sw2.Rz h.c0 h.c1) Qd Qd (zbj p h.f0 h.f1 (show (1:Int)≠0 by decide) hT rfl h.c0 h.c1) (((Vn wp).IU wp.a h.f0 h.f1 (x:=GK W g n x) λ_=>h.ch).Rz _)
theorem z01{W:Q8}{g x:Int}(hW:QD W=true)(hb:zph W g x=0):JF (zzm W g x):=by
 have wp:=Qj.1 hW;obtain⟨h1,hz,hu,_,_,sf,cu,hT⟩:=zzn hW hb;have hx:=Qv.1 h1;have hu':Q6 (Rn W g (Lk W g x)).ID g=true:=by rw[hT.cQ]; exact hu
 have p1:O4 (Rn W g (Lk W g x)):=(XL wp).same sf.w.a rfl rfl hT (zrd rfl);have l1:zbs (Rn W g (Lk W g x)):=(Vn wp).same rfl hT (λi=>YT (f:=ZX.IE) W.ID g (x:=Lk W g x) rfl i) rfl;have hlen:(Rn W g (Lk W g x)).IE.length=W.IE.length:=rfl;show JF (Qg (Hv (Rn W g (Lk W g x)) g x W.IE.length));rw[<-hlen];generalize Rn W g (Lk W g x)=V at sf cu hu' p1 l1
 have all:∀k:Nat,k<=V.IE.length->O4 (Hv V g x k)/\O5 V (Hv V g x k):=by
  intro k
  induction k with
  | zero=>exact λ_=>⟨p1,O5.refl _⟩
  | succ k ih=>
   intro hk;obtain⟨a,b⟩:=ih Qo;exact⟨a.wei (by rw[b.g.cQ]; exact hu') hz Qo (by rw[b.len]; omega),b.trans (zth _ _ _ _)⟩
 obtain⟨a,b⟩:=all _ (I7 _);obtain⟨sf2,fr,_⟩:=zm7 sf (I2 _) cu hu' hz hx.1 hx.2 V.IE.length (I7 _);exact ZF sf2.w (by simp only[Qi]; decide) (by simp only[Qi,Ud]; decide) a (b.loc fr.t l1)
theorem zt4{W:Q8}{t c:Int}(h:Zw W t c=true):QZ (Qx W (Q7 W t).group (Q7 W t).mask) c=true:=by
 unfold Zw at h;simp only[A',IC,H',I6] at h;exact h.1.2
theorem zlx{W:Q8}{c:Int}(hW:QD W=true)(hb:P5 W c=0):JF (Th W c):=by
 have wp:=Qj.1 hW;obtain⟨c0,c1,hB,wpS,swS,frS⟩:=HA hW hb;have iS:JF (YM W c):=ZF hB.sf.w (by simp only[Qi]; decide) (by simp only[Qi,Ud]; decide) hB.pre (hB.sta.loc hB.fr.t (Vn wp));unfold Th;split
 ·exact iS
 ·rename_i hp;obtain⟨p0,p1,ps,pu,_,sf⟩:=FG hW hb hp;obtain⟨i,b,e,hi,ht⟩:=Au hp;have e:Jh W c=(i:Int):=e;unfold Gm at ht;simp only[A'] at ht;have hcd:=zt4 ht.1.2;rw[<-e] at hcd;have cS:c<((YM W c).IE.length:Int):=by rw[frS.c]; exact c1
  clear hp iS swS frS hB ht e;have hK0:0<=Qn+Qi+Ud+Qi:=Qd;have hK1:Qn+Qi+Ud+Qi+Ud<=100000000000000000:=Qd;have hcd:QZ (Qx (YM W c) (Q7 (YM W c) (Jh W c)).group (Q7 (YM W c) (Jh W c)).mask) c=true:=hcd;generalize Jh W c=q at *;generalize YM W c=V at *;refine ZF sf.w hK0 hK1 (zfi (XL wpS) p0 p1 (by rw[ps]; decide) pu c0 cS) λt t0 t1 n=>?_
  rw[(zbn V _ _ _).wh];rw[zq5 wpS.a.t p0 p1 t0] at n ⊢
  split at n
  ·rename_i he;rw[C' he];exact hcd
  ·rename_i he;rw[B' he];exact Vn wpS t t0 t1 n
def zh8:LR:=⟨0,false,0,10,0⟩
def M2(n:Nat)(p:Int)(name:ByteArray):ZX:=⟨true,p,name,10,15,0,0,0,⟨0,0,0,[],[]⟩,List.replicate n zh8⟩
def zf7:ZX:=⟨false,0,⟨[].toArray⟩,0,0,0,0,0,⟨0,0,0,[],[]⟩,[]⟩
def Us(n:Nat):Q8:=⟨0,List.replicate n ⟨true,-1,0,0,0⟩,List.replicate 12 Oc,(List.replicate 8 zf7).set 0 (M2 n (-1) ⟨[].toArray⟩)⟩
section
variable {n:Nat}
theorem EL(k:Int)(k0:0<=k)(k1:k<8):gi (Us n).ID k=if k=0 then M2 n (-1) ⟨[].toArray⟩ else zf7:=by
 have:=QM (List.replicate 8 zf7) (M2 n (-1) ⟨[].toArray⟩) (i:=0) (j:=k) (I2 _) Qd k0;show gi ((List.replicate 8 zf7).set (0:Int).toNat _) k=_;rw[this]
 by_cases h:k=0
 ·rw[C' h.symm,C' h]
 ·rw[B' λe=>h e.symm,B' h,MB _ _ k0 Qo]
theorem zx8:(Us n).ID.length=8:=by simp[Us]
theorem zx7(c:Int)(c0:0<=c)(c1:c<(n:Int)):gi (Us n).IE c=⟨true,-1,0,0,0⟩:=MB _ _ c0 c1
theorem zx9(t:Int)(t0:0<=t)(t1:t<12):Q7 (Us n) t=Oc:=MB 12 _ t0 Qo
theorem z3q(c:Int)(c0:0<=c)(c1:c<(n:Int)):Qa (Us n) 0 c=zh8:=by
 unfold Qa;rw[EL 0 (I2 _) Qd,C' rfl];exact MB _ _ c0 c1
theorem zux:Y8 (Us n).ID:=by
 have g0:gi (Us n).ID 0=M2 n (-1) ⟨[].toArray⟩:=by rw[EL 0 (I2 _) Qd,C' rfl]
 have un:∀g:Int,1<=g->g<8->(gi (Us n).ID g).used=true->False:=λg a b h=>by
  rw[EL g Qo b,B' Qo] at h; cases h
 exact⟨zx8,by rw[g0]; rfl,by rw[g0]; rfl,by rw[g0]; rfl,λg a b h=>(un g a b h).elim,λg a b h=>(un g a b h).elim,λg a b h=>(un g a b h).elim,λg k a b d h=>(un g Qo d h).elim⟩
theorem z1l(n0:1<=n)(n1:n<=4):WA (Us n):=by
 have rV:(Us n).IE.length=n:=by simp[Us]
 refine⟨I2 _,by show (0:Int)<=_; decide,Qo,Qo,by simp[Us],zux,AF (c:=0) Qo (I2 _) Qo (by rw[zx7 0 (I2 _) Qo]),λk k0 k1=>?_⟩;unfold Kn;rw[EL k k0 k1];split
 ·refine⟨λh=>(by cases h),λ_=>⟨show (1:Int)<=10 by decide,show (10:Int)<=20 by decide,show M1 15=true by decide,show (15:Int)≠0 by decide,show ZW 0=true by decide,by simp[M2,rV],λ_=>⟨rfl,rfl,rfl⟩,λ_=>⟨show OJ ⟨0,0,0,[],[]⟩=true by decide,rfl,rfl⟩,λh=>Ir rfl h⟩⟩
 ·exact⟨λ_=>⟨rfl,rfl,rfl,rfl,rfl,rfl,rfl,rfl,Qd⟩,λh=>by cases h⟩
theorem z0x(n0:1<=n)(n1:n<=4):JF (Us n):=by
 have ha:=z1l n0 n1;have rV:(Us n).IE.length=n:=by simp[Us]
 have hmt:∀(k c:Int) (j:Nat),j<12->Od (Us n) k c j=false:=λk c j hj=>by
  unfold Od;rw[show gi (Us n).tasks (j:Int)=Oc from zx9 (j:Int) Qo Qo];rfl
 have hmg:∀(k c:Int) (j:Nat),j<8->Jd (Us n) k c j=false:=λk c j hj=>by
  unfold Jd;rw[EL (j:Int) Qo Qo]
  by_cases h:(j:Int)=0
  ·rw[show decide (1<=j)=false from decide_eq_false Qo]; rfl
  ·rw[B' h];simp[zf7]
 refine⟨⟨ha,λt t0 t1=>.inl ?_,λk c k0 k1 c0 c1=>?_,λc c0 c1=>?_⟩,λk c hu c0 c1 hb=>?_⟩
 ·rw[zx9 t t0 t1]; exact⟨rfl,rfl⟩
 ·by_cases hk:k=0
  ·subst hk;rw[EL 0 k0 k1,C' rfl] at c1;have c1:c<(n:Int):=by simpa[M2] using c1
   have e:=z3q c c0 c1;refine⟨?_,?_,?_,?_,?_,λ_=>?_,λh=>Ir rfl h,λh=>Ir rfl h⟩ <;> rw[e]
   ·decide
   ·decide
   ·decide
   ·decide
   ·decide
   ·exact⟨rfl,rfl,rfl⟩
  ·rw[EL k k0 k1,B' hk] at c1;have c1:c<0:=c1;omega
 ·rw[rV] at c1;have e:=zx7 c c0 c1;refine⟨by rw[e]; decide,by rw[e]; decide,by rw[e]; decide,by rw[e]; show (-1:Int)<((Us n).tasks.length:Int); simp[Us],λ_=>by rw[e],λh=>?_⟩;rw[e] at h;have h:(0:Int)<=-1:=h;omega
 ·unfold Zx at hb;have hb:=Ot hb;rcases Zu (Zq (Us n) k c) (Zm (Us n) c) 20 with ⟨a,_⟩ | ⟨_,h2,h3,_⟩
  ·rw[a] at hb; omega
  ·exfalso
   have IN:(QY (Zq (Us n) k c) (Zm (Us n) c) 20).toNat<20:=Qo;generalize (QY (Zq (Us n) k c) (Zm (Us n) c) 20).toNat=j at h3 IN
   by_cases hj:j<12
   ·rw[Vo hj,hmt k c j hj] at h3; cases h3
   ·rw[show j=12+(j-12) by omega,Uc,hmg k c (j-12) Qo] at h3; cases h3
end
theorem znk{gs:List ZX}(ht:Y8 gs):∀(f:Nat) (h:Int),Q6 gs h=true->dep 3 gs h<=(f:Int)->dep f gs h=dep 3 gs h
 | 0,h,hu,hd=>by
  by_cases hz:h=0
  ·subst hz; rw[Yj,Yj]
  ·obtain⟨_,_,_,d,e,_⟩:=Y3 ht hu hz;omega
 | f+1,h,hu,hd=>by
  by_cases hz:h=0
  ·subst hz; rw[Yj,Yj]
  ·obtain⟨hp,_,_,d,e,e2,_⟩:=Y3 ht hu hz;have ih:=znk ht f _ hp Qo;show (if h=0 then 0 else if dep f gs (gi gs h).parent<0 then -1 else dep f gs (gi gs h).parent+1)=_;rw[B' hz,ih,e2,B' Qo,e]
structure zga (W:Q8) (a p:Int) (name:ByteArray):Prop where
 a1:1<=a
 a8:a<8
 fr:(gi W.ID a).used=false
 up:Q6 W.ID p=true
 nm:UL name=true
 no:∀h:Int,1<=h->h<8->(gi W.ID h).used=true->¬((gi W.ID h).parent=p/\(gi W.ID h).name=name)
 dp:dep 3 W.ID p≠3
def Pj(W:Q8)(a p:Int)(name:ByteArray):Q8:=Rn W a (M2 W.IE.length p name)
section
variable {W:Q8}{a p:Int}{name:ByteArray}
theorem AP(ha:WA W)(h:zga W a p name){i:Int}(hi:0<=i):gi (Pj W a p name).ID i=if a=i then M2 W.IE.length p name else gi W.ID i:=Xk (by have:=h.a1; omega) (by have:=ha.gl; have:=h.a8; omega) hi
theorem zx6(h:zga W a p name){k:Int}(hu:Q6 W.ID k=true):a≠k:=λe=>by
 have:=(Q4.1 hu).2.2;rw[<-e,h.fr] at this;cases this
theorem EK(ha:WA W)(h:zga W a p name){k:Int}(hu:Q6 W.ID k=true):gi (Pj W a p name).ID k=gi W.ID k:=by
 rw[AP ha h (Q4.1 hu).1,B' (zx6 h hu)]
theorem H4(ha:WA W)(h:zga W a p name):gi (Pj W a p name).ID a=M2 W.IE.length p name:=by
 rw[AP ha h (by have:=h.a1; omega),C' rfl]
theorem zl9(ha:WA W):(Pj W a p name).ID.length=8:=by
 have:=ha.gl;simp[Pj,Rn]; omega
theorem Bo(ha:WA W)(h:zga W a p name){k:Int}:Q6 (Pj W a p name).ID k=true↔Q6 W.ID k=true\/k=a:=by
 have bZ:=ha.gl;have a1:=h.a1;have a8:=h.a8;rw[Q4,Q4,zl9 ha,bZ];constructor
 ·rintro⟨x,y,z⟩;rw[AP ha h x] at z
  by_cases e:a=k
  ·exact .inr e.symm
  ·rw[B' e] at z;exact .inl ⟨x,y,z⟩
 ·rintro (⟨x,y,z⟩ | rfl)
  ·refine⟨x,y,?_⟩;rw[AP ha h x,B' λe=>by rw[<-e,h.fr] at z; cases z];exact z
  ·refine⟨Qo,Qo,?_⟩;rw[H4 ha h]; rfl
theorem zqt(ha:WA W)(h:zga W a p name):∀(f:Nat) (k:Int),Q6 W.ID k=true->dep f (Pj W a p name).ID k=dep f W.ID k
 | 0,_,_=>rfl
 | f+1,k,hu=>by
  by_cases hz:k=0
  ·subst hz; rw[Yj,Yj]
  ·have ih:=zqt ha h f _ (Y3 ha.tree hu hz).1;simp only[dep];rw[EK ha h hu,ih]
theorem zmb(ha:WA W)(h:zga W a p name):∀(f:Nat) (k:Int),Q6 W.ID k=true->Vc f (Pj W a p name).ID k=Vc f W.ID k
 | 0,_,_=>rfl
 | f+1,k,hu=>by
  by_cases hz:k=0
  ·subst hz; rw[Zi,Zi]
  ·have ih:=zmb ha h f _ (Y3 ha.tree hu hz).1;simp only[Vc];rw[EK ha h hu,ih]
theorem z4w(ha:WA W)(h:zga W a p name):dep 3 (Pj W a p name).ID a=dep 3 W.ID p+1/\0<=dep 3 W.ID p:=by
 have hr:=GD ha h.up;have hd:=h.dp;have e:=znk ha.tree 2 p h.up Qo;refine⟨?_,hr.1⟩;show (if a=0 then 0 else if dep 2 (Pj W a p name).ID (gi (Pj W a p name).ID a).parent<0 then -1 else dep 2 (Pj W a p name).ID (gi (Pj W a p name).ID a).parent+1)=_;rw[B' (by have:=h.a1; omega),H4 ha h];show (if dep 2 (Pj W a p name).ID p<0 then -1 else dep 2 (Pj W a p name).ID p+1)=_;rw[zqt ha h 2 p h.up,e,B' Qo]
theorem z1j(ha:WA W)(h:zga W a p name):Y8 (Pj W a p name).ID:=by
 have ht:=ha.tree;have bZ:=ha.gl;have a1:=h.a1;have r:=EK ha h ha.root
 have sp:∀{g:Int},1<=g->g<8->(gi (Pj W a p name).ID g).used=true->g=a\/(Q6 W.ID g=true/\gi (Pj W a p name).ID g=gi W.ID g):=λ{g} b d hh=>by
  rcases (Bo ha h).1 (Q4.2 ⟨Qo,by rw[zl9 ha]; omega,hh⟩) with e | e
  ·exact .inr ⟨e,EK ha h e⟩
  ·exact .inl e
 refine⟨zl9 ha,by rw[r]; exact ht.ru,by rw[r]; exact ht.rp,by rw[r]; exact ht.rn,λg b d hh=>?_,λg b d hh=>?_,λg b d hh=>?_,λg k b d e hg hk=>?_⟩
 ·rcases sp b d hh with rfl | ⟨hu,e⟩
  ·rw[H4 ha h]; exact h.nm
  ·rw[e] at hh ⊢; exact ht.nm g b d hh
 ·rcases sp b d hh with rfl | ⟨hu,e⟩
  ·rw[H4 ha h]; exact(Bo ha h).2 (.inl h.up)
  ·rw[e] at hh ⊢; exact(Bo ha h).2 (.inl (ht.par g b d hh))
 ·rcases sp b d hh with rfl | ⟨hu,e⟩
  ·have:=z4w ha h; omega
  ·rw[zqt ha h 3 g hu]; exact ht.dp g b d (Q4.1 hu).2.2
 ·rintro⟨q1,q2⟩;rcases sp Qo e hg with hga | ⟨hu,eg⟩
  ·rcases sp b Qo hk with hka | ⟨hu2,ek⟩
   ·omega
   ·rw[hga,H4 ha h,ek] at q1 q2;exact h.no k b Qo (Q4.1 hu2).2.2 ⟨q1,q2⟩
  ·rcases sp b Qo hk with hka | ⟨hu2,ek⟩
   ·rw[hka,H4 ha h,eg] at q1 q2;exact h.no g Qo e (Q4.1 hu).2.2 ⟨q1.symm,q2.symm⟩
   ·rw[eg,ek] at q1 q2;exact ht.uniq g k b d e (Q4.1 hu).2.2 (Q4.1 hu2).2.2 ⟨q1,q2⟩
end
section
variable {W:Q8}{a p:Int}{name:ByteArray}
theorem LA(ha:WA W)(h:zga W a p name){k c:Int}(hu:Q6 W.ID k=true):Qa (Pj W a p name) k c=Qa W k c:=by
 unfold Qa;rw[EK ha h hu]
theorem zss(ha:WA W)(h:zga W a p name){c:Int}(c0:0<=c)(c1:c<(W.IE.length:Int)):Qa (Pj W a p name) a c=zh8:=by
 unfold Qa;rw[H4 ha h];exact MB _ _ c0 c1
theorem zsr(ha:WA W)(h:zga W a p name){k c:Int}(c0:0<=c)(c1:c<(W.IE.length:Int))(j:Nat)(hj:j<8):Jd (Pj W a p name) k c j=Jd W k c j:=by
 have a1:=h.a1;unfold Jd
 by_cases e:a=(j:Int)
 ·rw[<-e,zss ha h c0 c1,h.fr];show (_&&_&&zh8.on)=_;simp[zh8]
 ·rw[AP ha h Qo,B' e]
  have:Qa (Pj W a p name) (j:Int) c=Qa W (j:Int) c:=by
   unfold Qa;rw[AP ha h Qo,B' e]
  rw[this]
theorem zx5(ha:WA W)(h:zga W a p name){k c:Int}(c0:0<=c)(c1:c<(W.IE.length:Int)):QJ (Pj W a p name) k c=QJ W k c:=by
 unfold QJ;rw[show O8 (Od (Pj W a p name) k c) (Pj W a p name).tasks.length=O8 (Od W k c) W.tasks.length from rfl,zl9 ha,ha.gl];rw[KK λj hj=>zsr ha h c0 c1 j hj]
theorem zma(wp:YI W)(h:zga W a p name){c:Int}(j:Nat)(hj:j<20):Zq W a c j=false:=by
 by_cases mP:j<12
 ·rw[Vo mP];unfold Od;rcases wp.t (j:Int) Qo Qo with hz | ⟨_,hx⟩
  ·have:(gi W.tasks (j:Int)).state=0:=hz.1;rw[this]; rfl
  ·have hg:(gi W.tasks (j:Int)).group≠a:=λe=>zx6 h hx.g e.symm
   rw[show ((gi W.tasks (j:Int)).group==a)=false by simpa using hg];simp
 ·rw[show j=12+(j-12) by omega,Uc];unfold Jd
  cases hu:(gi W.ID ((j-12:Nat):Int)).used with
  | false=>simp
  | true=>
   have hl:=wp.a.gl;have huu:Q6 W.ID ((j-12:Nat):Int)=true:=Q4.2 ⟨Qo,Qo,hu⟩
   by_cases h1:1<=j-12
   ·have hpu:=(Y3 wp.a.tree huu Qo).1;have hg:(gi W.ID ((j-12:Nat):Int)).parent≠a:=λe=>zx6 h hpu e.symm
    rw[show ((gi W.ID ((j-12:Nat):Int)).parent==a)=false by simpa using hg];simp
   ·rw[show decide (1<=j-12)=false from decide_eq_false h1]; simp
theorem KL{p:Nat->Bool}:∀{n:Nat},(∀j,j<n->p j=false)->O8 p n=false
 | 0,_=>rfl
 | n+1,h=>by simp only[O8]; rw[KL λj hj=>h j Qo,h n Qo]; rfl
theorem z1i(wp:YI W)(h:zga W a p name){c:Int}:QJ W a c=false:=by
 have hl:=wp.a.gl;have ht:=wp.a.t;unfold QJ;rw[KL λj hj=>by have:=zma wp h (c:=c) j Qo; rwa[Vo Qo] at this,KL λj hj=>by have:=zma wp h (c:=c) (12+j) Qo; rwa[Uc] at this];rfl
theorem NL{α β:Type}{f g:β->α->β}:∀(l:List α) (s:β),(∀(s:β) (x:α),x∈l->f s x=g s x)->l.foldl f s=l.foldl g s
 | [],_,_=>rfl
 | y::l,s,hl=>by
  rw[List.foldl_cons,List.foldl_cons,hl s y I9];exact NL l _ λs x hx=>hl s x (I1 _ hx)
theorem z3m(ha:WA W)(h:zga W a p name){k:Int}(hu:Q6 W.ID k=true)(u:Int):Ti (Pj W a p name).ID k u=Ti W.ID k u:=by
 have e:QP (Pj W a p name).ID k=QP W.ID k:=zmb ha h 3 k hu;unfold Ti;rw[e];refine NL _ _ λs x hx=>?_
 have hxu:Q6 W.ID x=true:=by
  rcases Im.1 hx with hx | hx
  ·exact(YQ ha.tree k hu x hx).1
  ·rw[IA.1 hx]; exact ha.root
 rw[EK ha h hxu]
theorem zzo{W W':Q8}(e:W'.IE=W.IE){k:Int}(hp:∀u:Int,Ti W'.ID k u=Ti W.ID k u)(m:Int):Qx W' k m=Qx W k m:=by
 unfold Qx;rw[e,hp]
theorem z4x(ha:WA W)(h:zga W a p name){k:Int}(hu:Q6 W.ID k=true)(m:Int):Qx (Pj W a p name) k m=Qx W k m:=zzo (W:=W) (W':=Pj W a p name) rfl (z3m ha h hu) m
theorem zxn(iv:JF W)(h:zga W a p name):JF (Pj W a p name):=by
 have wp:=iv.wp;have ha:=wp.a;have a1:=h.a1;have a8:=h.a8;have bZ:=ha.gl;have hpu:∀{k:Int},Q6 W.ID k=true->k≠0->Q6 W.ID (gi W.ID k).parent=true:=λhu hz=>(Y3 ha.tree hu hz).1
 have hA:WA (Pj W a p name):=by
  refine⟨ha.n1,ha.n2,ha.c1,ha.c2,ha.t,z1j ha h,ha.ups,λk k0 k1=>?_⟩;unfold Kn;rw[AP ha h k0];split
  ·refine⟨λhh=>(by cases hh),λ_=>⟨show (1:Int)<=10 by decide,show (10:Int)<=20 by decide,show M1 15=true by decide,show (15:Int)≠0 by decide,show ZW 0=true by decide,by simp[M2]; rfl,λ_=>⟨rfl,rfl,rfl⟩,λ_=>⟨show OJ ⟨0,0,0,[],[]⟩=true by decide,rfl,rfl⟩,λhh=>Ir rfl hh⟩⟩
  ·have:=ha.grp k k0 k1;exact⟨this.1,λhu=>by have:=this.2 hu; exact⟨this.w1,this.w2,this.m,this.m0,this.s,this.len,this.root,this.none,this.IP⟩⟩
 refine⟨⟨hA,λt t0 t1=>?_,λk c k0 k1 c0 c1=>?_,λc c0 c1=>?_⟩,λk c hu c0 c1 hb=>?_⟩
 ·rcases wp.t t t0 t1 with hz | ⟨n,hx⟩
  ·exact .inl hz
  ·refine .inr ⟨n,hx.st,(Bo ha h).2 (.inl hx.g),hx.n,hx.m,hx.m0,hx.v,hx.s,hx.u,hx.l1,hx.l2,?_,λhs=>?_⟩
   ·rw[show (Q7 (Pj W a p name) t)=Q7 W t from rfl,z4x ha h hx.g]; exact hx.c
   ·rw[show (Q7 (Pj W a p name) t)=Q7 W t from rfl,LA ha h hx.g]; exact hx.f hs
 ·by_cases e:a=k
  ·subst e;rw[H4 ha h] at c1;have c1:c<(W.IE.length:Int):=by simpa[M2] using c1
   have es:=zss ha h c0 c1;refine⟨by rw[es]; decide,by rw[es]; decide,by rw[es]; decide,by rw[es]; decide,by rw[es]; decide,λhz=>by omega,λ_=>?_,λ_ ho=>?_⟩
   ·rw[es,zx5 ha h c0 c1,z1i wp h]; rfl
   ·rw[es] at ho; cases ho
  ·have hg:gi (Pj W a p name).ID k=gi W.ID k:=by rw[AP ha h k0,B' e]
   rw[hg] at c1
   have hu:Q6 W.ID k=true:=by
    cases hh:(gi W.ID k).used with
    | true=>exact Q4.2 ⟨k0,Qo,hh⟩
    | false=>
     have:=((ha.grp k k0 k1).1 hh).l;omega
   have cl:c<(W.IE.length:Int):=by rw[<-ha.sl hu]; exact c1
   have hs:=wp.s k c k0 k1 c0 c1;have es:=LA ha h (c:=c) hu;refine⟨by rw[es]; exact hs.f,by rw[es]; exact hs.v,by rw[es]; exact hs.s,by rw[es]; exact hs.w1,by rw[es]; exact hs.w2,λhz=>by rw[es]; exact hs.root hz,λhz=>?_,λhz ho=>?_⟩
   ·rw[es,zx5 ha h c0 cl,show Yx (Pj W a p name) k c=Yx W k c by unfold Yx; rw[hg]];exact hs.on hz
   ·rw[es] at ho;rw[es,hg,LA ha h (hpu hu hz)];exact hs.st hz ho
 ·have hc:=wp.c c c0 c1;refine⟨hc.b,hc.i,hc.c1,hc.c2,hc.no,λh0=>?_⟩;have h0:0<=(gi W.IE c).cur:=h0;obtain⟨y1,y2,y3,y4,y5,y6⟩:=hc.yes h0;have hl:=ha.t
  have jW:Q6 W.ID (Q7 W (gi W.IE c).cur).group=true:=by
   have hc2:=hc.c2;rcases wp.t _ h0 Qo with hz | ⟨_,hx⟩
   ·unfold Z3 at y5;rw[hz.1] at y5;simp at y5
   ·exact hx.g
  have hpt:QP (Pj W a p name).ID (Q7 W (gi W.IE c).cur).group=QP W.ID (Q7 W (gi W.IE c).cur).group:=zmb ha h 3 _ jW;refine⟨y1,y2,y3,y4,?_,?_⟩
  ·unfold Z3 Vb at y5 ⊢;rw[show (gi (Pj W a p name).IE c).cur=(gi W.IE c).cur from rfl,show Q7 (Pj W a p name) (gi W.IE c).cur=Q7 W (gi W.IE c).cur from rfl,hpt];rw[A',List.all_eq_true] at y5 ⊢;exact⟨y5.1,λx hx=>by rw[LA ha h (YQ ha.tree _ jW x hx).1]; exact y5.2 x hx⟩
  ·unfold MQ Oa at y6 ⊢;rw[show (gi (Pj W a p name).IE c).cur=(gi W.IE c).cur from rfl,show (gi (Pj W a p name).IE c).WQ=(gi W.IE c).WQ from rfl,show Q7 (Pj W a p name) (gi W.IE c).cur=Q7 W (gi W.IE c).cur from rfl,hpt,LA ha h jW];rw[A',List.all_eq_true] at y6 ⊢;refine⟨y6.1,λx hx=>?_⟩;obtain⟨xu,xz⟩:=YQ ha.tree _ jW x hx;rw[LA ha h xu,EK ha h xu,LA ha h (hpu xu xz)];exact y6.2 x hx
 ·have cl:c<(W.IE.length:Int):=c1
  have AY8:∀j,j<20->Zq (Pj W a p name) k c j=Zq W k c j:=λj hj=>by
   by_cases mP:j<12
   ·rw[Vo mP,Vo mP]; rfl
   ·rw[show j=12+(j-12) by omega,Uc,Uc,zsr ha h c0 cl (j-12) Qo]
  rcases (Bo ha h).1 hu with hk | rfl
  ·have hv:∀j,j<20->Zq (Pj W a p name) k c j=true->Zm (Pj W a p name) c j=Zm W c j:=λj hj hm=>by
    unfold Zm;split
    ·rfl
    ·rename_i mP;rw[AY8 j hj,show j=12+(j-12) by omega,Uc] at hm;unfold Jd at hm;simp only[A'] at hm;rw[LA ha h (Q4.2 ⟨Qo,Qo,hm.1.2.1⟩)]
   have e:QY (Zq (Pj W a p name) k c) (Zm (Pj W a p name) c) 20=QY (Zq W k c) (Zm W c) 20:=Kg AY8 hv;have oG:=iv.fl k c hk c0 cl (by unfold Zx at hb ⊢; rwa[e] at hb);rw[LA ha h hk];refine Int.le_trans (Int.le_of_eq ?_) oG;unfold Zx at hb;have hb:=Ot hb;rw[e] at hb;unfold Z2;rw[e,B' Qo,B' Qo];rcases Zu (Zq W k c) (Zm W c) 20 with ⟨q,_⟩ | ⟨_,q2,q3,_⟩
   ·omega
   ·have IN:(QY (Zq W k c) (Zm W c) 20).toNat<20:=Qo;exact hv _ IN (by rw[AY8 _ IN]; exact q3)
  ·exfalso
   unfold Zx at hb;have hb:=Ot hb;rcases Zu (Zq (Pj W k p name) k c) (Zm (Pj W k p name) c) 20 with ⟨q,_⟩ | ⟨_,q2,q3,_⟩
   ·omega
   ·rw[AY8 _ Qo,zma wp h _ Qo] at q3;cases q3
end
theorem zxz{W:Q8}(ha:WA W){k c d:Int}(hu:Q6 W.ID k=true)(hd:dep 3 W.ID k=d)(d1:1<=d)(c0:0<=c)(c1:c<(W.IE.length:Int)) :
  WA (Rv W k c (Y9 W k c))/\Vp (Rv W k c (Y9 W k c)) c k/\∀g:Int,Q6 W.ID g=true->g≠k->(gi W.ID k).parent≠g->Vp W c g->Vp (Rv W k c (Y9 W k c)) c g:=by
 have hz:k≠0:=λe=>by subst e; rw[Yj] at hd; omega
 obtain⟨u0,u1,_⟩:=Q4.1 hu;have hl:=ha.gl;have hsl:=ha.sl hu;have qA:c<((gi W.ID k).IF.length:Int):=Qo
 have hpk:(gi W.ID k).parent≠k:=λe=>by
  obtain⟨_,_,_,n,e1,e2,_⟩:=Y3 ha.tree hu hz;rw[e] at e2; omega
 have e:∀{i j:Int},0<=i->0<=j->Qa (Rv W k c (Y9 W k c)) i j=if k=i/\c=j then Y9 W k c else Qa W i j:=λhi hj=>Jw u0 u1 c0 qA hi hj
 have hT:=YL (W:=W) (g:=k) (c:=c) (s:=Y9 W k c) u0 u1
 have act:∀g:Int,(gi W.ID k).parent≠g->QJ (Rv W k c (Y9 W k c)) g c=QJ W g c:=λg hg=>by
  refine P4 (W:=W) (W':=Rv W k c (Y9 W k c)) rfl hT λj hj _ _ hp=>?_
  rw[e Qo c0,B'];rintro⟨h,_⟩;exact hg (by rw[h]; exact hp)
 refine⟨ha.Rv u0 Qo,?_,λg gu gk hg h=>?_⟩
 ·unfold Vp;rw[e u0 c0,C' ⟨rfl,rfl⟩,act k hpk,HD u0 u1 u0];rfl
 ·unfold Vp;have g0:=(Q4.1 gu).1;rw[e g0 c0,B' λh=>gk h.1.symm,act g hg,HD u0 u1 g0];exact h
theorem zoh{W:Q8}(ha:WA W){c d:Int}(d1:1<=d)(c0:0<=c)(c1:c<(W.IE.length:Int))(hI:∀g:Int,Q6 W.ID g=true->d<dep 3 W.ID g->Vp W c g):∀k:Nat,k<=8->
  WA (Zk W c d k)/\Ut W (Zk W c d k)/\∀g:Int,Q6 W.ID g=true->d<dep 3 W.ID g\/dep 3 W.ID g=d/\g<(k:Int)->Vp (Zk W c d k) c g
 | 0,_=>⟨ha,Ut.refl _,λg gu h=>hI g gu (by
   rcases h with h | h
   ·exact h
   ·have:=(Q4.1 gu).1;have:=h.2;omega)⟩
 | k+1,hk=>by
  obtain⟨a,b,ih⟩:=zoh ha d1 c0 c1 hI k Qo;have hl:=a.gl;have hT:=b.g;simp only[Zk];split
  ·rename_i hc;have hu:Q6 (Zk W c d k).ID (k:Int)=true:=Q4.2 ⟨Qo,Qo,hc.1⟩;obtain⟨l1,l3,l4⟩:=zxz a hu hc.2 d1 c0 (c:=c) (by rw[b.c]; exact c1);refine⟨l1,b.trans (U6 Qo Qo),λg gu h=>?_⟩
   by_cases e:g=(k:Int)
   ·subst e; exact l3
   ·have hkz:(k:Int)≠0:=λe=>by have:=hc.2; rw[e,Yj] at this; omega
    obtain⟨_,_,_,n,e1,e2,_⟩:=Y3 a.tree hu hkz;refine l4 g (by rw[hT.cQ]; exact gu) e (λhp=>?_) (ih g gu ?_)
    ·rw[hp,hT.dep] at e2;have:=hc.2;omega
    ·rcases h with h | h
     ·exact .inl h
     ·exact .inr ⟨h.1,by have:=h.2; omega⟩
  ·rename_i hc;refine⟨a,b,λg gu h=>ih g gu ?_⟩;rcases h with h | h
   ·exact .inl h
   ·refine .inr ⟨h.1,?_⟩
    by_cases e:g=(k:Int)
    ·subst e;exact Ir ⟨by rw[hT.u]; exact(Q4.1 gu).2.2,by rw[hT.dep]; exact h.1⟩ hc
    ·have:=h.2;omega
theorem zur{W:Q8}(ha:WA W){c:Int}(c0:0<=c)(c1:c<(W.IE.length:Int)):WA (QI W c)/\Ut W (QI W c)/\∀g:Int,Q6 W.ID g=true->g≠0->Vp (QI W c) c g:=by
 have key:∀j:Nat,j<=3->WA (X4 W c j)/\Ut W (X4 W c j)/\∀g:Int,Q6 W.ID g=true->3-(j:Int)<dep 3 W.ID g->Vp (X4 W c j) c g:=by
  intro j
  induction j with
  | zero=>exact λ_=>⟨ha,Ut.refl _,λg gu h=>by have:=(GD ha gu).2; omega⟩
  | succ j ih=>
   intro hj;obtain⟨a,b,h⟩:=ih Qo;have hT:=b.g;obtain⟨a2,b2,h2⟩:=zoh a (c:=c) (d:=3-(j:Int)) Qo c0 (by rw[b.c]; exact c1) (λg gu hd=>h g (by rwa[hT.cQ] at gu) (by rwa[hT.dep] at hd)) 8 (I7 _);refine⟨a2,b.trans b2,λg gu hd=>h2 g (by rw[hT.cQ]; exact gu) ?_⟩;rw[hT.dep];have:=(Q4.1 gu).2.1;have:=ha.gl
   by_cases e:dep 3 W.ID g=3-(j:Int)
   ·exact .inr ⟨e,Qo⟩
   ·exact .inl Qo
 obtain⟨a,b,h⟩:=key 3 (I7 _);refine⟨a,b,λg gu gz=>h g gu ?_⟩;obtain⟨_,_,_,n,e1,_⟩:=Y3 ha.tree gu gz;omega
theorem zj0{W:Q8}(ha:WA W){c d:Int}(d1:1<=d)(c0:0<=c)(c1:c<(W.IE.length:Int)):∀k:Nat,k<=8->BX c W (Zk W c d k)/\WA (Zk W c d k)
 | 0,_=>⟨BX.refl _ _,ha⟩
 | k+1,hk=>by
  obtain⟨o,a⟩:=zj0 ha d1 c0 c1 k Qo;have hl:=a.gl;simp only[Zk];split
  ·rename_i hc;have hu:Q6 (Zk W c d k).ID (k:Int)=true:=Q4.2 ⟨Qo,Qo,hc.1⟩;exact⟨o.trans (Ad Qo Qo c0 (by rw[a.sl hu,o.len]; exact c1)),a.Rv Qo Qo⟩
  ·exact⟨o,a⟩
theorem zqw{W:Q8}(ha:WA W){c:Int}(c0:0<=c)(c1:c<(W.IE.length:Int)):BX c W (QI W c):=by
 have key:∀j:Nat,j<=3->BX c W (X4 W c j)/\WA (X4 W c j):=by
  intro j
  induction j with
  | zero=>exact λ_=>⟨BX.refl _ _,ha⟩
  | succ j ih=>
   intro hj;obtain⟨o,a⟩:=ih Qo;obtain⟨o2,a2⟩:=zj0 a (c:=c) (d:=3-(j:Int)) Qo c0 (by rw[o.len]; exact c1) 8 (I7 _);exact⟨o.trans o2,a2⟩
 exact(key 3 (I7 _)).1
structure Dm (W:Q8) (c:Int):Prop where
 on:∀k:Int,Q6 W.ID k=true->k≠0->Vp W c k
 cu:0<=(gi W.IE c).cur->(Q7 W (gi W.IE c).cur).IZ=c/\Z3 W (gi W.IE c).cur=true
theorem zwx{W:Q8}(wp:YI W){c:Int}(c0:0<=c)(c1:c<(W.IE.length:Int)):Dm W c:=
 ⟨λk hu hz=>(F3 wp hu c0 c1).on hz,λh=>⟨((wp.c c c0 c1).yes h).2.2.2.1,((wp.c c c0 c1).yes h).2.2.2.2.1⟩⟩
theorem Dm.oth{K:Int}{c d:Int}{W W':Q8}(h:Dm W d)(sw:SW K W)(o:BX c W W')(d0:0<=d)(d1:d<(W.IE.length:Int))(hd:d≠c):Dm W' d:=by
 refine⟨λk hu hz=>?_,λh0=>?_⟩
 ·rw[o.g.cQ] at hu;have k0:=(Q4.1 hu).1;have:=h.on k hu hz;unfold Vp at this ⊢;rw[o.e k d k0 d0 hd,o.SS d0 hd,zlg (o.b k k0)];exact this
 ·rw[o.cp d d0 hd] at h0 ⊢;rw[Jf o.t];obtain⟨h1,h2⟩:=h.cu h0;refine⟨h1,?_⟩
  have hs:(Q7 W (gi W.IE d).cur).state=1:=by
   unfold Z3 at h2;rw[A'] at h2;exact Iz h2.1
  have hu:=(sw.t _ h0 (sw.cu d d0 d1).2 (by rw[hs]; decide)).1;rw[o.line sw.a.tree hu (by rw[h1]; exact d0) (by rw[h1]; exact hd)];exact h2
theorem zo8{K:Int}{W:Q8}(sw:SW K W){c:Int}(c0:0<=c)(c1:c<(W.IE.length:Int)):BX c W (UP W c)/\Dm (UP W c) c:=by
 obtain⟨p1,os,hon⟩:=zur sw.a c0 c1;have ol:=zqw sw.a c0 c1;obtain⟨f,hA,_⟩:=NK p1 c0 (c:=c) (by rw[os.c]; exact c1) 8 (I7 _);have f:FC c (QI W c) (Za (QI W c) c):=f;have hon:∀g:Int,Q6 (QI W c).ID g=true->g≠0->Vp (QI W c) c g:=λg gu gz=>hon g (by rwa[os.g.cQ] at gu) gz
 have W5:UP W c=if MC (Za (QI W c) c) c=true then Rz (Za (QI W c) c) c else Za (QI W c) c:=rfl;have hO:BX c W (Za (QI W c) c):=ol.trans f.o;have hFc:(Za (QI W c) c).IE.length=W.IE.length:=hO.len;have hT:=f.o.g
 have BX3:∀k:Int,Q6 (Za (QI W c) c).ID k=true->k≠0->Vp (Za (QI W c) c) c k:=λk hu hz=>by
  rw[hT.cQ] at hu;have k0:=(Q4.1 hu).1;have:=hon k hu hz;unfold Vp at this ⊢;rw[f.on k c k0 c0,P4 f.o.t hT λj _ _ _ _=>f.on _ c Qo c0,zlg (f.o.b k k0)];exact this
 rw[W5];clear W5;generalize Za (QI W c) c=F at BX3 hO hFc;have cF:c<(F.IE.length:Int):=by rw[hFc]; exact c1
 split
 ·refine⟨hO.trans (zon c0 cF),BX3,λh0=>?_⟩;rw[show gi (Rz F c).IE c=XT (gi F.IE c) from (QM _ _ c0 cF c0).trans (C' rfl)] at h0;have h0:(0:Int)<=-1:=h0;omega
 ·rename_i hg;have hg:MC F c=false:=by simpa using hg
  refine⟨hO,BX3,λh0=>?_⟩;unfold MC at hg;rw[Ih h0,Bool.true_and,H'] at hg;exact⟨by simpa using hg.1,by simpa using hg.2⟩
theorem zo6{K:Int}{W:Q8}(sw:SW K W)(hK:0<=K):∀c:Nat,c<=W.IE.length->∀d:Int,0<=d->d<(c:Int)->Dm (XM W c) d
 | 0,_=>λd a b=>by omega
 | c+1,hc=>λd d0 d1=>by
  obtain⟨s1,f1⟩:=Lg sw hK c Qo;obtain⟨o,dm⟩:=zo8 s1 (c:=(c:Int)) Qo (by rw[f1.c]; omega)
  by_cases h:d=(c:Int)
  ·subst h; exact dm
  ·exact(zo6 sw hK c Qo d d0 Qo).oth s1 o d0 (by rw[f1.c]; omega) h
theorem zvf{K:Int}{W:Q8}(sw:SW K W)(hK:0<=K){d:Int}(d0:0<=d)(d1:d<(W.IE.length:Int)):Dm (Qg W) d:=by
 obtain⟨s1,o1⟩:=OH (F:=K) (K:=K+Qi) (sw.sf.mono (I2 _) (by simp only[Qi]; omega)) (I2 _) W.IE.length (I7 _);obtain⟨s2,b2⟩:=TT s1 8 (I7 _);exact zo6 s2.w (by simp only[Qi]; omega) W.IE.length (by show W.IE.length<=(Yd (ZU W W.IE.length) 8).IE.length; rw[b2.c,o1.c]; exact I7 _) d d0 d1
structure zrv (W:Q8) (t c:Int):Prop where
 t0:0<=t
 t1:t<12
 st:(Q7 W t).state=1
 IZ:(Q7 W t).IZ=c
 on:∀x∈QP W.ID (Q7 W t).group,(Qa W x c).on=true
theorem zuy{W:Q8}(ha:WA W){c:Int}(f:Nat):∀g:Int,Q6 W.ID g=true->(4-dep 3 W.ID g).toNat=f->(∀x∈QP W.ID g,(Qa W x c).on=true)->0<=L6 W g c->zrv W (L6 W g c) c:=by
 induction f with
 | zero=>
  intro g hu hf;have:=GD ha hu;omega
 | succ f ih=>
  intro g hu hf hp h;rw[Aa ha hu] at h ⊢
  by_cases h1:QW W g c<0
  ·rw[C' h1] at h; omega
  ·rw[B' h1] at h ⊢
   by_cases h2:QW W g c<12
   ·rw[C' h2] at h ⊢
    have hm:Zq W g c (QW W g c).toNat=true:=by
     rcases Zu (Zq W g c) (Zm W c) 20 with ⟨a,_⟩ | ⟨_,_,a,_⟩
     ·unfold QW at h1; omega
     ·exact a
    rw[Vo Qo] at hm;unfold Od at hm;rw[show (((QW W g c).toNat:Nat):Int)=QW W g c by omega] at hm;simp only[A',Is] at hm;refine⟨h,h2,hm.1.1,hm.2,?_⟩;rw[show (Q7 W (QW W g c)).group=g from hm.1.2];exact hp
   ·rw[B' h2] at h ⊢;obtain⟨k1,k2,k3,k4⟩:=HF ha hu (g:=g) (c:=c) Qo
    have hm:Zq W g c (QW W g c).toNat=true:=by
     rcases Zu (Zq W g c) (Zm W c) 20 with ⟨a,_⟩ | ⟨_,_,a,_⟩
     ·unfold QW at h1; omega
     ·exact a
    rw[show (QW W g c).toNat=12+(QW W g c-12).toNat by omega,Uc] at hm;unfold Jd at hm;rw[show (((QW W g c-12).toNat:Nat):Int)=QW W g c-12 by omega] at hm;simp only[A',Is] at hm;refine ih _ k1 Qo (λx hx=>?_) h;rw[Yt ha.tree k1 k2] at hx;rcases Ii.1 hx with e | e
    ·rw[e]; exact hm.2
    ·rw[hm.1.2.2] at e; exact hp x e
theorem zu7{W:Q8}(ha:WA W){c:Int}(h12:(gi W.IE c).cur<12)(hcu:0<=(gi W.IE c).cur->(Q7 W (gi W.IE c).cur).IZ=c/\Z3 W (gi W.IE c).cur=true)(h:¬Qw W c<0):zrv W (Qw W c) c:=by
 unfold Qw at h ⊢;split
 ·rename_i hc;obtain⟨h1,h2⟩:=hcu hc.1;unfold Z3 Vb at h2;rw[A',List.all_eq_true,h1] at h2;exact⟨hc.1,h12,Iz h2.1,h1,h2.2⟩
 ·rename_i hc;rw[B' hc] at h;exact zuy ha _ 0 ha.root rfl (λx hx=>by rw[show QP W.ID 0=[] from Zi _ _] at hx; cases hx) Qo
structure O7 (W W':Q8):Prop where
 n:W'.now=W.now
 t:W'.tasks=W.tasks
 s:∀i d:Int,(Qa W' i d).sum=(Qa W i d).sum
 g:∀i:Int,(gi W'.ID i).sum=(gi W.ID i).sum
 b:∀i:Int,(gi W'.IE i).busy=(gi W.IE i).busy
 i:∀i:Int,(gi W'.IE i).idle=(gi W.IE i).idle
 u:∀i:Int,(gi W'.IE i).up=(gi W.IE i).up
 r:∀i:Int,(gi W'.IE i).WQ=(gi W.IE i).WQ\/(gi W'.IE i).WQ=0
theorem O7.refl(W:Q8):O7 W W:=⟨rfl,rfl,λ_ _=>rfl,λ_=>rfl,λ_=>rfl,λ_=>rfl,λ_=>rfl,λ_=>.inl rfl⟩
theorem O7.trans{A B C:Q8}(h:O7 A B)(k:O7 B C):O7 A C:=
 ⟨k.n.trans h.n,k.t.trans h.t,λi d=>(k.s i d).trans (h.s i d),λi=>(k.g i).trans (h.g i),λi=>(k.b i).trans (h.b i),λi=>(k.i i).trans (h.i i),λi=>(k.u i).trans (h.u i),λi=>by
  rcases k.r i with e | e
  ·rcases h.r i with e2 | e2
   ·exact .inl (e.trans e2)
   ·exact .inr (e.trans e2)
  ·exact .inr e⟩
theorem zzc(W:Q8){g c:Int}{s:LR}(h:s.sum=(Qa W g c).sum):O7 W (Rv W g c s):=
 ⟨rfl,rfl,λi d=>YT (f:=λG:ZX=>(gi G.IF d).sum) W.ID g (x:={ gi W.ID g with IF:=(gi W.ID g).IF.set c.toNat s }) (YT (f:=LR.sum) (gi W.ID g).IF c h d) i,λi=>YT (f:=ZX.sum) W.ID g (x:={ gi W.ID g with IF:=(gi W.ID g).IF.set c.toNat s }) rfl i,λ_=>rfl,λ_=>rfl,λ_=>rfl,λ_=>.inl rfl⟩
theorem zzb(W:Q8)(g:Int)(b:Ve):O7 W (RL W g b):=
 ⟨rfl,rfl,λi d=>YT (f:=λG:ZX=>(gi G.IF d).sum) W.ID g (x:={ gi W.ID g with IP:=b }) rfl i,λi=>YT (f:=ZX.sum) W.ID g (x:={ gi W.ID g with IP:=b }) rfl i,λ_=>rfl,λ_=>rfl,λ_=>rfl,λ_=>.inl rfl⟩
theorem zue{α:Type}[Inhabited α](l:List α)(k:Int)(x:α)(i:Int):gi (l.set k.toNat x) i=gi l i\/gi (l.set k.toNat x) i=x:=by
 unfold gi;simp only[List.getD_eq_getElem?_getD,List.getElem?_set];split
 ·split
  ·exact .inr rfl
  ·rename_i e hl;refine .inl ?_;rw[show l[i.toNat]? = none from List.getElem?_eq_none_iff.2 Qo]
 ·exact .inl rfl
theorem ztk(W:Q8)(c:Int):O7 W (Rz W c):=
 ⟨rfl,rfl,λ_ _=>rfl,λ_=>rfl,λi=>YT (f:=KI.busy) W.IE c (x:=XT (gi W.IE c)) rfl i,λi=>YT (f:=KI.idle) W.IE c (x:=XT (gi W.IE c)) rfl i,λi=>YT (f:=KI.up) W.IE c (x:=XT (gi W.IE c)) rfl i,λi=>by
  rcases zue W.IE c (XT (gi W.IE c)) i with e | e
  ·exact .inl (by show (gi (W.IE.set c.toNat (XT (gi W.IE c))) i).WQ=_; rw[e])
  ·exact .inr (by show (gi (W.IE.set c.toNat (XT (gi W.IE c))) i).WQ=0; rw[e]; rfl)⟩
theorem AD(W:Q8)(c d:Int):∀k:Nat,O7 W (Zk W c d k)
 | 0=>O7.refl _
 | k+1=>by
  simp only[Zk];split
  ·exact(AD W c d k).trans (zzc _ rfl)
  ·exact AD W c d k
theorem F8(W:Q8)(c:Int):∀j:Nat,O7 W (X4 W c j)
 | 0=>O7.refl _
 | j+1=>(F8 W c j).trans (AD _ _ _ _)
theorem zf0(W:Q8):∀c:Nat,O7 W (ZU W c)
 | 0=>O7.refl _
 | c+1=>(zf0 W c).trans (F8 (ZU W c) (c:Int) 3)
theorem AB(W:Q8)(k:Int):∀c:Nat,O7 W (ZJ W k c)
 | 0=>O7.refl _
 | c+1=>by
  simp only[ZJ];split
  ·exact(AB W k c).trans (zzb _ _ _)
  ·exact AB W k c
theorem AC(W:Q8):∀k:Nat,O7 W (Yd W k)
 | 0=>O7.refl _
 | k+1=>by
  simp only[Yd];split
  ·exact(AC W k).trans (AB _ _ _)
  ·exact AC W k
theorem F7(W:Q8)(c:Int):∀k:Nat,O7 W (QN W c k)
 | 0=>O7.refl _
 | k+1=>by
  simp only[QN];split
  ·exact(F7 W c k).trans (zzc _ rfl)
  ·exact F7 W c k
theorem zvk(W:Q8)(c:Int):O7 W (UP W c):=by
 have h:=(F8 W c 3).trans (F7 (QI W c) c 8);unfold UP;split
 ·exact h.trans (ztk _ _)
 ·exact h
theorem zkk(W:Q8):∀c:Nat,O7 W (XM W c)
 | 0=>O7.refl _
 | c+1=>(zkk W c).trans (zvk (XM W c) (c:Int))
theorem zri(W:Q8):O7 W (Qg W):=((zf0 W W.IE.length).trans (AC (ZU W W.IE.length) 8)).trans (zkk (KT (ZU W W.IE.length)) W.IE.length)
structure RB (S:Int) (W:Q8):Prop where
 n:W.now<=50000000000000000
 t:∀t:Int,0<=t->t<12->0<=(Q7 W t).sum/\(Q7 W t).sum<=S/\0<=(Q7 W t).used/\(Q7 W t).used<=S
 s:∀k c:Int,Q6 W.ID k=true->0<=c->c<(W.IE.length:Int)->0<=(Qa W k c).sum/\(Qa W k c).sum<=S
 g:∀k:Int,Q6 W.ID k=true->0<=(gi W.ID k).sum/\(gi W.ID k).sum<=S
 c:∀c:Int,0<=c->c<(W.IE.length:Int)->0<=(gi W.IE c).busy/\(gi W.IE c).busy<=S/\0<=(gi W.IE c).idle/\(gi W.IE c).idle<=50000000000000000/\0<=(gi W.IE c).WQ/\(gi W.IE c).WQ<=149
theorem RB.sum{S:Int}{W W':Q8}(h:RB S W)(k:O7 W W')(hT:Z1 W.ID W'.ID)(hl:W'.IE.length=W.IE.length):RB S W':=by
 refine⟨by rw[k.n]; exact h.n,λt a b=>by rw[Jf k.t]; exact h.t t a b,λi c u a b=>?_,λi u=>?_,λc a b=>?_⟩
 ·rw[hT.cQ] at u;rw[hl] at b;rw[k.s]; exact h.s i c u a b
 ·rw[hT.cQ] at u;rw[k.g]; exact h.g i u
 ·rw[hl] at b;have:=h.c c a b;rw[k.b,k.i];refine⟨this.1,this.2.1,this.2.2.1,this.2.2.2.1,?_⟩;rcases k.r c with e | e
  ·rw[e]; exact this.2.2.2.2
  ·rw[e]; exact⟨Qo,Qo⟩
theorem z45{W:Q8}(wp:YI W)(r:LO W):RB Qn W:=by
 have hl:=wp.a.gl;have ht:=wp.a.t;refine⟨r.n,λt a b=>?_,λk c u a b=>?_,λk u=>?_,λc a b=>?_⟩
 ·have h:=r.t t a Qo;rcases wp.t t a b with hz | ⟨_,hx⟩
  ·rw[hz.2]; decide
  ·exact⟨(Xl.1 hx.s).1,h.2.1,(Xl.1 hx.u).1,h.2.2⟩
 ·obtain⟨u0,u1,_⟩:=Q4.1 u;have hs:=wp.a.sl u;exact⟨(Xl.1 (F3 wp u a b).s).1,(r.s k c u0 u1 a Qo).2.2⟩
 ·obtain⟨u0,u1,hg⟩:=wp.a.u u;exact⟨(Xl.1 hg.s).1,r.g k u0 Qo⟩
 ·have hc:=wp.c c a b;have hr:=r.c c a b;refine⟨(Xl.1 hc.b).1,hr.1,(Xl.1 hc.i).1,hr.2,?_⟩
  by_cases h:(gi W.IE c).cur<0
  ·rw[hc.no h]; decide
  ·have:=hc.yes Qo; omega
theorem zze{b:Ve}(h:P0 b){c:Int}(c0:0<=c)(c1:c<(b.locals.length:Int)):P0 (Yf b c).1/\(Yf b c).1.locals.length=b.locals.length/\(Yf b c).1.IX=b.IX:=by
 unfold Yf;split
 ·exact⟨h,rfl,rfl⟩
 ·rename_i hn;have hm:=zbi h.p1;have he:=h.each c c0 c1;have hs:=BN b.locals c (ZI 20 b.RD) c0 c1 b.locals.length;rw[C' c1] at hs;have p2:=h.p2;have su:=h.sum;have dl:=h.dl;refine⟨⟨h.q1,h.q2,?_,?_,?_,?_,?_,h.s1,h.s2,λd d0 d1=>?_,?_⟩,Qs,rfl⟩
  ·simp only[E']; exact h.l1
  ·simp only[E']; exact h.l2
  ·simp only[E']; exact h.dl
  ·show 0<=b.RD-ZI 20 b.RD; omega
  ·show b.RD-ZI 20 b.RD<=b.IX; omega
  ·simp only[E'] at d1;have hd:=h.each d d0 d1;show 0<=gi (b.locals.set c.toNat (ZI 20 b.RD)) d/\gi (b.locals.set c.toNat (ZI 20 b.RD)) d<=b.IX/\(gi (b.Ry.set c.toNat (ZI 20 b.RD==0)) d=true->gi (b.locals.set c.toNat (ZI 20 b.RD)) d=0/\b.RD-ZI 20 b.RD=0);rw[QM _ _ c0 c1 d0,QM _ _ c0 Qo d0];have hz:ZI 20 b.RD=0->b.RD=0:=λe=>by unfold ZI at e; split at e <;> omega
   by_cases e:c=d
   ·subst e;rw[C' rfl,C' rfl];refine⟨hm.1,Qo,λhd0=>?_⟩;have e0:ZI 20 b.RD=0:=Iz hd0;have:=hz e0;exact⟨e0,Qo⟩
   ·rw[B' e,B' e];refine⟨hd.1,hd.2.1,λhd0=>?_⟩;have:=hd.2.2 hd0;exact⟨this.1,Qo⟩
  ·show b.RD-ZI 20 b.RD+b.Sl+Xg (b.locals.set c.toNat (ZI 20 b.RD)) (b.locals.set c.toNat (ZI 20 b.RD)).length=b.IX;rw[E',hs];omega
theorem zvi{b:Ve}(h:P0 b){c n:Int}(c0:0<=c)(c1:c<(b.locals.length:Int)):P0 (XX b c n).1/\(XX b c n).1.locals.length=b.locals.length/\(XX b c n).1.IX=b.IX:=by
 unfold XX;split
 ·exact⟨h,rfl,rfl⟩
 ·rename_i hn;have hs:=BN b.locals c (gi b.locals c-n) c0 c1 b.locals.length;rw[C' c1] at hs;have hnn:=(zmz (λd d0 d1=>(h.each d d0 d1).1) c0 b.locals.length (I7 _)).2 c1;have p1:=h.p1;have su:=h.sum;have s1:=h.s1;have dl:=h.dl;have hn1:¬n<1:=λe=>hn (.inl e)
  have hn2:¬n>gi b.locals c:=λe=>hn (.inr e)
  refine⟨⟨h.q1,h.q2,?_,?_,?_,h.p1,h.p2,?_,?_,λd d0 d1=>?_,?_⟩,Qs,rfl⟩
  ·simp only[E']; exact h.l1
  ·simp only[E']; exact h.l2
  ·simp only[E']; exact h.dl
  ·show 0<=b.Sl+n; omega
  ·show b.Sl+n<=b.IX; omega
  ·simp only[E'] at d1;have hd:=h.each d d0 d1;show 0<=gi (b.locals.set c.toNat (gi b.locals c-n)) d/\gi (b.locals.set c.toNat (gi b.locals c-n)) d<=b.IX/\(gi b.Ry d=true->gi (b.locals.set c.toNat (gi b.locals c-n)) d=0/\b.RD=0);rw[QM _ _ c0 c1 d0]
   by_cases e:c=d
   ·subst e;rw[C' rfl];exact⟨Qo,Qo,λhd0=>by have:=(hd.2.2 hd0).1; omega⟩
   ·rw[B' e];exact hd
  ·show b.RD+(b.Sl+n)+Xg (b.locals.set c.toNat (gi b.locals c-n)) (b.locals.set c.toNat (gi b.locals c-n)).length=b.IX;rw[E',hs];omega
def zhl(b:Ve)(c:Int):Nat->Nat
 | 0=>0
 | d+1=>zhl b c d+if (d:Int)≠c/\gi b.locals (d:Int)>0 then 1 else 0
def zrn(b:Ve)(c:Int):Nat:=if gi b.Ry c=true then 0 else 1
def Jv(b:Ve)(c:Int):Nat:=9*zhl b c 4+zrn b c
theorem zsh(b:Ve)(c:Int):∀n:Nat,zhl b c n<=n
 | 0=>I7 _
 | n+1=>by
  have:=zsh b c n;simp only[zhl]
  split <;> omega
theorem z1p(b:Ve)(c:Int):Jv b c<=37:=by
 have:=zsh b c 4;unfold Jv zrn
 split <;> omega
def zi0(W:Q8)(c:Int):Nat->Nat
 | 0=>0
 | k+1=>zi0 W c k+Jv (gi W.ID (k:Int)).IP c
def Gk(W:Q8)(c:Int):Nat:=zi0 W c 8
theorem HM{W W':Q8}{c:Int}(h:∀k:Nat,k<8->Jv (gi W'.ID (k:Int)).IP c<=Jv (gi W.ID (k:Int)).IP c):∀k:Nat,k<=8->zi0 W' c k<=zi0 W c k
 | 0,_=>I7 _
 | k+1,hk=>by
  have:=HM h k Qo;have:=h k Qo;simp only[zi0];omega
theorem zs0{W W':Q8}{c:Int}(h:∀k:Nat,k<8->Jv (gi W'.ID (k:Int)).IP c<=Jv (gi W.ID (k:Int)).IP c){j:Nat}(hj:Jv (gi W'.ID (j:Int)).IP c<Jv (gi W.ID (j:Int)).IP c):∀k:Nat,j<k->k<=8->zi0 W' c k<zi0 W c k
 | 0,h0,_=>Ir h0 (Nat.not_lt_zero j)
 | k+1,fN,hk=>by
  have h1:=HM h k Qo;have h2:=h k Qo;simp only[zi0]
  by_cases e:j=k
  ·subst e; omega
  ·have:=zs0 h hj k Qo Qo;omega
theorem z1r(W:Q8)(c:Int):Gk W c<=296:=by
 have key:∀k:Nat,zi0 W c k<=37*k:=by
  intro k
  induction k with
  | zero=>exact I7 _
  | succ k ih=>
   have:=z1p (gi W.ID (k:Int)).IP c;simp only[zi0];omega
 exact key 8
theorem HG{b b':Ve}{c:Int}(h:∀d:Nat,(d:Int)≠c->gi b'.locals (d:Int)=gi b.locals (d:Int)):∀n:Nat,zhl b' c n=zhl b c n
 | 0=>rfl
 | n+1=>by
  simp only[zhl];rw[HG h n]
  by_cases e:(n:Int)=c
  ·simp[e]
  ·rw[h n e]
theorem zn5{b b':Ve}{c:Int}{e:Nat}(he:(e:Int)≠c)(h0:gi b'.locals (e:Int)=0)(h1:gi b.locals (e:Int)>0)(h:∀d:Nat,d≠e->gi b'.locals (d:Int)=gi b.locals (d:Int)):∀n:Nat,zhl b' c n+(if e<n then 1 else 0)=zhl b c n
 | 0=>rfl
 | n+1=>by
  have ih:=zn5 he h0 h1 h n;simp only[zhl]
  by_cases hn:n=e
  ·subst hn;rw[B' (Nat.lt_irrefl n)] at ih;rw[C' (Nat.lt_succ_self n),B' (by rintro⟨_,h⟩; omega),C' ⟨he,h1⟩];omega
  ·rw[h n hn];generalize (if (n:Int)≠c/\gi b.locals (n:Int)>0 then 1 else 0)=y
   by_cases IN:e<n
   ·rw[C' IN] at ih;rw[C' Qo];omega
   ·rw[B' IN] at ih;rw[B' Qo];omega
theorem zyl{b:Ve}(h:P0 b){c:Int}{e:Nat}(e1:(e:Int)<(b.locals.length:Int))(hp:gi b.locals (e:Int)>0):Jv (Yo b (e:Int)) c<=Jv b c:=by
 have hl:=h.l2
 have SN:∀d:Nat,gi (Yo b (e:Int)).locals (d:Int)=if e=d then 0 else gi b.locals (d:Int):=λd=>by
  show gi (b.locals.set (e:Int).toNat 0) (d:Int)=_;rw[QM _ _ Qo e1 Qo]
  by_cases h:e=d
  ·subst h; simp
  ·rw[B' h,B' Qo]
 unfold Jv
 by_cases hc:(e:Int)=c
 ·have h1:=HG (b:=b) (b':=Yo b (e:Int)) (c:=c) (λd hd=>by rw[SN d,B' (λh=>hd (by rw[<-h]; exact hc))]) 4
  have hw:gi b.Ry c=false:=by
   cases hd:gi b.Ry c with
   | false=>rfl
   | true=>
    have:=((h.each c Qo Qo).2.2 hd).1;rw[<-hc] at this; omega
  rw[h1];unfold zrn;rw[hw]
  split <;> simp
 ·have h1:=zn5 (b:=b) (b':=Yo b (e:Int)) (c:=c) hc (by rw[SN e,C' rfl]) hp (λd hd=>by rw[SN d,B' (λh=>hd h.symm)]) 4;rw[C' Qo] at h1;have:zrn (Yo b (e:Int)) c<=1:=by unfold zrn; split <;> omega
  omega
theorem zym{b:Ve}{c:Int}(c0:0<=c)(c1:c<(b.locals.length:Int))(hdl:b.Ry.length=b.locals.length)(hw:gi b.Ry c=false):Jv (Yf b c).1 c<=Jv b c/\((Yf b c).2=2->Jv (Yf b c).1 c<Jv b c)/\((Yf b c).2≠2->gi (Yf b c).1.Ry c=false):=by
 unfold Yf;split
 ·exact⟨I7 _,λh=>(by cases h),λ_=>hw⟩
 ·have h1:=HG (b:=b) (b':=⟨b.IX,b.RD-ZI 20 b.RD,b.Sl,b.locals.set c.toNat (ZI 20 b.RD),b.Ry.set c.toNat (ZI 20 b.RD==0)⟩) (c:=c) (λd hd=>by
   show gi (b.locals.set c.toNat (ZI 20 b.RD)) (d:Int)=_;rw[QM _ _ c0 c1 Qo,B' λh=>hd h.symm]) 4
  have hd:gi (b.Ry.set c.toNat (ZI 20 b.RD==0)) c=(ZI 20 b.RD==0):=by rw[QM _ _ c0 Qo c0,C' rfl]
  unfold Jv;rw[h1];unfold zrn;rw[hw];simp only[hd]
  by_cases hm:ZI 20 b.RD=0
  ·rw[C' (show (ZI 20 b.RD==0)=true by rw[hm]; rfl),B' Qd];exact⟨Qo,λ_=>by omega,λh=>Ir (C' hm) h⟩
  ·have hb:(ZI 20 b.RD==0)=false:=by simpa using hm
   rw[hb];exact⟨I7 _,λh=>(by rw[B' hm] at h; cases h),λ_=>rfl⟩
theorem zu6{b:Ve}{c n:Int}(c0:0<=c)(c1:c<(b.locals.length:Int)):Jv (XX b c n).1 c=Jv b c:=by
 unfold XX;split
 ·rfl
 ·unfold Jv zrn
  rw[HG (b:=b) (c:=c) (λd hd=>by
   show gi (b.locals.set c.toNat (gi b.locals c-n)) (d:Int)=_;rw[QM _ _ c0 c1 Qo,B' λh=>hd h.symm]) 4]
theorem zj1{F K:Int}{W:Q8}(h:SF F K W){k:Int}(hu:Q6 W.ID k=true)(hq:(gi W.ID k).IP.IX≠0)(c:Int):∀d:Nat,d<=W.IE.length->(∀j:Int,0<=j->Jv (gi (ZJ W k d).ID j).IP c<=Jv (gi W.ID j).IP c)
 | 0,_=>λ_ _=>I7 _
 | d+1,hd=>by
  have ih:=zj1 h hu hq c d Qo;obtain⟨a,b,q⟩:=GN h hu hq d Qo;simp only[ZJ];split
  ·rename_i hc;have hu':Q6 (ZJ W k d).ID k=true:=by rw[b.g.cQ]; exact hu
   obtain⟨u0,u1,hg⟩:=a.w.a.u hu';have hb:=hg.IP q;have hl:=a.w.a.gl;intro j hj;show Jv (gi (Rn _ k _).ID j).IP c<=_;rw[Xk u0 Qo hj];split
   ·rename_i e;subst e;exact IB (zyl hb.1 (by rw[hb.2.1,b.c]; omega) hc.1) (ih k hj)
   ·exact ih j hj
  ·exact ih
theorem zj2{F K:Int}{W:Q8}(h:SF F K W)(c:Int):∀k:Nat,k<=8->∀j:Int,0<=j->Jv (gi (Yd W k).ID j).IP c<=Jv (gi W.ID j).IP c
 | 0,_=>λ_ _=>I7 _
 | k+1,hk=>by
  have ih:=zj2 h c k Qo;obtain⟨a,b⟩:=TT h k Qo;have hl:=a.w.a.gl;simp only[Yd];split
  ·rename_i hc;exact λj hj=>IB (zj1 a (Q4.2 ⟨Qo,Qo,hc.1⟩) hc.2 c _ (I7 _) j hj) (ih j hj)
  ·exact ih
theorem zt0{K:Int}{W:Q8}(sw:SW K W){c:Int}(c0:0<=c)(c1:c<(W.IE.length:Int))(i:Int)(hi:0<=i):(gi (UP W c).ID i).IP=(gi W.ID i).IP:=(zo8 sw c0 c1).1.b i hi
theorem zjb{K:Int}{W:Q8}(sw:SW K W)(hK:0<=K)(i:Int)(hi:0<=i):∀c:Nat,c<=W.IE.length->(gi (XM W c).ID i).IP=(gi W.ID i).IP
 | 0,_=>rfl
 | c+1,hc=>by
  obtain⟨s1,f1⟩:=Lg sw hK c Qo;rw[show XM W (c+1)=UP (XM W c) (c:Int) from rfl,zt0 s1 Qo (by rw[f1.c]; omega) i hi,zjb sw hK i hi c Qo]
theorem zqy{K:Int}{W:Q8}(sw:SW K W)(hK:0<=K)(c:Int):Gk (Qg W) c<=Gk W c:=by
 obtain⟨s1,o1⟩:=OH (F:=K) (K:=K+Qi) (sw.sf.mono (I2 _) (by simp only[Qi]; omega)) (I2 _) W.IE.length (I7 _);obtain⟨s2,b2⟩:=TT s1 8 (I7 _);refine HM (λk hk=>?_) 8 (I7 _);have h1:(gi (Qg W).ID (k:Int)).IP=(gi (Yd (ZU W W.IE.length) 8).ID (k:Int)).IP:=zjb s2.w (by simp only[Qi]; omega) (k:Int) Qo W.IE.length (by show W.IE.length<=(Yd (ZU W W.IE.length) 8).IE.length; rw[b2.c,o1.c]; exact I7 _);rw[h1];have h2:=zj2 s1 c 8 (I7 _) (k:Int) Qo;rw[o1.b (k:Int) Qo] at h2;exact h2
def Xf(W:Q8)(t:Int):List Int:=QP W.ID (Q7 W t).group++[0]
def zbo(W:Q8)(c g:Int):Q8×Bool:=if (gi W.ID g).IP.IX=0 then (W,true) else (RL W g (Yf (gi W.ID g).IP c).1,decide ((Yf (gi W.ID g).IP c).2≠2))
def zko(c:Int):List Int->Q8->Q8×Bool
 | [],W=>(W,true)
 | g::l,W=>if (zbo W c g).2=true then zko c l (zbo W c g).1 else ((zbo W c g).1,false)
def zok(W:Q8)(c g n:Int):Int:=if (gi W.ID g).IP.IX>0 then ZI n (gi (gi W.ID g).IP.locals c) else n
def zeq(W:Q8)(c:Int):List Int->Int->Int
 | [],n=>n
 | g::l,n=>zeq W c l (zok W c g n)
def zbb(W:Q8)(c n g:Int):LR:={ Qa W g c with v:=if g≠0 then (Qa W g c).v+Ze n (Qa W g c).w else (Qa W g c).v,sum:=(Qa W g c).sum+n }
def zje(W:Q8)(c n g:Int):Ve:=if (gi W.ID g).IP.IX>0 then (Y1 (gi W.ID g).IP ⟨2,c,n⟩).1 else (gi W.ID g).IP
def Gx(W:Q8)(c n g:Int):Q8:=Rv W g c (zbb W c n g)
def AK(W:Q8)(c n g:Int):ZX:={ gi (Gx W c n g).ID g with sum:=(gi W.ID g).sum+n }
def zcu(W:Q8)(c n g:Int):Q8:=RL (Rn (Gx W c n g) g (AK W c n g)) g (zje W c n g)
def zk8(c n:Int):List Int->Q8->Q8
 | [],W=>W
 | g::l,W=>zk8 c n l (zcu W c n g)
def Gy(W:Q8)(t n:Int):Lm:={ Q7 W t with v:=(Q7 W t).v+Ze n (Qe (Q7 W t).nice),sum:=(Q7 W t).sum+n,used:=(Q7 W t).used+n }
def zr4(W:Q8)(c n:Int):KI:={ gi W.IE c with busy:=(gi W.IE c).busy+n,WQ:=(gi W.IE c).WQ+n }
def Mg(W:Q8)(c t n:Int):Q8:=S9 (zk8 c n (Xf W t) (IU W t (Gy W t n))) c (zr4 W c n)
def YX(W:Q8)(c t:Int):KI:=if t≠(gi W.IE c).cur\/(gi W.IE c).WQ>=50 then { gi W.IE c with cur:=t,WQ:=0 } else gi W.IE c
def Xr(W:Q8)(c t:Int):Q8:=S9 W c (YX W c t)
def GO(W:Q8)(c n:Int):KI:={ gi W.IE c with idle:=(gi W.IE c).idle+n }
def Xi(W:Q8)(c:Int):Q8×Bool:=zko c (Xf W (Qw W c)) (Xr W c (Qw W c))
def Vq(W:Q8)(c left:Int):Int:=zeq (Xi W c).1 c (Xf W (Qw W c)) left
def BE(W:Q8)(c left:Int):Q8×Int:=
 if (Xi W c).2=true then (Qg (Mg (Xi W c).1 c (Qw W c) (Vq W c left)),left-Vq W c left) else (Qg (Rz (Xi W c).1 c),left)
def zfk(c:Int):Nat->Q8->Int->Q8
 | 0,W,_=>W
 | f+1,W,left=>if left<=0 then Qg W else if Qw W c<0 then Qg (Rz (S9 W c (GO W c left)) c) else zfk c f (BE W c left).1 (BE W c left).2
structure zv4 (K c:Int) (W W':Q8):Prop where
 sw:SW K W'
 o:Tm W W'
 q:∀i:Int,0<=i->(gi W'.ID i).IP.IX=(gi W.ID i).IP.IX
 l:∀i:Int,0<=i->gi (gi W.ID i).IP.locals c>0->gi (gi W'.ID i).IP.locals c>0
 p:∀i:Int,0<=i->Jv (gi W'.ID i).IP c<=Jv (gi W.ID i).IP c
 su:O7 W W'
theorem zv4.refl{K c:Int}{W:Q8}(h:SW K W):zv4 K c W W:=⟨h,Tm.refl _,λ_ _=>rfl,λ_ _ h=>h,λ_ _=>I7 _,O7.refl _⟩
theorem zv4.trans{K c:Int}{A B C:Q8}(h:zv4 K c A B)(k:zv4 K c B C):zv4 K c A C:=⟨k.sw,h.o.trans k.o,λi hi=>(k.q i hi).trans (h.q i hi),λi hi g=>k.l i hi (h.l i hi g),λi hi=>IB (k.p i hi) (h.p i hi),h.su.trans k.su⟩
theorem zvl{b:Ve}(h:P0 b){c:Int}(c0:0<=c)(c1:c<(b.locals.length:Int)):(gi b.locals c>0->(Yf b c).1=b)/\((Yf b c).2≠2->gi (Yf b c).1.locals c>0):=by
 unfold Yf;split
 ·rename_i hp;exact⟨λ_=>rfl,λ_=>hp⟩
 ·rename_i hn;refine⟨λh=>Ir h hn,λh2=>?_⟩;show gi (b.locals.set c.toNat (ZI 20 b.RD)) c>0;rw[QM _ _ c0 c1 c0,C' rfl];have hm:=zbi h.p1
  by_cases e:ZI 20 b.RD=0
  ·exact Ir (C' e) h2
  ·omega
theorem zzh{K c:Int}{W:Q8}(sw:SW K W)(c0:0<=c)(c1:c<(W.IE.length:Int)){g:Int}(hu:Q6 W.ID g=true)(hd:(gi W.ID g).IP.IX≠0->gi (gi W.ID g).IP.Ry c=false) :
  zv4 K c W (zbo W c g).1/\((zbo W c g).2=true->((gi W.ID g).IP.IX≠0->gi (gi (zbo W c g).1.ID g).IP.locals c>0)/\∀i:Int,0<=i->((gi W.ID i).IP.IX≠0->gi (gi W.ID i).IP.Ry c=false)->(gi W.ID i).IP.IX≠0->gi (gi (zbo W c g).1.ID i).IP.Ry c=false)
   /\ ((zbo W c g).2=false->Jv (gi (zbo W c g).1.ID g).IP c<Jv (gi W.ID g).IP c):=by
 obtain⟨u0,u1,hg⟩:=sw.a.u hu;have bZ:=sw.a.gl;unfold zbo;split
 ·rename_i hq;exact⟨zv4.refl sw,λ_=>⟨λh=>Ir hq h,λi _ h h2=>h h2⟩,λh=>by cases h⟩
 ·rename_i hq;obtain⟨hb,hbl,_⟩:=hg.IP hq;have rV:c<((gi W.ID g).IP.locals.length:Int):=Qo;obtain⟨bR,hl2,hq2⟩:=zze hb c0 rV;obtain⟨p1,p2,p3⟩:=zym c0 rV hb.dl (hd hq);obtain⟨l1,l2⟩:=zvl hb c0 rV;have ha:=sw.a.RL (g:=g) hu hq bR (by rw[hl2]; exact hbl) hq2;have e:∀i:Int,0<=i->gi (RL W g (Yf (gi W.ID g).IP c).1).ID i=if g=i then { gi W.ID g with IP:=(Yf (gi W.ID g).IP c).1 } else gi W.ID i:=λi hi=>Xk u0 Qo hi
  have ob:=Ac (W:=W) (b:=(Yf (gi W.ID g).IP c).1) u0 Qo;refine⟨⟨(sw.sf.A46 ob ha).w,ob,λi hi=>?_,λi hi h=>?_,λi hi=>?_,zzb _ _ _⟩,λh=>?_,λh=>?_⟩
  ·show (gi (RL W g _).ID i).IP.IX=_;rw[e i hi]; split
   ·rename_i e; subst e; exact hq2
   ·rfl
  ·show gi (gi (RL W g _).ID i).IP.locals c>0;rw[e i hi]; split
   ·rename_i e; subst e;show gi (Yf (gi W.ID g).IP c).1.locals c>0;rw[l1 h]; exact h
   ·exact h
  ·show Jv (gi (RL W g _).ID i).IP c<=_;rw[e i hi]; split
   ·rename_i e; subst e; exact p1
   ·exact I7 _
  ·have h:(Yf (gi W.ID g).IP c).2≠2:=Ot h;refine⟨λ_=>?_,λi hi h1 h2=>?_⟩
   ·show gi (gi (RL W g _).ID g).IP.locals c>0;rw[e g u0,C' rfl];exact l2 h
   ·show gi (gi (RL W g _).ID i).IP.Ry c=false;rw[e i hi]; split
    ·rename_i e; subst e; exact p3 h
    ·exact h1 h2
  ·have h:(Yf (gi W.ID g).IP c).2=2:=Iq λhn=>Ou h hn
   show Jv (gi (RL W g _).ID g).IP c<_;rw[e g u0,C' rfl];exact p2 h
theorem zzi{K c:Int}(c0:0<=c):∀(l:List Int) {W:Q8},SW K W->c<(W.IE.length:Int)->(∀g∈l,Q6 W.ID g=true)->(∀g∈l,(gi W.ID g).IP.IX≠0->gi (gi W.ID g).IP.Ry c=false)->
  zv4 K c W (zko c l W).1/\((zko c l W).2=true->∀g∈l,(gi W.ID g).IP.IX≠0->gi (gi (zko c l W).1.ID g).IP.locals c>0)/\((zko c l W).2=false->∃g∈l,Jv (gi (zko c l W).1.ID g).IP c<Jv (gi W.ID g).IP c)
 | [],W,sw,_,_,_=>⟨zv4.refl sw,λ_ g hg=>(by cases hg),λh=>by cases h⟩
 | g::l,W,sw,c1,hu,hd=>by
  obtain⟨a,b,d⟩:=zzh sw c0 c1 (hu g I9) (hd g I9);simp only[zko]
  by_cases h2:(zbo W c g).2=true
  ·rw[C' h2];obtain⟨b1,b2⟩:=b h2;have h0:∀x∈l,0<=x:=λx hx=>(Q4.1 (hu x (I1 _ hx))).1
   obtain⟨a',b',d'⟩:=zzi c0 l (W:=(zbo W c g).1) a.sw (by rw[a.o.c]; exact c1) (λx hx=>by rw[a.o.g.cQ]; exact hu x (I1 _ hx)) λx hx hq=>by
    rw[a.q x (h0 x hx)] at hq;exact b2 x (h0 x hx) (hd x (I1 _ hx)) hq
   refine⟨a.trans a',λh x hx hq=>?_,λh=>?_⟩
   ·rcases Ii.1 hx with e | e
    ·subst e;exact a'.l x (Q4.1 (hu x I9)).1 (b1 hq)
    ·exact b' h x e (by rw[a.q x (h0 x e)]; exact hq)
   ·obtain⟨x,hx,IN⟩:=d' h;exact⟨x,I1 _ hx,Nat.lt_of_lt_of_le IN (a.p x (h0 x hx))⟩
  ·rw[B' h2];exact⟨a,λh=>(by cases h),λ_=>⟨g,I9,d (by simpa using h2)⟩⟩
theorem zjw{W:Q8}{c:Int}:∀(l:List Int) (n:Int),1<=n->(∀g∈l,(gi W.ID g).IP.IX>0->gi (gi W.ID g).IP.locals c>0)->1<=zeq W c l n/\zeq W c l n<=n
 | [],n,h,_=>⟨h,I2 _⟩
 | g::l,n,h,hl=>by
  simp only[zeq]
  have hm:1<=zok W c g n/\zok W c g n<=n:=by
   unfold zok;split
   ·rename_i hq;have:=hl g I9 hq;unfold ZI
    split <;> omega
   ·exact⟨h,I2 _⟩
  have:=zjw l (zok W c g n) hm.1 λx hx=>hl x (I1 _ hx)
  omega
theorem HW(n w:Int)(h0:0<=n)(h1:n<=100):0<=Ze n w/\Ze n w<=Qi:=by
 by_cases h:1<=w/\w<=20
 ·rw[Ph h0 Qo h.1 h.2];have hs:=zfx h.1 h.2;refine⟨Int.mul_nonneg h0 Qo,?_⟩
  calc n*zkj w<=100*zkj w:=Int.mul_le_mul_of_nonneg_right h1 Qo
   _<=100*232792560:=Int.mul_le_mul_of_nonneg_left hs.2 Qd
   _<=Qi:=Qd
 ·rw[HX Qo]; exact⟨I2 _,Qd⟩
theorem zty{b:Ve}(h:P0 b){c n:Int}(c0:0<=c)(c1:c<(b.locals.length:Int)):P0 (Y1 b ⟨2,c,n⟩).1/\(Y1 b ⟨2,c,n⟩).1.locals.length=b.locals.length/\(Y1 b ⟨2,c,n⟩).1.IX=b.IX/\Jv (Y1 b ⟨2,c,n⟩).1 c=Jv b c:=by
 have e:Y1 b ⟨2,c,n⟩=XX b c n:=by
  unfold Y1;rw[B' (show ¬(2:Int)=4 by decide),B' (by rw[Qv.2 (by show 0<=c/\c<=_; omega)]; decide),B' (show ¬(2:Int)=1 by decide),C' rfl]
 rw[e];obtain⟨a,b',d⟩:=zvi h (n:=n) c0 c1;exact⟨a,b',d,zu6 c0 c1⟩
structure zzq (K S c n:Int) (W W':Q8):Prop where
 sw:SW K W'
 rb:RB S W'
 now:W'.now=W.now
 t:W'.tasks=W.tasks
 cp:W'.IE=W.IE
 g:Z1 W.ID W'.ID
 p:∀i:Int,0<=i->Jv (gi W'.ID i).IP c=Jv (gi W.ID i).IP c
theorem zp1{K S c n:Int}{W:Q8}(sw:SW K W)(rb:RB S W)(hS:S+n<=100000000000000000)(c0:0<=c)(c1:c<(W.IE.length:Int)){g:Int}(hu:Q6 W.ID g=true)(n0:0<=n)(n1:n<=100):zzq (K+Qi) (S+n) c n W (zcu W c n g):=by
 obtain⟨u0,u1,hg⟩:=sw.a.u hu;have bZ:=sw.a.gl;have hsl:=sw.a.sl hu;have hsr:=sw.s g c hu c0 c1;have hv:=HW n (Qa W g c).w n0 n1;have hlg:0<=Qi:=Qd;have ea:∀{i:Int},0<=i->gi (Gx W c n g).ID i=if g=i then { gi W.ID g with IF:=(gi W.ID g).IF.set c.toNat (zbb W c n g) } else gi W.ID i:=λhi=>Xk u0 Qo hi
 have eg:∀i:Int,0<=i->gi (zcu W c n g).ID i=if g=i then { gi W.ID g with IF:=(gi W.ID g).IF.set c.toNat (zbb W c n g),sum:=(gi W.ID g).sum+n,IP:=zje W c n g } else gi W.ID i:=λi hi=>by
  have mX:g<((Rn (Gx W c n g) g (AK W c n g)).ID.length:Int):=by
   have:(Rn (Gx W c n g) g (AK W c n g)).ID.length=W.ID.length:=by simp[Rn,Gx,Rv]
   rw[this]; omega
  have hl2:g<((Gx W c n g).ID.length:Int):=by
   have:(Gx W c n g).ID.length=W.ID.length:=by simp[Rn,Gx,Rv]
   rw[this]; omega
  unfold zcu RL;rw[Xk u0 mX hi,Xk u0 hl2 hi,Xk u0 hl2 u0,C' rfl,ea hi];split
  ·unfold AK;rw[ea u0,C' rfl]
  ·rfl
 have es:∀i d:Int,0<=i->0<=d->Qa (zcu W c n g) i d=if g=i/\c=d then zbb W c n g else Qa W i d:=λi d hi hd=>by
  rw[<-Jw (W:=W) (s:=zbb W c n g) u0 Qo c0 Qo hi hd];unfold Qa;show gi (gi (zcu W c n g).ID i).IF d=gi (gi (Gx W c n g).ID i).IF d;rw[eg i hi,ea hi]
  split <;> rfl
 have hT:Z1 W.ID (zcu W c n g).ID:=by
  have t1:=YL (W:=W) (g:=g) (c:=c) (s:=zbb W c n g) u0 Qo;have t2:=U9 (W:=Gx W c n g) (g:=g) (x:=AK W c n g) u0 (by show g<((Gx W c n g).ID.length:Int); rw[show (Gx W c n g).ID.length=W.ID.length from t1.len]; omega) rfl rfl rfl;have t3:=U9 (W:=Rn (Gx W c n g) g (AK W c n g)) (g:=g) (x:={ gi (Rn (Gx W c n g) g (AK W c n g)).ID g with IP:=zje W c n g }) u0 (by rw[t2.len,show (Gx W c n g).ID.length=W.ID.length from t1.len]; omega) rfl rfl rfl;exact(t1.trans t2).trans t3
 have hB:(zje W c n g).IX=(gi W.ID g).IP.IX/\Jv (zje W c n g) c=Jv (gi W.ID g).IP c/\((gi W.ID g).IP.IX=0->zje W c n g=(gi W.ID g).IP)/\((gi W.ID g).IP.IX≠0->P0 (zje W c n g)/\(zje W c n g).locals.length=W.IE.length):=by
  unfold zje;split
  ·rename_i hq;obtain⟨hb,hbl,_⟩:=hg.IP Qo;obtain⟨a,b,d,e⟩:=zty hb (n:=n) c0 Qo;exact⟨d,e,λh=>by omega,λ_=>⟨a,by rw[b]; exact hbl⟩⟩
  ·rename_i hq;refine⟨rfl,rfl,λ_=>rfl,λh=>?_⟩;obtain⟨hb,hbl,_⟩:=hg.IP h;exact⟨hb,hbl⟩
 have hrg:=rb.g g hu
 have hW:WA (zcu W c n g):=by
  have hl:=sw.a;refine⟨hl.n1,hl.n2,hl.c1,hl.c2,hl.t,hT.tree hl.tree,hl.ups,λk k0 k1=>?_⟩;unfold Kn;rw[eg k k0];split
  ·rename_i e;subst e;refine⟨λh=>?_,λ_=>⟨hg.w1,hg.w2,hg.m,hg.m0,Xl.2 ⟨by show 0<=(gi W.ID g).sum+n; omega,by show (gi W.ID g).sum+n<=_; omega⟩,by show (List.set _ _ _).length=_; rw[E']; exact hg.len,λh=>⟨(hg.root h).1,(hg.root h).2.1,by show (zje W c n g).IX=0; rw[hB.1]; exact(hg.root h).2.2⟩,λh=>?_,λh=>?_⟩⟩
   ·have h:(gi W.ID g).used=false:=h;rw[(Q4.1 hu).2.2] at h; cases h
   ·have h:(zje W c n g).IX=0:=h;rw[hB.1] at h;have:=hg.none h;exact⟨by show OJ (zje W c n g)=true; rw[hB.2.2.1 h]; exact this.1,this.2⟩
   ·have h:(zje W c n g).IX≠0:=h;rw[hB.1] at h;obtain⟨_,_,hp⟩:=hg.IP h;exact⟨(hB.2.2.2 h).1,(hB.2.2.2 h).2,hp⟩
  ·have:=hl.grp k k0 k1;exact⟨this.1,λhu=>by have:=this.2 hu; exact⟨this.w1,this.w2,this.m,this.m0,this.s,this.len,this.root,this.none,this.IP⟩⟩
 refine⟨⟨hW,λt a b m=>?_,λt a b=>?_,λk d u a b=>?_,sw.cu⟩,⟨rb.n,λt a b=>?_,λk d u a b=>?_,λk u=>?_,λd a b=>?_⟩,rfl,rfl,rfl,hT,λi hi=>?_⟩
 ·rw[hT.cQ]; exact sw.t t a b m
 ·have:=sw.tv t a b;exact⟨this.1,by show (Q7 W t).v<=_; omega⟩
 ·rw[hT.cQ] at u;have hk:=(Q4.1 u).1;have h:=sw.s k d u a b;rw[es k d hk a];split
  ·refine⟨hsr.1,by show (Qa W g c).floor<=_; omega,?_,?_,hsr.2.2.2.2.1,hsr.2.2.2.2.2⟩
   ·show 0<=if g≠0 then (Qa W g c).v+Ze n (Qa W g c).w else (Qa W g c).v
    split <;> omega
   ·show (if g≠0 then (Qa W g c).v+Ze n (Qa W g c).w else (Qa W g c).v)<=_
    split <;> omega
  ·exact⟨h.1,Qo,h.2.2.1,Qo,h.2.2.2.2.1,h.2.2.2.2.2⟩
 ·have:=rb.t t a b;exact⟨this.1,by show (Q7 W t).sum<=_; omega,this.2.2.1,by show (Q7 W t).used<=_; omega⟩
 ·rw[hT.cQ] at u;have hk:=(Q4.1 u).1;have h:=rb.s k d u a b;rw[es k d hk a];split
  ·have h2:=rb.s g c hu c0 c1;exact⟨by show 0<=(Qa W g c).sum+n; omega,by show (Qa W g c).sum+n<=_; omega⟩
  ·exact⟨h.1,Qo⟩
 ·rw[hT.cQ] at u;have h:=rb.g k u;rw[eg k (Q4.1 u).1];split
  ·exact⟨by show 0<=(gi W.ID g).sum+n; omega,by show (gi W.ID g).sum+n<=_; omega⟩
  ·exact⟨h.1,Qo⟩
 ·have:=rb.c d a b;exact⟨this.1,by show (gi W.IE d).busy<=_; omega,this.2.2.1,this.2.2.2.1,this.2.2.2.2⟩
 ·rw[eg i hi];split
  ·rename_i e; subst e; exact hB.2.1
  ·rfl
theorem RB.mono{S S':Int}{W:Q8}(h:RB S W)(k:S<=S'):RB S' W:=
 ⟨h.n,λt a b=>by have:=h.t t a b; omega,λk c u a b=>by have:=h.s k c u a b; omega,λk u=>by have:=h.g k u; omega,λc a b=>by have:=h.c c a b; omega⟩
theorem RB.S9{S:Int}{W:Q8}(h:RB S W){c:Int}(c0:0<=c)(c1:c<(W.IE.length:Int)){x:KI}(hx:0<=x.busy/\x.busy<=S/\0<=x.idle/\x.idle<=50000000000000000/\0<=x.WQ/\x.WQ<=149):RB S (S9 W c x):=by
 have hl:(W.IE.set c.toNat x).length=W.IE.length:=E';refine⟨h.n,h.t,λk d u a b=>?_,h.g,λd a b=>?_⟩
 ·have b:d<(((W.IE.set c.toNat x).length:Nat):Int):=b;rw[hl] at b;exact h.s k d u a b
 ·have b:d<(((W.IE.set c.toNat x).length:Nat):Int):=b;rw[hl] at b;show _<=(gi (W.IE.set c.toNat x) d).busy/\(gi (W.IE.set c.toNat x) d).busy<=_/\_<=(gi (W.IE.set c.toNat x) d).idle/\(gi (W.IE.set c.toNat x) d).idle<=_/\_<=(gi (W.IE.set c.toNat x) d).WQ/\(gi (W.IE.set c.toNat x) d).WQ<=_;rw[QM _ _ c0 c1 a];split
  ·exact hx
  ·exact h.c d a b
theorem RB.IU{S:Int}{W:Q8}(h:RB S W)(hl:W.tasks.length=12){t:Int}(t0:0<=t)(t1:t<12){x:Lm}(hx:0<=x.sum/\x.sum<=S/\0<=x.used/\x.used<=S):RB S (IU W t x):=by
 refine⟨h.n,λu a b=>?_,h.s,h.g,h.c⟩;show _<=(gi (W.tasks.set t.toNat x) u).sum/\(gi (W.tasks.set t.toNat x) u).sum<=_/\_<=(gi (W.tasks.set t.toNat x) u).used/\(gi (W.tasks.set t.toNat x) u).used<=_;rw[QM _ _ t0 Qo a];split
 ·exact hx
 ·exact h.t u a b
theorem zzq.trans{K S K' S' c n:Int}{A B C:Q8}(h:zzq K S c n A B)(k:zzq K' S' c n B C):zzq K' S' c n A C:=
 ⟨k.sw,k.rb,k.now.trans h.now,k.t.trans h.t,k.cp.trans h.cp,h.g.trans k.g,λi hi=>(k.p i hi).trans (h.p i hi)⟩
theorem zwo{c n:Int}(c0:0<=c)(n0:0<=n)(n1:n<=100):∀(l:List Int) {K S:Int} {W:Q8},SW K W->RB S W->S+100*(l.length:Int)<=100000000000000000->c<(W.IE.length:Int)->(∀g∈l,Q6 W.ID g=true)->
  zzq (K+Qi*(l.length:Int)) (S+100*(l.length:Int)) c n W (zk8 c n l W)
 | [],K,S,W,sw,rb,_,_,_=>⟨sw.mono Qs,rb.mono Qs,rfl,rfl,rfl,Z1.refl _,λ_ _=>rfl⟩
 | g::l,K,S,W,sw,rb,hS,c1,hu=>by
  rw[List.length_cons] at hS ⊢;have h1:=zp1 sw rb Qo c0 c1 (hu g I9) n0 n1;have h2:=zwo c0 n0 n1 l (W:=zcu W c n g) h1.sw (h1.rb.mono (show S+n<=S+100 by omega)) Qo (by rw[h1.cp]; exact c1) λx hx=>by rw[h1.g.cQ]; exact hu x (I1 _ hx)
  have h3:=h1.trans h2;exact⟨h3.sw.mono (by simp only[Qi]; omega),h3.rb.mono Qo,h3.now,h3.t,h3.cp,h3.g,h3.p⟩
theorem z1q{W W':Q8}{c:Int}(h:∀i:Int,0<=i->Jv (gi W'.ID i).IP c=Jv (gi W.ID i).IP c):Gk W' c=Gk W c:=
 Nat.le_antisymm (HM (λk _=>Nat.le_of_eq (h k Qo)) 8 (I7 _)) (HM (λk _=>Nat.le_of_eq (h k Qo).symm) 8 (I7 _))
theorem zbk{W:Q8}(ha:WA W){t:Int}(hu:Q6 W.ID (Q7 W t).group=true):(∀g∈Xf W t,Q6 W.ID g=true)/\(Xf W t).length<=4:=by
 refine⟨λg hg=>?_,?_⟩
 ·rcases Im.1 hg with h | h
  ·exact(YQ ha.tree _ hu g h).1
  ·rw[IA.1 h]; exact ha.root
 ·have:=zfd W.ID 3 (Q7 W t).group;unfold Xf;rw[Io];show (Vc 3 W.ID (Q7 W t).group).length+1<=4;omega
theorem zmo{W W':Q8}(ht:W'.tasks=W.tasks)(hT:Z1 W.ID W'.ID)(t:Int):Xf W' t=Xf W t:=by
 unfold Xf;rw[Jf ht,O0 hT]
def BG(f:Nat):Int:=Qn+(400-(f:Int))*346860914400
def Av(f:Nat):Int:=Qn+(400-(f:Int))*500
structure zgb (f:Nat) (c:Int) (W0 W:Q8) (left:Int):Prop where
 sw:SW (BG f) W
 rb:RB (Av f) W
 dm:Dm W c
 c0:0<=c
 c1:c<(W.IE.length:Int)
 up:(gi W.IE c).up=true
 now:W.now=W0.now
 len:W.IE.length=W0.IE.length
 l0:0<=left
 l1:left<=100
 f1:left+Gk W c<(f:Int)
 f2:f<=400
theorem BH{f:Nat}(h:f<=400):Qn<=BG f/\BG f<=50200000000000000:=by
 unfold BG Qn; omega
theorem zmr{f:Nat}(h:f<=400):Qn<=Av f/\Av f<=50000000000200000:=by
 unfold Av Qn; omega
theorem zq9{W:Q8}(wp:YI W)(r:LO W){c n:Int}(c0:0<=c)(c1:c<(W.IE.length:Int))(up:(gi W.IE c).up=true)(n0:0<=n)(n1:n<=100):zgb 400 c W W n:=by
 have hp:=z1r W c;exact⟨(MR wp r).mono (by unfold BG; omega),(z45 wp r).mono (by unfold Av; omega),zwx wp c0 c1,c0,c1,up,rfl,rfl,n0,n1,Qo,I7 _⟩
theorem BM{K S:Int}{c t:Int}{W:Q8}(sw:SW K W)(rb:RB S W)(c0:0<=c)(c1:c<(W.IE.length:Int))(up:(gi W.IE c).up=true)(t0:0<=t)(t1:t<12) :
  SW K (Xr W c t)/\RB S (Xr W c t)/\(gi (Xr W c t).IE c).up=true/\(gi (Xr W c t).IE c).WQ<50/\(gi (Xr W c t).IE c).cur=t/\(Xr W c t).IE.length=W.IE.length:=by
 have e:gi (Xr W c t).IE c=YX W c t:=(QM _ _ c0 c1 c0).trans (C' rfl);have hl:(Xr W c t).IE.length=W.IE.length:=E';have hup:(YX W c t).up=true:=by unfold YX; split <;> exact up
 have hr:=rb.c c c0 c1;have hcu:=sw.cu c c0 c1;refine⟨sw.S9 c0 c1 (AF (c:=c) (by rw[E']; exact sw.a.c2) c0 (by rw[E']; exact c1) (by rw[show gi (W.IE.set c.toNat (YX W c t)) c=_ from e]; exact hup)) ?_ ?_,rb.S9 c0 c1 ?_,by rw[e]; exact hup,?_,?_,hl⟩
 ·unfold YX; split
  ·show -1<=t; omega
  ·exact hcu.1
 ·unfold YX; split
  ·exact t1
  ·exact hcu.2
 ·unfold YX; split
  ·exact⟨hr.1,hr.2.1,hr.2.2.1,hr.2.2.2.1,by show (0:Int)<=0; decide,by show (0:Int)<=149; decide⟩
  ·exact hr
 ·rw[e];unfold YX; split
  ·show (0:Int)<50; decide
  ·omega
 ·rw[e];unfold YX; split
  ·rfl
  ·rename_i h;exact Iq λhn=>h (.inl λe=>hn e.symm)
structure z5n (f:Nat) (c:Int) (W0 W:Q8) (left:Int):Prop where
 line:zrv W (Qw W c) c
 us:Q6 W.ID (Q7 W (Qw W c)).group=true
 pin:∀g∈Xf W (Qw W c),Q6 W.ID g=true
 len:(Xf W (Qw W c)).length<=4
 s1:SW (BG (f+1)) (Xr W c (Qw W c))
 r1:RB (Av (f+1)) (Xr W c (Qw W c))
 WQ:(gi (Xr W c (Qw W c)).IE c).WQ<50
 tk:zv4 (BG (f+1)) c (Xr W c (Qw W c)) (Xi W c).1
 dr:∀g∈Xf W (Qw W c),(gi (Xr W c (Qw W c)).ID g).IP.IX≠0->gi (gi (Xr W c (Qw W c)).ID g).IP.Ry c=false
 m:(Xi W c).2=true->1<=Vq W c left/\Vq W c left<=left
 ch:(Xi W c).2=true->SW (BG (f+1)+5*Qi) (Mg (Xi W c).1 c (Qw W c) (Vq W c left))/\RB (Av (f+1)+500) (Mg (Xi W c).1 c (Qw W c) (Vq W c left))
 nx:zgb f c W0 (BE W c left).1 (BE W c left).2
 gt:Z1 W.ID (BE W c left).1.ID
theorem zk9{K S c t n:Int}{W:Q8}(sw:SW K W)(rb:RB S W)(hS:S+500<=100000000000000000)(c0:0<=c)(c1:c<(W.IE.length:Int))(up:(gi W.IE c).up=true)(WQ:(gi W.IE c).WQ<50)(t0:0<=t)(t1:t<12)(hu:Q6 W.ID (Q7 W t).group=true)(n0:0<=n)(n1:n<=100) :
  SW (K+5*Qi) (Mg W c t n)/\RB (S+500) (Mg W c t n)/\Gk (Mg W c t n) c=Gk W c/\(Mg W c t n).now=W.now/\(Mg W c t n).IE.length=W.IE.length/\(gi (Mg W c t n).IE c).up=true/\SW (K+Qi) (IU W t (Gy W t n))/\RB (S+100) (IU W t (Gy W t n))/\zzq (K+5*Qi) (S+500) c n (IU W t (Gy W t n)) (zk8 c n (Xf W t) (IU W t (Gy W t n))):=by
 have hv:=HW n (Qe (Q7 W t).nice) n0 n1;have hlg:0<=Qi:=Qd;have htv:=sw.tv t t0 t1;have htr:=rb.t t t0 t1;have hcr:=rb.c c c0 c1;obtain⟨hp1,cN⟩:=zbk sw.a hu;have s1:SW (K+Qi) (IU W t (Gy W t n)):=(sw.mono (K':=K+Qi) Qo).IU t0 t1 (x:=Gy W t n) (λh=>sw.t t t0 t1 h) (by show 0<=(Q7 W t).v+Ze n (Qe (Q7 W t).nice); omega) (by show (Q7 W t).v+Ze n (Qe (Q7 W t).nice)<=_; omega);have r1:RB (S+100) (IU W t (Gy W t n)):=(rb.mono (S':=S+100) Qo).IU sw.a.t t0 t1 (x:=Gy W t n) ⟨by show 0<=(Q7 W t).sum+n; omega,by show (Q7 W t).sum+n<=_; omega,by show 0<=(Q7 W t).used+n; omega,by show (Q7 W t).used+n<=_; omega⟩;have h0:=zwo c0 n0 n1 (Xf W t) s1 r1 Qo c1 hp1;have h2:zzq (K+5*Qi) (S+500) c n (IU W t (Gy W t n)) (zk8 c n (Xf W t) (IU W t (Gy W t n))):=⟨h0.sw.mono (by simp only[Qi]; omega),h0.rb.mono Qo,h0.now,h0.t,h0.cp,h0.g,h0.p⟩;have iW:(zk8 c n (Xf W t) (IU W t (Gy W t n))).IE=W.IE:=h2.cp
 have e:gi (Mg W c t n).IE c=zr4 W c n:=by
  show gi ((zk8 c n (Xf W t) (IU W t (Gy W t n))).IE.set c.toNat (zr4 W c n)) c=_;rw[iW];exact(QM _ _ c0 c1 c0).trans (C' rfl)
 have hlen:(Mg W c t n).IE.length=W.IE.length:=by
  show ((zk8 c n (Xf W t) (IU W t (Gy W t n))).IE.set c.toNat (zr4 W c n)).length=_;rw[E',iW]
 have hcu:=sw.cu c c0 c1;refine⟨h2.sw.S9 c0 (by rw[iW]; exact c1) (x:=zr4 W c n) (AF (c:=c) ?_ c0 ?_ ?_) hcu.1 hcu.2,h2.rb.S9 c0 (by rw[iW]; exact c1) (x:=zr4 W c n) ⟨by show 0<=(gi W.IE c).busy+n; omega,by show (gi W.IE c).busy+n<=_; omega,hcr.2.2.1,hcr.2.2.2.1,by show 0<=(gi W.IE c).WQ+n; omega,by show (gi W.IE c).WQ+n<=149; omega⟩,z1q (W':=Mg W c t n) h2.p,h2.now,hlen,by rw[e]; exact up,s1,r1,h2⟩
 ·rw[E',iW]; exact sw.a.c2
 ·rw[E',iW]; exact c1
 ·rw[show gi ((zk8 c n (Xf W t) (IU W t (Gy W t n))).IE.set c.toNat (zr4 W c n)) c=_ from e]; exact up
theorem zfp{K S c:Int}{W:Q8}(sw:SW K W)(rb:RB S W)(hK:0<=K)(c0:0<=c)(c1:c<(W.IE.length:Int))(up:(gi W.IE c).up=true) :
  SW (K+Ud) (Qg W)/\RB S (Qg W)/\Dm (Qg W) c/\(gi (Qg W).IE c).up=true/\(Qg W).now=W.now/\(Qg W).IE.length=W.IE.length/\Gk (Qg W) c<=Gk W c:=by
 obtain⟨s,f⟩:=UN sw hK;have su:=zri W;exact⟨s,rb.sum su f.g f.c,zvf sw hK c0 c1,by rw[su.u]; exact up,f.n,f.c,zqy sw hK c⟩
theorem zq8{f:Nat}{c left:Int}{W0 W:Q8}(h:zgb (f+1) c W0 W left)(hl:0<left)(hp:¬Qw W c<0):z5n f c W0 W left:=by
 have hf:=h.f2;have hh0:(0:Int)<=Qn:=Qd;have hK:=BH (f:=f+1) hf;have hS:=zmr (f:=f+1) hf;have c0:=h.c0;have c1:=h.c1;have eK:BG f=BG (f+1)+346860914400:=by unfold BG; omega
 have eS:Av f=Av (f+1)+500:=by unfold Av; omega
 have mY:=zu7 h.sw.a (h.sw.cu c c0 c1).2 h.dm.cu hp;have hM:Vq W c left=zeq (Xi W c).1 c (Xf W (Qw W c)) left:=rfl;have hT:Xi W c=zko c (Xf W (Qw W c)) (Xr W c (Qw W c)):=rfl;have hR:BE W c left=if (Xi W c).2=true then (Qg (Mg (Xi W c).1 c (Qw W c) (Vq W c left)),left-Vq W c left) else (Qg (Rz (Xi W c).1 c),left):=rfl;have t0:=mY.t0;have t1:=mY.t1;obtain⟨us,_,_⟩:=h.sw.t _ t0 t1 (by rw[mY.st]; decide);obtain⟨pin,CC3⟩:=zbk h.sw.a us;obtain⟨s1,r1,u1,CY6,cu1,l1⟩:=BM h.sw h.rb c0 c1 h.up t0 t1
 have tY:∀g∈Xf W (Qw W c),(gi (Xr W c (Qw W c)).ID g).IP.IX≠0->gi (gi (Xr W c (Qw W c)).ID g).IP.Ry c=false:=λg hg hq=>by
  have hq:(gi W.ID g).IP.IX≠0:=hq;show gi (gi W.ID g).IP.Ry c=false;have hug:=pin g hg;obtain⟨u0,u8,jW⟩:=h.sw.a.u hug;rcases Im.1 hg with hg | hg
  ·have hon:=mY.on g hg;have hz:=(YQ h.sw.a.tree _ us g hg).2;have:=h.dm.on g hug hz;unfold Vp at this;rw[hon] at this
   have hd:Yx W g c=false:=by
    cases hd:Yx W g c with
    | false=>rfl
    | true=>rw[hd] at this; simp at this
   unfold Yx at hd;have:=(jW.IP hq).1.q1;rw[Ih Qo,Bool.true_and] at hd;exact hd
  ·rw[IA.1 hg] at hq jW;exact Ir (jW.root rfl).2.2 hq
 obtain⟨tk,tl,tf⟩:=zzi c0 (Xf W (Qw W c)) s1 (by rw[l1]; exact c1) pin tY;rw[<-hT] at tk tl tf;have eT:(Xi W c).1.tasks=W.tasks:=tk.o.t;have eC:(Xi W c).1.IE=(Xr W c (Qw W c)).IE:=tk.o.c;have eG:Z1 W.ID (Xi W c).1.ID:=tk.o.g;have lT:(Xi W c).1.IE.length=W.IE.length:=by rw[eC,l1]
 have rT:RB (Av (f+1)) (Xi W c).1:=r1.sum tk.su tk.o.g (by rw[eC]);have uT:Q6 (Xi W c).1.ID (Q7 (Xi W c).1 (Qw W c)).group=true:=by rw[eG.cQ,Jf eT]; exact us
 have pT:Xf (Xi W c).1 (Qw W c)=Xf W (Qw W c):=zmo eT eG _;have upT:(gi (Xi W c).1.IE c).up=true:=by rw[eC]; exact u1
 have BI1:(gi (Xi W c).1.IE c).WQ<50:=by rw[eC]; exact CY6
 have phT:Gk (Xi W c).1 c<=Gk W c:=HM (λk _=>tk.p (k:Int) Qo) 8 (I7 _)
 have hm:(Xi W c).2=true->1<=Vq W c left/\Vq W c left<=left:=λht=>by
  refine zjw _ left Qo λg hg hq=>?_
  have g0:=(Q4.1 (pin g hg)).1;rw[tk.q g g0] at hq;exact tl ht g hg Qo
 have mX:=h.l1;have hch:(Xi W c).2=true->_:=λht=>zk9 (t:=Qw W c) (n:=Vq W c left) tk.sw rT Qo c0 (by rw[lT]; exact c1) upT BI1 t0 t1 uT (by have:=hm ht; omega) (by have:=hm ht; omega)
 refine⟨mY,us,pin,CC3,s1,r1,CY6,tk,tY,hm,λht=>⟨(hch ht).1,(hch ht).2.1⟩,?_,?_⟩
 rotate_left
 ·rw[hR]
  by_cases ht:(Xi W c).2=true
  ·rw[C' ht];have a:=(hch ht).1;have g1:Z1 (Xi W c).1.ID (Mg (Xi W c).1 c (Qw W c) (Vq W c left)).ID:=(hch ht).2.2.2.2.2.2.2.2.g;exact(eG.trans g1).trans (UN a (by simp only[Qi]; omega)).2.g
  ·rw[B' ht];have g1:Z1 (Xi W c).1.ID (Rz (Xi W c).1 c).ID:=Z1.refl _;exact(eG.trans g1).trans (UN (tk.sw.Rz c0 (by rw[lT]; exact c1)) Qo).2.g
 rw[hR];have hf1:=h.f1
 by_cases ht:(Xi W c).2=true
 ·rw[C' ht];obtain⟨a,b,d,e1,e2,e3,_⟩:=hch ht;obtain⟨b1,b2,b3,b4,b5,b6,b7⟩:=zfp a b (by simp only[Qi]; omega) c0 (by rw[e2,lT]; exact c1) e3;have hm:=hm ht
  exact⟨b1.mono (by simp only[Qi,Ud]; omega),b2.mono Qo,b3,c0,by rw[b6,e2,lT]; exact c1,b4,by rw[b5,e1,tk.o.n]; exact h.now,by rw[b6,e2,lT]; exact h.len,by show 0<=left-Vq W c left; omega,by show left-Vq W c left<=100; omega,by
   rw[d] at b7;show left-Vq W c left+((Gk (Qg (Mg (Xi W c).1 c (Qw W c) (Vq W c left))) c:Nat):Int)<_;omega,Qo⟩
 ·rw[B' ht];have ht:(Xi W c).2=false:=by simpa using ht
  obtain⟨g,hg,IN⟩:=tf ht;have g0:=Q4.1 (pin g hg);have bZ:=h.sw.a.gl
  have hp1:Gk (Xi W c).1 c<Gk W c:=by
   refine zs0 (λk _=>tk.p (k:Int) Qo) (j:=g.toNat) ?_ 8 Qo (I7 _);rw[show ((g.toNat:Nat):Int)=g by omega];exact IN
  have ce:c<((Xi W c).1.IE.length:Int):=by rw[lT]; exact c1
  have sE:=tk.sw.Rz c0 ce;have eE:gi (Rz (Xi W c).1 c).IE c=XT (gi (Xi W c).1.IE c):=(QM _ _ c0 ce c0).trans (C' rfl);have lE:(Rz (Xi W c).1 c).IE.length=(Xi W c).1.IE.length:=E';obtain⟨b1,b2,b3,b4,b5,b6,b7⟩:=zfp sE (rT.sum (ztk _ c) (Z1.refl _) lE) Qo c0 (by rw[lE]; exact ce) (by rw[eE]; exact upT)
  exact⟨b1.mono (by simp only[Qi,Ud]; omega),b2.mono Qo,b3,c0,by rw[b6,lE]; exact ce,b4,by rw[b5]; show (Xi W c).1.now=_; rw[tk.o.n]; exact h.now,by rw[b6,lE,lT]; exact h.len,h.l0,h.l1,by
   have b7:Gk (Qg (Rz (Xi W c).1 c)) c<=Gk (Xi W c).1 c:=b7;show left+((Gk (Qg (Rz (Xi W c).1 c)) c:Nat):Int)<_;omega,Qo⟩
theorem z2z{b:Ve}{c:Int}(c0:0<=c)(c1:c<(b.locals.length:Int)):Y1 b ⟨1,c,0⟩=Yf b c:=by
 unfold Y1;rw[B' (show ¬(1:Int)=4 by decide),B' (by rw[Qv.2 (by show 0<=c/\c<=_; omega)]; decide),C' rfl]
theorem zlr{α:Type}[Inhabited α]{l:List α}{k:Nat}(h:k<l.length):l.drop k=gi l (k:Int)::l.drop (k+1):=by
 rw[List.drop_eq_getElem_cons h]
 congr 1
 unfold gi;rw[Ig,List.getD_eq_getElem?_getD,Il h]; rfl
theorem zls{α:Type}[Inhabited α]{l:List α}{k:Nat}(h:k<l.length):gi l (k:Int)∈l:=by
 have:=List.getElem_mem h;unfold gi;rw[Ig,List.getD_eq_getElem?_getD,Il h]; exact this
theorem zpc{c g:Int}{l:List Int}{W:Q8}:zko c (g::l) W=if (zbo W c g).2=true then zko c l (zbo W c g).1 else ((zbo W c g).1,false):=rfl
section
variable {base:Nat}{W:Q8}{m:MW}{w:Wo}
theorem ML{pb n:Nat}{l:List Int}{pO:OA}{pC:Nat}{w2:Wo}{bs:List Nat}{V:Q8}{m2:MW}(hp:V3 Jz 1 Qc pb w pO pC l)(hpn:∀x∈QL pO,x∉QU n m)(hM:Mv n base bs w m w2 V m2):V3 Jz 1 Qc pb w2 pO pC l/\zm9 bs w2 pO l:=by
 have h:=hp.ext hM.ext hpn
 exact⟨h,h.rd Y5.len λx hx hm=>by
  have:=(hp.lt x hx).2;have:=hM.new x hm;omega⟩
theorem Mv.put{n:Nat}{bs:List Nat}{w0 w w':Wo}{m0:MW}{b:Nat}(h:Mv n base bs w0 m0 w W m)(hx:Q0 bs w w')(hb:w.heap.size<=b):Mv n base (bs++[b]) w0 m0 w' W m:=(h.add hb).step (hx.mono λx hm=>Ia _ hm)
theorem zh6{K c:Int}{l:List Int}{pO:OA}{pC pb:Nat}(h:Zo 8 base w W m)(sw:SW K W)(sR:base<=w.heap.size)(hp:V3 Jz 1 Qc pb w pO pC l)(hpn:∀x∈QL pO,x∉QU 8 m)(hl4:l.length<=4)(c0:0<=c)(c1:c<(W.IE.length:Int))(hu:∀g∈l,Q6 W.ID g=true)(hd:∀g∈l,(gi W.ID g).IP.IX≠0->gi (gi W.ID g).IP.Ry c=false) :
  Cz Mz #[.agg (Qb W m).toArray,.slice pO l.length pC,I c] w λe w'=>∃m',e=.returned (.tuple #[.agg (Qb W m).toArray,.bool (zko c l W).2])/\Mv 8 base [] w m w' (zko c l W).1 m':=by
 refine(zhk _ _ _ _ _ _ _ _ _ _ pO l.length pC c (R:=λv w'=>∃m',v=.tuple #[.agg (Qb W m).toArray,.bool (zko c l W).2]/\Mv 8 base [] w m w' (zko c l W).1 m') ?_).mono λe w' ⟨v,he,m',hv,h3⟩=>⟨m',by rw[he,hv],h3⟩
 intro x hx x1 RZ;have bZ:=sw.a.gl;have At2:=Xa hx RZ
 refine⟨λvs w2=>∃(k:Nat) (r:List Va) (V:Q8) (m2:MW),vs=I (k:Int)::r/\k<=l.length/\Mv 8 base [x,x1] w m w2 V m2/\zko c l W=zko c (l.drop k) V/\SW K V/\Tm W V/\∀g∈l.drop k,(gi V.ID g).IP.IX≠0->gi (gi V.ID g).IP.Ry c=false,
  Zt l.length 0,λwr R6 _=>⟨0,_,W,m,rfl,Ic _,(Mv.two h hx RZ).R4 R6,rfl,sw,Tm.refl _,hd⟩,?_⟩
 rintro i1 ll S5 Sb Sh S6 Se Sg S7 S8 Sa w2 SR ⟨k,r,V,m2,he,hk,Wz,hE,swV,oV,hdV⟩;simp only[I4,I5,true_and] at he;obtain⟨rfl,_⟩:=he;have hmg:m2.gO=m.gO:=by rw[Wz.hd]
 have hr:=Wz.rd;have B86:V.ID.length=8:=swV.a.gl;obtain⟨_,hpr⟩:=ML hp hpn Wz;refine⟨λIN=>?_,λRx=>?_⟩
 ·have CQ9:=Ot IN;have IN:k<l.length:=Qo;have tY:=zlr IN;have jW:=hu _ (zls IN);rw[tY] at hE hdV;have hug:Q6 V.ID (gi l (k:Int))=true:=by rw[oV.g.cQ]; exact jW
  have mQ:=hpr (k:Int) Qo Qo;have AF7:=hpr.ix XV (i:=(k:Int)) Qo Qo;have hdk:=hdV _ I9;generalize rX:gi l (k:Int)=g at hE hdV hug mQ hdk jW tY;obtain⟨u0,u1,hgg⟩:=swV.a.u hug;have RA:g<(V.ID.length:Int):=Qo;have Wg:Ix m.gO W.ID.length g:=by have:=hr.g.ix (i:=g) u0 RA; rwa[B86,<-bZ,hmg] at this
  have BE7:=hr.g.cells g u0 RA;rw[hmg] at BE7;refine⟨AF7,g,mQ,Wg,_,_,_,_,_,_,_,_,_,_,_,_,_,_,_,_,_,_,_,_,BE7,λb4 hb4=>⟨BE7,mQ,rfl,λg1=>?_,λg1=>?_⟩⟩
  ·have g1:(gi V.ID g).IP.IX=0:=by simpa using g1
   have hT:zbo V c g=(V,true):=by unfold zbo; rw[C' g1]
   rw[zpc,hT,C' rfl] at hE;exact⟨⟨Qo,Qo⟩,λwr R6 _=>⟨⟨k+1,_,V,m2,by simp; rfl,Qo,Wz.step R6,hE,swV,oV,λy hy=>hdV y (I1 _ hy)⟩,Zd (k:=k) rfl rfl IN⟩⟩
  ·have g1:(gi V.ID g).IP.IX≠0:=by simpa using g1
   obtain⟨hb,hbl,_⟩:=hgg.IP g1;have BD6:c<(V.IE.length:Int):=by rw[oV.c]; exact c1
   have rV:c<((gi V.ID g).IP.locals.length:Int):=Qo;intro Rr R6 eZ;have gN:=Wz.put R6 hb4;have hr4:=gN.rd0;refine I3 (Vt (op:=⟨1,c,0⟩) hb (hr4.g.locals g u0 RA) (hr4.g.Ry g u0 RA)) ?_;rintro e RF ⟨p,he,hO,hy⟩;rw[z2z c0 rV] at he hO;have hM5:=gN.R4 hy;have hbs:base<=Rr.heap.size:=by have:=gN.ext.size; omega
   have hOb:∀y∈YN p,Rr.heap.size<=y:=λy hy=>(hO.lt y hy).1
   have BE6:=hM5.own.Bw7 (i:=g) u0 Qo (hO.mono hbs) (λy hy hm=>by have:=hOb y hy; have:=(gN.own.lt y hm).2; omega);have uK:=ztr hM5.own hM5.nb (i:=g) u0 Qo (j:=8) (k:=5) Qd;have rH:=gN.ext.size
   have hM6:=hM5.swap BE6 za3 rfl λy hy=>by
    rcases OM y hy with h1 | h1
    ·exact .inl h1
    ·rcases OL y h1 with h2 | h2
     ·have:=hOb y h2;exact .inr ⟨Qo,λhm=>by have:=eZ y hm; omega⟩
     ·exact .inl (UK Qo h2)
   rw[hmg] at uK;have hgO:m2.gO=m.gO:=hmg;rw[hgO] at hM6;obtain⟨_,Cu8⟩:=ML hp hpn hM5;have CS3:=Cu8 (k:Int) Qo Qo;rw[rX] at CS3;have hTk:zbo V c g=(RL V g (Yf (gi V.ID g).IP c).1,decide ((Yf (gi V.ID g).IP c).2≠2)):=by unfold zbo; rw[B' g1]
   obtain⟨tk,t2,_⟩:=zzh swV c0 BD6 hug hdk;rw[zpc] at hE;refine⟨_,_,_,_,_,_,_,_,_,_,he,Qf hy eZ,λb5 hb5=>⟨AF7,g,CS3,Wg,uK,λg2 Sj WT=>?_,λg2=>⟨⟨Qo,Qo⟩,λSj WT hs6=>⟨⟨k+1,_,RL V g (Yf (gi V.ID g).IP c).1,_,by simp; rfl,Qo,(hM6.step WT).BI6 Qs,?_,?_,?_,λy hy hq=>?_⟩,Zd (k:=k) rfl rfl IN⟩⟩⟩⟩
   ·have g2:(Yf (gi V.ID g).IP c).2=2:=by simpa using g2
    have:(zbo V c g).2=false:=by rw[hTk]; simp[g2]
    rw[hE,this,B' Qd,hTk];exact⟨_,rfl,(hM6.step WT).close⟩
   all_goals
    have g2:(Yf (gi V.ID g).IP c).2≠2:=by simpa using g2
    have ht2:(zbo V c g).2=true:=by rw[hTk]; simp[g2]
    have hT1:(zbo V c g).1=RL V g (Yf (gi V.ID g).IP c).1:=by rw[hTk]
   ·rw[hE,C' ht2,hT1]
   ·rw[<-hT1]; exact tk.sw
   ·rw[<-hT1]; exact oV.trans tk.o
   ·have y0:=(Q4.1 (hu y (List.mem_of_mem_drop hy))).1;rw[<-hT1] at hq ⊢;rw[tk.q y y0] at hq;exact(t2 ht2).2 y y0 (hdV y (I1 _ hy)) hq
 ·have Rx:=Ou Rx;have uP:k=l.length:=Qo;subst uP;rw[List.drop_length] at hE;rw[hE];exact λw3 R6=>⟨m2,rfl,(Wz.step R6).close⟩
theorem zh3{c n:Int}{l:List Int}{pO:OA}{pC:Nat}{bs:List Nat}(h:XE bs w W m)(ha:WA W)(hp:zm9 bs w pO l)(hl4:l.length<=4)(c0:0<=c)(c1:c<(W.IE.length:Int))(hu:∀g∈l,Q6 W.ID g=true) :
  PX bs Mx #[.agg (Qb W m).toArray,.slice pO l.length pC,I c,I n] w (I (zeq W c l n)):=
 zix _ _ _ _ _ _ _ _ _ _ pO l.length pC c n λwr hx=>by
  have h:=(h.ext hx).less (cs:=[]) Qs;have hp:=(hp.ext hx).less (cs:=[]) Qs;intro _ _;refine TX l.length 0 rfl (λy k=>k<=l.length/\zeq W c l n=zeq W c (l.drop k) y) ⟨Ic _,rfl⟩ λy k ⟨hk,hy⟩=>⟨λIN=>?_,λRx=>?_⟩
  ·have CQ9:=Ot IN;have IN:k<l.length:=Qo;have tY:=zlr IN;have jW:=hu _ (zls IN);rw[tY] at hy;have mQ:=hp (k:Int) Qo Qo;generalize gi l (k:Int)=g at hy mQ jW;obtain⟨u0,u1,hgg⟩:=ha.u jW;have bZ:=ha.gl;have hyy:zeq W c (g::l.drop (k+1)) y=zeq W c (l.drop (k+1)) (zok W c g y):=rfl;rw[hyy] at hy;refine⟨hp.ix XV (i:=(k:Int)) Qo Qo,g,mQ,h.g.ix u0 Qo,_,_,_,_,_,_,_,_,_,h.g.IP u0 Qo,λb1 cJ=>⟨h.g.IP u0 Qo,mQ,rfl,λg1=>?_,λg1=>?_⟩⟩
   ·have g1:=Ot g1;obtain⟨hb,hbl,_⟩:=hgg.IP Qo;have hLo:=h.g.locals g u0 Qo;refine⟨hLo.ix XV c0 Qo,_,hLo c c0 Qo,_,JR,⟨Qo,Qo⟩,QH Qo ⟨Qo,?_⟩⟩;rw[hy]; unfold zok; rw[C' g1]
   ·have g1:=Ou g1;refine⟨⟨Qo,Qo⟩,QH Qo ⟨Qo,?_⟩⟩;rw[hy]; unfold zok; rw[B' g1]
  ·have Rx:=Ou Rx;have:k=l.length:=Qo;subst this;rw[List.drop_length] at hy;show I y=_;rw[hy]; rfl
end
theorem znj{c n g:Int}{l:List Int}{W:Q8}:zk8 c n (g::l) W=zk8 c n l (zcu W c n g):=rfl
theorem HC(W:Q8)(c n g:Int):(Gx W c n g).ID.length=W.ID.length:=by simp[Gx,Rv,Rn]
theorem zp0{W:Q8}{c n g:Int}(u0:0<=g)(u1:g<(W.ID.length:Int)):gi (Gx W c n g).ID g={ gi W.ID g with IF:=(gi W.ID g).IF.set c.toNat (zbb W c n g) }:=by
 unfold Gx Rv;rw[Xk u0 u1 u0,C' rfl]
theorem zp2{W:Q8}{c n g:Int}(u0:0<=g)(u1:g<(W.ID.length:Int)):gi (Rn (Gx W c n g) g (AK W c n g)).ID g=AK W c n g:=by
 rw[Xk u0 (by rw[HC]; exact u1) u0,C' rfl]
theorem zcv{W:Q8}{c n g:Int}(u0:0<=g)(u1:g<(W.ID.length:Int)):(AK W c n g).IP=(gi W.ID g).IP:=by
 unfold AK;rw[zp0 u0 u1]
theorem zni{W:Q8}{c n g:Int}(u0:0<=g)(u1:g<(W.ID.length:Int))(h:¬(gi W.ID g).IP.IX>0):zcu W c n g=Rn (Gx W c n g) g (AK W c n g):=by
 unfold zcu zje;rw[B' h,<-zcv (c:=c) (n:=n) u0 u1];have:=zp2 (c:=c) (n:=n) u0 u1
 conv=>lhs; arg 3; rw[<-this]
 exact zfo u0 (by simp only[Rn,E']; rw[HC]; exact u1)
section
variable {base:Nat}{W:Q8}{m:MW}{w:Wo}
theorem zah{K S t c n:Int}{pO:OA}{pC pb:Nat}(h:Zo 8 base w W m)(sR:base<=w.heap.size)(hp:V3 Jz 1 Qc pb w pO pC (Xf W t))(hpn:∀x∈QL pO,x∉QU 8 m)(sw:SW K W)(rb:RB S W)(hK:0<=K/\K<=60000000000000000)(hS:0<=S/\S<=60000000000000000)(c0:0<=c)(c1:c<(W.IE.length:Int))(up:(gi W.IE c).up=true)(WQ:(gi W.IE c).WQ<50)(t0:0<=t)(t1:t<12)(hu:Q6 W.ID (Q7 W t).group=true)(n0:0<=n)(n1:n<=100) :
  Cz OC #[.agg (Qb W m).toArray,I t,.slice pO (Xf W t).length pC,I c,I n] w λe w'=>∃m',e=.returned (.agg (Qb (Qg (Mg W c t n)) m').toArray)/\Mv 8 base [] w m w' (Qg (Mg W c t n)) m':=by
 obtain⟨sE,rE,_,_,hlE,_,s1,r1,cp1⟩:=zk9 sw rb Qo c0 c1 up WQ t0 t1 hu n0 n1;obtain⟨pin,CC3⟩:=zbk sw.a hu;refine(k9 _ _ _ _ _ _ _ _ _ _ t pO (Xf W t).length pC c n (R:=λv w'=>∃m',v=.agg (Qb (Qg (Mg W c t n)) m').toArray/\Mv 8 base [] w m w' (Qg (Mg W c t n)) m') ?_).mono λe w' ⟨v,he,m',hv,h3⟩=>⟨m',by rw[he,hv],h3⟩
 intro x hx x1 RZ;have bZ:=sw.a.gl;have eM:=sw.a.t;have hlg:Qi=34686091440:=rfl;have aZ:=h.rd (bs:=[]) Qs;have Wg:=aZ.t.ix QF t0 Qo;have htv:=sw.tv t t0 t1;have htr:=rb.t t t0 t1;have hv:=HW n (Qe (Q7 W t).nice) n0 n1;refine⟨Wg,_,_,_,_,_,_,_,_,_,aZ.t t t0 Qo,λx2 R5=>⟨_,ZZ,_,XH,⟨?_,?_⟩,⟨?_,?_⟩,⟨?_,?_⟩,Wg,zts h Qs t0 Qo (j:=0) Qd,?_⟩⟩
 ·show _<=(Q7 W t).v+Ze n (Qe (Q7 W t).nice); omega
 ·show (Q7 W t).v+Ze n (Qe (Q7 W t).nice)<=_; omega
 ·show _<=(Q7 W t).sum+n; omega
 ·show (Q7 W t).sum+n<=_; omega
 ·show _<=(Q7 W t).used+n; omega
 ·show (Q7 W t).used+n<=_; omega
 have eT:Zo 8 base (R9 w m.tO (Int.toNat t*9) (XS (Gy W t n))) (IU W t (Gy W t n)) m:=h.AD6 t0 Qo (j:=0) (vs:=XS (Gy W t n)) (x:=Gy W t n) (by simp[XS]) (by simp[XS]);have hM1:Mv 8 base [x,x1,x2] w m (R9 w m.tO (Int.toNat t*9) (XS (Gy W t n))) (IU W t (Gy W t n)) m:=((Mv.two h hx RZ).add R5).Sn eT Hm
 refine⟨λvs w2=>∃(k:Nat) (V:Q8) (m2:MW),vs=[I (k:Int)]/\k<=(Xf W t).length/\Mv 8 base [x,x1,x2] w m w2 V m2/\zk8 c n (Xf W t) (IU W t (Gy W t n))=zk8 c n ((Xf W t).drop k) V/\zzq (K+Qi+Qi*(k:Int)) (S+100+100*(k:Int)) c n (IU W t (Gy W t n)) V,
  Zt (Xf W t).length 0,λwr R6 _=>⟨0,_,m,rfl,Ic _,hM1.R4 R6,rfl,⟨s1.mono Qs,r1.mono Qs,rfl,rfl,rfl,Z1.refl _,λ_ _=>rfl⟩⟩,?_⟩
 rintro i1 w2 SR ⟨k,V,m2,he,hk,Wz,hE,hC⟩;simp only[I4,I5,true_and,and_true] at he;subst he;have hkk:0<=Qi*(k:Int)/\Qi*(k:Int)<=138744365760:=by simp only[Qi]; omega
 have hk1:Qi*((k+1:Nat):Int)=Qi*(k:Int)+Qi:=by simp only[Qi]; omega
 have hmg:m2.gO=m.gO:=by rw[Wz.hd]
 have hmc:m2.cO=m.cO:=by rw[Wz.hd]
 have hr:=Wz.rd;have B86:V.ID.length=8:=hC.sw.a.gl;have BD6:V.IE.length=W.IE.length:=by rw[hC.cp]; rfl
 obtain⟨_,hpr⟩:=ML hp hpn Wz;refine⟨λIN=>?_,λRx=>?_⟩
 ·have CQ9:=Ot IN;have IN:k<(Xf W t).length:=Qo;have tY:=zlr IN;have jW:=pin _ (zls IN);rw[tY,znj] at hE;have hug:Q6 V.ID (gi (Xf W t) (k:Int))=true:=by rw[hC.g.cQ]; exact jW
  have mQ:=hpr (k:Int) Qo Qo;have AF7:=hpr.ix XV (i:=(k:Int)) Qo Qo;generalize rX:gi (Xf W t) (k:Int)=g at hE hug mQ jW tY;have hC2:=hC.trans (zp1 hC.sw hC.rb Qo c0 (by rw[BD6]; exact c1) hug n0 n1);have hC3:zzq (K+Qi+Qi*((k+1:Nat):Int)) (S+100+100*((k+1:Nat):Int)) c n (IU W t (Gy W t n)) (zcu V c n g):=⟨hC2.sw.mono Qo,hC2.rb.mono Qo,hC2.now,hC2.t,hC2.cp,hC2.g,hC2.p⟩;obtain⟨u0,u1,hgg⟩:=hC.sw.a.u hug;have RA:g<(V.ID.length:Int):=Qo;have hsl:=hC.sw.a.sl hug;have hcs:c<((gi V.ID g).IF.length:Int):=Qo;have BE1:Ix m.gO W.ID.length g:=by have:=hr.g.ix (i:=g) u0 RA; rwa[B86,<-bZ,hmg] at this
  have BE7:=hr.g.cells g u0 RA;rw[hmg] at BE7;have tA:=hr.g.IF g u0 RA;have hsc:=tA c c0 hcs;have B89:=tA.ix X0 c0 hcs;have hsv:=hC.sw.s g c hug c0 (by rw[BD6]; exact c1);have hsr:=hC.rb.s g c hug c0 (by rw[BD6]; exact c1);have hgr:=hC.rb.g g hug;have hv2:=HW n (Qa V g c).w n0 n1;refine⟨AF7,g,mQ,BE1,_,_,_,_,_,_,_,_,_,_,_,_,_,_,_,_,_,_,_,_,BE7,λb3 vK=>⟨BE7,mQ,rfl,B89,_,_,_,_,_,hsc,λb4 hb4=>⟨AF7,g,mQ,?_⟩⟩⟩
  have eA:∀s:LR,s=zbb V c n g->Zo 8 base (R9 w2 (m2.ms g.toNat).sO (Int.toNat c*5) (Po s)) (Gx V c n g) m2:=λs hs=>by
   subst hs;exact Wz.own.Bw9 u0 Qo c0 hcs (j:=0) (vs:=Po (zbb V c n g)) (x:=zbb V c n g) (by simp[Po]) (by simp[Po])
  have CU5:=z5c Wz.own Wz.nb (i:=g) u0 Qo c0 hcs (j:=0) (k:=5) Qd;have CA2:=hr.g.R0 (i:=g) u0 RA;rw[hmg] at CA2;refine⟨λg1=>?_,λg1=>?_⟩
  ·have g1:g≠0:=by simpa using g1
   have hs:(⟨(Qa V g c).floor,(Qa V g c).on,(Qa V g c).v+Ze n (Qa V g c).w,(Qa V g c).w,(Qa V g c).sum+n⟩:LR)=zbb V c n g:=by unfold zbb; rw[C' g1]
   have eA:=eA _ hs;refine⟨_,XH,⟨?_,?_⟩,⟨?_,?_⟩,AF7,g,mQ,BE1,_,_,_,CA2,B89,CU5,AF7,g,?_,⟨?_,?_⟩,BE1,?_,?_⟩
   ·show _<=(Qa V g c).v+Ze n (Qa V g c).w; omega
   ·show (Qa V g c).v+Ze n (Qa V g c).w<=_; omega
   ·show _<=(Qa V g c).sum+n; omega
   ·show (Qa V g c).sum+n<=_; omega
   ·have:=(ML hp hpn (Wz.Sn eA (zmx Qo))).2 (k:Int) Qo Qo;rw[rX] at this;exact this
   ·show _<=(gi V.ID g).sum+n; omega
   ·show (gi V.ID g).sum+n<=_; omega
   ·have:=ztr eA Wz.nb (i:=g) u0 Qo (j:=7) (k:=1) Qd;rw[hmg] at this;exact this
   have iV:=((Wz.add vK).add hb4).Sn eA (zmx Qo);have eU:=eA.A48 (i:=g) u0 Qo (g:=AK V c n g) rfl rfl rfl (j:=7) (vs:=[I ((gi V.ID g).sum+n)]) (by unfold AK; rw[zp0 u0 RA]; rfl) Qs;have gN:=iV.Sn eU za3;rw[hmg] at gN;have gN:Mv 8 base [x,x1,x2,b3,b4] w m _ (Rn (Gx V c n g) g (AK V c n g)) m2:=gN;have hgb:=zcv (c:=c) (n:=n) u0 RA;have hgi:=zp2 (c:=c) (n:=n) u0 RA;have hl5:(Rn (Gx V c n g) g (AK V c n g)).ID.length=V.ID.length:=by simp only[Rn,E']; exact HC _ _ _ _
   have AQ2:=zni (c:=c) (n:=n) u0 RA;have W5:zcu V c n g=RL (Rn (Gx V c n g) g (AK V c n g)) g (zje V c n g):=rfl;generalize Rn (Gx V c n g) g (AK V c n g)=V5 at gN hgi hl5 AQ2 W5;refine⟨λg2 I' R6 fQ=>?_,λg2=>⟨⟨Qo,Qo⟩,λI' R6 _=>⟨⟨k+1,zcu V c n g,m2,Qs,Qo,?_,hE,hC3⟩,Zd (k:=k) rfl rfl IN⟩⟩⟩
   ·have g2:(gi V.ID g).IP.IX>0:=Ot g2;have hB:zje V c n g=(Y1 (gi V.ID g).IP ⟨2,c,n⟩).1:=by unfold zje; rw[C' g2]
    rw[hB] at W5;obtain⟨hb,hbl,_⟩:=hgg.IP Qo;have hM6:Mv 8 base [x,x1,x2,b3,b4] w m I' V5 m2:=gN.step (R6.mono λy hy=>by simp only[Ii,List.not_mem_nil,or_false] at hy ⊢; rcases hy with h | h | h <;> simp[h]);have hr6:=hM6.rd0;have hg5:g<(V5.ID.length:Int):=by rw[hl5]; exact RA
    have hLo:=hr6.g.locals g u0 hg5;have hDo:=hr6.g.Ry g u0 hg5;rw[hgi,hgb] at hLo hDo;refine I3 (Vt (op:=⟨2,c,n⟩) hb hLo hDo) ?_;rintro e RF ⟨p,he,hO,hy⟩;have sP:=hM6.R4 hy;have hbs:base<=I'.heap.size:=by have:=hM6.ext.size; omega
    have hOb:∀y∈YN p,I'.heap.size<=y:=λy hy=>(hO.lt y hy).1
    have BE6:=sP.own.Bw7 (i:=g) u0 Qo (hO.mono hbs) (λy hy hm=>by have:=hOb y hy; have:=(hM6.own.lt y hm).2; omega);have uK:=ztr sP.own sP.nb (i:=g) u0 Qo (j:=8) (k:=5) Qd;have rH:=hM6.ext.size
    have hM8:=sP.swap BE6 za3 rfl λy hy=>by
     rcases OM y hy with h1 | h1
     ·exact .inl h1
     ·rcases OL y h1 with h2 | h2
      ·have:=hOb y h2;exact .inr ⟨Qo,λhm=>by have:=fQ y hm; omega⟩
      ·exact .inl (UK Qo h2)
    rw[hmg] at uK hM8;rw[<-W5] at hM8;have Bj1:=(ML hp hpn sP).2 (k:Int) Qo Qo;rw[rX] at Bj1;exact⟨_,_,_,_,_,_,_,_,_,_,he,Qf hy fQ,λb5 hb5=>⟨AF7,g,Bj1,BE1,uK,⟨Qo,Qo⟩,λSj WT _=>⟨⟨k+1,zcu V c n g,_,Qs,Qo,(hM8.step WT).BI6 Qs,hE,hC3⟩,Zd (k:=k) rfl rfl IN⟩⟩⟩
   ·have g2:¬(gi V.ID g).IP.IX>0:=Ou g2;rw[AQ2 g2];exact(gN.BI6 (cs:=[x,x1,x2]) (λy hy=>by simp only[Ii,List.not_mem_nil,or_false] at hy ⊢; rcases hy with h | h | h <;> simp[h])).step R6
  ·have g1:¬g≠0:=by simpa using g1
   have hs:(⟨(Qa V g c).floor,(Qa V g c).on,(Qa V g c).v,(Qa V g c).w,(Qa V g c).sum+n⟩:LR)=zbb V c n g:=by unfold zbb; rw[B' g1]
   have eA:=eA _ hs;refine⟨⟨?_,?_⟩,AF7,g,mQ,BE1,_,_,_,CA2,B89,CU5,AF7,g,?_,⟨?_,?_⟩,BE1,?_,?_⟩
   ·show _<=(Qa V g c).sum+n; omega
   ·show (Qa V g c).sum+n<=_; omega
   ·have:=(ML hp hpn (Wz.Sn eA (zmx Qo))).2 (k:Int) Qo Qo;rw[rX] at this;exact this
   ·show _<=(gi V.ID g).sum+n; omega
   ·show (gi V.ID g).sum+n<=_; omega
   ·have:=ztr eA Wz.nb (i:=g) u0 Qo (j:=7) (k:=1) Qd;rw[hmg] at this;exact this
   have iV:=((Wz.add vK).add hb4).Sn eA (zmx Qo);have eU:=eA.A48 (i:=g) u0 Qo (g:=AK V c n g) rfl rfl rfl (j:=7) (vs:=[I ((gi V.ID g).sum+n)]) (by unfold AK; rw[zp0 u0 RA]; rfl) Qs;have gN:=iV.Sn eU za3;rw[hmg] at gN;have gN:Mv 8 base [x,x1,x2,b3,b4] w m _ (Rn (Gx V c n g) g (AK V c n g)) m2:=gN;have hgb:=zcv (c:=c) (n:=n) u0 RA;have hgi:=zp2 (c:=c) (n:=n) u0 RA;have hl5:(Rn (Gx V c n g) g (AK V c n g)).ID.length=V.ID.length:=by simp only[Rn,E']; exact HC _ _ _ _
   have AQ2:=zni (c:=c) (n:=n) u0 RA;have W5:zcu V c n g=RL (Rn (Gx V c n g) g (AK V c n g)) g (zje V c n g):=rfl;generalize Rn (Gx V c n g) g (AK V c n g)=V5 at gN hgi hl5 AQ2 W5;refine⟨λg2 I' R6 fQ=>?_,λg2=>⟨⟨Qo,Qo⟩,λI' R6 _=>⟨⟨k+1,zcu V c n g,m2,Qs,Qo,?_,hE,hC3⟩,Zd (k:=k) rfl rfl IN⟩⟩⟩
   ·have g2:(gi V.ID g).IP.IX>0:=Ot g2;have hB:zje V c n g=(Y1 (gi V.ID g).IP ⟨2,c,n⟩).1:=by unfold zje; rw[C' g2]
    rw[hB] at W5;obtain⟨hb,hbl,_⟩:=hgg.IP Qo;have hM6:Mv 8 base [x,x1,x2,b3,b4] w m I' V5 m2:=gN.step (R6.mono λy hy=>by simp only[Ii,List.not_mem_nil,or_false] at hy ⊢; rcases hy with h | h | h <;> simp[h]);have hr6:=hM6.rd0;have hg5:g<(V5.ID.length:Int):=by rw[hl5]; exact RA
    have hLo:=hr6.g.locals g u0 hg5;have hDo:=hr6.g.Ry g u0 hg5;rw[hgi,hgb] at hLo hDo;refine I3 (Vt (op:=⟨2,c,n⟩) hb hLo hDo) ?_;rintro e RF ⟨p,he,hO,hy⟩;have sP:=hM6.R4 hy;have hbs:base<=I'.heap.size:=by have:=hM6.ext.size; omega
    have hOb:∀y∈YN p,I'.heap.size<=y:=λy hy=>(hO.lt y hy).1
    have BE6:=sP.own.Bw7 (i:=g) u0 Qo (hO.mono hbs) (λy hy hm=>by have:=hOb y hy; have:=(hM6.own.lt y hm).2; omega);have uK:=ztr sP.own sP.nb (i:=g) u0 Qo (j:=8) (k:=5) Qd;have rH:=hM6.ext.size
    have hM8:=sP.swap BE6 za3 rfl λy hy=>by
     rcases OM y hy with h1 | h1
     ·exact .inl h1
     ·rcases OL y h1 with h2 | h2
      ·have:=hOb y h2;exact .inr ⟨Qo,λhm=>by have:=fQ y hm; omega⟩
      ·exact .inl (UK Qo h2)
    rw[hmg] at uK hM8;rw[<-W5] at hM8;have Bj1:=(ML hp hpn sP).2 (k:Int) Qo Qo;rw[rX] at Bj1;exact⟨_,_,_,_,_,_,_,_,_,_,he,Qf hy fQ,λb5 hb5=>⟨AF7,g,Bj1,BE1,uK,⟨Qo,Qo⟩,λSj WT _=>⟨⟨k+1,zcu V c n g,_,Qs,Qo,(hM8.step WT).BI6 Qs,hE,hC3⟩,Zd (k:=k) rfl rfl IN⟩⟩⟩
   ·have g2:¬(gi V.ID g).IP.IX>0:=Ou g2;rw[AQ2 g2];exact(gN.BI6 (cs:=[x,x1,x2]) (λy hy=>by simp only[Ii,List.not_mem_nil,or_false] at hy ⊢; rcases hy with h | h | h <;> simp[h])).step R6
 ·have Rx:=Ou Rx;have uP:k=(Xf W t).length:=Qo;subst uP;rw[List.drop_length] at hE;have hE:zk8 c n (Xf W t) (IU W t (Gy W t n))=V:=hE;have hcV:V.IE=W.IE:=hC.cp;have cV:c<(V.IE.length:Int):=by rw[BD6]; exact c1
  have AQ1:Ix m.cO W.IE.length c:=by have:=hr.c.ix Y6 c0 cV; rwa[BD6,hmc] at this
  have hcr:=rb.c c c0 c1;have e1:=Wz.own.Av9 c0 cV (j:=3) (vs:=[I ((gi W.IE c).busy+n)]) (x:={ gi W.IE c with busy:=(gi W.IE c).busy+n }) (by rw[hcV]; rfl) Qs;have mX:(V.IE.set c.toNat { gi W.IE c with busy:=(gi W.IE c).busy+n }).length=V.IE.length:=E';have hg1:gi (V.IE.set c.toNat { gi W.IE c with busy:=(gi W.IE c).busy+n }) c={ gi W.IE c with busy:=(gi W.IE c).busy+n }:=(QM _ _ c0 cV c0).trans (C' rfl);have e2:=e1.Av9 c0 (by simpa using cV) (j:=2) (vs:=[I ((gi W.IE c).WQ+n)]) (x:=zr4 W c n) (by rw[hg1]; rfl) Qs;have hb:=hr.c.f c0 cV (j:=3) rfl;have vL:=zzp Wz.own Wz.nb c0 cV (j:=3) (k:=1) Qd;have iV:=Wz.Sn e1 zfy;have hrn:=iV.rd.c.f c0 (by show c<((V.IE.set c.toNat { gi W.IE c with busy:=(gi W.IE c).busy+n }).length:Int); rw[mX]; exact cV) (j:=2) rfl;have hw2:=zzp e1 Wz.nb c0 (by show c<((V.IE.set c.toNat { gi W.IE c with busy:=(gi W.IE c).busy+n }).length:Int); rw[mX]; exact cV) (j:=2) (k:=1) Qd;rw[hmc] at hb vL hrn hw2;rw[hcV] at hb;rw[show gi ({ V with IE:=V.IE.set c.toNat { gi W.IE c with busy:=(gi W.IE c).busy+n } }:Q8).IE c=_ from hg1] at hrn;have gN:=iV.Sn e2 zfy
  have hW4:({ V with IE:=(V.IE.set c.toNat { gi W.IE c with busy:=(gi W.IE c).busy+n }).set c.toNat (zr4 W c n) }:Q8)=Mg W c t n:=by
   unfold Mg S9;rw[hE,List.set_set]
  rw[hmc] at gN;have gN:Mv 8 base [x,x1,x2] w m _ ({ V with IE:=(V.IE.set c.toNat { gi W.IE c with busy:=(gi W.IE c).busy+n }).set c.toNat (zr4 W c n) }:Q8) m2:=gN;rw[hW4] at gN;refine⟨AQ1,_,hb,⟨?_,?_⟩,AQ1,vL,AQ1,_,hrn,⟨?_,?_⟩,AQ1,hw2,λSM eB hs7=>?_⟩
  ·show _<=(gi W.IE c).busy+n; omega
  ·show (gi W.IE c).busy+n<=_; omega
  ·show _<=(gi W.IE c).WQ+n; omega
  ·show (gi W.IE c).WQ+n<=_; omega
  have sP:=gN.step eB;have rH:=sP.ext.size;have Rq:=QA sP.own sE Qo Qo Qo;rw[show Qb (Mg W c t n) m2=Qb W m from sP.AN1 (by rw[show (Mg W c t n).now=V.now from by rw[<-hW4]]; exact hC.now) hlE (by rw[<-hW4,show ({ V with IE:=(V.IE.set c.toNat { gi W.IE c with busy:=(gi W.IE c).busy+n }).set c.toNat (zr4 W c n) }:Q8).tasks=V.tasks from rfl,hC.t]; simp[IU]) (by rw[<-hW4]; exact hC.g.len)] at Rq;refine I3 Rq ?_;rintro e wv ⟨m3,he,hy⟩;exact⟨_,_,_,_,_,_,_,_,_,_,he,sP.kept hy hs7,λV' oQ=>⟨m3,rfl,((sP.call hy hs7).step oQ).close⟩⟩
end
theorem zqr{Q:Nat->Prop}(h:∃f,Q f):∃f,Q f/\∀g,Q g->f<=g:=by
 obtain⟨f,hf⟩:=h
 induction f using Nat.strongRecOn with
 | ind f ih=>
  by_cases h:∃g,g<f/\Q g
  ·obtain⟨g,hg,hq⟩:=h;exact ih g hg hq
  ·exact⟨f,hf,λg hq=>Nat.le_of_not_lt λIN=>h ⟨g,IN,hq⟩⟩
open Classical in
noncomputable def zqq(Q:Nat->Prop):Nat:=if h:∃f,Q f then (zqr h).choose else 0
theorem zut{Q:Nat->Prop}(h:∃f,Q f):Q (zqq Q):=by
 unfold zqq;rw[dif_pos h];exact(zqr h).choose_spec.1
theorem z1c{Q:Nat->Prop}{f:Nat}(h:Q f):zqq Q<=f:=by
 unfold zqq;rw[dif_pos ⟨f,h⟩];exact(zqr ⟨f,h⟩).choose_spec.2 f h
noncomputable def BF(W:Q8)(c n:Int):Int:=if YP n 1 100=false\/YK W c=false then 1 else if (gi W.IE c).up=false then 6 else if QT W=false then 10 else 0
def zvb(W:Q8)(c n:Int):Q8:=zfk c 400 W n
theorem zox{c:Int}{f:Nat}{W:Q8}{left:Int}(h:left<=0):zfk c (f+1) W left=Qg W:=by
 rw[zfk,C' h]
theorem zj7{c:Int}{f:Nat}{W:Q8}{left:Int}(h:¬left<=0)(hp:Qw W c<0):zfk c (f+1) W left=Qg (Rz (S9 W c (GO W c left)) c):=by
 rw[zfk,B' h,C' hp]
theorem zj8{c:Int}{f:Nat}{W:Q8}{left:Int}(h:¬left<=0)(hp:¬Qw W c<0):zfk c (f+1) W left=zfk c f (BE W c left).1 (BE W c left).2:=by
 rw[zfk,B' h,B' hp]
theorem zyx{W:Q8}{c n:Int}(hW:QD W=true)(hb:BF W c n=0):YP n 1 100=true/\YK W c=true/\(gi W.IE c).up=true/\QT W=true/\zgb 400 c W W n:=by
 unfold BF at hb
 split at hb
 ·cases hb
 ·rename_i h1
  split at hb
  ·cases hb
  ·rename_i h2
   split at hb
   ·cases hb
   ·rename_i h3
    have h1a:YP n 1 100=true:=by
     cases h:YP n 1 100 with
     | true=>rfl
     | false=>exact Ir (.inl h) h1
    have h1b:YK W c=true:=by
     cases h:YK W c with
     | true=>rfl
     | false=>exact Ir (.inr h) h1
    have h2:(gi W.IE c).up=true:=by simpa using h2
    have h3:QT W=true:=by simpa using h3
    obtain⟨c0,c1⟩:=US h1b;have:=Qv.1 h1a;exact⟨h1a,h1b,h2,h3,zq9 (Qj.1 hW) (Qj.1 h3) c0 c1 h2 Qo Qo⟩
theorem zyu{f:Nat}{c left:Int}{W0 W:Q8}(h:zgb f c W0 W left):∃g,f=g+1:=by
 have h1:=h.f1;have h2:=h.l0;exact⟨f-1,Qo⟩
theorem zxg{f:Nat}{c left:Int}{W0 W:Q8}(h:zgb f c W0 W left):SW (BG f) (Rz (S9 W c (GO W c left)) c)/\SW (BG f) (S9 W c (GO W c left))/\0<=(gi W.IE c).idle+left/\(gi W.IE c).idle+left<=60000000000000000:=by
 have c0:=h.c0;have c1:=h.c1;have hcu:=h.sw.cu c c0 c1;have hl0:=h.l0;have mX:=h.l1;have hr:=h.rb.c c c0 c1;have s1:SW (BG f) (S9 W c (GO W c left)):=h.sw.S9 c0 c1 (AF (c:=c) (by rw[E']; exact h.sw.a.c2) c0 (by rw[E']; exact c1) (by rw[show gi (W.IE.set c.toNat (GO W c left)) c=GO W c left from (QM _ _ c0 c1 c0).trans (C' rfl)]; exact h.up)) hcu.1 hcu.2;exact⟨s1.Rz c0 (by show c<((W.IE.set c.toNat (GO W c left)).length:Int); rw[E']; exact c1),s1,Qo,Qo⟩
section
variable {W:Q8}{m:MW}{w:Wo}
def ztt(y y1:Nat)(w0:Wo)(c n:Int)(W:Q8)(f:Nat)(vs:List Va)(w2:Wo):Prop:=
 ∃(V:Q8) (m2:MW) (left:Int),vs=I left::Qb V m2/\Wk 8 [y,y1] w0 w2 V m2/\zgb f c W V left/\zfk c f V left=zvb W c n
theorem zab{c n:Int}(h:XE [] w W m)(hl:Ua W) :
  Cz Ov #[.agg (Qb W m).toArray,I c,I n] w λe w'=>∃v,e=.returned v/\QR (YY W (BF W c n) (zvb W c n)) w v w':=by
 refine CY _ _ _ _ _ _ _ _ _ _ c n (R:=λv w'=>QR (YY W (BF W c n) (zvb W c n)) w v w') ?_;intro y hy y1 cP;have hm0:=XD;have hlc:=hl.c;refine⟨_,YC h hl.c hl.t hl.g hl.f,λg wr hx=>QR.bad (by simpa using g) hx,λg wr R5 SR=>?_⟩;have hW:QD W=true:=by simpa using g
 have wp:=Qj.1 hW;refine I3 (M0 (h.ext R5) wp.a) ?_;rintro e wv ⟨m',he,hM,SI⟩;have hK:=Wk.begin hy cP R5 SR hM SI;have hr:=hK.rd;refine⟨_,_,_,_,_,_,_,_,_,_,he,Qf SI SR,_,Qm,λ_=>⟨Qo,Qo⟩,YK W c,λ_=>Qm,λg I' R6=>?_,λg=>?_⟩
 ·have hb:BF W c n=1:=by
   unfold BF; rw[C']
   simpa using g
  exact QR.no hW (by rw[hb]; decide) (hK.step R6) hb
 have g:YP n 1 100=true/\YK W c=true:=by simpa using g
 have hn1:¬(YP n 1 100=false\/YK W c=false):=by rw[g.1,g.2]; simp
 obtain⟨c0,c1⟩:=US g.2;have hro:=KY hr hl;refine⟨hr.c.ix Y6 c0 c1,_,hr.c.f c0 c1 (j:=0) rfl,λg2 I' R6=>?_,λg2=>⟨_,hro,λg3 I' R6=>?_,λg3=>?_⟩⟩
 ·have hb:BF W c n=6:=by unfold BF; rw[B' hn1,C' (by simpa using g2)]
  exact QR.no hW (by rw[hb]; decide) (hK.step R6) hb
 ·have g2:(gi W.IE c).up=true:=by simpa using g2
  have aZ:¬QT W=true:=λhr=>by
   rw[show Ub (YI W/\LO W)=true from Qj.2 ⟨wp,Qj.1 hr⟩] at g3;cases g3
  have hb:BF W c n=10:=by unfold BF; rw[B' hn1,B' (by rw[g2]; decide),C' (by simpa using aZ)]
  exact QR.no hW (by rw[hb]; decide) (hK.step R6) hb
 have g2:(gi W.IE c).up=true:=by simpa using g2
 have aZ:QT W=true:=by
  have hd:Ub (YI W/\LO W)=true:=by simpa using g3
  exact Qj.2 (Qj.1 hd).2
 have hb:BF W c n=0:=by unfold BF; rw[B' hn1,B' (by rw[g2]; decide),B' (by rw[aZ]; decide)]
 obtain⟨_,_,_,_,hI0⟩:=zyx hW hb;refine⟨λvs _ w2=>∃(V:Q8) (m2:MW) (K:Int),vs=Qb V m2/\Wk 8 [y,y1] w w2 V m2/\SW K V/\0<=K/\K<=60000000000000000/\Qg V=zvb W c n,?_,?_⟩
 ·refine⟨λvs w2=>∃f,ztt y y1 w c n W f vs w2,λvs w2=>zqq λf=>ztt y y1 w c n W f vs w2,λwr R6 _=>⟨400,W,m',n,rfl,hK.step R6,hI0,rfl⟩,?_⟩;intro left l0 S5 Sb Sh S6 Se Sg S7 S8 Sa w2 fQ hinv;obtain⟨f0,hf0⟩:∃f0,f0=zqq λf=>ztt y y1 w c n W f [I left,I l0,.slice S5 Sb Sh,.slice S6 Se Sg,.slice S7 S8 Sa] w2:=⟨_,rfl⟩
  have hS:=zut hinv;simp only[<-hf0] at hS ⊢;clear hf0 hinv;obtain⟨V,m2,C71,hv,fK,hI,hN⟩:=hS;simp only[Qb,I4,I5,Iv,true_and,and_true] at hv;obtain⟨rfl,rfl,⟨rfl,rfl,rfl⟩,⟨rfl,rfl,rfl⟩,rfl,rfl,rfl⟩:=hv;obtain⟨f,rfl⟩:=zyu hI;have BM1:∀{vs:List Va} {w9:Wo},ztt y y1 w c n W f vs w9->(∃f,ztt y y1 w c n W f vs w9)/\(zqq λf=>ztt y y1 w c n W f vs w9)<f+1:=λhh=>⟨⟨f,hh⟩,Nat.lt_succ_of_le (z1c hh)⟩
  have tZ:=fK.rd;have hf:=hI.f2;have hKu:=BH hf;have hSu:=zmr hf;have hh0:(0:Int)<=Qn:=Qd;have c1V:=hI.c1;have AQ1:=tZ.c.ix Y6 c0 c1V;refine⟨λIN=>?_,λRx=>?_⟩
  ·have IN:=Ot IN;refine⟨_,zh5 tZ hI.sw.a c0 c1V,λgp=>?_,λgp=>?_⟩
   ·have gp:=Ot gp;rw[zj7 Qo gp] at hN;obtain⟨i1,i2,i3,i4⟩:=zxg hI;have e1:Zo 8 w.heap.size _ (S9 V c (GO V c left)) m2:=fK.own.Av9 c0 c1V (j:=4) (vs:=[I ((gi V.IE c).idle+left)]) (x:=GO V c left) rfl Qs;refine⟨AQ1,_,tZ.c.f c0 c1V (j:=4) rfl,⟨Qo,Qo⟩,AQ1,zzp fK.own fK.nb c0 c1V (j:=4) Qd,λRu SK eZ=>?_⟩;have dY:=(fK.R9 e1 zfy).step SK;have Rq:=ZG dY.own c0 (by show c<((V.IE.set c.toNat (GO V c left)).length:Int); rw[E']; exact c1V);rw[zbe] at Rq;refine I3 Rq ?_;rintro e2 RF ⟨aR,iY⟩;exact⟨_,_,_,_,_,_,_,_,_,_,aR,dY.kept iY eZ,λRN Sm _=>⟨_,m2,_,rfl,(dY.Sn iY eZ).step Sm,i1,Qo,Qo,hN⟩⟩
   ·have gp:=Ou gp;rw[zj8 Qo gp] at hN;have hR:=zq8 hI IN gp;have t0:=hR.line.t0;have t1:=hR.line.t1;have eM:V.tasks.length=12:=hI.sw.a.t;refine⟨λ_ _ w3=>Wk 8 [y,y1] w w3 (Xr V c (Qw V c)) m2,?_,?_⟩
    ·refine⟨AQ1,_,tZ.c.f c0 c1V (j:=1) rfl,λ_=>AQ1,_,λ_=>tZ.c.f c0 c1V (j:=2) rfl,λg5=>?_,λg5 Ru SK _=>?_⟩
     ·have g5:Qw V c≠(gi V.IE c).cur\/(gi V.IE c).WQ>=50:=by simpa using g5
      have hS:YX V c (Qw V c)={ gi V.IE c with cur:=Qw V c,WQ:=0 }:=by unfold YX; rw[C' g5]
      have e1:=fK.own.Av9 c0 c1V (j:=1) (vs:=[I (Qw V c)]) (x:={ gi V.IE c with cur:=Qw V c }) rfl Qs;have mX:(V.IE.set c.toNat { gi V.IE c with cur:=Qw V c }).length=V.IE.length:=E';have hg1:gi (V.IE.set c.toNat { gi V.IE c with cur:=Qw V c }) c={ gi V.IE c with cur:=Qw V c }:=(QM _ _ c0 c1V c0).trans (C' rfl);have e2:=e1.Av9 c0 (by simpa using c1V) (j:=2) (vs:=[I 0]) (x:=YX V c (Qw V c)) (by rw[hg1,hS]; rfl) Qs
      have hW2:({ V with IE:=(V.IE.set c.toNat { gi V.IE c with cur:=Qw V c }).set c.toNat (YX V c (Qw V c)) }:Q8)=Xr V c (Qw V c):=by
       unfold Xr S9;rw[List.set_set]
      have qD:=fK.R9 e1 zfy;have dY:Wk 8 [y,y1] w _ ({ V with IE:=(V.IE.set c.toNat { gi V.IE c with cur:=Qw V c }).set c.toNat (YX V c (Qw V c)) }:Q8) m2:=qD.R9 e2 zfy;rw[hW2] at dY;exact⟨AQ1,zzp fK.own fK.nb c0 c1V (j:=1) Qd,AQ1,zzp e1 fK.nb c0 (by show c<((V.IE.set c.toNat { gi V.IE c with cur:=Qw V c }).length:Int); rw[mX]; exact c1V) (j:=2) Qd,λRu SK _=>dY.step SK⟩
     ·have g5:¬(Qw V c≠(gi V.IE c).cur\/(gi V.IE c).WQ>=50):=by simpa using g5
      have hS:Xr V c (Qw V c)=V:=by
       unfold Xr YX S9;rw[B' g5,zve c0 c1V]
      rw[hS];exact fK.step SK
    ·intro dW kK dR Sj WT hs6;have uH:=dR.step WT;have hcG:=G4 (t:=Qw V c) (uH.rd.less (cs:=[]) Qs) hR.s1.a.tree t0 (by show _<((V.tasks.length:Nat):Int); omega) hR.us;have ecp:Qb (Xr V c (Qw V c)) m2=Qb V m2:=zbe _ _ _ _;rw[ecp] at hcG;refine I3 hcG ?_;rintro e3 gJ ⟨pO,pC,jR,hO,hy6⟩;have hO:V3 Jz 1 Qc Sj.heap.size gJ pO pC (Xf V (Qw V c)):=hO;have jR:e3=.returned (.slice pO (Xf V (Qw V c)).length pC):=jR;have hK7:=uH.R4 hy6;refine⟨_,_,_,jR,Qf hy6 hs6,λV' oQ hs8=>?_⟩;have hK8:=hK7.step oQ
     have B94:∀z∈QL pO,z∉[y,y1]:=λz hz hm=>by
      have:=(hO.lt z hz).1;have:=hs6 z hm;omega
     have hO8:=hO.ext oQ B94
     have B95:∀z∈QL pO,z∉QU 8 m2:=λz hz hm=>by
      have:=(hO.lt z hz).1;have:=(uH.own.lt z hm).2;omega
     have hcT:=zh6 hK8.own hR.s1 hK8.base hO8 B95 hR.len c0 (by rw[(BM hI.sw hI.rb c0 c1V hI.up t0 t1).2.2.2.2.2]; exact c1V) hR.pin hR.dr;rw[ecp] at hcT;refine I3 hcT ?_;rintro e4 zZ ⟨m3,he4,hy9⟩;have hK9:Wk 8 [y,y1] w zZ (Xi V c).1 m3:=hK8.Sn hy9 hs8;have hTk:zko c (Xf V (Qw V c)) (Xr V c (Qw V c))=Xi V c:=rfl;rw[hTk] at he4 hy9;have hO9:=hO8.ext hy9.ext B95
     have Cu7:∀z∈QL pO,z∉QU 8 m3:=λz hz hm=>by
      rcases hy9.sub z hm with h1 | h1
      ·exact B95 z hz h1
      ·have:=(hO8.lt z hz).2;omega
     have eC:(Xi V c).1.IE=(Xr V c (Qw V c)).IE:=hR.tk.o.c;have lT:(Xi V c).1.IE.length=V.IE.length:=by rw[eC]; exact(BM hI.sw hI.rb c0 c1V hI.up t0 t1).2.2.2.2.2
     have cT:c<((Xi V c).1.IE.length:Int):=by rw[lT]; exact c1V
     have e9:Qb (Xi V c).1 m3=Qb V m2:=by
      rw[hy9.AN1 (W0:=Xr V c (Qw V c)) hR.tk.o.n (by rw[eC]) (by rw[hR.tk.o.t]) hR.tk.o.g.len];exact ecp
     have rT:RB (Av (f+1)) (Xi V c).1:=hR.r1.sum hR.tk.su hR.tk.o.g (by rw[eC]);have eT:(Xi V c).1.tasks=V.tasks:=hR.tk.o.t;have eG:Z1 V.ID (Xi V c).1.ID:=hR.tk.o.g;have pT:Xf (Xi V c).1 (Qw V c)=Xf V (Qw V c):=zmo eT eG _;have uT:Q6 (Xi V c).1.ID (Q7 (Xi V c).1 (Qw V c)).group=true:=by rw[eG.cQ,Jf eT]; exact hR.us
     have upT:(gi (Xi V c).1.IE c).up=true:=by rw[eC]; exact(BM hI.sw hI.rb c0 c1V hI.up t0 t1).2.2.1
     have BI1:(gi (Xi V c).1.IE c).WQ<50:=by rw[eC]; exact hR.WQ
     have hnx:=hR.nx;refine⟨_,_,_,_,_,_,_,_,_,_,_,he4,hK8.kept hy9 hs8,λgt Si tD nQ=>?_,λgt=>?_⟩
     ·have gt:¬(Xi V c).2=true:=by simpa using gt
      have hRW:BE V c left=(Qg (Rz (Xi V c).1 c),left):=by unfold BE; rw[B' gt]
      rw[hRW] at hnx hN;have AF1:=hK9.step tD;have hcE:=ZG AF1.own c0 cT;rw[e9] at hcE;refine I3 hcE ?_;rintro e5 oA ⟨he5,BX7⟩;refine⟨_,_,_,_,_,_,_,_,_,_,he5,AF1.kept BX7 nQ,λSJ vM AQ4=>?_⟩;have Az5:=(AF1.Sn BX7 nQ).step vM;refine I3 (QA Az5.own (hR.tk.sw.Rz c0 cT) Qo Qo Az5.base) ?_;rintro e6 uO ⟨m4,he6,CB4⟩;generalize Qg (Rz (Xi V c).1 c)=V9 at he6 CB4 hnx hN;exact⟨_,_,_,_,_,_,_,_,_,_,he6,Az5.kept CB4 AQ4,λWO BF1 _=>BM1 ⟨V9,m4,left,rfl,(Az5.Sn CB4 AQ4).step BF1,hnx,hN⟩⟩
     ·have gt:(Xi V c).2=true:=by simpa using gt
      have hRW:BE V c left=(Qg (Mg (Xi V c).1 c (Qw V c) (Vq V c left)),left-Vq V c left):=by unfold BE; rw[C' gt]
      rw[hRW] at hnx hN;obtain⟨m1,m2'⟩:=hR.m gt;have mX:=hI.l1;have hcM:=zh3 (n:=left) hK9.rd hR.tk.sw.a (hO9.rd Y5.len B94) (pC:=pC) hR.len c0 cT (λz hz=>by rw[eG.cQ]; exact hR.pin z hz);rw[e9] at hcM;refine⟨_,hcM,λSi tD nQ=>?_⟩;have AF1:=hK9.step tD;have Cp4:V3 Jz 1 Qc Sj.heap.size Si pO pC (Xf (Xi V c).1 (Qw V c)):=by rw[pT]; exact hO9.ext tD B94
      have hcC:=zah (t:=Qw V c) (n:=Vq V c left) AF1.own AF1.base Cp4 Cu7 hR.tk.sw rT ⟨Qo,Qo⟩ ⟨Qo,Qo⟩ c0 cT upT BI1 t0 t1 uT Qo Qo;rw[e9,pT] at hcC;refine I3 hcC ?_;rintro e7 oA ⟨m4,he7,BX7⟩;generalize Qg (Mg (Xi V c).1 c (Qw V c) (Vq V c left))=V9 at he7 BX7 hnx hN;exact⟨_,_,_,_,_,_,_,_,_,_,he7,AF1.kept BX7 nQ,⟨by show _<=left-Vq V c left; omega,by show left-Vq V c left<=_; omega⟩,λSJ vM _=>BM1 ⟨V9,m4,left-Vq V c left,rfl,(AF1.Sn BX7 nQ).step vM,hnx,hN⟩⟩
  ·have Rx:=Ou Rx;rw[zox Qo] at hN;exact λRu SK _=>⟨V,m2,_,rfl,fK.step SK,hI.sw,Qo,Qo,hN⟩
 ·rintro a0 a1O a1L a1C a2O a2L a2C a3O a3L a3C w2 fQ ⟨V,m2,K,hv,fK,sw,k0,k1,hN⟩ Ru SK eZ;simp only[Qb,I4,I5,Iv,true_and,and_true] at hv;obtain⟨rfl,⟨rfl,rfl,rfl⟩,⟨rfl,rfl,rfl⟩,rfl,rfl,rfl⟩:=hv;have dY:=fK.step SK;refine I3 (QA dY.own sw k0 Qo dY.base) ?_;rintro e3 RU ⟨m3,jR,hy5⟩;rw[hN] at jR hy5;exact⟨_,_,_,_,_,_,_,_,_,_,jR,dY.kept hy5 eZ,λV' oQ=>QR.ok hW hb ((dY.Sn hy5 eZ).step oQ)⟩
end
def cO:Code->Code
 | .loop c=>c
 | c=>c
theorem zqb{W:Q8}{g c:Int}(h:¬QW W g c<0):Zx W g c 20=true/\Z2 W g c 20=Zm W c (QW W g c).toNat:=by
 unfold Zx Z2;unfold QW at h ⊢;rw[B' h];exact⟨Ih Qo,rfl⟩
theorem zya{W:Q8}(ha:WA W)(fl:z5f W){c:Int}(c0:0<=c)(c1:c<(W.IE.length:Int))(f:Nat):∀g:Int,Q6 W.ID g=true->(4-dep 3 W.ID g).toNat=f->(∀x∈QP W.ID g,(Qa W x c).v<=(Qa W (gi W.ID x).parent c).floor)->0<=L6 W g c->
  (Q7 W (L6 W g c)).v<=(Qa W (Q7 W (L6 W g c)).group c).floor/\∀x∈QP W.ID (Q7 W (L6 W g c)).group,(Qa W x c).v<=(Qa W (gi W.ID x).parent c).floor:=by
 induction f with
 | zero=>
  intro g hu hf;have:=GD ha hu;omega
 | succ f ih=>
  intro g hu hf hp h;rw[Aa ha hu] at h ⊢
  by_cases h1:QW W g c<0
  ·rw[C' h1] at h; omega
  ·rw[B' h1] at h ⊢;obtain⟨b1,b2⟩:=zqb h1;have oG:=fl g c hu c0 c1 b1;rw[b2] at oG
   by_cases h2:QW W g c<12
   ·rw[C' h2] at h ⊢
    have hm:Zq W g c (QW W g c).toNat=true:=by
     rcases Zu (Zq W g c) (Zm W c) 20 with ⟨a,_⟩ | ⟨_,_,a,_⟩
     ·unfold QW at h1; omega
     ·exact a
    rw[Vo Qo] at hm;unfold Od at hm;rw[show (((QW W g c).toNat:Nat):Int)=QW W g c by omega] at hm;simp only[A',Is] at hm;unfold Zm at oG;rw[C' Qo,show (((QW W g c).toNat:Nat):Int)=QW W g c by omega] at oG;rw[show (Q7 W (QW W g c)).group=g from hm.1.2];exact⟨oG,hp⟩
   ·rw[B' h2] at h ⊢;obtain⟨k1,k2,k3,k4⟩:=HF ha hu (g:=g) (c:=c) Qo
    have hm:Zq W g c (QW W g c).toNat=true:=by
     rcases Zu (Zq W g c) (Zm W c) 20 with ⟨a,_⟩ | ⟨_,_,a,_⟩
     ·unfold QW at h1; omega
     ·exact a
    rw[show (QW W g c).toNat=12+(QW W g c-12).toNat by omega,Uc] at hm;unfold Jd at hm;rw[show (((QW W g c-12).toNat:Nat):Int)=QW W g c-12 by omega] at hm;simp only[A',Is] at hm;unfold Zm at oG;rw[B' Qo,show (((QW W g c).toNat-12:Nat):Int)=QW W g c-12 by omega] at oG;refine ih _ k1 Qo (λx hx=>?_) h;rw[Yt ha.tree k1 k2] at hx;rcases Ii.1 hx with e | e
    ·rw[e,hm.1.2.2]; exact oG
    ·rw[hm.1.2.2] at e; exact hp x e
structure z4c (W:Q8) (c t WQ:Int):Prop where
 r0:0<=WQ
 r1:WQ<50
 t1:(Q7 W t).v-(Qa W (Q7 W t).group c).floor<=Ze WQ (Qe (Q7 W t).nice)
 t2:(Qa W (Q7 W t).group c).floor<=(Q7 W t).v
 p1:∀x∈QP W.ID (Q7 W t).group,(Qa W x c).v-(Qa W (gi W.ID x).parent c).floor<=Ze WQ (Qa W x c).w
 p2:∀x∈QP W.ID (Q7 W t).group,(Qa W (gi W.ID x).parent c).floor<=(Qa W x c).v
theorem zz6{W:Q8}(iv:JF W){c:Int}(c0:0<=c)(c1:c<(W.IE.length:Int))(hl:zrv W (Qw W c) c)(hp:¬Qw W c<0):z4c W c (Qw W c) (gi (Xr W c (Qw W c)).IE c).WQ:=by
 have wp:=iv.wp;have p:=XL wp;have h:=OV p hl.t0 hl.t1 (by rw[hl.st]; decide);have e:gi (Xr W c (Qw W c)).IE c=YX W c (Qw W c):=(QM _ _ c0 c1 c0).trans (C' rfl)
 have t2:(Qa W (Q7 W (Qw W c)).group c).floor<=(Q7 W (Qw W c)).v:=by
  have:=(h.f hl.st).1
  rwa[hl.IZ] at this
 have p2:∀x∈QP W.ID (Q7 W (Qw W c)).group,(Qa W (gi W.ID x).parent c).floor<=(Qa W x c).v:=λx hx=>by
  obtain⟨xu,xz⟩:=YQ wp.a.tree _ h.g x hx;exact((p.s x c xu c0 c1).st xz (hl.on x hx)).1
 rw[e]
 by_cases hc:(gi W.IE c).cur>=0/\(gi W.IE c).WQ<50
 ·have hpk:Qw W c=(gi W.IE c).cur:=by unfold Qw; rw[C' hc]
  have hs:YX W c (Qw W c)=gi W.IE c:=by
   unfold YX;rw[B'];rintro (h | h)
   ·exact h hpk
   ·omega
  rw[hs];have hy:=(p.c c c0 c1).yes hc.1;have hq:=(p.c c c0 c1).q hc.1 (by rw[<-hpk]; exact hl.st) (by rw[<-hpk]; exact hl.IZ);rw[<-hpk] at hq;exact⟨Qo,hc.2,hq.1,t2,λx hx=>(hq.2 x hx).2,p2⟩
 ·have hpk:Qw W c=L6 W 0 c:=by unfold Qw; rw[B' hc]
  have hs:(YX W c (Qw W c)).WQ=0:=by
   unfold YX;rw[C']
   by_cases h0:(gi W.IE c).cur>=0
   ·exact .inr Qo
   ·exact .inl Qo
  rw[hs];have hn:=zya wp.a iv.fl c0 c1 _ 0 wp.a.root rfl (λx hx=>by rw[show QP W.ID 0=[] from Zi _ _] at hx; cases hx) (by rw[<-hpk]; omega);rw[<-hpk] at hn;have v0:∀w:Int,0<=Ze 0 w:=λw=>(Ht 0 w).1
  refine⟨I2 _,Qd,?_,t2,λx hx=>?_,p2⟩
  ·have:=v0 (Qe (Q7 W (Qw W c)).nice);have:=hn.1;omega
  ·have:=v0 (Qa W x c).w;have:=hn.2 x hx;omega
theorem zyj{gs:List ZX}(ht:Y8 gs):∀g:Int,Q6 gs g=true->∀x∈QP gs g,dep 3 gs x<=dep 3 gs g:=
 Pf ht (λx hx=>by rw[show QP gs 0=[] from Zi _ _] at hx; cases hx) λh hu hz ih x hx=>by
  rw[Yt ht hu hz] at hx;rcases Ii.1 hx with e | e
  ·subst e; exact I2 _
  ·obtain⟨_,_,_,d,e1,e2,_⟩:=Y3 ht hu hz;have:=ih x e;omega
theorem z1o{gs:List ZX}(ht:Y8 gs):∀g:Int,Q6 gs g=true->(QP gs g++[0]).Nodup:=
 Pf ht (by rw[show QP gs 0=[] from Zi _ _]; simp) λh hu hz ih=>by
  rw[Yt ht hu hz,List.cons_append,List.nodup_cons];refine⟨λhm=>?_,ih⟩;rcases Im.1 hm with hm | hm
  ·obtain⟨hp,_,_,d,e1,e2,_⟩:=Y3 ht hu hz;have:=zyj ht _ hp h hm;omega
  ·exact hz (IA.1 hm)
theorem z0a{W:Q8}{c n g:Int}(bZ:W.ID.length=8)(u0:0<=g)(u1:g<8)(c0:0<=c)(cs:c<((gi W.ID g).IF.length:Int))(i d:Int)(hi:0<=i)(hd:0<=d):Qa (zcu W c n g) i d=if g=i/\c=d then zbb W c n g else Qa W i d:=by
 rw[<-Jw (W:=W) (s:=zbb W c n g) u0 Qo c0 cs hi hd];have hl2:g<((Gx W c n g).ID.length:Int):=by rw[HC]; omega
 have mX:g<((Rn (Gx W c n g) g (AK W c n g)).ID.length:Int):=by simp only[Rn,E']; rw[HC]; omega
 unfold Qa;show gi (gi (zcu W c n g).ID i).IF d=gi (gi (Gx W c n g).ID i).IF d;unfold zcu RL;rw[Xk u0 mX hi,Xk u0 hl2 hi,Xk u0 hl2 u0,C' rfl];split
 ·rename_i e;subst e;rfl
 ·rfl
theorem z0b{K S c n:Int}(c0:0<=c)(n0:0<=n)(n1:n<=100):∀(l:List Int) {W:Q8},l.Nodup->SW K W->RB S W->S+100*(l.length:Int)<=100000000000000000->c<(W.IE.length:Int)->(∀g∈l,Q6 W.ID g=true)->
  ∀i d:Int,0<=i->0<=d->Qa (zk8 c n l W) i d=if i∈l/\c=d then zbb W c n i else Qa W i d:=by
 intro l
 induction l generalizing K S with
 | nil=>
  intro W _ _ _ _ _ _ i d _ _;rw[B' Qs]; rfl
 | cons g l ih=>
  intro W nd sw rb hS c1 hu i d hi hd;rw[List.length_cons] at hS;have hug:=hu g I9;obtain⟨u0,u1,_⟩:=sw.a.u hug;have hsl:=sw.a.sl hug;have h1:=zp1 sw rb Qo c0 c1 hug n0 n1;obtain⟨hng,ndl⟩:=List.nodup_cons.1 nd;have e:=z0a (n:=n) sw.a.gl u0 u1 c0 Qo;rw[znj,ih ndl h1.sw (h1.rb.mono (show S+n<=S+100 by omega)) Qo (by rw[h1.cp]; exact c1) (λx hx=>by rw[h1.g.cQ]; exact hu x (I1 _ hx)) i d hi hd]
  by_cases hil:i∈l
  ·have hgi:g≠i:=λh=>hng (h▸hil)
   by_cases hcd:c=d
   ·rw[C' ⟨hil,hcd⟩,C' ⟨I1 _ hil,hcd⟩];unfold zbb;rw[e i c hi c0,B' λh=>hgi h.1]
   ·rw[B' λh=>hcd h.2,B' λh=>hcd h.2,e i d hi hd,B' λh=>hcd h.2]
  ·rw[B' λh=>hil h.1,e i d hi hd]
   by_cases hgi:g=i
   ·subst hgi
    by_cases hcd:c=d
    ·rw[C' ⟨rfl,hcd⟩,C' ⟨I9,hcd⟩]
    ·rw[B' λh=>hcd h.2,B' λh=>hcd h.2]
   ·rw[B' λh=>hgi h.1,B'];rintro⟨hm,_⟩;rcases Ii.1 hm with h | h
    ·exact hgi h.symm
    ·exact hil h
theorem zto{a b w:Int}(ha:0<=a)(hb:0<=b)(h:a+b<=149)(w1:1<=w)(w2:w<=20):Ze (a+b) w=Ze a w+Ze b w/\Ze a w+Ze b w<=ZM w:=by
 have e1:=zkq ha hb Qo w1 w2;have e2:=zkq (a:=a+b) (b:=149-(a+b)) (w:=w) Qo Qo Qo w1 w2;rw[show a+b+(149-(a+b))=149 by omega] at e2;have:=(Ht (149-(a+b)) w).1;unfold ZM;omega
structure z5l (V T:Q8) (c t:Int):Prop where
 tk:T.tasks=V.tasks
 g:Z1 V.ID T.ID
 s:∀i:Int,0<=i->(gi T.ID i).IF=(gi V.ID i).IF
 cp:∀d:Int,0<=d->gi T.IE d=if c=d then YX V c t else gi V.IE d
 l:T.IE.length=V.IE.length
theorem z20{K S:Int}{V T:Q8}{c t m:Int}(iv:JF V)(hM:z5l V T c t)(sw:SW K T)(rb:RB S T)(hS:0<=S/\S+500<=100000000000000000)(c0:0<=c)(c1:c<(V.IE.length:Int))(up:(gi V.IE c).up=true)(t0:0<=t)(t1:t<12)(oH:(Q7 V t).state=1)(iW:(Q7 V t).IZ=c)(qE:(YX V c t).cur=t)(hb:z4c V c t (YX V c t).WQ)(m0:1<=m)(m1:m<=100):O4 (Mg T c t m):=by
 have wp:=iv.wp;have p:=XL wp;have hht:=OV p t0 t1 (by rw[oH]; decide);have bZ:=wp.a.gl;have eM:=wp.a.t;have c1T:c<(T.IE.length:Int):=by rw[hM.l]; exact c1
 have eTc:gi T.IE c=YX V c t:=(hM.cp c c0).trans (C' rfl);have upT:(gi T.IE c).up=true:=by rw[eTc]; unfold YX; split <;> exact up
 have BI1:(gi T.IE c).WQ<50:=by rw[eTc]; exact hb.r1
 have hg:Q6 V.ID (Q7 V t).group=true:=hht.g;have huT:Q6 T.ID (Q7 T t).group=true:=by rw[hM.g.cQ,Jf hM.tk]; exact hg
 have pT:Xf T t=Xf V t:=zmo hM.tk hM.g t;obtain⟨sE,rE,_,_,hlE,_,s1,r1,cp1⟩:=zk9 sw rb hS.2 c0 c1T upT BI1 t0 t1 huT Qo m1;obtain⟨pin,CC3⟩:=zbk sw.a huT;have hTG:Z1 V.ID (Mg T c t m).ID:=hM.g.trans cp1.g;have shT:∀i d:Int,0<=i->Qa T i d=Qa V i d:=λi d hi=>by unfold Qa; rw[hM.s i hi]
 have hnd:(Xf T t).Nodup:=by rw[pT]; exact z1o wp.a.tree _ hg
 have eS:∀i d:Int,0<=i->0<=d->Qa (Mg T c t m) i d=if i∈Xf V t/\c=d then zbb V c m i else Qa V i d:=λi d hi hd=>by
  have e:=z0b c0 Qo m1 (Xf T t) hnd s1 r1 Qo c1T pin i d hi hd;have e':Qa (Mg T c t m) i d=if i∈Xf T t/\c=d then zbb T c m i else Qa T i d:=e;rw[e',pT,shT i d hi];have:zbb T c m i=zbb V c m i:=by unfold zbb; rw[shT i c hi]
  rw[this]
 have fF:∀i d:Int,0<=i->0<=d->(Qa (Mg T c t m) i d).floor=(Qa V i d).floor:=λi d hi hd=>by
  rw[eS i d hi hd]; split
  ·rename_i h; rw[<-h.2]; rfl
  ·rfl
 have fO:∀i d:Int,0<=i->0<=d->(Qa (Mg T c t m) i d).on=(Qa V i d).on:=λi d hi hd=>by
  rw[eS i d hi hd]; split
  ·rename_i h; rw[<-h.2]; rfl
  ·rfl
 have fW:∀i d:Int,0<=i->0<=d->(Qa (Mg T c t m) i d).w=(Qa V i d).w:=λi d hi hd=>by
  rw[eS i d hi hd]; split
  ·rename_i h; rw[<-h.2]; rfl
  ·rfl
 have fV:∀i d:Int,0<=i->0<=d->¬(i∈QP V.ID (Q7 V t).group/\c=d)->(Qa (Mg T c t m) i d).v=(Qa V i d).v:=λi d hi hd hn=>by
  rw[eS i d hi hd]; split
  ·rename_i h
   have hz:¬i≠0:=λhz=>by
    rcases Im.1 h.1 with h' | h'
    ·exact hn ⟨h',h.2⟩
    ·exact hz (IA.1 h')
   rw[<-h.2];show (if i≠0 then _ else _)=_;rw[B' hz]
  ·rfl
 have fP:∀i:Int,i∈QP V.ID (Q7 V t).group->(Qa (Mg T c t m) i c).v=(Qa V i c).v+Ze m (Qa V i c).w:=λi hi=>by
  obtain⟨iu,iz⟩:=YQ wp.a.tree _ hg i hi;rw[eS i c (Q4.1 iu).1 c0,C' ⟨Ia _ hi,rfl⟩];show (if i≠0 then _ else _)=_;rw[C' iz]
 have eK:∀i:Int,0<=i->Q7 (Mg T c t m) i=if t=i then Gy V t m else Q7 V i:=λi hi=>by
  have h1:Q7 (Mg T c t m) i=gi (T.tasks.set t.toNat (Gy T t m)) i:=by
   show gi (zk8 c m (Xf T t) (IU T t (Gy T t m))).tasks i=_;rw[cp1.t]; rfl
  have h2:Gy T t m=Gy V t m:=by unfold Gy; rw[Jf hM.tk]
  rw[h1,QM _ _ t0 (by rw[hM.tk]; omega) hi,h2];split
  ·rfl
  ·exact Jf hM.tk i
 have eC:∀d:Int,0<=d->gi (Mg T c t m).IE d=if c=d then zr4 T c m else gi V.IE d:=λd hd=>by
  have h1:gi (Mg T c t m).IE d=gi (T.IE.set c.toNat (zr4 T c m)) d:=by
   show gi ((zk8 c m (Xf T t) (IU T t (Gy T t m))).IE.set c.toNat (zr4 T c m)) d=_;rw[cp1.cp]; rfl
  rw[h1,QM _ _ c0 c1T hd];split
  ·rfl
  ·rename_i h;rw[hM.cp d hd,B' h]
 have wn:1<=Qe (Q7 V t).nice/\Qe (Q7 V t).nice<=20:=by
  have:=Ym (Q7 V t).nice;have:=hht.n;omega
 have hv0:∀w:Int,0<=Ze m w:=λw=>(Ht m w).1
 have Cw4:∀i d:Int,Q6 V.ID i=true->0<=d->d<(V.IE.length:Int)->1<=(Qa V i d).w/\(Qa V i d).w<=20:=λi d hu d0 d1=>by
  have:=F3 wp hu d0 d1;exact⟨this.w1,this.w2⟩
 have vt:=zto hb.r0 (show 0<=m by omega) (by have:=hb.r1; omega) wn.1 wn.2
 have vp:∀i:Int,i∈QP V.ID (Q7 V t).group->Ze ((YX V c t).WQ+m) (Qa V i c).w=Ze (YX V c t).WQ (Qa V i c).w+Ze m (Qa V i c).w/\Ze (YX V c t).WQ (Qa V i c).w+Ze m (Qa V i c).w<=ZM (Qa V i c).w:=λi hi=>by
  have h:=Cw4 i c (YQ wp.a.tree _ hg i hi).1 c0 c1;exact zto hb.r0 (show 0<=m by omega) (by have:=hb.r1; omega) h.1 h.2
 have Bw6:∀i:Int,Q6 V.ID i=true->i≠0->0<=(gi V.ID i).parent:=λi hu hz=>(Q4.1 (Y3 wp.a.tree hu hz).1).1
 have CT7:∀i:Int,i∈QP V.ID (Q7 V t).group->T8 (Mg T c t m) i c:=λi hi=>by
  obtain⟨iu,iz⟩:=YQ wp.a.tree _ hg i hi;have i0:=(Q4.1 iu).1;unfold T8;rw[hTG.p,fF _ c (Bw6 i iu iz) c0,fP i hi,fW i c i0 c0];have h1:=hb.p1 i hi;have h2:=hb.p2 i hi;have h3:=vp i hi;have:=hv0 (Qa V i c).w;omega
 refine⟨⟨sE.a,λi a b=>?_,λi a b n=>?_,λk d hk d0 d1=>?_⟩,λd d0 d1=>?_⟩
 ·have hrt:=rE.t i a b;rw[eK i a] at hrt ⊢;split
  ·rename_i he;rw[C' he] at hrt;refine .inr ⟨by show (Q7 V t).state≠0; rw[oH]; decide,hht.st,by rw[hTG.cQ]; exact hg,hht.n,hht.m,hht.m0,Xl.2 ⟨hrt.1,Qo⟩,Xl.2 ⟨hrt.2.2.1,Qo⟩,hht.l1,hht.l2,λ_=>?_⟩;show (Qa (Mg T c t m) (Q7 V t).group (Q7 V t).IZ).floor<=(Q7 V t).v+Ze m (Qe (Q7 V t).nice)/\(Q7 V t).v+Ze m (Qe (Q7 V t).nice)-(Qa (Mg T c t m) (Q7 V t).group (Q7 V t).IZ).floor<=ZM (Qe (Q7 V t).nice);rw[iW,fF _ c (Q4.1 hg).1 c0];have:=hb.t1;have:=hb.t2;have:=hv0 (Qe (Q7 V t).nice);omega
  ·rcases p.t i a b with h | ⟨h1,h2⟩
   ·exact .inl h
   ·refine .inr ⟨h1,h2.st,by rw[hTG.cQ]; exact h2.g,h2.n,h2.m,h2.m0,h2.s,h2.u,h2.l1,h2.l2,λhs=>?_⟩;rw[fF _ _ (Q4.1 h2.g).1 (p.l i a b h1).1];exact h2.f hs
 ·rw[hlE,hM.l];rw[eK i a] at n ⊢;split
  ·show 0<=(Q7 V t).IZ/\(Q7 V t).IZ<_;rw[iW]; exact⟨c0,c1⟩
  ·rename_i he;rw[B' he] at n;exact p.l i a b n
 ·have hrs:=rE.s k d hk d0 d1;rw[hTG.cQ] at hk;rw[hlE,hM.l] at d1;have k0:=(Q4.1 hk).1;have hp:=p.s k d hk d0 d1;refine⟨Xl.2 ⟨hrs.1,Qo⟩,λhz=>?_,λhz ho=>?_⟩
  ·have h:=hp.root hz;rw[fO k d k0 d0,fW k d k0 d0,fV k d k0 d0 λh=>(YQ wp.a.tree _ hg k h.1).2 hz];exact h
  ·rw[fO k d k0 d0] at ho
   by_cases sZ:k∈QP V.ID (Q7 V t).group/\c=d
   ·obtain⟨h1,rfl⟩:=sZ;exact CT7 k h1
   ·have h:=hp.st hz ho;unfold T8 at h ⊢;rw[hTG.p,fF _ d (Bw6 k hk hz) d0,fV k d k0 d0 sZ,fW k d k0 d0];exact h
 ·have hrc:=rE.c d d0 d1;rw[hlE,hM.l] at d1
  by_cases hd:c=d
  ·subst hd;have e:=(eC c c0).trans (C' rfl);have Cn0:(gi (Mg T c t m).IE c).cur=t:=by rw[e]; show (gi T.IE c).cur=t; rw[eTc]; exact qE
   have Cn4:(gi (Mg T c t m).IE c).WQ=(YX V c t).WQ+m:=by rw[e]; show (gi T.IE c).WQ+m=_; rw[eTc]
   have aZ:=hb.r0;have uQ:=hb.r1;refine⟨Xl.2 ⟨hrc.1,Qo⟩,Xl.2 ⟨hrc.2.2.1,by have:=hrc.2.2.2.1; omega⟩,Qo,Qo,λh0=>by omega,λ_=>⟨by rw[e]; exact upT,Qo,Qo⟩,λ_ _ _=>?_⟩;rw[Cn0,Cn4,eK t t0,C' rfl];refine⟨?_,λx hx=>?_⟩
   ·show (Q7 V t).v+Ze m (Qe (Q7 V t).nice)-(Qa (Mg T c t m) (Q7 V t).group c).floor<=Ze ((YX V c t).WQ+m) (Qe (Q7 V t).nice);rw[fF _ c (Q4.1 hg).1 c0,vt.1];have:=hb.t1;omega
   ·have hx:x∈QP (Mg T c t m).ID (Q7 V t).group:=hx;rw[O0 hTG] at hx;obtain⟨xu,xz⟩:=YQ wp.a.tree _ hg x hx;refine⟨CT7 x hx,?_⟩;rw[hTG.p,fF _ c (Bw6 x xu xz) c0,fP x hx,fW x c (Q4.1 xu).1 c0,(vp x hx).1];have:=hb.p1 x hx;omega
  ·have e:=(eC d d0).trans (B' hd);have h:=p.c d d0 d1;refine⟨by rw[e]; exact h.b,by rw[e]; exact h.i,by rw[e]; exact h.c1,by rw[e]; exact h.c2,by rw[e]; exact h.no,by rw[e]; exact h.yes,?_⟩;rw[e];intro h0 h1 h2;rw[eK _ h0] at h1 h2 ⊢
   by_cases ht:t=(gi V.IE d).cur
   ·rw[C' ht] at h2;have h2:(Q7 V t).IZ=d:=h2;exact Ir (iW.symm.trans h2) hd
   ·rw[B' ht] at h1 h2 ⊢;obtain⟨q1,q2⟩:=h.q h0 h1 h2;have jW:=(OV p h0 h.c2 (by rw[h1]; decide)).g;refine⟨by rw[fF _ d (Q4.1 jW).1 d0]; exact q1,λx hx=>?_⟩;rw[O0 hTG] at hx;obtain⟨xu,xz⟩:=YQ wp.a.tree _ jW x hx;have x0:=(Q4.1 xu).1;have:=q2 x hx;unfold T8 at this ⊢;rw[hTG.p,fF _ d (Bw6 x xu xz) d0,fV x d x0 d0 λh=>hd h.2,fW x d x0 d0];exact this
theorem z1y(W:Q8)(c n g:Int):O5 W (zcu W c n g):=
 ((zfv W g c (zbb W c n g)).trans (zrg (W:=Gx W c n g) (g:=g) (x:=AK W c n g) rfl rfl rfl rfl rfl)).trans (zrf _ _ _)
theorem zte(c n:Int):∀(l:List Int) (W:Q8),O5 W (zk8 c n l W)
 | [],W=>O5.refl _
 | g::l,W=>(z1y W c n g).trans (zte c n l _)
theorem ztf(W:Q8)(c g:Int):O5 W (zbo W c g).1:=by
 unfold zbo;split
 ·exact O5.refl _
 ·exact zrf _ _ _
theorem ztg(c:Int):∀(l:List Int) (W:Q8),O5 W (zko c l W).1
 | [],W=>O5.refl _
 | g::l,W=>by
  simp only[zko];split
  ·exact(ztf W c g).trans (ztg c l _)
  ·exact ztf W c g
theorem zy4(W:Q8)(c t:Int):O5 W (Xr W c t):=zmv (by unfold YX; split <;> rfl)
theorem zt9(W:Q8)(c t:Int):XT (YX W c t)=XT (gi W.IE c):=by unfold YX; split <;> rfl
theorem z0r{f:Nat}{c left:Int}{W0 V:Q8}(h:zgb f c W0 V left)(iv:JF V):JF (Qg (Rz (S9 V c (GO V c left)) c)):=by
 have p:=XL iv.wp;have c0:=h.c0;have c1:=h.c1;have hK:=BH h.f2;have hh0:(0:Int)<=Qn:=Qd;have oH:Ud=173430457200:=rfl;obtain⟨sE,s1,i3,i4⟩:=zxg h;have hl:(S9 V c (GO V c left)).IE.length=V.IE.length:=E'
 have hP:O4 (S9 V c (GO V c left)):=by
  refine⟨⟨s1.a,λt t0 t1=>(p.t t t0 t1).imp id λh=>⟨h.1,h.2.gr rfl⟩,λt t0 t1 n=>?_,λk d hk d0 d1=>?_⟩,λd d0 d1=>?_⟩
  ·rw[hl]; exact p.l t t0 t1 n
  ·rw[hl] at d1; exact(p.s k d hk d0 d1).Bg5 rfl λ_=>rfl
  ·rw[hl] at d1;have hd:=p.c d d0 d1;have e:gi (S9 V c (GO V c left)).IE d=if c=d then GO V c left else gi V.IE d:=QM _ _ c0 c1 d0
   by_cases he:c=d
   ·subst he;have e:=e.trans (C' rfl);exact⟨by rw[e]; exact hd.b,by rw[e]; exact Xl.2 ⟨i3,by show (gi V.IE c).idle+left<=_; omega⟩,by rw[e]; exact hd.c1,by rw[e]; exact hd.c2,by rw[e]; exact hd.no,by rw[e]; exact hd.yes,by rw[e]; exact hd.q⟩
   ·have e:=e.trans (B' he);exact⟨by rw[e]; exact hd.b,by rw[e]; exact hd.i,by rw[e]; exact hd.c1,by rw[e]; exact hd.c2,by rw[e]; exact hd.no,by rw[e]; exact hd.yes,by rw[e]; exact hd.q⟩
 exact ZF sE Qo Qo (hP.Rz c0 (by rw[hl]; exact c1)) (((zmv (W:=V) (c:=c) (x:=GO V c left) rfl).loc rfl (Vn iv.wp)).Rz _)
theorem z1t{f:Nat}{c left:Int}{W0 V:Q8}(h:zgb (f+1) c W0 V left)(iv:JF V)(hl:0<left)(hp:¬Qw V c<0):JF (BE V c left).1:=by
 have hR:=zq8 h hl hp;have c0:=h.c0;have c1:=h.c1;have hK:=BH h.f2;have hSu:=zmr h.f2;have hh0:(0:Int)<=Qn:=Qd;have oH:Ud=173430457200:=rfl;have hlg:Qi=34686091440:=rfl;have t0:=hR.line.t0;have t1:=hR.line.t1;obtain⟨q1,q2,q3,q4,q5,q6⟩:=BM h.sw h.rb c0 c1 h.up t0 t1;have eC:(Xi V c).1.IE=(Xr V c (Qw V c)).IE:=hR.tk.o.c;have lT:(Xi V c).1.IE.length=V.IE.length:=by rw[eC]; exact q6
 have cT:c<((Xi V c).1.IE.length:Int):=by rw[lT]; exact c1
 have rT:RB (Av (f+1)) (Xi V c).1:=hR.r1.sum hR.tk.su hR.tk.o.g (by rw[eC]);have eT:(Xi V c).1.tasks=V.tasks:=hR.tk.o.t;have eG:Z1 V.ID (Xi V c).1.ID:=hR.tk.o.g;have eN:(Xi V c).1.now=V.now:=hR.tk.o.n;have eSh:∀i:Int,0<=i->(gi (Xi V c).1.ID i).IF=(gi V.ID i).IF:=hR.tk.o.s;have sT:O5 V (Xi V c).1:=(zy4 V c (Qw V c)).trans (ztg c _ _);have lcT:zbs (Xi V c).1:=sT.loc eT (Vn iv.wp)
 have eCp:∀d:Int,0<=d->gi (Xi V c).1.IE d=if c=d then YX V c (Qw V c) else gi V.IE d:=λd hd=>by
  rw[eC]; exact QM _ _ c0 c1 hd
 have hRW:BE V c left=if (Xi V c).2=true then (Qg (Mg (Xi V c).1 c (Qw V c) (Vq V c left)),left-Vq V c left) else (Qg (Rz (Xi V c).1 c),left):=rfl;rw[hRW]
 by_cases gt:(Xi V c).2=true
 ·rw[C' gt];obtain⟨m1,m2⟩:=hR.m gt;obtain⟨sC,rC⟩:=hR.ch gt;have mX:=h.l1;have hb:=zz6 iv c0 c1 hR.line hp;have es:gi (Xr V c (Qw V c)).IE c=YX V c (Qw V c):=(QM _ _ c0 c1 c0).trans (C' rfl);rw[es] at hb q5;have hP:O4 (Mg (Xi V c).1 c (Qw V c) (Vq V c left)):=z20 iv ⟨eT,eG,eSh,eCp,lT⟩ hR.tk.sw rT ⟨Qo,Qo⟩ c0 c1 h.up t0 t1 hR.line.st hR.line.IZ q5 hb m1 Qo;refine ZF sC Qo Qo hP ?_;have uT:Q6 (Xi V c).1.ID (Q7 (Xi V c).1 (Qw V c)).group=true:=by rw[eG.cQ,Jf eT]; exact hR.us
  have upT:(gi (Xi V c).1.IE c).up=true:=by rw[eC]; exact q3
  have BI1:(gi (Xi V c).1.IE c).WQ<50:=by rw[eC]; exact hR.WQ
  have cp1:=(zk9 (t:=Qw V c) (n:=Vq V c left) hR.tk.sw rT Qo c0 cT upT BI1 t0 t1 uT Qo Qo).2.2.2.2.2.2.2.2;have l1:zbs (IU (Xi V c).1 (Qw V c) (Gy (Xi V c).1 (Qw V c) (Vq V c left))):=lcT.IU hR.tk.sw.a t0 t1 λn=>lcT _ t0 t1 n
  have l2:=(zte c (Vq V c left) (Xf (Xi V c).1 (Qw V c)) (IU (Xi V c).1 (Qw V c) (Gy (Xi V c).1 (Qw V c) (Vq V c left)))).loc cp1.t l1;refine O5.loc (zmv ?_) rfl l2;show (gi (Xi V c).1.IE c).up=(gi (zk8 c (Vq V c left) (Xf (Xi V c).1 (Qw V c)) (IU (Xi V c).1 (Qw V c) (Gy (Xi V c).1 (Qw V c) (Vq V c left)))).IE c).up;rw[cp1.cp]; rfl
 ·rw[B' gt]
  have hE:Rz (Xi V c).1 c=Rz { (Xi V c).1 with IE:=V.IE } c:=by
   have e1:=(eCp c c0).trans (C' rfl);show ({ (Xi V c).1 with IE:=(Xi V c).1.IE.set c.toNat (XT (gi (Xi V c).1.IE c)) }:Q8)={ (Xi V c).1 with IE:=V.IE.set c.toNat (XT (gi V.IE c)) };rw[e1,zt9,eC];show ({ (Xi V c).1 with IE:=(V.IE.set c.toNat (YX V c (Qw V c))).set c.toNat (XT (gi V.IE c)) }:Q8)=_;rw[List.set_set]
  have ha:WA ({ (Xi V c).1 with IE:=V.IE }:Q8):=hR.tk.sw.a.cp lT.symm iv.wp.a.ups;have p2:O4 ({ (Xi V c).1 with IE:=V.IE }:Q8):=(XL iv.wp).A46 ⟨eN,rfl,eT,eG,eSh⟩ ha;have qG:=lcT.Rz c;have sE:=hR.tk.sw.Rz c0 cT;rw[hE] at qG sE ⊢;exact ZF sE Qo Qo (p2.Rz c0 c1) qG
theorem zoy{c:Int}{W0:Q8}:∀(f:Nat) {V:Q8} {left:Int},zgb f c W0 V left->JF V->JF (zfk c f V left)
 | 0,V,left,h,_=>by
  have:=h.f1;have:=h.l0;omega
 | f+1,V,left,h,iv=>by
  have hK:=BH h.f2;have hh0:(0:Int)<=Qn:=Qd;have oH:Ud=173430457200:=rfl
  by_cases hl:left<=0
  ·rw[zox hl];exact ZF h.sw Qo Qo (XL iv.wp) (Vn iv.wp)
  ·by_cases hp:Qw V c<0
   ·rw[zj7 hl hp];exact z0r h iv
   ·rw[zj8 hl hp];have hR:=zq8 h Qo hp;exact zoy f hR.nx (z1t h iv Qo hp)
theorem z00{W:Q8}{c n:Int}(iv:JF W)(hb:BF W c n=0):JF (zvb W c n):=zoy 400 (zyx (Qj.2 iv.wp) hb).2.2.2.2 iv
theorem zvs{W:Q8}(wp:YI W){c:Int}(c0:0<=c)(c1:c<(W.IE.length:Int)):YI (Rz W c):=by
 have hl:(Rz W c).IE.length=W.IE.length:=E';have e:∀d:Int,0<=d->gi (Rz W c).IE d=if c=d then XT (gi W.IE c) else gi W.IE d:=λd d0=>QM _ _ c0 c1 d0
 have sta:=HS W c
 have ha:WA (Rz W c):=wp.a.cp (cs:=W.IE.set c.toNat (XT (gi W.IE c))) E' (by
  rw[show U1 (W.IE.set c.toNat (XT (gi W.IE c)))=U1 W.IE from sta.ups];exact wp.a.ups)
 refine⟨ha,λt t0 t1=>?_,λk d k0 k1 d0 d1=>?_,λd d0 d1=>?_⟩
 ·rcases wp.t t t0 t1 with hz | ⟨n,hx⟩
  ·exact .inl hz
  ·refine .inr ⟨n,hx.st,hx.g,hx.n,hx.m,hx.m0,hx.v,hx.s,hx.u,hx.l1,hx.l2,?_,hx.f⟩;rw[sta.wh]; exact hx.c
 ·have hs:=wp.s k d k0 k1 d0 d1;exact⟨hs.f,hs.v,hs.s,hs.w1,hs.w2,hs.root,hs.on,hs.st⟩
 ·rw[hl] at d1;have h:=wp.c d d0 d1
  by_cases hd:c=d
  ·subst hd;have e1:=(e c c0).trans (C' rfl);refine⟨by rw[e1]; exact h.b,by rw[e1]; exact h.i,by rw[e1]; show (-1:Int)<=-1; decide,by rw[e1]; show (-1:Int)<_; have:=wp.a.t; show (-1:Int)<(W.tasks.length:Int); omega,λ_=>by rw[e1]; rfl,λh0=>?_⟩;rw[e1] at h0;have h0:(0:Int)<=-1:=h0;omega
  ·have e1:=(e d d0).trans (B' hd);refine⟨by rw[e1]; exact h.b,by rw[e1]; exact h.i,by rw[e1]; exact h.c1,by rw[e1]; exact h.c2,by rw[e1]; exact h.no,λh0=>?_⟩;rw[e1] at h0 ⊢;obtain⟨y1,y2,y3,y4,y5,y6⟩:=h.yes h0;refine⟨y1,y2,y3,y4,y5,?_⟩;unfold MQ at y6 ⊢;rw[e1];exact y6
theorem zuh{W:Q8}(iv:JF W){c:Int}(c0:0<=c)(c1:c<(W.IE.length:Int)):JF (Rz W c):=
 ⟨zvs iv.wp c0 c1,λk d hu d0 d1 hb=>by
  have hl:(Rz W c).IE.length=W.IE.length:=E';rw[hl] at d1;exact iv.fl k d hu d0 d1 hb⟩
def Bp(W:Q8)(t g:Int):Int:=if QZ (Qx W g (Q7 W t).mask) (Q7 W t).IZ=true then (Q7 W t).IZ else Dv (Qx W g (Q7 W t).mask)
noncomputable def zeo(W:Q8)(t g:Int):Int:=if ZB W t=false\/Q6 W.ID g=false then 2 else if QT W=false then 10 else 0
def zh7(W:Q8)(t g:Int):Q8:=if (Q7 W t).group=g then W else Qg (XW (Z4 W t) t g (Bp W t g))
theorem zst{W:Q8}(wp:YI W){t g:Int}(t0:0<=t)(t1:t<12)(n:(Q7 W t).state≠0):0<=Bp W t g/\Bp W t g<(W.IE.length:Int)/\QZ (Qx W g (Q7 W t).mask) (Bp W t g)=true:=by
 unfold Bp;split
 ·rename_i h;have:=(XL wp).l t t0 t1 n;exact⟨this.1,this.2,h⟩
 ·have hw:=Hx wp.a g (Q7 W t).mask;have hf:=HY wp.a g (Q7 W t).mask;exact⟨hf.1,hf.2,Bn hw.1 hw.2⟩
theorem z0w{W:Q8}{t g:Int}(iv:JF W)(hb:zeo W t g=0):JF (zh7 W t g):=by
 have wp:=iv.wp;unfold zeo at hb
 split at hb
 ·cases hb
 ·rename_i h1
  split at hb
  ·cases hb
  ·rename_i h3;have hth:ZB W t=true:=by cases h:ZB W t with | true=>rfl | false=>exact Ir (.inl h) h1
   have hu:Q6 W.ID g=true:=by cases h:Q6 W.ID g with | true=>rfl | false=>exact Ir (.inr h) h1
   have hr:QT W=true:=by simpa using h3
   obtain⟨t0,t1,n⟩:=Yv hth;have eM:=wp.a.t;unfold zh7;split
   ·exact iv
   ·obtain⟨m0,m1,m2⟩:=zst wp (g:=g) t0 Qo n;have sw:=MR wp (Qj.1 hr);obtain⟨c0,c1⟩:=(XL wp).l t t0 Qo n
    have key:O4 (Z4 W t)/\O5 W (Z4 W t)/\SW Qn (Z4 W t)/\Q7 (Z4 W t) t=Q7 W t/\(Z4 W t).tasks=W.tasks/\(Z4 W t).ID=W.ID:=by
     unfold Z4;split
     ·exact⟨(XL wp).Rz c0 c1,HS _ _,sw.Rz c0 c1,rfl,rfl,rfl⟩
     ·exact⟨XL wp,O5.refl _,sw,rfl,rfl,rfl⟩
    obtain⟨k1,k2,k3,k4,k5,k6⟩:=key;have hlo:=k2.loc k5 (Vn wp);have hu2:Q6 (Z4 W t).ID g=true:=by rw[k6]; exact hu
    have hm1:Bp W t g<((Z4 W t).IE.length:Int):=by rw[k2.len]; exact m1
    have sf:=(zbl (Lh k3) (I2 _) (t:=t) t0 Qo hu2 m0 hm1).2;refine ZF sf.w (by simp only[Qi]; decide) (by simp only[Qi,Ud]; decide) (zfi k1 t0 Qo (by rw[k4]; exact n) hu2 m0 hm1) λi i0 i1 hn=>?_
    rw[(zbn (Z4 W t) t g (Bp W t g)).wh];rw[zq5 k1.a.t t0 Qo i0] at hn ⊢
    split at hn
    ·rename_i he;rw[C' he];show QZ (Qx (Z4 W t) g (Q7 (Z4 W t) t).mask) (Bp W t g)=true;rw[k4,k2.wh]; exact m2
    ·rename_i he;rw[B' he];exact hlo i i0 i1 hn
structure zi4 (W:Q8) (g:Int):Prop where
 g1:1<=g
 us:Q6 W.ID g=true
 nk:∀h:Int,1<=h->h<8->(gi W.ID h).used=true->(gi W.ID h).parent≠g
 nt:∀t:Int,0<=t->t<12->(Q7 W t).state≠0->(Q7 W t).group≠g
def Je(W:Q8)(g:Int):Q8:=Rn W g zf7
section
variable {W:Q8}{g:Int}
theorem zi4.g8(h:zi4 W g)(ha:WA W):g<8:=by
 have:=ha.gl;have:=(Q4.1 h.us).2.1;omega
theorem DM(ha:WA W)(h:zi4 W g){i:Int}(hi:0<=i):gi (Je W g).ID i=if g=i then zf7 else gi W.ID i:=Xk (by have:=h.g1; omega) (Q4.1 h.us).2.1 hi
theorem En(ha:WA W)(h:zi4 W g){k:Int}(hu:Q6 W.ID k=true)(hk:k≠g):gi (Je W g).ID k=gi W.ID k:=by
 rw[DM ha h (Q4.1 hu).1,B' λe=>hk e.symm]
theorem zld(ha:WA W):(Je W g).ID.length=8:=by
 have:=ha.gl;simp[Je,Rn]; omega
theorem zcz(ha:WA W)(h:zi4 W g){k:Int}(hu:Q6 W.ID k=true)(hz:k≠0):(gi W.ID k).parent≠g:=by
 obtain⟨a,b,c⟩:=Q4.1 hu;have:=ha.gl;exact h.nk k Qo Qo c
theorem zbd(ha:WA W)(h:zi4 W g){k:Int}:Q6 (Je W g).ID k=true↔Q6 W.ID k=true/\k≠g:=by
 have bZ:=ha.gl;rw[Q4,Q4,zld ha,bZ];constructor
 ·rintro⟨x,y,z⟩;rw[DM ha h x] at z
  by_cases e:g=k
  ·rw[C' e] at z; cases z
  ·rw[B' e] at z;exact⟨⟨x,y,z⟩,λe2=>e e2.symm⟩
 ·rintro⟨⟨x,y,z⟩,e⟩;refine⟨x,y,?_⟩;rw[DM ha h x,B' λe2=>e e2.symm];exact z
theorem zwy(ha:WA W)(h:zi4 W g):∀(f:Nat) (k:Int),Q6 W.ID k=true->k≠g->dep f (Je W g).ID k=dep f W.ID k
 | 0,_,_,_=>rfl
 | f+1,k,hu,hk=>by
  by_cases hz:k=0
  ·subst hz; rw[Yj,Yj]
  ·have ih:=zwy ha h f _ (Y3 ha.tree hu hz).1 (zcz ha h hu hz);simp only[dep];rw[En ha h hu hk,ih]
theorem zle(ha:WA W)(h:zi4 W g):∀(f:Nat) (k:Int),Q6 W.ID k=true->k≠g->Vc f (Je W g).ID k=Vc f W.ID k
 | 0,_,_,_=>rfl
 | f+1,k,hu,hk=>by
  by_cases hz:k=0
  ·subst hz; rw[Zi,Zi]
  ·have ih:=zle ha h f _ (Y3 ha.tree hu hz).1 (zcz ha h hu hz);simp only[Vc];rw[En ha h hu hk,ih]
theorem zp4(ha:WA W)(h:zi4 W g):∀k:Int,Q6 W.ID k=true->k≠g->∀x∈QP W.ID k,x≠g:=
 Pf ha.tree (λ_ x hx=>by rw[show QP W.ID 0=[] from Zi _ _] at hx; cases hx) λk hu hz ih hk x hx=>by
  rw[Yt ha.tree hu hz] at hx;rcases Ii.1 hx with e | e
  ·rw[e]; exact hk
  ·exact ih (zcz ha h hu hz) x e
theorem z0h(ha:WA W)(h:zi4 W g):Y8 (Je W g).ID:=by
 have ht:=ha.tree;have r:=En ha h ha.root (by have:=h.g1; omega)
 have sp:∀{k:Int},1<=k->k<8->(gi (Je W g).ID k).used=true->Q6 W.ID k=true/\k≠g/\gi (Je W g).ID k=gi W.ID k:=λ{k} b d hh=>by
  have:=(zbd ha h).1 (Q4.2 ⟨Qo,by rw[zld ha]; omega,hh⟩);exact⟨this.1,this.2,En ha h this.1 this.2⟩
 refine⟨zld ha,by rw[r]; exact ht.ru,by rw[r]; exact ht.rp,by rw[r]; exact ht.rn,λk b d hh=>?_,λk b d hh=>?_,λk b d hh=>?_,λx k b d e hx hk=>?_⟩
 ·obtain⟨_,_,e⟩:=sp b d hh;rw[e] at hh ⊢; exact ht.nm k b d hh
 ·obtain⟨_,_,e⟩:=sp b d hh;rw[e] at hh ⊢;exact(zbd ha h).2 ⟨ht.par k b d hh,h.nk k b d hh⟩
 ·obtain⟨u,n,_⟩:=sp b d hh;rw[zwy ha h 3 k u n]; exact ht.dp k b d (Q4.1 u).2.2
 ·rintro⟨q1,q2⟩;obtain⟨u1,_,e1⟩:=sp Qo e hx;obtain⟨u2,_,e2⟩:=sp b Qo hk;rw[e1,e2] at q1 q2;exact ht.uniq x k b d e (Q4.1 u1).2.2 (Q4.1 u2).2.2 ⟨q1,q2⟩
theorem Lt(ha:WA W)(h:zi4 W g){k c:Int}(hu:Q6 W.ID k=true)(hk:k≠g):Qa (Je W g) k c=Qa W k c:=by
 unfold Qa;rw[En ha h hu hk]
theorem z0g(wp:YI W)(h:zi4 W g){c:Int}:QJ W g c=false:=by
 have hl:=wp.a.gl;have ht:=wp.a.t
 have e1:∀j,j<W.tasks.length->Od W g c j=false:=λj hj=>by
  unfold Od
  cases hs:((gi W.tasks (j:Int)).state==1) with
  | false=>rfl
  | true=>
   have hs:(gi W.tasks (j:Int)).state=1:=by simpa using hs
   have:(gi W.tasks (j:Int)).group≠g:=h.nt (j:Int) Qo Qo (by rw[show (Q7 W (j:Int)).state=1 from hs]; decide);rw[show ((gi W.tasks (j:Int)).group==g)=false by simpa using this];rfl
 have e2:∀j,j<W.ID.length->Jd W g c j=false:=λj hj=>by
  unfold Jd
  by_cases hj1:1<=j
  ·cases hs:(gi W.ID (j:Int)).used with
   | false=>simp
   | true=>
    have:=h.nk (j:Int) Qo Qo hs;rw[show ((gi W.ID (j:Int)).parent==g)=false by simpa using this];simp
  ·rw[decide_eq_false hj1]; rfl
 unfold QJ;rw[KL e1,KL e2];rfl
theorem z24(wp:YI W)(h:zi4 W g){c:Int}(c0:0<=c)(c1:c<(W.IE.length:Int)):(Qa W g c).on=false:=by
 have g1:=h.g1;have:=(wp.s g c Qo (h.g8 wp.a) c0 (by rw[wp.a.sl h.us]; exact c1)).on Qo;rw[this,z0g wp h]; rfl
theorem zr9(wp:YI W)(h:zi4 W g){k c:Int}(c0:0<=c)(c1:c<(W.IE.length:Int))(j:Nat):Jd (Je W g) k c j=Jd W k c j:=by
 have ha:=wp.a;unfold Jd
 by_cases e:g=(j:Int)
 ·rw[DM ha h Qo,C' e,<-e,z24 wp h c0 c1];simp[zf7]
 ·rw[DM ha h Qo,B' e]
  have:Qa (Je W g) (j:Int) c=Qa W (j:Int) c:=by
   unfold Qa;rw[DM ha h Qo,B' e]
  rw[this]
theorem z23(wp:YI W)(h:zi4 W g){k c:Int}(c0:0<=c)(c1:c<(W.IE.length:Int)):QJ (Je W g) k c=QJ W k c:=by
 unfold QJ;rw[show O8 (Od (Je W g) k c) (Je W g).tasks.length=O8 (Od W k c) W.tasks.length from rfl,zld wp.a,wp.a.gl];rw[KK λj _=>zr9 wp h c0 c1 j]
theorem z25(ha:WA W)(h:zi4 W g){k:Int}(hu:Q6 W.ID k=true)(hk:k≠g)(u:Int):Ti (Je W g).ID k u=Ti W.ID k u:=by
 have e:QP (Je W g).ID k=QP W.ID k:=zle ha h 3 k hu hk;have g1:=h.g1;unfold Ti;rw[e];refine NL _ _ λs x hx=>?_
 have hxu:Q6 W.ID x=true/\x≠g:=by
  rcases Im.1 hx with hx | hx
  ·exact⟨(YQ ha.tree k hu x hx).1,zp4 ha h k hu hk x hx⟩
  ·rw[IA.1 hx]; exact⟨ha.root,Qo⟩
 rw[En ha h hxu.1 hxu.2]
theorem z4n(ha:WA W)(h:zi4 W g){k:Int}(hu:Q6 W.ID k=true)(hk:k≠g)(m:Int):Qx (Je W g) k m=Qx W k m:=zzo (W:=W) (W':=Je W g) rfl (z25 ha h hu hk) m
theorem z0t(iv:JF W)(h:zi4 W g):JF (Je W g):=by
 have wp:=iv.wp;have ha:=wp.a;have g1:=h.g1;have g8:=h.g8 ha;have bZ:=ha.gl;have hpu:∀{k:Int},Q6 W.ID k=true->k≠0->Q6 W.ID (gi W.ID k).parent=true:=λhu hz=>(Y3 ha.tree hu hz).1
 have hA:WA (Je W g):=by
  refine⟨ha.n1,ha.n2,ha.c1,ha.c2,ha.t,z0h ha h,ha.ups,λk k0 k1=>?_⟩;unfold Kn;rw[DM ha h k0];split
  ·exact⟨λ_=>⟨rfl,rfl,rfl,rfl,rfl,rfl,rfl,rfl,show OJ ⟨0,0,0,[],[]⟩=true by decide⟩,λhh=>by cases hh⟩
  ·have:=ha.grp k k0 k1;exact⟨this.1,λhu=>by have:=this.2 hu; exact⟨this.w1,this.w2,this.m,this.m0,this.s,this.len,this.root,this.none,this.IP⟩⟩
 refine⟨⟨hA,λt t0 t1=>?_,λk c k0 k1 c0 c1=>?_,λc c0 c1=>?_⟩,λk c hu c0 c1 hb=>?_⟩
 ·rcases wp.t t t0 t1 with hz | ⟨n,hx⟩
  ·exact .inl hz
  ·have hn:=h.nt t t0 t1 n;refine .inr ⟨n,hx.st,(zbd ha h).2 ⟨hx.g,hn⟩,hx.n,hx.m,hx.m0,hx.v,hx.s,hx.u,hx.l1,hx.l2,?_,λhs=>?_⟩
   ·rw[show (Q7 (Je W g) t)=Q7 W t from rfl,z4n ha h hx.g hn]; exact hx.c
   ·rw[show (Q7 (Je W g) t)=Q7 W t from rfl,Lt ha h hx.g hn]; exact hx.f hs
 ·by_cases e:g=k
  ·subst e;rw[DM ha h k0,C' rfl] at c1;have c1:c<(0:Int):=c1;omega
  ·have hg:gi (Je W g).ID k=gi W.ID k:=by rw[DM ha h k0,B' e]
   have e2:k≠g:=λh=>e h.symm
   rw[hg] at c1
   have hu:Q6 W.ID k=true:=by
    cases hh:(gi W.ID k).used with
    | true=>exact Q4.2 ⟨k0,Qo,hh⟩
    | false=>
     have:=((ha.grp k k0 k1).1 hh).l;omega
   have cl:c<(W.IE.length:Int):=by rw[<-ha.sl hu]; exact c1
   have hs:=wp.s k c k0 k1 c0 c1;have es:=Lt ha h (c:=c) hu e2;refine⟨by rw[es]; exact hs.f,by rw[es]; exact hs.v,by rw[es]; exact hs.s,by rw[es]; exact hs.w1,by rw[es]; exact hs.w2,λhz=>by rw[es]; exact hs.root hz,λhz=>?_,λhz ho=>?_⟩
   ·rw[es,z23 wp h c0 cl,show Yx (Je W g) k c=Yx W k c by unfold Yx; rw[hg]];exact hs.on hz
   ·rw[es] at ho;rw[es,hg,Lt ha h (hpu hu hz) (zcz ha h hu hz)];exact hs.st hz ho
 ·have hc:=wp.c c c0 c1;refine⟨hc.b,hc.i,hc.c1,hc.c2,hc.no,λh0=>?_⟩;have h0:0<=(gi W.IE c).cur:=h0;obtain⟨y1,y2,y3,y4,y5,y6⟩:=hc.yes h0;have hl:=ha.t;have hc2:=hc.c2
  have jW:Q6 W.ID (Q7 W (gi W.IE c).cur).group=true/\(Q7 W (gi W.IE c).cur).group≠g:=by
   rcases wp.t _ h0 Qo with hz | ⟨n,hx⟩
   ·unfold Z3 at y5;rw[hz.1] at y5;simp at y5
   ·exact⟨hx.g,h.nt _ h0 Qo n⟩
  obtain⟨jW,hgn⟩:=jW;have hpt:QP (Je W g).ID (Q7 W (gi W.IE c).cur).group=QP W.ID (Q7 W (gi W.IE c).cur).group:=zle ha h 3 _ jW hgn;refine⟨y1,y2,y3,y4,?_,?_⟩
  ·unfold Z3 Vb at y5 ⊢;rw[show (gi (Je W g).IE c).cur=(gi W.IE c).cur from rfl,show Q7 (Je W g) (gi W.IE c).cur=Q7 W (gi W.IE c).cur from rfl,hpt];rw[A',List.all_eq_true] at y5 ⊢;exact⟨y5.1,λx hx=>by rw[Lt ha h (YQ ha.tree _ jW x hx).1 (zp4 ha h _ jW hgn x hx)]; exact y5.2 x hx⟩
  ·unfold MQ Oa at y6 ⊢;rw[show (gi (Je W g).IE c).cur=(gi W.IE c).cur from rfl,show (gi (Je W g).IE c).WQ=(gi W.IE c).WQ from rfl,show Q7 (Je W g) (gi W.IE c).cur=Q7 W (gi W.IE c).cur from rfl,hpt,Lt ha h jW hgn];rw[A',List.all_eq_true] at y6 ⊢;refine⟨y6.1,λx hx=>?_⟩;obtain⟨xu,xz⟩:=YQ ha.tree _ jW x hx;have xg:=zp4 ha h _ jW hgn x hx;rw[Lt ha h xu xg,En ha h xu xg,Lt ha h (hpu xu xz) (zcz ha h xu xz)];exact y6.2 x hx
 ·have cl:c<(W.IE.length:Int):=c1;obtain⟨hk,hkg⟩:=(zbd ha h).1 hu
  have AY8:∀j,j<20->Zq (Je W g) k c j=Zq W k c j:=λj hj=>by
   by_cases mP:j<12
   ·rw[Vo mP,Vo mP]; rfl
   ·rw[show j=12+(j-12) by omega,Uc,Uc,zr9 wp h c0 cl (j-12)]
  have hv:∀j,j<20->Zq (Je W g) k c j=true->Zm (Je W g) c j=Zm W c j:=λj hj hm=>by
   unfold Zm;split
   ·rfl
   ·rename_i mP;have hm2:=hm;rw[show j=12+(j-12) by omega,Uc] at hm2;unfold Jd at hm2;simp only[A'] at hm2
    have bT:((j-12:Nat):Int)≠g:=λe=>by
     have hu2:=hm2.1.2.1;rw[DM ha h Qo,C' e.symm] at hu2;cases hu2
    rw[AY8 j hj,show j=12+(j-12) by omega,Uc] at hm;unfold Jd at hm;simp only[A'] at hm;rw[Lt ha h (Q4.2 ⟨Qo,Qo,hm.1.2.1⟩) bT]
  have e:QY (Zq (Je W g) k c) (Zm (Je W g) c) 20=QY (Zq W k c) (Zm W c) 20:=Kg AY8 hv;have oG:=iv.fl k c hk c0 cl (by unfold Zx at hb ⊢; rwa[e] at hb);rw[Lt ha h hk hkg];refine Int.le_trans (Int.le_of_eq ?_) oG;unfold Zx at hb;have hb:=Ot hb;rw[e] at hb;unfold Z2;rw[e,B' Qo,B' Qo];rcases Zu (Zq W k c) (Zm W c) 20 with ⟨q,_⟩ | ⟨_,q2,q3,_⟩
  ·omega
  ·have IN:(QY (Zq W k c) (Zm W c) 20).toNat<20:=Qo;exact hv _ IN (by rw[AY8 _ IN]; exact q3)
def zv1(W:Q8)(g:Int):Prop:=(∃h:Int,1<=h/\h<8/\(gi W.ID h).used=true/\(gi W.ID h).parent=g)\/∃t:Int,0<=t/\t<12/\(Q7 W t).state≠0/\(Q7 W t).group=g
noncomputable def Nv(W:Q8)(g:Int):Int:=if g=0 then 1 else if Q6 W.ID g=false then 2 else if Ub (zv1 W g)=true then 4 else if QT W=false then 10 else 0
theorem zwz{W:Q8}{g:Int}(hb:Nv W g=0):zi4 W g/\QT W=true:=by
 unfold Nv at hb
 split at hb
 ·cases hb
 rename_i h1
 split at hb
 ·cases hb
 rename_i h2
 split at hb
 ·cases hb
 rename_i h3
 split at hb
 ·cases hb
 rename_i h4;have h3:¬zv1 W g:=λh=>h3 (Qj.2 h)
 have hu:Q6 W.ID g=true:=by simpa using h2
 have:=(Q4.1 hu).1;exact⟨⟨Qo,hu,λh a b c d=>h3 (.inl ⟨h,a,b,c,d⟩),λt a b c d=>h3 (.inr ⟨t,a,b,c,d⟩)⟩,by simpa using h4⟩
end
def za4(W:Q8)(c:Int):Int:=if YK W c=false then 1 else if (gi W.IE c).cur<0 then 6 else 0
theorem z37{W:Q8}{c:Int}(h:za4 W c=0):YK W c=true/\0<=(gi W.IE c).cur:=by
 unfold za4 at h
 split at h
 ·cases h
 ·rename_i h1
  split at h
  ·cases h
  ·exact⟨by simpa using h1,Qo⟩
section
variable {W:Q8}{m:MW}{w:Wo}{bs:List Nat}
theorem Bc{c:Int}(h:XE [] w W m)(hl:Ua W) :
  Cz T2 #[.agg (Qb W m).toArray,I c] w λe w'=>∃v,e=.returned v/\QR (YY W (za4 W c) (Rz W c)) w v w':=by
 refine FT _ _ _ _ _ _ _ _ _ _ c (R:=λv w'=>QR (YY W (za4 W c) (Rz W c)) w v w') ?_;intro y hy y1 cP;have hm0:=XD;have hlc:=hl.c;refine⟨_,YC h hl.c hl.t hl.g hl.f,λg wr hx=>QR.bad (by simpa using g) hx,λg wr R5 SR=>?_⟩;have hW:QD W=true:=by simpa using g
 have wp:=Qj.1 hW;refine I3 (M0 (h.ext R5) wp.a) ?_;rintro e wv ⟨m',he,hM,SI⟩;have hK:=Wk.begin hy cP R5 SR hM SI;have hr:=hK.rd;refine⟨_,_,_,_,_,_,_,_,_,_,he,Qf SI SR,⟨Qo,Qo⟩,YK W c,Qm,λg I' R6=>?_,λg=>?_⟩
 ·have hb:za4 W c=1:=by unfold za4; rw[C' (by simpa using g)]
  exact QR.no hW (by rw[hb]; decide) (hK.step R6) hb
 have g:YK W c=true:=by simpa using g
 obtain⟨c0,c1⟩:=US g;refine⟨hr.c.ix Y6 c0 c1,_,hr.c.f c0 c1 (j:=1) rfl,λg2 M' R6=>?_,λg2 Ru SK eZ=>?_⟩
 ·have g2:=Ot g2;have hb:za4 W c=6:=by unfold za4; rw[B' (by rw[g]; decide),C' g2]
  exact QR.no hW (by rw[hb]; decide) (hK.step R6) hb
 have g2:=Ou g2;have hb:za4 W c=0:=by unfold za4; rw[B' (by rw[g]; decide),B' g2]
 have dY:=hK.step SK;refine I3 (ZG dY.own c0 c1) ?_;rintro e1 R8 ⟨gP,gH⟩;exact⟨_,_,_,_,_,_,_,_,_,_,gP,dY.kept gH eZ,λRN Sm=>QR.ok hW hb ((dY.Sn gH eZ).step Sm)⟩
theorem zt8(V:Q8)(t g c:Int)(m:MW):Qb (XW V t g c) m=Qb V m:=by
 unfold XW
 split <;> simp[Qb,Rz,S9,IU]
theorem z3l{K:Int}{W:Q8}(sw:SW K W){t:Int}(t0:0<=t)(t1:t<12)(n:(Q7 W t).state≠0):SW K (Z4 W t):=by
 unfold Z4;split
 ·have:=sw.t t t0 t1 n;exact sw.Rz this.2.1 this.2.2
 ·exact sw
theorem z6{t g:Int}(h:XE [] w W m)(hl:Ua W) :
  Cz Ok #[.agg (Qb W m).toArray,I t,I g] w λe w'=>∃v,e=.returned v/\QR (YY W (zeo W t g) (zh7 W t g)) w v w':=by
 refine CR _ _ _ _ _ _ _ _ _ _ t g (R:=λv w'=>QR (YY W (zeo W t g) (zh7 W t g)) w v w') ?_;intro y hy y1 cP wr R5 SR;refine I3 (Zh (h.ext R5) hl) ?_;rintro e wv (⟨hW,he,SI⟩ | ⟨hW,m',he,hM,SI⟩)
 ·exact⟨_,_,_,_,_,_,_,_,_,_,_,he,Qf SI SR,λ_ I' R6=>QR.bad hW ((R5.trans SI).fresh R6 λz hm=>.inl (Xa hy cP z hm)),λg=>by simp at g⟩
 have hK:=Wk.begin hy cP R5 SR hM SI;have hr:=hK.rd;have wp:=Qj.1 hW;have eM:=wp.a.t;refine⟨_,_,_,_,_,_,_,_,_,_,_,he,Qf SI SR,λg=>by split at g <;> simp at g,λ_=>⟨_,Xx hr hl.t,_,λ_=>X8 hr.g,λq M' R6=>?_,λq=>?_⟩⟩
 ·have hb:zeo W t g=2:=by
   unfold zeo;rw[C']
   simpa using q
  exact QR.no hW (by rw[hb]; decide) (hK.step R6) hb
 simp only[H',I6] at q;obtain⟨q1,q2⟩:=q;have n1:¬(ZB W t=false\/Q6 W.ID g=false):=by rw[q1,q2]; simp
 obtain⟨t0,t1,tn⟩:=Yv q1;have Wg:=hr.t.ix QF t0 t1;refine⟨λg3 Ru R6=>?_,λg3=>?_⟩
 ·have aZ:¬QT W=true:=λhr=>by rw[C' hr] at g3; simp at g3
  have hb:zeo W t g=10:=by unfold zeo; rw[B' n1,C' (by simpa using aZ)]
  rw[B' aZ];exact QR.no hW (by rw[hb]; decide) (hK.step R6) hb
 have aZ:QT W=true:=Iq λhr=>by rw[B' hr] at g3; simp at g3
 have hb:zeo W t g=0:=by unfold zeo; rw[B' n1,B' (by rw[aZ]; decide)]
 have sw:=MR wp (Qj.1 aZ);obtain⟨hu,c0,c1⟩:=sw.t t t0 Qo tn;refine⟨Wg,_,_,_,_,_,_,_,_,_,hr.t t t0 t1,λb2 bR=>⟨λg4 Ru SK=>?_,λg4=>?_⟩⟩
 ·have g4:(Q7 W t).group=g:=by simpa[Q7] using g4
  have hE:zh7 W t g=W:=by unfold zh7; rw[C' g4]
  have:=QR.ok (W':=zh7 W t g) hW hb (m':=m') (hE.symm▸hK.step SK)
  rwa[hE] at this ⊢
 have g4:¬(Q7 W t).group=g:=by simpa[Q7] using g4
 have hE:zh7 W t g=Qg (XW (Z4 W t) t g (Bp W t g)):=by unfold zh7; rw[B' g4]
 obtain⟨m0,m1,_⟩:=zst wp (g:=g) t0 Qo tn;have hK0:=hK.add bR;refine⟨_,XI hr wp.a.c2 wp.a.tree q2,λvs bs w1=>bs=[]/\vs=[I (Bp W t g)]/\Q0 [y,y1] wv w1,⟨_,ZS,λg5=>⟨_,KX,λRN Sm _=>⟨rfl,?_,Sm⟩⟩,λg5 Sj WT _=>⟨rfl,?_,WT⟩⟩,?_⟩
 ·have g5:¬QZ (Qx W g (Q7 W t).mask) (Q7 W t).IZ=true:=by simpa[Q7] using g5
  unfold Bp; rw[B' g5]; rfl
 ·have g5:QZ (Qx W g (Q7 W t).mask) (Q7 W t).IZ=true:=by simpa[Q7] using g5
  unfold Bp; rw[C' g5]; rfl
 rintro cv R8 bX ⟨-,hv,hxv⟩;simp only[I4,I5,true_and,and_true] at hv;subst hv;have Cw7:Q0 ([y,y1]++[b2]) wv R8:=hxv.mono λx hm=>Ia _ hm
 have hK1:=hK0.step Cw7;have e5:Qb (Rz W (Q7 W t).IZ) m'=Qb W m':=by simp[Qb,Rz,S9]
 refine⟨λvs bs w1=>bs=[]/\vs=Qb W m'/\Wk 8 ([y,y1]++[b2]) w w1 (Z4 W t) m',⟨hK1.rd.c.ix Y6 c0 c1,_,hK1.rd.c.f c0 c1 (j:=1) rfl,λg6 SM eB hs7=>?_,λg6 WS gL _=>⟨rfl,rfl,?_⟩⟩,?_⟩
 ·have g6:(gi W.IE (Q7 W t).IZ).cur=t:=by simpa using g6
  have fK:=hK1.step eB;refine I3 (ZG fK.own c0 c1) ?_;rintro e1 RF ⟨gP,gH⟩;rw[show Qb (Rz W (gi W.tasks t).IZ) m'=Qb W m' from e5] at gP;refine⟨_,_,_,_,_,_,_,_,_,_,gP,fK.kept gH hs7,λV' oQ _=>⟨rfl,rfl,?_⟩⟩;have hlv:Z4 W t=Rz W (Q7 W t).IZ:=by unfold Z4; rw[C' g6]
  rw[hlv];exact(fK.Sn gH hs7).step oQ
 ·have g6:¬(gi W.IE (Q7 W t).IZ).cur=t:=by simpa using g6
  have hlv:Z4 W t=W:=by unfold Z4; rw[B' g6]
  rw[hlv];exact hK1.step gL
 rintro l S5 Sb Sh S6 Se Sg S7 S8 Sa RU fQ ⟨-,hv,qD⟩;simp only[Qb,I4,I5,Iv,true_and,and_true] at hv;obtain⟨rfl,⟨rfl,rfl,rfl⟩,⟨rfl,rfl,rfl⟩,rfl,rfl,rfl⟩:=hv;have swl:=z3l sw t0 Qo tn;have ht:(Z4 W t).tasks=W.tasks:=by unfold Z4; split <;> rfl
 have hg:(Z4 W t).ID=W.ID:=by unfold Z4; split <;> rfl
 have rV:(Z4 W t).IE.length=W.IE.length:=by
  unfold Z4; split
  ·exact E'
  ·rfl
 have hn:(Z4 W t).now=W.now:=by unfold Z4; split <;> rfl
 have eL:∀mm,Qb (Z4 W t) mm=Qb W mm:=λmm=>by simp[Qb,ht,hg,rV,hn]
 have tn2:(Q7 (Z4 W t) t).state≠0:=by rw[Jf ht]; exact tn
 have hu2:Q6 (Z4 W t).ID g=true:=by rw[hg]; exact q2
 have hm1:Bp W t g<((Z4 W t).IE.length:Int):=by rw[rV]; exact m1
 rw[hE];generalize Z4 W t=V at qD swl eL tn2 hu2 hm1;generalize Bp W t g=c at m0 hm1;intro Si tD nQ;have dY:=qD.step tD;have Rq:=Vu dY.own (Lh swl) (I2 _) (by simp only[Qi]; decide) (t:=t) (g:=g) (c:=c) t0 Qo tn2 hu2 m0 hm1;rw[eL] at Rq;refine I3 Rq ?_;rintro e2 aX ⟨aR,iY⟩;have dR:=dY.Sn iY nQ;have sf2:=(zbl (Lh swl) (I2 _) (t:=t) t0 Qo hu2 m0 hm1).2;have eP:Qb (XW V t g c) m'=Qb W m':=by rw[<-eL]; exact zt8 V t g c m'
 refine⟨_,_,_,_,_,_,_,_,_,_,aR,dY.kept iY nQ,λSk AF8 AA9=>?_⟩;have uH:=dR.step AF8;have sU:=QA uH.own sf2.w (by simp only[Qi]; decide) (by simp only[Qi]; decide) uH.base;rw[eP] at sU;refine I3 sU ?_;rintro e3 dW ⟨m2,jR,hy5⟩;exact⟨_,_,_,_,_,_,_,_,_,_,jR,uH.kept hy5 AA9,λSJ vM=>QR.ok hW hb ((uH.Sn hy5 AA9).step vM)⟩
theorem zac{g:Int}(h:XE bs w W m)(hg8:W.ID.length=8)(CA6:W.tasks.length=12) :
  PX bs Ow #[.agg (Qb W m).toArray,I g] w (.bool (Ub (zv1 W g))):=
 zau _ _ _ _ _ _ _ _ _ _ g λwr hx=>by
  have h:=(h.ext hx).less (cs:=[]) Qs;intro b hb;refine YV 8 1 rfl (λk=>1<=k/\k<=8/\∀j:Int,1<=j->j<(k:Int)->¬((gi W.ID j).used=true/\(gi W.ID j).parent=g)) ⟨Qo,Qo,λj a b=>by omega⟩ λk ⟨hk1,hk8,iX⟩=>⟨λIN=>?_,λRx=>?_⟩
  ·have IN:=Ot IN;have k0:(0:Int)<=(k:Int):=Qo;refine⟨h.g.ix k0 IN,_,h.g.used k0 IN,λ_=>h.g.ix k0 IN,_,λ_=>h.g.parent k0 IN,λq=>?_,λq=>⟨⟨Qo,Qo⟩,Qu Qo ⟨Qo,Qo,λj a b=>?_⟩⟩⟩
   ·rw[A',Is] at q;exact zpi (.inl ⟨(k:Int),Qo,Qo,q.1,q.2⟩)
   ·by_cases e:j<(k:Int)
    ·exact iX j a e
    ·have:j=(k:Int):=Qo;subst this;rintro⟨q1,q2⟩;rw[q1,Is.2 q2] at q;cases q
  ·have Rx:=Ou Rx;refine YV 12 0 rfl (λk=>k<=12/\∀j:Int,0<=j->j<(k:Int)->¬((Q7 W j).state≠0/\(Q7 W j).group=g)) ⟨Qo,λj a b=>by omega⟩ λk2 ⟨uI,hnt⟩=>⟨λRA=>?_,λaN=>?_⟩
   ·have RA:=Ot RA;have k0:(0:Int)<=(k2:Int):=Qo;refine⟨h.t.ix QF k0 RA,_,h.t.f k0 RA (j:=0) rfl,λ_=>h.t.ix QF k0 RA,_,λ_=>h.t.f k0 RA (j:=1) rfl,λq=>?_,λq=>⟨⟨Qo,Qo⟩,Qu Qo ⟨Qo,λj a b=>?_⟩⟩⟩
    ·rw[A',Is,It] at q;exact zpi (.inr ⟨(k2:Int),Qo,Qo,q.1,q.2⟩)
    ·by_cases e:j<(k2:Int)
     ·exact hnt j a e
     ·have:j=(k2:Int):=Qo;subst this;rintro⟨q1,q2⟩;have q1:(gi W.tasks (k2:Int)).state≠0:=q1;have q2:(gi W.tasks (k2:Int)).group=g:=q2;rw[It.2 q1,Is.2 q2] at q;cases q
   ·have aN:=Ou aN;refine Gg ?_;rintro (⟨j,a,b,c,d⟩ | ⟨j,a,b,c,d⟩)
    ·exact iX j a Qo ⟨c,d⟩
    ·exact hnt j a Qo ⟨c,d⟩
theorem NX{g:Int}(h:XE [] w W m)(hl:Ua W) :
  Cz TG #[.agg (Qb W m).toArray,I g] w λe w'=>∃v,e=.returned v/\QR (YY W (Nv W g) (Je W g)) w v w':=by
 refine NC _ _ _ _ _ _ _ _ _ _ g (R:=λv w'=>QR (YY W (Nv W g) (Je W g)) w v w') ?_;intro x hx x1 RZ wr R5 SR;refine I3 (VM (g:=g) (ok:=true) (h.ext R5) hl) ?_;rintro e wv (⟨hW,he,hy⟩ | ⟨hW,m',he,hM,hy⟩)
 ·exact⟨_,_,_,_,_,_,_,_,_,_,_,he,Qf hy SR,λ_ I' R6=>QR.bad hW ((R5.trans hy).fresh R6 λy hm=>.inl (Xa hx RZ y hm)),λg=>by simp at g⟩
 have hK:=Wk.begin hx RZ R5 SR hM hy;have hr:=hK.rd;have wp:=Qj.1 hW;refine⟨_,_,_,_,_,_,_,_,_,_,_,he,Qf hy SR,λg1 I' R6=>?_,λg1=>⟨_,zac hr wp.a.gl wp.a.t,λg2 M' R6=>?_,λg2=>⟨λg3 Rr R6=>?_,λg3=>?_⟩⟩⟩
 ·have hb:Nv W g=Ku W g true:=by
   by_cases h0:g=0
   ·unfold Nv Ku;rw[C' h0,C' (.inr h0)]
   ·have e0:¬(true=false\/g=0):=by simp[h0]
    by_cases h1:Q6 W.ID g=false
    ·unfold Nv Ku;rw[B' h0,B' e0,C' h1,C' h1]
    ·exfalso
     unfold Ku at g1;rw[B' e0,B' h1] at g1
     split at g1 <;> simp at g1
  exact QR.no hW (λh0=>by rw[<-hb,h0] at g1; simp at g1) (hK.step R6) hb
 all_goals
  have g1':¬g=0/\¬Q6 W.ID g=false:=by
   unfold Ku at g1
   by_cases h0:g=0
   ·rw[C' (.inr h0)] at g1; simp at g1
   ·refine⟨h0,λh1=>?_⟩;rw[B' (show ¬(true=false\/g=0) by simp[h0]),C' h1] at g1;simp at g1
  have hgB:Ku W g true=if QT W=false then 10 else 0:=by
   unfold Ku;rw[B' (show ¬(true=false\/g=0) by simp[g1'.1]),B' g1'.2]
 ·have hb:Nv W g=4:=by unfold Nv; rw[B' g1'.1,B' g1'.2,C' g2]
  exact QR.no hW (by rw[hb]; decide) (hK.step R6) hb
 ·have aZ:QT W=false:=by
   cases hq:QT W with
   | false=>rfl
   | true=>rw[hgB,hq] at g3; simp at g3
  have hb:Nv W g=10:=by unfold Nv; rw[B' g1'.1,B' g1'.2,B' (by rw[g2]; decide),C' aZ]
  rw[hgB,C' aZ];exact QR.no hW (by rw[hb]; decide) (hK.step R6) hb
 ·have aZ:QT W=true:=by
   cases hq:QT W with
   | true=>rfl
   | false=>rw[hgB,hq] at g3; simp at g3
  have hb:Nv W g=0:=by unfold Nv; rw[B' g1'.1,B' g1'.2,B' (by rw[g2]; decide),B' (by rw[aZ]; decide)]
  have hu:Q6 W.ID g=true:=by simpa using g1'.2
  obtain⟨u0,u1,_⟩:=Q4.1 hu;have bZ:=wp.a.gl
  have SN:Wk 8 [x,x1] w (R9 wv m'.gO (Int.toNat g*14) (YJ zf7 zai)) (Je W g) (Gl m' g.toNat zai):=
   ⟨hK.s.call za3 λy hy=>(hK.own.lt y hy).1,⟨hK.own.Bm3 u0 Qo (g:=zf7) (p:=zai) (j:=0) (vs:=YJ zf7 zai) ⟨.inl ⟨rfl,rfl,rfl⟩,.inl ⟨rfl,rfl,rfl⟩,.inl ⟨rfl,rfl,rfl⟩⟩ (λy hy=>by simp[Qt,zai,QL] at hy) (by simp[YJ]) (by simp[YJ]),λy hy hm=>by
    rcases OM y hy with h1 | h1
    ·exact hK.nb y h1 hm
    ·simp[Qt,zai,QL] at h1⟩⟩
  refine⟨hr.g.ix u0 u1,ztr hK.own hK.nb u0 Qo (j:=0) Qd,λRu SK=>?_⟩;have Az8:=QR.ok hW hb (SN.step SK);have ew:Qb (Je W g) (Gl m' g.toNat zai)=Qb W m':=by simp[Qb,Je,Rn,Gl]
  rw[ew] at Az8;have hgz:Ku W g true=0:=by rw[hgB,B' (by rw[aZ]; decide)]
  exact Az8
end
theorem zsk{V:Q8}(ha:WA V):Ua V:=by
 have h1:=ha.c2;have h2:=ha.t;have h3:=ha.gl;have hm:=ZV;have hn1:=ha.n1;have hn2:=ha.n2;refine⟨Qo,Qo,Qo,λi a b=>?_⟩;have hb:=KM ha a Qo;have hg:=ha.grp i a Qo;have hz:(⟨[].toArray⟩:ByteArray).size=0:=rfl;refine⟨?_,?_,Qo,Qo,Qo⟩
 ·cases hu:(gi V.ID i).used with
  | false=>rw[(hg.1 hu).n,hz]; omega
  | true=>
   by_cases e:i=0
   ·rw[e,ha.tree.rn,hz]; omega
   ·have:=(LB.1 (ha.tree.nm i Qo Qo hu)).1;omega
 cases hu:(gi V.ID i).used with
 | false=>rw[(hg.1 hu).ne]; exact⟨Qd,Qd⟩
 | true=>
  have hg:=hg.2 hu
  by_cases hq:(gi V.ID i).IP.IX=0
  ·rw[(hg.none hq).2.2]; exact⟨Qd,Qd⟩
  ·have:=hg.IP hq;exact⟨Qo,Qo⟩
theorem GW{n:Nat}{p:Int}{name:ByteArray}{w:Wo}(hn:n<=4) :
  Cz VH #[I (n:Int),I p,.string name] w λe w'=>∃mg,e=.returned (.agg (YJ (M2 n p name) mg).toArray)/\PR w.heap.size w' (M2 n p name,mg)/\Q0 [] w w':=by
 refine(zc8 (n:Int) p name (R:=λv w'=>∃mg,v=.agg (YJ (M2 n p name) mg).toArray/\PR w.heap.size w' (M2 n p name,mg)/\Q0 [] w w') ?_).mono λe w' ⟨v,he,mg,hv,h3⟩=>⟨mg,by rw[he,hv],h3⟩
 intro b hb b1 cJ
 refine⟨λvs w2=>∃(k:Nat) (o:OA) (cap:Nat),vs=[I (k:Int),.bool true,I p,.string name,I 10,I 15,I 0,I 0,I 0,I 0,I 0,I 0,.slice none 0 0,.slice none 0 0,.slice o k cap]/\k<=n/\Sc w [b,b1] w2/\Ob Po 5 ZD w.heap.size [b,b1] w2 o cap (List.replicate k zh8),
  Zt n 0,λwr hx _=>⟨0,none,0,rfl,Ic _,(((Sc.start w).add hb).add cJ).R4 hx,⟨.inl ⟨rfl,rfl,rfl⟩,by simp[QL]⟩⟩,?_⟩
 rintro c1 l l1 l2 l3 l4 l5 l6 l7 l8 l9 l10 nV nU nT AL8 AL7 AL6 AM0 uL AL9 wv SR ⟨k,o,cap,he,hk,s1,hO⟩;simp only[I4,I5,Value.bool.injEq,Value.string.injEq,Iv,true_and,and_true] at he;obtain⟨rfl,rfl,rfl,rfl,rfl,rfl,rfl,rfl,rfl,rfl,rfl,rfl,⟨rfl,rfl,rfl⟩,⟨rfl,rfl,rfl⟩,rfl,rfl,rfl⟩:=he;refine⟨λIN=>?_,λRx=>?_⟩
 ·have IN:=Ot IN;intro b3 vK Rr R6 fQ Ss;have s2:=s1.put R6 vK;have jQ:=hO.put R6 vK;obtain⟨o2,c2,w2,W8,uP,zW,R5⟩:=jQ.AA1 M7 PD (x:=zh8) fQ s2.ext.size Ss (z3u _) (by simp; omega) Qd Z8 #[false,false];have s3:=s2.call R5 λx hm=>(jQ.own.lt x hm).1
  have hL:List.replicate uL zh8++[zh8]=List.replicate (uL+1) zh8:=by rw[List.replicate_succ']
  rw[hL] at W8 zW;rw[List.length_replicate,List.length_replicate] at W8;exact⟨_,_,_,w2,W8,uP,⟨Qo,Qo⟩,λRu SK _=>⟨⟨uL+1,o2,c2,Qs,Qo,(s3.step SK).sub Qs,(zW.step SK).sub Qs⟩,Zd (k:=uL) rfl rfl Qo⟩⟩
 ·have Rx:=Ou Rx;have:uL=n:=Qo;subst this;intro RN Sm;refine⟨⟨none,0,none,0,AM0,AL9⟩,?_,⟨.inl ⟨rfl,rfl,rfl⟩,.inl ⟨rfl,rfl,rfl⟩,(hO.step Sm).own⟩,(s1.step Sm).ext⟩;simp[YJ,M2,Zy]
theorem z4z:QO≠Zb:=Qd
theorem z2h:QV≠Zb:=Qd
theorem z4y:QV≠QO:=Qd
theorem B1{i:Int}(h0:0<=i)(h1:i<8):gi (List.replicate 8 Pi) i=Pi:=by
 obtain⟨k,rfl⟩:=Int.eq_ofNat_of_zero_le h0;rw[JX (by rw[List.length_replicate]; omega)];exact List.getElem_replicate _
theorem zu2{base:Nat}{w:Wo}{o:OA}{cap:Nat}(h:V3 Og 14 QV base w o cap (List.replicate 8 Pi)):Lo base w o cap (List.replicate 8 Pi):=by
 refine⟨h,λi h0 h1=>?_,λi j h0 h1 _ _ _ x hm=>?_⟩
 ·rw[B1 h0 (by simpa using h1)];exact⟨.inl ⟨rfl,rfl,rfl⟩,.inl ⟨rfl,rfl,rfl⟩,.inl ⟨rfl,rfl,rfl⟩⟩
 ·rw[B1 h0 (by simpa using h1)] at hm;simp[Qt,Pi,QL] at hm
section
variable {w:Wo}{b:Nat}
def z5m(b:Nat)(w:Wo)(vs:List Va)(bs:List Nat)(w2:Wo):Prop:=
 ∃(bx:Nat) (tO gO:OA) (tC gC:Nat),bs=[bx]/\vs=[I 0,.slice none 0 0,.slice tO 12 tC,.slice gO 8 gC]/\Sc w [b,bx] w2/\Ob XS 9 QO w.heap.size [b,bx] w2 tO tC (List.replicate 12 Oc)/\Ob Og 14 QV w.heap.size [b,bx] w2 gO gC (List.replicate 8 Pi)
theorem zx4{bs:List Nat}{w1:Wo}(s:Sc w bs w1)(hs:∀x∈bs,x<w1.heap.size):∃(o:OA) (c:Nat) (w2:Wo),(Instr.makeSlice Z0 (I 12) (I 12):Sem Va).run Tryz.prog w1=.ok (.slice o 12 c) w2/\Q9 bs w1 w2/\Q0 [] w1 w2/\Ob XS 9 QO w.heap.size bs w2 o c (List.replicate 12 Oc):=
 ⟨_,_,_,KF Mi MT 12 Qd (by have:=ZV; omega) w1,Qf (Z7 _ _) hs,Z7 _ _,(Ob.of (Vv (enc:=XS) Mi.len QO 12 Oc w1) hs).mono s.ext.size⟩
theorem zx3{bs:List Nat}{w1:Wo}(s:Sc w bs w1)(hs:∀x∈bs,x<w1.heap.size):∃(o:OA) (c:Nat) (w2:Wo),(Instr.makeSlice QE (I 8) (I 8):Sem Va).run Tryz.prog w1=.ok (.slice o 8 c) w2/\Q9 bs w1 w2/\Q0 [] w1 w2/\Ob Og 14 QV w.heap.size bs w2 o c (List.replicate 8 Pi):=
 ⟨_,_,_,KF YF PC 8 Qd (by have:=ZV; omega) w1,Qf (Z7 _ _) hs,Z7 _ _,(Ob.of (Vv (enc:=Og) YF.len QV 8 Pi w1) hs).mono s.ext.size⟩
theorem zaa{n:Nat}(n0:1<=n)(n1:n<=4) :
  Cz Oq #[I (n:Int)] w λe w'=>∃m,e=.returned (.tuple #[.agg (Qb (Us n) m).toArray,.bool true])/\Zo 8 w.heap.size w' (Us n) m/\Q0 [] w w':=by
 refine(CX (n:Int) (R:=λv w'=>∃m,v=.tuple #[.agg (Qb (Us n) m).toArray,.bool true]/\Zo 8 w.heap.size w' (Us n) m/\Q0 [] w w') ?_).mono λe w' ⟨v,he,m,hv,h3⟩=>⟨m,by rw[he,hv],h3⟩
 intro b hb;have sZ:YP (n:Int) 1 4=true:=Qv.2 ⟨Qo,Qo⟩;have s0:Sc w [b] w:=(Sc.start w).add hb;refine⟨_,Qm,λg=>(by rw[sZ] at g; cases g),λ_=>⟨z5m b w,?_,?_⟩⟩
 ·refine⟨λI' RZ bX=>?_,λSj WT hs6=>?_,λb5 hb5=>⟨λSk AF8 AA9=>?_,λWO BF1 Cv4=>?_⟩⟩
  ·have s1:=s0.R4 RZ;obtain⟨tO,tC,w2,hr,hk,he,hT⟩:=zx4 s1 bX;have s2:=s1.R4 he;refine⟨_,_,_,w2,hr,hk,λM' R5 SR=>?_,λb2 bR Ru SK eZ=>?_⟩
   ·have s3:=s2.step R5;obtain⟨gO,gC,w3,hr3,hk3,jR,hG⟩:=zx3 s3 SR;exact⟨_,_,_,w3,hr3,hk3,λb1 cJ Rr R6 _=>⟨b1,tO,gO,tC,gC,rfl,rfl,(s3.R4 jR).put R6 cJ,((hT.step R5).R4 jR).put R6 cJ,hG.put R6 cJ⟩⟩
   ·have s3:=s2.put SK bR;obtain⟨gO,gC,w3,hr3,hk3,jR,hG⟩:=zx3 s3 eZ;exact⟨_,_,_,w3,hr3,hk3,λRN Sm _=>⟨b2,tO,gO,tC,gC,rfl,rfl,(s3.R4 jR).step Sm,((hT.put SK bR).R4 jR).step Sm,hG.step Sm⟩⟩
  ·have s1:=s0.R4 WT;obtain⟨gO,gC,w2,hr,hk,he,hG⟩:=zx3 s1 hs6;have s2:=s1.R4 he;refine⟨_,_,_,w2,hr,hk,λM' R5 SR=>?_,λb2 bR Ru SK eZ=>?_⟩
   ·have s3:=s2.step R5;obtain⟨tO,tC,w3,hr3,hk3,jR,hT⟩:=zx4 s3 SR;exact⟨_,_,_,w3,hr3,hk3,λb1 cJ Rr R6 _=>⟨b1,tO,gO,tC,gC,rfl,rfl,(s3.R4 jR).put R6 cJ,hT.put R6 cJ,((hG.step R5).R4 jR).put R6 cJ⟩⟩
   ·have s3:=s2.put SK bR;obtain⟨tO,tC,w3,hr3,hk3,jR,hT⟩:=zx4 s3 eZ;exact⟨_,_,_,w3,hr3,hk3,λRN Sm _=>⟨b2,tO,gO,tC,gC,rfl,rfl,(s3.R4 jR).step Sm,hT.step Sm,((hG.put SK bR).R4 jR).step Sm⟩⟩
  ·have s1:=(s0.add hb5).R4 AF8;obtain⟨tO,tC,w2,hr,hk,he,hT⟩:=zx4 s1 AA9;refine⟨_,_,_,w2,hr,hk,λM' R5 SR=>?_⟩;have s3:=(s1.R4 he).step R5;obtain⟨gO,gC,w3,hr3,hk3,jR,hG⟩:=zx3 s3 SR;exact⟨_,_,_,w3,hr3,hk3,λRN Sm _=>⟨b5,tO,gO,tC,gC,rfl,rfl,(s3.R4 jR).step Sm,((hT.step R5).R4 jR).step Sm,hG.step Sm⟩⟩
  ·have s1:=(s0.add hb5).R4 BF1;obtain⟨gO,gC,w2,hr,hk,he,hG⟩:=zx3 s1 Cv4;refine⟨_,_,_,w2,hr,hk,λM' R5 SR=>?_⟩;have s3:=(s1.R4 he).step R5;obtain⟨tO,tC,w3,hr3,hk3,jR,hT⟩:=zx4 s3 SR;exact⟨_,_,_,w3,hr3,hk3,λRN Sm _=>⟨b5,tO,gO,tC,gC,rfl,rfl,(s3.R4 jR).step Sm,hT.step Sm,((hG.step R5).R4 jR).step Sm⟩⟩
 ·rintro l S5 Sb Sh S6 Se Sg S7 S8 Sa b6 gW nQ ⟨bx,tO,gO,tC,gC,hbx,hv,s1,hT,hG⟩;simp only[I4,I5,Iv,true_and,and_true] at hbx hv;subst hbx;obtain⟨rfl,⟨rfl,rfl,rfl⟩,⟨rfl,rfl,rfl⟩,rfl,rfl,rfl⟩:=hv
  refine⟨λvs w2=>∃(k:Nat) (o:OA) (cap:Nat),vs=[I (k:Int),I 0,.slice o k cap,.slice S6 12 Sg,.slice S7 8 Sa]/\k<=n/\Sc w [b,b6] w2/\Ob Ge 5 Zb w.heap.size [b,b6] w2 o cap (List.replicate k (⟨true,-1,0,0,0⟩:KI))/\Ob XS 9 QO w.heap.size [b,b6] w2 S6 Sg (List.replicate 12 Oc)/\Ob Og 14 QV w.heap.size [b,b6] w2 S7 Sa (List.replicate 8 Pi),
   Zt n 0,λwr hx _=>⟨0,none,0,rfl,Ic _,s1.step hx,⟨.inl ⟨rfl,rfl,rfl⟩,by simp[QL]⟩,hT.step hx,hG.step hx⟩,?_⟩
  rintro c1 l4 mS iZ mR mM oZ mL kF nX mT wv SR ⟨k,o,cap,he,hk,s2,hC,hT2,hG2⟩;simp only[I4,I5,Iv,true_and,and_true] at he;obtain⟨rfl,rfl,⟨rfl,rfl,rfl⟩,⟨rfl,rfl,rfl⟩,rfl,rfl,rfl⟩:=he;clear hT hG;refine⟨λIN=>?_,λRx=>?_⟩
  ·have IN:=Ot IN;intro b3 vK Rr R6 fQ Ss;have s3:=s2.put R6 vK;have hC2:=hC.put R6 vK;obtain⟨o2,c2,w2,W8,uP,hC3,R5⟩:=hC2.AA1 HE KH (x:=(⟨true,-1,0,0,0⟩:KI)) fQ s3.ext.size Ss (z3t _) (by simp; omega) Qd Zr #[false,false];have s4:=s3.call R5 λx hm=>(hC2.own.lt x hm).1
   have hT3:=(hT2.put R6 vK);have hT4:Ob XS 9 QO w.heap.size [b,b6,b3] w2 mM mL (List.replicate 12 Oc):=⟨hT3.own.ext R5 (hT3.own.U' hC2.own z4z),hT3.nb⟩;have hG3:=(hG2.put R6 vK);have hG4:Ob Og 14 QV w.heap.size [b,b6,b3] w2 kF mT (List.replicate 8 Pi):=⟨hG3.own.ext R5 (hG3.own.U' hC2.own z2h),hG3.nb⟩;have hL:List.replicate iZ (⟨true,-1,0,0,0⟩:KI)++[⟨true,-1,0,0,0⟩]=List.replicate (iZ+1) (⟨true,-1,0,0,0⟩:KI):=by rw[List.replicate_succ']
   rw[hL] at W8 hC3;rw[List.length_replicate,List.length_replicate] at W8;exact⟨_,_,_,w2,W8,uP,⟨Qo,Qo⟩,λRu SK _=>⟨⟨iZ+1,o2,c2,Qs,Qo,(s4.step SK).sub Qs,(hC3.step SK).sub Qs,(hT4.step SK).sub Qs,(hG4.step SK).sub Qs⟩,Zd (k:=iZ) rfl rfl Qo⟩⟩
  ·have Rx:=Ou Rx;have:iZ=n:=Qo;subst this;intro RN Sm kK;have s3:=s2.step Sm;have hC3:=hC.step Sm;have hT3:=hT2.step Sm;have hG3:=hG2.step Sm;refine(GW n1).mono λe w3 ⟨mg,he,hM,R6⟩=>?_
   have s4:=s3.R4 R6;have hC4:=hC3.R4 R6;have hT4:=hT3.R4 R6;have hG4:=hG3.R4 R6;have G:=zu2 hG4.own
   have hmb:∀x∈Qt mg,x∉[b,b6]:=λx hm hx=>by
    have h1:=(hM.lt x hm).1;have h2:=kK x hx;omega
   have P:=G.put (i:=0) (I2 _) Qs (p:=(M2 iZ (-1) ⟨[].toArray⟩,mg)) (hM.mono s3.ext.size) λj j0 j1 _ x hm=>by
    rw[B1 j0 (by simpa using j1)] at hm;simp[Qt,Pi,QL] at hm
   have hxs:=hG4.own.qW (Int.toNat 0*14) (Og (M2 iZ (-1) ⟨[].toArray⟩,mg));have s5:Sc w [b,b6] (R9 w3 kF (Int.toNat 0*14) (Og (M2 iZ (-1) ⟨[].toArray⟩,mg))):=⟨hG4.own.CZ1 _ _ s4.ext (I7 _),s4.new⟩;have hC5:=hC4.own.ext hxs (hC4.own.U' hG4.own z2h.symm);have hT5:=hT4.own.ext hxs (hT4.own.U' hG4.own z4y.symm);refine⟨_,_,_,_,_,_,_,_,_,_,_,_,_,_,_,_,_,_,_,_,he,Qf R6 kK,rfl,hG4.own.ix (I2 _) Qs,hG4.own.wr YF.len hG4.nb (i:=0) (j:=0) (I2 _) Qs Qd,λwr hx=>⟨⟨mS,mR,mM,mL,kF,mT,λk=>if k=0 then mg else Pi.2⟩,?_,⟨?_,?_,?_,rfl⟩,(s5.step hx).ext⟩⟩
   ·simp[Qb,Us]
   ·exact hC5.ext hx hC4.nb
   ·exact hT5.ext hx hT4.nb
   ·have hps:zs4 (Us iZ) ⟨mS,mR,mM,mL,kF,mT,λk=>if k=0 then mg else Pi.2⟩=(List.replicate 8 Pi).set (Int.toNat 0) (M2 iZ (-1) ⟨[].toArray⟩,mg):=rfl;rw[hps];refine⟨P.row.ext hx hG4.nb,λi i0 i1=>(P.each i i0 i1).ext hx λx hm=>?_,P.dj⟩;have hi8:i<8:=by simpa using i1
    have:=QM (List.replicate 8 Pi) (M2 iZ (-1) ⟨[].toArray⟩,mg) (i:=0) (j:=i) (I2 _) Qs i0;rw[this] at hm
    split at hm
    ·exact hmb x hm
    ·rw[B1 i0 hi8] at hm;simp[Qt,Pi,QL] at hm
end
def OD(W:Q8)(j:Nat):Bool:=decide (1<=j) && !(gi W.ID (j:Int)).used
def TQ(W:Q8):Int:=Ez (OD W) 8
def z4d(W:Q8)(p:Int)(name:ByteArray):Prop:=∃h:Int,1<=h/\h<8/\(gi W.ID h).used=true/\(gi W.ID h).parent=p/\(gi W.ID h).name=name
open Classical in
noncomputable def Gf(W:Q8)(p:Int)(name:ByteArray):Int:=if UL name=false then 1 else if Q6 W.ID p=false then 2 else if z4d W p name then 7 else if dep 3 W.ID p=3 then 9 else if TQ W<0 then 3 else if QT W=false then 10 else 0
def zx1(W:Q8)(p:Int)(name:ByteArray):Q8:=Pj W (TQ W) p name
theorem zn1(W:Q8):(TQ W = -1/\∀h:Int,1<=h->h<8->(gi W.ID h).used=true)\/(1<=TQ W/\TQ W<8/\(gi W.ID (TQ W)).used=false):=by
 rcases KS (OD W) 8 with ⟨h1,h2⟩ | ⟨h1,h2,h3,_⟩
 ·refine .inl ⟨h1,λh a b=>?_⟩;have:=h2 h.toNat Qo;unfold OD at this;rw[show ((h.toNat:Nat):Int)=h by omega,Ih (by omega:1<=h.toNat)] at this
  simpa using this
 ·have e:(((TQ W).toNat:Nat):Int)=TQ W:=by unfold TQ; omega
  have h3:OD W (TQ W).toNat=true:=h3;unfold OD at h3;rw[e,A',Ij,IC] at h3;refine .inr ⟨Qo,by unfold TQ; omega,h3.2⟩
theorem zej{W:Q8}{p:Int}{name:ByteArray}(hb:Gf W p name=0):zga W (TQ W) p name/\QT W=true:=by
 unfold Gf at hb
 split at hb
 ·cases hb
 rename_i h1
 split at hb
 ·cases hb
 rename_i h2
 split at hb
 ·cases hb
 rename_i h3
 split at hb
 ·cases hb
 rename_i h4
 split at hb
 ·cases hb
 rename_i h5
 split at hb
 ·cases hb
 rename_i h6;rcases zn1 W with ⟨a,_⟩ | ⟨a,b,c⟩
 ·omega
 ·exact⟨⟨a,b,c,by simpa using h2,by simpa using h1,λh a1 a2 u e=>h3 ⟨h,a1,a2,u,e.1,e.2⟩,h4⟩,by simpa using h6⟩
section
variable {W:Q8}{m:MW}{w:Wo}
theorem KW{p:Int}{name:ByteArray}(h:XE [] w W m)(hl:Ua W) :
  Cz QK #[.agg (Qb W m).toArray,I p,.string name] w λe w'=>∃v,e=.returned v/\OZ (Tq W (Gf W p name) (zx1 W p name) (TQ W)) w v w':=by
 refine ND _ _ _ _ _ _ _ _ _ _ p name (R:=λv w'=>OZ (Tq W (Gf W p name) (zx1 W p name) (TQ W)) w v w') ?_;intro y hy y1 cP wr R5 SR;refine I3 (Zh (h.ext R5) hl) ?_;rintro e wv (⟨hW,he,SI⟩ | ⟨hW,m',he,hM,SI⟩)
 ·exact⟨_,_,_,_,_,_,_,_,_,_,_,he,Qf SI SR,true,λg=>by simp at g,λ_ I' R6=>OZ.bad hW ((R5.trans SI).fresh R6 λz hm=>.inl (Xa hy cP z hm)),λg=>by simp at g⟩
 have hK:=Wk.begin hy cP R5 SR hM SI;have hr:=hK.rd;have wp:=Qj.1 hW;have bZ:=wp.a.gl;have sS:((if QT W=true then 0 else 10:Int)==1)=false:=by split <;> rfl
 refine⟨_,_,_,_,_,_,_,_,_,_,_,he,Qf SI SR,_,λ_=>DW,λg1 I' R6=>?_,λg1=>⟨_,X8 hr.g,λg2 M' R6=>?_,λg2=>?_⟩⟩
 ·rw[sS] at g1;have hb:Gf W p name=1:=by unfold Gf; rw[C' (by simpa using g1)]
  exact OZ.no hW (by rw[hb]; decide) (hK.step R6) hb
 ·rw[sS] at g1;have n1:¬UL name=false:=by simpa using g1
  have hb:Gf W p name=2:=by unfold Gf; rw[B' n1,C' (by simpa using g2)]
  exact OZ.no hW (by rw[hb]; decide) (hK.step R6) hb
 rw[sS] at g1;have n1:¬UL name=false:=by simpa using g1
 have hu:Q6 W.ID p=true:=by simpa using g2
 have n2:¬Q6 W.ID p=false:=by rw[hu]; decide
 refine⟨λvs w1=>∃k:Nat,vs=[I (k:Int),I 0,.slice none 0 0,.slice none 0 0,.slice none 0 0]/\1<=k/\k<=8/\(∀q:Int,1<=q->q<(k:Int)->(gi W.ID q).used=true->¬((gi W.ID q).parent=p/\(gi W.ID q).name=name))/\Q0 [y,y1] wv w1,
  Zt 8 0,λw1 mZ _=>⟨1,rfl,Qo,Qo,λq a b=>by omega,mZ⟩,?_⟩
 rintro h1 l S5 Sb Sh S6 Se Sg S7 S8 Sa RF fQ ⟨k,aR,hk1,hk8,iX,hxw⟩;simp only[I4,I5,Iv,true_and,and_true] at aR;obtain⟨rfl,rfl,⟨rfl,rfl,rfl⟩,⟨rfl,rfl,rfl⟩,rfl,rfl,rfl⟩:=aR;have hK1:=hK.step hxw;have uQ:=hK1.rd;refine⟨λIN=>?_,λRx=>?_⟩
 ·have IN:=Ot IN;have dS:(0:Int)<=(k:Int):=Qo;refine⟨uQ.g.ix dS IN,_,uQ.g.used dS IN,λ_=>uQ.g.ix dS IN,_,λ_=>uQ.g.parent dS IN,λ_=>uQ.g.ix dS IN,_,λ_=>uQ.g.name dS IN,λg3 RN Sm=>?_,λg3=>⟨⟨Qo,Qo⟩,λSj WT _=>⟨⟨k+1,Qs,Qo,Qo,λq q1 q2 qu=>?_,hxw.trans WT⟩,Zd (k:=k) rfl rfl Qo⟩⟩⟩
  ·rw[A',A',U8,Is] at g3;have hb:Gf W p name=7:=by unfold Gf; rw[B' n1,B' n2,C' ⟨k,Qo,Qo,g3.1.1,g3.1.2,g3.2⟩]
   exact OZ.no hW (by rw[hb]; decide) (hK1.step Sm) hb
  ·by_cases e:q<(k:Int)
   ·exact iX q q1 e qu
   ·have:q=(k:Int):=Qo;subst this;rintro⟨c1,c2⟩;rw[qu,Is.2 c1,U8.2 c2] at g3;cases g3
 have Rx:=Ou Rx;have:k=8:=Qo;subst this;have n3:¬z4d W p name:=λ⟨q,a,b,c,d,e⟩=>iX q a Qo c ⟨d,e⟩
 refine⟨_,MI uQ.g (by rw[bZ]; have:=ZV; omega),λg4 SM eB=>?_,λg4=>⟨⟨Qo,Qo⟩,?_⟩⟩
 ·rw[zlb wp.a.tree hu,Is] at g4;have hb:Gf W p name=9:=by unfold Gf; rw[B' n1,B' n2,B' n3,C' g4]
  exact OZ.no hW (by rw[hb]; decide) (hK1.step eB) hb
 rw[zlb wp.a.tree hu,beq_eq_false_iff_ne] at g4
 refine⟨λvs w1=>∃a t:Int,vs=[I a,I t]/\0<=t/\t<8/\(a = -1/\(∀j:Nat,t<(j:Int)->j<8->OD W j=false)\/t<a/\a<8/\OD W a.toNat=true/\∀j:Nat,t<(j:Int)->(j:Int)<a->OD W j=false)/\Q0 [y,y1] RF w1,
  λvs _=>(ZE 1 vs+1).toNat,λw1 mZ _=>⟨-1,_,rfl,Qo,Qo,.inl ⟨rfl,λj h1 h2=>by omega⟩,mZ⟩,?_⟩
 rintro av tv RU eZ ⟨a,t,aR,ht0,ht1,AP5,CB3⟩;simp only[I4,I5,true_and,and_true] at aR;obtain⟨rfl,rfl⟩:=aR;have fK:=hK1.step CB3;have tZ:=fK.rd;refine⟨λIN=>?_,λaN=>?_⟩
 ·have IN:=Ot IN;have e:((tv.toNat:Nat):Int)=tv:=Qo;have oH:OD W tv.toNat = !(gi W.ID tv).used:=by unfold OD; rw[e,Ih (by omega:1<=tv.toNat)]; rfl
  refine⟨tZ.g.ix Qo Qo,_,tZ.g.used Qo Qo,λg3=>⟨⟨Qo,Qo⟩,λRN Sm _=>⟨⟨tv,tv-1,rfl,Qo,Qo,.inr ⟨Qo,ht1,by rw[oH]; exact g3,λj h1 h2=>by omega⟩,CB3.trans Sm⟩,?_⟩⟩,λg3=>⟨⟨Qo,Qo⟩,λSj WT _=>⟨⟨av,tv-1,rfl,Qo,Qo,?_,CB3.trans WT⟩,?_⟩⟩⟩
  ·simp only[ZE,Ie,List.getElem?_cons_succ]; omega
  ·have g3:OD W tv.toNat=false:=by rw[oH]; exact g3
   have one:∀j:Nat,tv-1<(j:Int)->¬tv<(j:Int)->OD W j=false:=λj h1 h2=>by
    have:j=tv.toNat:=Qo;rw[this]; exact g3
   rcases AP5 with ⟨h1,h2⟩ | ⟨h1,h2,h3,h4⟩
   ·exact .inl ⟨h1,λj j1 j2=>if h:tv<(j:Int) then h2 j h j2 else one j j1 h⟩
   ·exact .inr ⟨Qo,h2,h3,λj j1 j2=>if h:tv<(j:Int) then h4 j h j2 else one j j1 h⟩
  ·simp only[ZE,Ie,List.getElem?_cons_succ]; omega
 have aN:=Ou aN;have ht:tv=0:=Qo;subst ht;have hz:OD W 0=false:=rfl
 have sY:av=TQ W:=by
  rcases AP5 with ⟨h1,h2⟩ | ⟨h1,h2,h3,h4⟩
  ·rw[h1]; exact(zsf λj hj=>if e:j=0 then by rw[e]; exact hz else h2 j Qo hj).symm
  ·exact(zse Qo h2 h3 λj hj=>if e:j=0 then by rw[e]; exact hz else h4 j Qo hj).symm
 subst sY;refine⟨λg5 SM eB=>?_,λg5=>⟨λg6 V' oQ=>?_,λg6 Ws Bj5 CT2=>?_⟩⟩
 ·have g5:=Ot g5;have hb:Gf W p name=3:=by unfold Gf; rw[B' n1,B' n2,B' n3,B' g4,C' g5]
  exact OZ.no hW (by rw[hb]; decide) (fK.step eB) hb
 ·have g5:=Ou g5;have aZ:¬QT W=true:=λhr=>by rw[C' hr] at g6; simp at g6
  have hb:Gf W p name=10:=by unfold Gf; rw[B' n1,B' n2,B' n3,B' g4,B' g5,C' (by simpa using aZ)]
  rw[B' aZ];exact OZ.no hW (by rw[hb]; decide) (fK.step oQ) hb
 have g5:=Ou g5;have aZ:QT W=true:=Iq λhr=>by rw[B' hr] at g6; simp at g6
 have hb:Gf W p name=0:=by unfold Gf; rw[B' n1,B' n2,B' n3,B' g4,B' g5,B' (by rw[aZ]; decide)]
 obtain⟨hf,_⟩:=zej hb;have a1:=hf.a1;have a8:=hf.a8;have qD:=fK.step Bj5;refine(GW (n:=W.IE.length) wp.a.c2).mono λe1 aX ⟨mg,gP,hMg,SK⟩=>?_
 have dY:=qD.R4 SK;have hold:∀x∈QU 8 m',x<Ws.heap.size:=λx hx=>(qD.own.lt x hx).2
 have At2:∀x∈Qt mg,Ws.heap.size<=x:=λx hx=>(hMg.lt x hx).1
 have SN:Wk 8 [y,y1] w (R9 aX m'.gO (Int.toNat (TQ W)*14) (YJ (M2 W.IE.length p name) mg)) (zx1 W p name) (Gl m' (TQ W).toNat mg):=
  ⟨dY.s.call za3 λx hx=>(dY.own.lt x hx).1,⟨dY.own.Bm3 Qo a8 (g:=M2 W.IE.length p name) (p:=mg) (j:=0) (vs:=YJ (M2 W.IE.length p name) mg) (hMg.mono qD.base) (λx hx=>.inl λdZ=>by have:=hold x dZ; have:=At2 x hx; omega) (by simp[YJ,Zy]) (by simp[YJ,Zy]),λx hx hm=>by
   rcases OM x hx with h1 | h1
   ·exact dY.nb x h1 hm
   ·have:=At2 x h1;have:=CT2 x hm;omega⟩⟩
 refine⟨_,_,_,_,_,_,_,_,_,_,_,_,_,_,_,_,_,_,_,_,gP,Qf SK CT2,rfl,tZ.g.ix Qo Qo,ztr dY.own dY.nb Qo a8 (j:=0) (k:=14) Qd,λWO BF1=>?_⟩;have Az8:=OZ.ok (a:=TQ W) hW hb (SN.step BF1);have ew:Qb (zx1 W p name) (Gl m' (TQ W).toNat mg)=Qb W m':=by simp[Qb,zx1,Pj,Rn,Gl]
 rw[ew] at Az8;exact Az8
end
inductive Jc (W:Q8):Q8->Prop
 | same:Jc W W
 | run (c n:Int) (hb:BF W c n=0):Jc W (zvb W c n)
 | yld (c:Int) (hb:za4 W c=0):Jc W (Rz W c)
 | fork (g n x:Int) (hb:Pa W g n x=0):Jc W (znx W g n x)
 | block (t:Int) (hb:Tr W t=0):Jc W (zk7 W t)
 | wake (t:Int) (hb:Kk W t=0):Jc W (AZ W t)
 | exit (t:Int) (hb:P9 W t=0):Jc W (AM W t)
 | nice (t n:Int) (hb:PP W t n=0):Jc W (H9 W t n)
 | pin (t x:Int) (hb:EY W t x=0):Jc W (zyn W t x)
 | mov (t g:Int) (hb:zeo W t g=0):Jc W (zh7 W t g)
 | mak (a p:Int) (name:ByteArray) (hm:zga W a p name):Jc W (Pj W a p name)
 | drp (g:Int) (hd:zi4 W g):Jc W (Je W g)
 | wgh (g x:Int) (hb:zph W g x=0):Jc W (zzm W g x)
 | gpn (g x:Int) (hb:zn2 W g x=0):Jc W (zxd W g x)
 | lim (g q p:Int) (hb:zoe W g q p=0):Jc W (z1a W g q p)
 | time (n:Int) (hb:G5 W n=0):Jc W (zkn W n)
 | bal (c:Int) (hb:P5 W c=0):Jc W (Th W c)
 | off (c:Int) (hb:Xn W c true (Hb W)=0):Jc W (zyc W c)
 | on (c:Int) (hb:Xn W c false 0=0):Jc W (z40 W c)
structure Mb (P:Nat->Q8->Prop):Prop where
 mono:∀{n m:Nat} {W:Q8},n<=m->P n W->P m W
 new:∀{n k:Nat},1<=k->k<=4->P n (Us k)
 fork:∀{n:Nat} {W:Q8} {g q x:Int},JF W->P n W->Pa W g q x=0->P n (znx W g q x)
 mak:∀{n:Nat} {W:Q8} {a p:Int} {name:ByteArray},JF W->P n W->zga W a p name->P n (Pj W a p name)
 Sn:∀{n:Nat} {W V:Q8},n<=10000->JF W->P n W->Jc W V->P (n+10) V
def z5j(_:Nat)(_:Q8):Prop:=True
theorem z5o:Mb z5j:=⟨λ_ _=>trivial,λ_ _=>trivial,λ_ _ _=>trivial,λ_ _ _=>trivial,λ_ _ _ _=>trivial⟩
theorem Q0.kept{bs B:List Nat}{w w':Wo}(h:Q0 bs w w')(hB:∀x∈B,x<w.heap.size/\x∉bs):Q9 B w w':=λx hx=>h.block x (hB x hx).1 (hB x hx).2
theorem zxu{b x:Nat}{w w':Wo}(h:Q0 [b] w w')(h1:x<w.heap.size)(h2:x≠b):Q9 [x] w w':=h.kept λy hy=>by
 rw[IA.1 hy]; exact⟨h1,by simpa using h2⟩
def z38(v:Int):Prop := -2<=v/\v<=21
theorem zoc{b:Nat}{c:OA}{L N:Nat}{w:Wo}(h:OP b c L N w)(hN:N<=900000000000) :
  Cz ZO #[.pointer (some ⟨b,0,none⟩)] w λe w'=>∃v,e=.returned (I v)/\z38 v/\OP b c L (N+2) w'/\Q0 [b] w w':=by
 refine(Dk (some ⟨b,0,none⟩) (R:=λv w'=>∃x,v=I x/\z38 x/\OP b c L (N+2) w'/\Q0 [b] w w') ?_).mono λe w' ⟨v,he,x,hv,h1,h2,h3⟩=>⟨x,by rw[he,hv],h1,h2,h3⟩
 refine λwr hx _=>(zd6 (h.Wt hx) Qo).mono λe w1 ⟨v,he,hv,uQ,RZ⟩=>⟨v,he,Ys,λ_=>?_,λ_ b1 cJ Rr R6 rH=>?_⟩
 ·refine λI' hy _=>(zd6 (uQ.Wt hy) Qo).mono λe w2 ⟨u,he,hu,tZ,R5⟩=>⟨u,he,Ys,?_⟩
  have hu1:=hu.1;have hu2:=hu.2.2 Qd;exact⟨Ul Qo Qo,λM' hz=>⟨_,rfl,⟨Qo,Qo⟩,tZ.Wt hz,(hx.of_nil.trans RZ).trans (hy.of_nil.trans (R5.trans hz.of_nil))⟩⟩
 ·refine(zd6 (uQ.Wt R6) Qo).mono λe w2 ⟨u,he,hu,tZ,R5⟩=>⟨u,he,zxu R5 (rH b1 Qs) (by have:=uQ.lt; omega),?_⟩
  have hu1:=hu.1;have hu2:=hu.2.2 Qd
  have fin:∀(x:Int),z38 x->∀Ru,Q0 [b1] w2 Ru->∃x',I x=I x'/\z38 x'/\OP b c L (N+2) Ru/\Q0 [b] w Ru:=λx hxv Ru hz=>
   ⟨x,rfl,hxv,uQ.Cn5 tZ hz (by simpa using cJ),(hx.of_nil.trans RZ).trans ((R6.of_nil.trans R5)) |>.fresh hz (λy hy=>by
    rw[IA.1 hy];have h1:=hx.size; have h2:=RZ.size;exact .inl Qo)⟩
  have:u=0\/u=1\/u=2\/u=3\/u=4\/u=5\/u=6\/u=7\/u=8\/u=9:=Qo;refine⟨⟨hu1,hu2⟩,?_⟩;rcases this with rfl | rfl | rfl | rfl | rfl | rfl | rfl | rfl | rfl | rfl <;> exact⟨_,⟨Qd,rfl⟩,fin _ ⟨Qd,Qd⟩⟩
def DJ(c:OA)(L:Nat)(w:Wo):Prop:=∀i<L,∃(a:Addr) (x:Int),c=some a/\0<=x/\x<=255/\w.cell? (a.add i)=some (.int .u8 x)
theorem DJ.ext{c:OA}{L:Nat}{w w':Wo}(h:DJ c L w)(hx:Q0 [] w w'):DJ c L w':=λi hi=>by
 obtain⟨a,x,ha,h1,h2,h3⟩:=h i hi;obtain⟨a',e,_,h''⟩:=(show JA [] w c i (.int .u8 x) from ⟨a,ha,Qs,h3⟩).ext hx;rw[ha] at e; cases e; exact⟨a,x,ha,h1,h2,h''⟩
structure RS (rb:Nat) (c:OA) (L N:Nat) (bs:List Nat) (w:Wo):Prop where
 rd:OP rb c L N w
 nb:rb∉bs
 oc:∀a,c=some a->a.block∉bs\/L=0
section
variable {rb:Nat}{c:OA}{L N:Nat}{bs cs:List Nat}{w w':Wo}{b:Nat}
theorem RS.step(h:RS rb c L N bs w)(hx:Q0 bs w w'):RS rb c L N bs w':=⟨h.rd.ext hx h.nb h.oc,h.nb,h.oc⟩
theorem RS.R4(h:RS rb c L N bs w)(hx:Q0 [] w w'):RS rb c L N bs w':=⟨h.rd.Wt hx,h.nb,h.oc⟩
theorem RS.add(h:RS rb c L N bs w)(hb:w.heap.size<=b):RS rb c L N (bs++[b]) w:=⟨h.rd,λhm=>by
 rcases Im.1 hm with hm | hm
 ·exact h.nb hm
 ·have:rb=b:=by simpa using hm
  have:=h.rd.lt;omega,λa ha=>by
 rcases h.oc a ha with h1 | h1
 ·rcases h.rd.ltc a ha with h2 | h2
  ·refine .inl λhm=>?_
   rcases Im.1 hm with hm | hm
   ·exact h1 hm
   ·have:a.block=b:=by simpa using hm
    omega
  ·exact .inr h2
 ·exact .inr h1⟩
theorem RS.sub(h:RS rb c L N bs w)(hs:∀x∈cs,x∈bs):RS rb c L N cs w:=⟨h.rd,λhm=>h.nb (hs _ hm),λa ha=>by
 rcases h.oc a ha with h1 | h1
 ·exact .inl λhm=>h1 (hs _ hm)
 ·exact .inr h1⟩
theorem RS.upd{M:Nat}(h:RS rb c L N bs w)(k:OP rb c L M w'):RS rb c L M bs w':=⟨k,h.nb,h.oc⟩
theorem RS.mono{M:Nat}(h:RS rb c L N bs w)(hm:N<=M):RS rb c L M bs w:=⟨h.rd.mono hm,h.nb,h.oc⟩
theorem Sc.B44{w0:Wo}(h:Sc w0 (rb::bs) w)(hx:Q0 bs w w'):Sc w0 (rb::bs) w':=h.step (hx.mono λ_ hm=>I1 _ hm)
theorem Sc.CZ0{w0:Wo}(h:Sc w0 (rb::bs) w)(hx:Q0 [rb] w w'):Sc w0 (rb::bs) w':=h.step (hx.mono λx hm=>by
 have:x=rb:=by simpa using hm
 subst this; simp)
theorem zed(h:RS rb c L N bs w)(hx:Q0 [rb] w w')(hs:∀x∈bs,x<w.heap.size):Q9 bs w w':=H0 hx hs λx hm gI=>by
 have:x=rb:=by simpa using hm
 subst this; exact h.nb gI
end
section
variable {α:Type}{enc:α->List Va}{z:Nat}{ty:TypeId}{base rb:Nat}{bs:List Nat}{w w':Wo}{o:OA}{cap:Nat}{l:List α}{b:Nat}
end
theorem zqn{c:OA}{L C:Nat}{w:Wo}(h:DJ c L w)(hC:L<=C) :
  Cz VG #[.slice c L C] w λe w'=>∃b c' L',e=.returned (.pointer (some ⟨b,0,none⟩))/\w.heap.size<=b/\OP b c' L' 0 w'/\Q0 [] w w'/\∀a',c'=some a'->L'=0\/(0<L/\∃a,c=some a/\a'.block=a.block):=by
 refine(zc7 c L C (R:=λv w'=>∃b c' L',v=.pointer (some ⟨b,0,none⟩)/\w.heap.size<=b/\OP b c' L' 0 w'/\Q0 [] w w'/\∀a',c'=some a'->L'=0\/(0<L/\∃a,c=some a/\a'.block=a.block)) ?_).mono λe w' ⟨v,he,b,c',L',hv,h1,h2,h3⟩=>⟨b,c',L',by rw[he,hv],h1,h2,h3⟩
 refine⟨λIN=>⟨⟨Qo,Qo,by have:=Ot IN; omega⟩,λb wb hx hb hh _ wr hy=>⟨b,if C=Int.toNat 0 then c else c.map (·.add (Int.toNat 0*1)),Int.toNat 2000-Int.toNat 0,rfl,hb,?_,hx.trans hy,λa' ha'=>?_⟩⟩,λIN b wb hx hb hh _ wr hy=>⟨b,c,L,rfl,hb,?_,hx.trans hy,λa' ha'=>?_⟩⟩
 ·refine OP.Wt ⟨⟨_,0,hh,Qo,Qo⟩,λi hi=>?_⟩ hy;have IN:=Ot IN;obtain⟨a,x,ha,h1,h2,h3⟩:=h.ext hx i (by have:i<2000-0:=hi; omega);obtain⟨a0,x0,ha0,_,_,h30⟩:=h i (by have:i<2000-0:=hi; omega);have RA:=World.block_lt_of_cell? w _ h30;rw[ZC] at RA;rw[ha] at ha0; cases ha0;rw[B' (show ¬C=Int.toNat 0 from λe=>by have:C=0:=e; omega),ha];refine⟨a.add 0,x,rfl,by rw[ZC]; omega,h1,h2,?_⟩;rw[Uv,Nat.zero_add]; exact h3
 ·have IN:=Ot IN;refine .inr ⟨Qo,?_⟩;rw[B' (show ¬C=Int.toNat 0 from λe=>by have:C=0:=e; omega)] at ha'
  cases c with
  | none=>cases ha'
  | some a=>
   simp only[Option.map_some,I0] at ha';exact⟨a,rfl,by rw[<-ha',ZC]⟩
 ·refine OP.Wt ⟨⟨_,0,hh,Qo,Qo⟩,λi hi=>?_⟩ hy;obtain⟨a,x,ha,h1,h2,h3⟩:=h.ext hx i hi;obtain⟨a0,x0,ha0,_,_,h30⟩:=h i hi;have RA:=World.block_lt_of_cell? w _ h30;rw[ZC] at RA;rw[ha] at ha0; cases ha0;exact⟨a,x,ha,Qo,h1,h2,h3⟩
 ·rcases Nat.eq_zero_or_pos L with h0 | h0
  ·exact .inl h0
  ·exact .inr ⟨h0,a',ha',rfl⟩
structure Dr (rb:Nat) (c:OA) (L N n:Nat) (bs:List Nat) (w0 w:Wo):Prop where
 r:RS rb c L (N+n) bs w
 ext:Q0 [rb] w0 w
 new:∀x∈bs,w0.heap.size<=x
section
variable {rb b b2:Nat}{c:OA}{L N n k:Nat}{bs cs:List Nat}{w0 w w':Wo}
theorem Dr.start(h:OP rb c L N w):Dr rb c L N 0 [] w w:=⟨⟨h,Qs,λ_ _=>.inl Qs⟩,Q0.refl _ _,Qs⟩
theorem Dr.step(h:Dr rb c L N n bs w0 w)(hx:Q0 bs w w'):Dr rb c L N n bs w0 w':=⟨h.r.step hx,h.ext.fresh hx λx hm=>.inl (h.new x hm),h.new⟩
theorem Dr.add(h:Dr rb c L N n bs w0 w)(hb:w.heap.size<=b):Dr rb c L N n (bs++[b]) w0 w:=⟨h.r.add hb,h.ext,λx hm=>by
 rcases Im.1 hm with hm | hm
 ·exact h.new x hm
 ·have:x=b:=by simpa using hm
  have:=h.ext.size;omega⟩
theorem Dr.put(h:Dr rb c L N n bs w0 w)(hx:Q0 bs w w')(hb:w.heap.size<=b):Dr rb c L N n (bs++[b]) w0 w':=(h.add hb).step (hx.mono λ_ hm=>Ia _ hm)
theorem Dr.AG3(h:Dr rb c L N n bs w0 w)(hx:Q0 bs w w')(hb:w.heap.size<=b)(bR:w.heap.size<=b2):Dr rb c L N n (bs++[b]++[b2]) w0 w':=((h.add hb).add bR).step (hx.mono λ_ hm=>Ia _ (Ia _ hm))
theorem Dr.more{m:Nat}(h:Dr rb c L N n bs w0 w)(hm:n<=m):Dr rb c L N m bs w0 w:=⟨h.r.mono Qo,h.ext,h.new⟩
theorem Dr.sub(h:Dr rb c L N n bs w0 w)(hs:∀x∈cs,x∈bs):Dr rb c L N n cs w0 w:=⟨h.r.sub hs,h.ext,λx hm=>h.new x (hs x hm)⟩
theorem Dr.fin{m:Nat}(h:Dr rb c L N n bs w0 w)(hm:n<=m):OP rb c L (N+m) w/\Q0 [rb] w0 w:=⟨(h.more hm).r.rd,h.ext⟩
theorem Dr.call{f:FuncId}{args:Array Va}{Q:Int->Prop}(h:Dr rb c L N n bs w0 w)(hs:∀x∈bs,x<w.heap.size)(hc:Cz f args w λe w'=>∃v,e=.returned (I v)/\Q v/\OP rb c L (N+n+k) w'/\Q0 [rb] w w') :
  Cz f args w λe w'=>∃v,e=.returned (I v)/\Q9 bs w w'/\Q v/\Dr rb c L N (n+k) bs w0 w':=
 hc.mono λe w' ⟨v,he,hq,hr,hx⟩=>⟨v,he,zed h.r hx hs,hq,⟨h.r.upd (by rw[<-Nat.add_assoc]; exact hr),h.ext.trans hx,h.new⟩⟩
theorem Dr.pick(h:Dr rb c L N n bs w0 w)(hN:N+n<=1000000000000)(hs:∀x∈bs,x<w.heap.size){q:Int} :
  Cz Q3 #[.pointer (some ⟨rb,0,none⟩),I q] w λe w'=>∃v,e=.returned (I v)/\Q9 bs w w'/\zbt q v/\Dr rb c L N (n+1) bs w0 w':=h.call hs (zd6 h.r.rd hN)
theorem Dr.weight(h:Dr rb c L N n bs w0 w)(hN:N+n<=900000000000)(hs:∀x∈bs,x<w.heap.size) :
  Cz ZO #[.pointer (some ⟨rb,0,none⟩)] w λe w'=>∃v,e=.returned (I v)/\Q9 bs w w'/\z38 v/\Dr rb c L N (n+2) bs w0 w':=h.call hs (zoc h.r.rd hN)
end
end Go.Proofs.YtnclplgaicdapaaGreatDoor
