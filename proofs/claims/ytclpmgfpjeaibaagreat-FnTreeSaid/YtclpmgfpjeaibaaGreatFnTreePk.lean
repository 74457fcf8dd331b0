/- Part 11 of what the law FnTree needs: the engine, the functions' propositions, the contracts. -/
import Derived.Test.YtclpmgfpjeaibaaGreatFnTreePj
namespace Go.Proofs.YtclpmgfpjeaibaaGreat
open Go.RowKit
set_option linter.unusedVariables false
set_option linter.unusedSimpArgs false
set_option maxRecDepth 10000
structure Mv (n base:Nat) (bs:List Nat) (w0:World) (m0:MW) (w:World) (W:Q7) (m:MW):Prop where
 own:Y8 n base w W m
 ext:Q0 (QF n m0) w0 w
 sub:∀x∈QF n m,x∈QF n m0\/w0.heap.size<=x
 hd:m={ m0 with ms:=m.ms }
 nb:∀x∈QF n m,x∉bs
 new:∀x∈bs,w0.heap.size<=x
section
variable {n base:Nat} {bs cs:List Nat} {w0 w w':World} {W W':Q7} {m0 m m':MW} {b:Nat}
theorem Mv.start (h:Y8 n base w W m):Mv n base [] w m w W m:=⟨h,Q0.refl _ _,fun x hx=>.inl hx,rfl,by simp,by simp⟩
theorem Mv.add (h:Mv n base bs w0 m0 w W m) (hb:w.heap.size<=b):Mv n base (bs++[b]) w0 m0 w W m:=⟨h.own,h.ext,h.sub,h.hd,fun x hx hm=>by
 rcases List.mem_append.1 hm with hm | hm
 ·exact h.nb x hx hm
 ·have:x=b:=by simpa using hm
  have:=(h.own.lt x hx).2;omega,fun x hm=>by
 rcases List.mem_append.1 hm with hm | hm
 ·exact h.new x hm
 ·have:x=b:=by simpa using hm
  have:=h.ext.size;omega⟩
theorem Mv.sub' (h:Mv n base bs w0 m0 w W m) (hs:∀x∈cs,x∈bs):Mv n base cs w0 m0 w W m:=⟨h.own,h.ext,h.sub,h.hd,fun x hx hm=>h.nb x hx (hs x hm),fun x hm=>h.new x (hs x hm)⟩
theorem Mv.close (h:Mv n base bs w0 m0 w W m):Mv n base [] w0 m0 w W m:=h.sub' (by simp)
theorem Mv.step (h:Mv n base bs w0 m0 w W m) (hx:Q0 bs w w'):Mv n base bs w0 m0 w' W m:=⟨h.own.ext hx h.nb,h.ext.fresh hx fun x hm=>.inl (h.new x hm),h.sub,h.hd,h.nb,h.new⟩
theorem Mv.call0 (h:Mv n base bs w0 m0 w W m) (hx:Q0 [] w w'):Mv n base bs w0 m0 w' W m:=⟨h.own.ext0 hx,h.ext.trans hx.of_nil,h.sub,h.hd,h.nb,h.new⟩
theorem Mv.call (h:Mv n base bs w0 m0 w W m) (k:Mv n base [] w m w' W' m') (hs:∀x∈bs,x<w.heap.size):Mv n base bs w0 m0 w' W' m':=
 ⟨k.own,h.ext.fresh k.ext fun x hm=>(h.sub x hm).symm,fun x hx=>by
  rcases k.sub x hx with h1 | h1
  ·exact h.sub x h1
  ·have:=h.ext.size;exact .inr (by omega),by rw [k.hd,h.hd],fun x hx hm=>by
  rcases k.sub x hx with h1 | h1
  ·exact h.nb x h1 hm
  ·have:=hs x hm;omega,h.new⟩
theorem Mv.deed (h:Mv n base bs w0 m0 w W m) (k:Y8 n base w' W' m) (hx:Q0 (QF n m) w w'):Mv n base bs w0 m0 w' W' m:=
 ⟨k,h.ext.fresh hx fun x hm=>(h.sub x hm).symm,h.sub,h.hd,h.nb,h.new⟩
theorem Mv.kept (h:Mv n base bs w0 m0 w W m) (k:Mv n base [] w m w' W' m') (hs:∀x∈bs,x<w.heap.size):Q9 bs w w':=fun x hm=>k.ext.block x (hs x hm) fun hm'=>h.nb x hm' hm
theorem Mv.rd (h:Mv n base bs w0 m0 w W m):Xo bs w W m:=h.own.rd h.nb
theorem Mv.rd0 (h:Mv n base bs w0 m0 w W m):Xo [] w W m:=h.own.rd (by simp)
theorem Mv.encW_eq (h:Mv n base bs w0 m0 w W m) {W0:Q7} (e0:W.now=W0.now) (e1:W.cpus.length=W0.cpus.length) (e2:W.tasks.length=W0.tasks.length) (e3:W.groups.length=W0.groups.length):Qa W m=Qa W0 m0:=by
 rw [h.hd];simp only [Qa,e0,e1,e2,e3]
end
structure OW (n base:Nat) (bs:List Nat) (w:World) (W:Q7) (m:MW):Prop where
 own:Y8 n base w W m
 nb:∀x∈QF n m,x∉bs
section
variable {n base:Nat} {bs cs:List Nat} {w w':World} {W:Q7} {m:MW} {b:Nat}
theorem OW.of (h:Y8 n base w W m) (hs:∀x∈bs,x<base):OW n base bs w W m:=⟨h,fun x hx hm=>by
 have:=(h.lt x hx).1;have:=hs x hm;omega⟩
theorem OW.step (h:OW n base bs w W m) (hx:Q0 bs w w'):OW n base bs w' W m:=⟨h.own.ext hx h.nb,h.nb⟩
theorem OW.call0 (h:OW n base bs w W m) (hx:Q0 [] w w'):OW n base bs w' W m:=⟨h.own.ext0 hx,h.nb⟩
theorem OW.add (h:OW n base bs w W m) (hb:w.heap.size<=b):OW n base (bs++[b]) w W m:=⟨h.own,fun x hx hm=>by
 rcases List.mem_append.1 hm with hm | hm
 ·exact h.nb x hx hm
 ·have:x=b:=by simpa using hm
  have:=(h.own.lt x hx).2;omega⟩
theorem OW.put (h:OW n base bs w W m) (hx:Q0 bs w w') (hb:w.heap.size<=b):OW n base (bs++[b]) w' W m:=⟨(h.step hx).own,(h.add hb).nb⟩
theorem OW.put2 {b2:Nat} (h:OW n base bs w W m) (hx:Q0 bs w w') (hb:w.heap.size<=b) (hb2:w.heap.size<=b2):OW n base (bs++[b]++[b2]) w' W m:=⟨(h.step hx).own,((h.add hb).add hb2).nb⟩
theorem OW.sub (h:OW n base bs w W m) (hs:∀x∈cs,x∈bs):OW n base cs w W m:=⟨h.own,fun x hx hm=>h.nb x hx (hs x hm)⟩
theorem OW.mono {base':Nat} (h:OW n base bs w W m) (hb:base'<=base):OW n base' bs w W m:=⟨h.own.mono hb,h.nb⟩
theorem OW.rd (h:OW n base bs w W m):Xo bs w W m:=h.own.rd h.nb
theorem OW.rd0 (h:OW n base bs w W m):Xo [] w W m:=h.own.rd (by simp)
end
def QD (p:Nat->Bool) (v:Nat->Int):Nat->Int
 | 0 => -1
 | k+1=>if (p k&&(decide (QD p v k<0)||decide (v k<v (QD p v k).toNat)))=true then (k:Int) else QD p v k
theorem Z7 (p:Nat->Bool) (v:Nat->Int):∀k:Nat,(QD p v k = -1/\∀j,j<k->p j=false) \/
  (0<=QD p v k/\QD p v k<(k:Int)/\p (QD p v k).toNat=true/\(∀j,j<k->p j=true->v (QD p v k).toNat<=v j)/\∀j:Nat,(j:Int)<QD p v k->p j=true->v (QD p v k).toNat<v j)
 | 0=>.inl ⟨rfl,fun j hj=>absurd hj (Nat.not_lt_zero j)⟩
 | k+1=>by
  simp only [QD];split
  ·rename_i h;simp only [Bool.and_eq_true,Bool.or_eq_true,decide_eq_true_eq] at h;refine .inr ⟨by omega,by omega,by simpa using h.1,fun j hj hp => ?_,fun j hj hp => ?_⟩
   ·rw [Int.toNat_natCast]
    by_cases hjk:j=k
    ·subst hjk; exact Int.le_refl _
    ·rcases Z7 p v k with ⟨_,h2⟩ | ⟨h1,_,_,h4,_⟩
     ·rw [h2 j (by omega)] at hp; cases hp
     ·have:=h4 j (by omega) hp;rcases h.2 with h5 | h5 <;> omega
   ·rw [Int.toNat_natCast];rcases Z7 p v k with ⟨_,h2⟩ | ⟨h1,_,_,h4,_⟩
    ·rw [h2 j (by omega)] at hp; cases hp
    ·have:=h4 j (by omega) hp;rcases h.2 with h5 | h5 <;> omega
  ·rename_i h;rcases Z7 p v k with ⟨h1,h2⟩ | ⟨h1,h2,h3,h4,h5⟩
   ·refine .inl ⟨h1,fun j hj => ?_⟩
    by_cases hjk:j=k
    ·subst hjk
     cases hp:p j with
     | false=>rfl
     | true=>
      exfalso; apply h
      rw [hp,h1]; rfl
    ·exact h2 j (by omega)
   ·refine .inr ⟨h1,by omega,h3,fun j hj hp => ?_,h5⟩
    by_cases hjk:j=k
    ·subst hjk;rcases Int.lt_or_le (v j) (v (QD p v j).toNat) with h6 | h6
     ·exfalso; apply h
      rw [hp,decide_eq_true h6]; simp
     ·exact h6
    ·exact h4 j (by omega) hp
theorem zcf {p:Nat->Bool} {v:Nat->Int} {n k:Nat} (hk:k<n) (hp:p k=true) (h0:0<=QD p v n) (hv:v k=v (QD p v n).toNat) (hb:∀j,j<k->p j=true->v j≠v (QD p v n).toNat):QD p v n=(k:Int):=by
 rcases Z7 p v n with ⟨h1,_⟩ | ⟨_,h2,h3,h4,h5⟩
 ·omega
 ·by_cases hlt:(k:Int)<QD p v n
  ·have:=h5 k hlt hp; omega
  ·by_cases hgt:QD p v n<(k:Int)
   ·exact absurd rfl (hb _ (by omega) h3)
   ·omega
def Z9 (W:Q7) (g c:Int) (i:Nat):Bool:=if i<12 then O5 W g c i else J6 W g c (i - 12)
def Za (W:Q7) (c:Int) (i:Nat):Int:=if i<12 then (Q8 W (i:Int)).v else (Qc W ((i - 12:Nat):Int) c).v
def Qz (W:Q7) (g c:Int):Int:=QD (Z9 W g c) (Za W c) 20
def zek:Nat->Q7->Int->Int->Int
 | 0,_,_,_ => -1
 | f+1,W,g,c=>if Qz W g c<0 then -1 else if Qz W g c<12 then Qz W g c else zek f W (Qz W g c - 12) c
def OD (W:Q7) (g c:Int):Int:=zek (4 - dep 3 W.groups g).toNat W g c
def Qk (W:Q7) (c:Int):Int:=if (gi W.cpus c).cur>=0/\(gi W.cpus c).ran<50 then (gi W.cpus c).cur else OD W 0 c
theorem Uw {W:Q7} {g c:Int} {i:Nat} (h:i<12):Z9 W g c i=O5 W g c i:=if_pos h
theorem J0 {W:Q7} {g c:Int} {i:Nat}:Z9 W g c (12+i)=J6 W g c i:=by
 unfold Z9;rw [if_neg (by omega),show 12+i - 12=i by omega]
theorem GL {W:Q7} {c:Int} {i:Nat} (h:i<12):Za W c i=(Q8 W (i:Int)).v:=if_pos h
theorem GK {W:Q7} {c:Int} {i:Nat}:Za W c (12+i)=(Qc W (i:Int) c).v:=by
 unfold Za;rw [if_neg (by omega),show 12+i - 12=i by omega]
theorem zee (W:Q7) (g c:Int):Z9 W g c 12=false:=by
 rw [show (12:Nat)=12+0 from rfl,J0]; rfl
theorem Mb {W:Q7} {g c:Int} (ha:WA W) (hu:Q6 W.groups g=true) (h:12<=Qz W g c):Q6 W.groups (Qz W g c - 12)=true/\Qz W g c - 12≠0/\dep 3 W.groups (Qz W g c - 12)=dep 3 W.groups g+1/\Qz W g c<20:=by
 unfold Qz at *;rcases Z7 (Z9 W g c) (Za W c) 20 with ⟨h1,_⟩ | ⟨h1,h2,h3,_,_⟩
 ·omega
 ·have e:(QD (Z9 W g c) (Za W c) 20).toNat=12+((QD (Z9 W g c) (Za W c) 20).toNat - 12):=by omega
  rw [e,J0] at h3;unfold J6 at h3;simp only [Bool.and_eq_true,decide_eq_true_eq,beq_iff_eq] at h3;obtain ⟨⟨k1,k2,k3⟩,_⟩:=h3;have ek:(((QD (Z9 W g c) (Za W c) 20).toNat - 12:Nat):Int)=QD (Z9 W g c) (Za W c) 20 - 12:=by omega
  rw [ek] at k2 k3;have hgl:=ha.gl;have hk:Q6 W.groups (QD (Z9 W g c) (Za W c) 20 - 12)=true:=Q4.2 ⟨by omega,by omega,k2⟩;have hz:QD (Z9 W g c) (Za W c) 20 - 12≠0:=by omega
  obtain ⟨_,_,_,d,e1,e2,_⟩:=Zl ha.tree hk hz;rw [k3] at e2;exact ⟨hk,hz,by omega,by omega⟩
theorem Ps {W:Q7} (ha:WA W) {g:Int} (hu:Q6 W.groups g=true):0<=dep 3 W.groups g/\dep 3 W.groups g<=3:=by
 have hr:=UN W.groups 3 g
 by_cases hz:g=0
 ·subst hz; rw [ZN]; omega
 ·obtain ⟨_,_,_,d,e1,_⟩:=Zl ha.tree hu hz;omega
theorem GQ {W:Q7} (ha:WA W) {g c:Int} (hu:Q6 W.groups g=true):OD W g c=if Qz W g c<0 then -1 else if Qz W g c<12 then Qz W g c else OD W (Qz W g c - 12) c:=by
 have hd:=Ps ha hu;have e:(4 - dep 3 W.groups g).toNat=(3 - dep 3 W.groups g).toNat+1:=by omega
 show zek (4 - dep 3 W.groups g).toNat W g c=_;rw [e];simp only [zek];split
 ·rfl
 ·split
  ·rfl
  ·obtain ⟨_,_,hk,_⟩:=Mb ha hu (c:=c) (by omega);unfold OD;rw [hk,show (4 - (dep 3 W.groups g+1))=3 - dep 3 W.groups g by omega]
section
variable {W:Q7} {m:MW} {w:World} {bs:List Nat} {p:OA}
def QZ (W:Q7) (g c:Int) (k:Nat):Int:=if QD (Z9 W g c) (Za W c) k<0 then 0 else Za W c (QD (Z9 W g c) (Za W c) k).toNat
def Zw (W:Q7) (g c:Int) (k:Nat):Bool:=decide (0<=QD (Z9 W g c) (Za W c) k)
theorem NC {W:Q7} {g c:Int} {k:Nat}:(decide (QD (Z9 W g c) (Za W c) k<0)||decide (Za W c k<Za W c (QD (Z9 W g c) (Za W c) k).toNat))=(!Zw W g c k||decide (Za W c k<QZ W g c k)):=by
 unfold Zw QZ
 by_cases h:QD (Z9 W g c) (Za W c) k<0
 ·have h2:decide (0<=QD (Z9 W g c) (Za W c) k)=false:=decide_eq_false (by omega);rw [if_pos h,decide_eq_true h,h2]; rfl
 ·have h2:decide (0<=QD (Z9 W g c) (Za W c) k)=true:=decide_eq_true (by omega);rw [if_neg h,decide_eq_false h,h2]; rfl
theorem CU {W:Q7} {g c:Int} {k:Nat} (h:(Z9 W g c k&&(!Zw W g c k||decide (Za W c k<QZ W g c k)))=true):QZ W g c (k+1)=Za W c k/\Zw W g c (k+1)=true:=by
 rw [<-NC] at h
 have e:QD (Z9 W g c) (Za W c) (k+1)=(k:Int):=by
  simp only [QD]; rw [if_pos h]
 unfold QZ Zw;rw [e,if_neg (by omega),Int.toNat_natCast];exact ⟨rfl,decide_eq_true (by omega)⟩
theorem AD {W:Q7} {g c:Int} {k:Nat} (h:(Z9 W g c k&&(!Zw W g c k||decide (Za W c k<QZ W g c k)))=false):QZ W g c (k+1)=QZ W g c k/\Zw W g c (k+1)=Zw W g c k:=by
 rw [<-NC] at h
 have e:QD (Z9 W g c) (Za W c) (k+1)=QD (Z9 W g c) (Za W c) k:=by
  simp only [QD]; rw [if_neg (by rw [h]; decide)]
 unfold QZ Zw;rw [e];exact ⟨rfl,rfl⟩
theorem PD {g c:Int} (h:Xo bs w W m) (ha:WA W) (c0:0<=c) (c1:c<(W.cpus.length:Int)):PX bs JE #[.agg (Qa W m).toArray,.int .i64 g,.int .i64 c] w (.tuple #[.int .i64 (QZ W g c 20),.bool (Zw W g c 20)]):=
 FO W.now m.cO W.cpus.length m.cC m.tO W.tasks.length m.tC m.gO W.groups.length m.gC g c fun wr hx=>by
  have h:=(h.ext hx).less (cs:=[]) (by simp);have hgl:=ha.gl;have htl:=ha.t;intro _ _;refine ⟨fun vs=>∃k:Nat,k<=12/\vs=[.int .i64 (QZ W g c k),.bool (Zw W g c k),.int .i64 (k:Int)],Jq 12 2,⟨0,by omega,rfl⟩,?_⟩;rintro best some t ⟨k,hk,he⟩;simp only [List.cons.injEq,Value.int.injEq,Value.bool.injEq,true_and,and_true] at he;obtain ⟨rfl,rfl,rfl⟩:=he;refine ⟨fun hlt => ?_,fun hge => ?_⟩
  ·have hlt:=of_decide_eq_true hlt;have hk12:k<12:=by omega
   refine ⟨h.t.ix QJ (by omega) hlt,_,_,_,_,_,_,_,_,_,h.t k (by omega) hlt,fun _ _=>⟨fun q=>⟨⟨by omega,by omega⟩,⟨k+1,by omega,?_⟩,QI (k:=k) rfl rfl hk12⟩,fun q=>⟨⟨by omega,by omega⟩,⟨k+1,by omega,?_⟩,QI (k:=k) rfl rfl hk12⟩⟩⟩
   ·have q':(Z9 W g c k&&(!Zw W g c k||decide (Za W c k<QZ W g c k)))=true:=by rw [Uw hk12,GL hk12]; exact q
    obtain ⟨e1,e2⟩:=CU q';rw [e1,e2,GL hk12]; simp [Q8]
   ·have q':(Z9 W g c k&&(!Zw W g c k||decide (Za W c k<QZ W g c k)))=false:=by rw [Uw hk12,GL hk12]; exact q
    obtain ⟨e1,e2⟩:=AD q';rw [e1,e2]; simp
  ·have hge:=of_decide_eq_false hge;have:k=12:=by omega
   subst this;have e12:QZ W g c 13=QZ W g c 12/\Zw W g c 13=Zw W g c 12:=AD (by rw [zee]; rfl);refine ⟨fun vs=>∃k:Nat,1<=k/\k<=8/\vs=[.int .i64 (QZ W g c (12+k)),.bool (Zw W g c (12+k)),.int .i64 (k:Int)],Jq 8 2,⟨1,by omega,by omega,by rw [show 12+1=13 from rfl,e12.1,e12.2]; rfl⟩,?_⟩;rintro best1 some1 t1 ⟨k,hk1,hk,he⟩;simp only [List.cons.injEq,Value.int.injEq,Value.bool.injEq,true_and,and_true] at he;obtain ⟨rfl,rfl,rfl⟩:=he;refine ⟨fun hlt => ?_,fun hge => ?_⟩
   ·have hlt:=of_decide_eq_true hlt;have hk0:(0:Int)<=(k:Int):=by omega
    have used:∀{x:Bool},(((gi W.groups (k:Int)).used&&((gi W.groups (k:Int)).parent==g))&&x)=true->Q6 W.groups (k:Int)=true/\c<((gi W.groups (k:Int)).shelves.length:Int):=fun {x} q=>by
     simp only [Bool.and_eq_true] at q;have hu:=CM hlt q.1.1;exact ⟨hu,by rw [ha.sl hu]; exact c1⟩
    have eA:J6 W g c k=(((gi W.groups (k:Int)).used&&((gi W.groups (k:Int)).parent==g))&&(Qc W (k:Int) c).on):=by
     unfold J6; rw [decide_eq_true hk1,Bool.true_and]
    have eP:Z9 W g c (12+k)=(((gi W.groups (k:Int)).used&&((gi W.groups (k:Int)).parent==g))&&(Qc W (k:Int) c).on):=by rw [J0,eA]
    refine ⟨h.g.ix hk0 hlt,_,h.g.used hk0 hlt,fun _=>h.g.ix hk0 hlt,_,fun _=>h.g.parent hk0 hlt,(Qc W (k:Int) c).on,fun q=>JK h ha (used (x:=true) (by rw [q]; rfl)).1 c0 c1,fun _ _=>h.g.ix hk0 hlt,_,_,_,fun _ _=>h.g.shelf hk0 hlt,fun _ q=>(h.g.shelves _ hk0 hlt).ix ZK c0 (used q).2,(Qc W (k:Int) c).v,fun _ q=>zbq.f (h.g.shelves _ hk0 hlt) c0 (used q).2 (j:=2) rfl,fun q => ?_,fun q=>⟨⟨by omega,by omega⟩,⟨k+1,by omega,by omega,?_⟩,QI (k:=k) rfl rfl (by omega)⟩⟩
    ·have q2:=q;simp only [Bool.and_eq_true] at q2;have hu:=used (x:=(Qc W (k:Int) c).on) (by simp only [Bool.and_eq_true]; exact q2.1);have q':(Z9 W g c (12+k)&&(!Zw W g c (12+k)||decide (Za W c (12+k)<QZ W g c (12+k))))=true:=by rw [eP,GK]; exact q
     obtain ⟨e1,e2⟩:=CU q';refine ⟨h.g.ix hk0 hlt,_,_,_,h.g.shelf hk0 hlt,(h.g.shelves _ hk0 hlt).ix ZK c0 hu.2,_,zbq.f (h.g.shelves _ hk0 hlt) c0 hu.2 (j:=2) rfl,⟨by omega,by omega⟩,⟨k+1,by omega,by omega,?_⟩,QI (k:=k) rfl rfl (by omega)⟩;rw [show 12+(k+1)=12+k+1 from rfl,e1,e2,GK]; simp [Qc]
    ·have q':(Z9 W g c (12+k)&&(!Zw W g c (12+k)||decide (Za W c (12+k)<QZ W g c (12+k))))=false:=by rw [eP,GK]; exact q
     obtain ⟨e1,e2⟩:=AD q';rw [show 12+(k+1)=12+k+1 from rfl,e1,e2]; simp
   ·have hge:=of_decide_eq_false hge;have:k=8:=by omega
    subst this;rfl
theorem N8 {g c:Int} (h:Xo bs w W m) (ha:WA W) (hu:Q6 W.groups g=true) (c0:0<=c) (c1:c<(W.cpus.length:Int)):PX bs XX #[.agg (Qa W m).toArray,.int .i64 g,.int .i64 c] w (.int .i64 (OD W g c)):=by
 have hgl:=ha.gl;have htl:=ha.t
 have key:∀(n:Nat) (g:Int),Q6 W.groups g=true->(3 - dep 3 W.groups g).toNat=n->∀{bs:List Nat} {w:World},Xo bs w W m->PX bs XX #[.agg (Qa W m).toArray,.int .i64 g,.int .i64 c] w (.int .i64 (OD W g c)):=by
  intro n
  induction n using Nat.strongRecOn with
  | ind n ih=>
   intro g hu hn bs w h;refine Nu W.now m.cO W.cpus.length m.cC m.tO W.tasks.length m.tC m.gO W.groups.length m.gC g c fun wr hx => ?_
   have h:=(h.ext hx).less (cs:=[]) (by simp);have hstep:=GQ ha hu (c:=c);have hd:=Ps ha hu;intro _ _;refine ⟨_,_,PD h ha c0 c1,fun q => ?_,fun q => ?_⟩
   ·have q:¬0<=QD (Z9 W g c) (Za W c) 20:=by
     unfold Zw at q
     simpa using q
    have q:¬0<=Qz W g c:=q;rw [hstep,if_pos (by omega)]
   have hF0:0<=QD (Z9 W g c) (Za W c) 20:=by
    unfold Zw at q
    simpa using q
   have hF:0<=Qz W g c:=hF0
   have hbest:QZ W g c 20=Za W c (Qz W g c).toNat:=by
    show (if Qz W g c<0 then 0 else Za W c (Qz W g c).toNat)=_;rw [if_neg (show ¬Qz W g c<0 by omega)]
   have found:∀k:Nat,k<20->Z9 W g c k=true->Za W c k=QZ W g c 20->(∀j,j<k->Z9 W g c j=true->Za W c j≠QZ W g c 20)->Qz W g c=(k:Int):=fun k hk hp hv hb=>by
    rw [hbest] at hv hb;exact zcf hk hp hF hv hb
   refine ⟨fun vs=>∃k:Nat,vs=[.int .i64 (k:Int)]/\k<=12/\∀j,j<k->Z9 W g c j=true->Za W c j≠QZ W g c 20,Jq 12 0,⟨0,rfl,by omega,fun j hj=>absurd hj (Nat.not_lt_zero j)⟩,?_⟩;rintro t ⟨k,he,hk,hI⟩;simp only [List.cons.injEq,Value.int.injEq,true_and,and_true] at he;subst he;refine ⟨fun hlt => ?_,fun hge => ?_⟩
   ·have hlt:=of_decide_eq_true hlt;have hk12:k<12:=by omega
    refine ⟨h.t.ix QJ (by omega) hlt,_,_,_,_,_,_,_,_,_,h.t k (by omega) hlt,fun b1 hb1=>⟨fun q2 => ?_,fun q2=>⟨⟨by omega,by omega⟩,⟨k+1,by simp,by omega,fun j hj hp hv => ?_⟩,QI (k:=k) rfl rfl hk12⟩⟩⟩
    ·have q2':(O5 W g c k&&((Q8 W (k:Int)).v==QZ W g c 20))=true:=q2;simp only [Bool.and_eq_true,beq_iff_eq] at q2';have:=found k (by omega) (by rw [Uw hk12]; exact q2'.1) (by rw [GL hk12]; exact q2'.2) hI;rw [hstep,if_neg (by omega),if_pos (by omega),this]
    ·by_cases hjk:j<k
     ·exact hI j hjk hp hv
     ·have:j=k:=by omega
      subst this;rw [Uw hk12] at hp;rw [GL hk12] at hv;have q2':(O5 W g c j&&((Q8 W (j:Int)).v==QZ W g c 20))=false:=q2;rw [hp,hv] at q2';simp at q2'
   ·have hge:=of_decide_eq_false hge;have:k=12:=by omega
    subst this
    refine ⟨fun vs=>∃k:Nat,vs=[.int .i64 (k:Int)]/\1<=k/\k<=8/\∀j,j<12+k->Z9 W g c j=true->Za W c j≠QZ W g c 20,Jq 8 0,⟨1,rfl,by omega,by omega,fun j hj hp=>by
     by_cases hj12:j<12
     ·exact hI j hj12 hp
     ·have:j=12:=by omega
      subst this;rw [zee] at hp; cases hp⟩,?_⟩
    rintro t2 ⟨k,he,hk1,hk,hI2⟩;simp only [List.cons.injEq,Value.int.injEq,true_and,and_true] at he;subst he;refine ⟨fun hlt => ?_,fun hge2 => ?_⟩
    ·have hlt:=of_decide_eq_true hlt;have hk0:(0:Int)<=(k:Int):=by omega
     have used:∀{x:Bool},(((gi W.groups (k:Int)).used&&((gi W.groups (k:Int)).parent==g))&&x)=true->Q6 W.groups (k:Int)=true/\c<((gi W.groups (k:Int)).shelves.length:Int):=fun {x} q=>by
      simp only [Bool.and_eq_true] at q;have hu:=CM hlt q.1.1;exact ⟨hu,by rw [ha.sl hu]; exact c1⟩
     have eA:J6 W g c k=(((gi W.groups (k:Int)).used&&((gi W.groups (k:Int)).parent==g))&&(Qc W (k:Int) c).on):=by
      unfold J6; rw [decide_eq_true hk1,Bool.true_and]
     have eP:Z9 W g c (12+k)=(((gi W.groups (k:Int)).used&&((gi W.groups (k:Int)).parent==g))&&(Qc W (k:Int) c).on):=by rw [J0,eA]
     refine ⟨h.g.ix hk0 hlt,_,h.g.used hk0 hlt,fun _=>h.g.ix hk0 hlt,_,fun _=>h.g.parent hk0 hlt,(Qc W (k:Int) c).on,fun q=>JK h ha (used (x:=true) (by rw [q]; rfl)).1 c0 c1,fun _=>h.g.ix hk0 hlt,_,_,_,fun _=>h.g.shelf hk0 hlt,fun q=>(h.g.shelves _ hk0 hlt).ix ZK c0 (used q).2,(Qc W (k:Int) c).v,fun q=>zbq.f (h.g.shelves _ hk0 hlt) c0 (used q).2 (j:=2) rfl,fun q => ?_,fun q=>⟨⟨by omega,by omega⟩,⟨k+1,by simp,by omega,by omega,fun j hj hp hv => ?_⟩,QI (k:=k) rfl rfl (by omega)⟩⟩
     ·have q2:=q;simp only [Bool.and_eq_true,beq_iff_eq] at q2;have hfk:=found (12+k) (by omega) (by rw [eP]; simp only [Bool.and_eq_true,beq_iff_eq]; exact q2.1) (by rw [GK]; exact q2.2) hI2;have hkid:=Mb ha hu (c:=c) (by omega);have ek:Qz W g c - 12=(k:Int):=by omega
      rw [ek] at hkid;have hdk:=Ps ha hkid.1;refine ⟨_,ih _ (show (3 - dep 3 W.groups (k:Int)).toNat<n by omega) (k:Int) hkid.1 rfl h,?_⟩;rw [hstep,if_neg (by omega),if_neg (by omega),ek]
     ·by_cases hjk:j<12+k
      ·exact hI2 j hjk hp hv
      ·have:j=12+k:=by omega
       subst this;rw [eP] at hp;rw [GK] at hv;rw [hp,hv] at q;simp at q
    ·have hge2:=of_decide_eq_false hge2;have:k=8:=by omega
     subst this;rcases Z7 (Z9 W g c) (Za W c) 20 with ⟨h1,_⟩ | ⟨h1,h2,h3,_,_⟩
     ·have:Qz W g c = -1:=h1;omega
     ·exact absurd hbest.symm (hI2 (Qz W g c).toNat (by unfold Qz; omega) h3)
 exact key _ g hu rfl h
theorem N9 {c:Int} (h:Xo bs w W m) (ha:WA W) (c0:0<=c) (c1:c<(W.cpus.length:Int)):PX bs Tn #[.agg (Qa W m).toArray,.int .i64 c] w (.int .i64 (Qk W c)):=by
 refine Nv W.now m.cO W.cpus.length m.cC m.tO W.tasks.length m.tC m.gO W.groups.length m.gC c fun wr hx => ?_
 have h:=(h.ext hx).less (cs:=[]) (by simp);intro _ _;refine ⟨h.c.ix ZZ c0 c1,_,h.c.f c0 c1 (j:=1) rfl,fun _=>h.c.ix ZZ c0 c1,_,fun _=>h.c.f c0 c1 (j:=2) rfl,fun g=>⟨h.c.ix ZZ c0 c1,_,h.c.f c0 c1 (j:=1) rfl,?_⟩,fun g=>⟨_,N8 h ha ha.root c0 c1,?_⟩⟩
 ·simp only [Bool.and_eq_true,decide_eq_true_eq] at g;unfold Qk; rw [if_pos g]
 ·unfold Qk; rw [if_neg (fun hc=>by
   rw [decide_eq_true hc.1,decide_eq_true hc.2] at g; cases g)]
end
def setTk (W:Q7) (t:Int) (x:Oi):Q7:={ W with tasks:=W.tasks.set t.toNat x }
def setCp (W:Q7) (c:Int) (x:TQ):Q7:={ W with cpus:=W.cpus.set c.toNat x }
def setGr (W:Q7) (g:Int) (x:Z0):Q7:={ W with groups:=W.groups.set g.toNat x }
def setSh (W:Q7) (g c:Int) (s:Pi):Q7:=setGr W g { gi W.groups g with shelves:=(gi W.groups g).shelves.set c.toNat s }
def setBd (W:Q7) (g:Int) (b:XS):Q7:=setGr W g { gi W.groups g with band:=b }
theorem Fb {α:Type} [Inhabited α] (l:List α) (i:Int):gi l i=gi l ((i.toNat:Nat):Int):=by unfold gi; rw [Int.toNat_natCast]
structure QM (gs gs':List Z0):Prop where
 len:gs'.length=gs.length
 u:∀i:Int,(gi gs' i).used=(gi gs i).used
 p:∀i:Int,(gi gs' i).parent=(gi gs i).parent
 n:∀i:Int,(gi gs' i).name=(gi gs i).name
theorem QM.refl (gs:List Z0):QM gs gs:=⟨rfl,fun _=>rfl,fun _=>rfl,fun _=>rfl⟩
theorem QM.trans {a b c:List Z0} (h:QM a b) (k:QM b c):QM a c:=⟨k.len.trans h.len,fun i=>(k.u i).trans (h.u i),fun i=>(k.p i).trans (h.p i),fun i=>(k.n i).trans (h.n i)⟩
theorem QM.usd {gs gs':List Z0} (h:QM gs gs') (i:Int):Q6 gs' i=Q6 gs i:=by unfold Q6; rw [h.len,h.u]
theorem QM.dep {gs gs':List Z0} (h:QM gs gs'):∀(f:Nat) (i:Int),Go.Proofs.YtclpmgfpjeaibaaGreat.dep f gs' i=Go.Proofs.YtclpmgfpjeaibaaGreat.dep f gs i
 | 0,i=>rfl
 | f+1,i=>by simp only [Go.Proofs.YtclpmgfpjeaibaaGreat.dep]; rw [h.p,h.dep f]
theorem QM.path {gs gs':List Z0} (h:QM gs gs'):∀(f:Nat) (i:Int),Jh f gs' i=Jh f gs i
 | 0,i=>rfl
 | f+1,i=>by simp only [Jh]; rw [h.p,h.path f]
theorem QM.tree {gs gs':List Z0} (h:QM gs gs') (t:Z6 gs):Z6 gs':=
 ⟨by rw [h.len]; exact t.len,by rw [h.u]; exact t.ru,by rw [h.p]; exact t.rp,by rw [h.n]; exact t.rn,fun g a b c=>by rw [h.u] at c; rw [h.n]; exact t.nm g a b c,fun g a b c=>by rw [h.u] at c; rw [h.usd,h.p]; exact t.par g a b c,
  fun g a b c=>by rw [h.u] at c; rw [h.dep]; exact t.dp g a b c,fun g k a b c d e=>by rw [h.u] at d e; rw [h.p,h.p,h.n,h.n]; exact t.uniq g k a b c d e⟩
theorem Y4 {W:Q7} {g:Int} {x:Z0} (h0:0<=g) (h1:g<(W.groups.length:Int)) {i:Int} (hi:0<=i):gi (setGr W g x).groups i=if g=i then x else gi W.groups i:=Qt _ _ h0 h1 hi
theorem XF {W:Q7} {g:Int} {x:Z0} (h0:0<=g) (h1:g<(W.groups.length:Int)) (u:x.used=(gi W.groups g).used) (p:x.parent=(gi W.groups g).parent) (n:x.name=(gi W.groups g).name):QM W.groups (setGr W g x).groups:=by
 have key:∀i:Int,gi (setGr W g x).groups i=if g=((i.toNat:Nat):Int) then x else gi W.groups i:=fun i=>by
  rw [Fb,Y4 h0 h1 (by omega),<-Fb W.groups i]
 refine ⟨List.length_set,fun i => ?_,fun i => ?_,fun i => ?_⟩
 all_goals
  rw [key];split
  ·rename_i e;rw [Fb W.groups i,<-e]; assumption
  ·rfl
theorem WA.set {W:Q7} (ha:WA W) {g:Int} {x:Z0} (h0:0<=g) (h1:g<8) (u:x.used=(gi W.groups g).used) (p:x.parent=(gi W.groups g).parent) (n:x.name=(gi W.groups g).name) (hN:x.used=false->zoo x) (hU:x.used=true->zbr W g x):WA (setGr W g x):=by
 have hl:=ha.gl;refine ⟨ha.n1,ha.n2,ha.c1,ha.c2,ha.t,(XF h0 (by omega) u p n).tree ha.tree,ha.ups,fun k k0 k1 => ?_⟩;show HB (setGr W g x) k;unfold HB;rw [Y4 h0 (by omega) k0]
 by_cases e:g=k
 ·subst e;rw [if_pos rfl];exact ⟨hN,fun hu=>by have:=hU hu; exact ⟨this.w1,this.w2,this.m,this.m0,this.s,this.len,this.root,this.none,this.band⟩⟩
 ·rw [if_neg e];have:=ha.grp k k0 k1;exact ⟨this.1,fun hu=>by have:=this.2 hu; exact ⟨this.w1,this.w2,this.m,this.m0,this.s,this.len,this.root,this.none,this.band⟩⟩
theorem WA.setSh {W:Q7} (ha:WA W) {g c:Int} {s:Pi} (h0:0<=g) (h1:g<8):WA (setSh W g c s):=by
 have hg:=ha.grp g h0 h1;refine ha.set h0 h1 rfl rfl rfl (fun hu => ?_) fun hu => ?_
 ·have:=hg.1 hu;exact ⟨this.p,this.n,this.w,this.c,this.pe,this.ne,this.s,by rw [List.length_set]; exact this.l,this.b⟩
 ·have:=hg.2 hu;exact ⟨this.w1,this.w2,this.m,this.m0,this.s,by rw [List.length_set]; exact this.len,this.root,this.none,this.band⟩
theorem XE {W:Q7} {g c:Int} {s:Pi} (h0:0<=g) (h1:g<(W.groups.length:Int)) (c0:0<=c) (c1:c<((gi W.groups g).shelves.length:Int)) {i d:Int} (hi:0<=i) (hd:0<=d):Qc (setSh W g c s) i d=if g=i/\c=d then s else Qc W i d:=by
 unfold Qc Go.Proofs.YtclpmgfpjeaibaaGreat.setSh;rw [Y4 h0 h1 hi]
 by_cases e:g=i
 ·subst e;rw [if_pos rfl,Qt _ _ c0 c1 hd]
  by_cases e2:c=d
  ·rw [if_pos e2,if_pos ⟨rfl,e2⟩]
  ·rw [if_neg e2,if_neg (fun h=>e2 h.2)]
 ·rw [if_neg e,if_neg (fun h=>e h.1)]
theorem YX {W:Q7} {g c:Int} {s:Pi} (h0:0<=g) (h1:g<(W.groups.length:Int)):QM W.groups (setSh W g c s).groups:=XF h0 h1 rfl rfl rfl
theorem M9 {W:Q7} {g c:Int} {s:Pi} (h0:0<=g) (h1:g<(W.groups.length:Int)) {i d:Int} (hi:0<=i):Uf (setSh W g c s) i d=Uf W i d:=by
 unfold Uf Go.Proofs.YtclpmgfpjeaibaaGreat.setSh;rw [Y4 h0 h1 hi];split
 ·rename_i e; subst e; rfl
 ·rfl
theorem ND {W:Q7} {g c:Int} {s:Pi} (h0:0<=g) (h1:g<(W.groups.length:Int)) {i:Int} (hi:0<=i):(gi (setSh W g c s).groups i).band=(gi W.groups i).band:=by
 unfold Go.Proofs.YtclpmgfpjeaibaaGreat.setSh;rw [Y4 h0 h1 hi];split
 ·rename_i e; subst e; rfl
 ·rfl
theorem Ac {W:Q7} {g c:Int} {s:Pi} (h0:0<=g) (h1:g<(W.groups.length:Int)) {i:Int} (hi:0<=i):(gi (setSh W g c s).groups i).shelves.length=(gi W.groups i).shelves.length:=by
 unfold Go.Proofs.YtclpmgfpjeaibaaGreat.setSh;rw [Y4 h0 h1 hi];split
 ·rename_i e; subst e; simp
 ·rfl
structure SW (K:Int) (W:Q7):Prop where
 a:WA W
 t:∀t:Int,0<=t->t<12->(Q8 W t).state≠0->Q6 W.groups (Q8 W t).group=true/\0<=(Q8 W t).cpu/\(Q8 W t).cpu<(W.cpus.length:Int)
 tv:∀t:Int,0<=t->t<12->0<=(Q8 W t).v/\(Q8 W t).v<=K
 s:∀k c:Int,Q6 W.groups k=true->0<=c->c<(W.cpus.length:Int)->0<=(Qc W k c).floor/\(Qc W k c).floor<=K/\0<=(Qc W k c).v/\(Qc W k c).v<=K/\1<=(Qc W k c).w/\(Qc W k c).w<=20
 cu:∀c:Int,0<=c->c<(W.cpus.length:Int)->-1<=(gi W.cpus c).cur/\(gi W.cpus c).cur<12
structure SF (F K:Int) (W:Q7):Prop where
 w:SW K W
 f:∀k c:Int,Q6 W.groups k=true->0<=c->c<(W.cpus.length:Int)->(Qc W k c).floor<=F
theorem SW.mono {K K':Int} {W:Q7} (h:SW K W) (hk:K<=K'):SW K' W:=
 ⟨h.a,h.t,fun t a b=>by have:=h.tv t a b; omega,fun k c u a b=>by have:=h.s k c u a b; omega,h.cu⟩
theorem SW.sf {K:Int} {W:Q7} (h:SW K W):SF K K W:=⟨h,fun k c u a b=>(h.s k c u a b).2.1⟩
theorem SF.mono {F K F' K':Int} {W:Q7} (h:SF F K W) (hf:F<=F') (hk:K<=K'):SF F' K' W:=⟨h.w.mono hk,fun k c u a b=>by have:=h.f k c u a b; omega⟩
theorem SW.li {K:Int} {W:Q7} (h:SW K W) {t:Int} (t0:0<=t) (t1:t<(W.tasks.length:Int)) (hs:(Q8 W t).state=1):Q6 W.groups (Q8 W t).group=true/\0<=(Q8 W t).cpu/\(Q8 W t).cpu<(W.cpus.length:Int):=by
 have hl:=h.a.t;exact h.t t t0 (by omega) (by omega)
theorem SF.setSh {F K:Int} {W:Q7} (h:SF F K W) {g c:Int} {s:Pi} (hu:Q6 W.groups g=true) (c0:0<=c) (c1:c<(W.cpus.length:Int)) (f0:0<=s.floor) (f1:s.floor<=F) (fk:s.floor<=K) (v0:0<=s.v) (v1:s.v<=K) (w1:1<=s.w) (w2:s.w<=20):SF F K (setSh W g c s):=by
 obtain ⟨u0,u1,_⟩:=Q4.1 hu;have hl:=h.w.a.gl;have hs:=h.w.a.sl hu;have hT:=YX (W:=W) (g:=g) (c:=c) (s:=s) u0 u1
 have e:∀k d:Int,Q6 (Go.Proofs.YtclpmgfpjeaibaaGreat.setSh W g c s).groups k=true->0<=d->Qc (Go.Proofs.YtclpmgfpjeaibaaGreat.setSh W g c s) k d=if g=k/\c=d then s else Qc W k d:=fun k d uk hd=>by
  rw [hT.usd] at uk;exact XE u0 u1 c0 (by omega) (Q4.1 uk).1 hd
 refine ⟨⟨h.w.a.setSh u0 (by omega),fun t a b n=>by rw [hT.usd]; exact h.w.t t a b n,h.w.tv,fun k d uk a b => ?_,h.w.cu⟩,fun k d uk a b => ?_⟩
 ·rw [e k d uk a];rw [hT.usd] at uk;split
  ·exact ⟨f0,fk,v0,v1,w1,w2⟩
  ·exact h.w.s k d uk a b
 ·rw [e k d uk a];rw [hT.usd] at uk;split
  ·exact f1
  ·exact h.f k d uk a b
def Y7 (W:Q7) (k c:Int):Pi:=
 { Qc W k c with
  v:=if (QU W k c && !Uf W k c)=true/\(Qc W k c).on=false then (Qc W (gi W.groups k).parent c).floor+YH ((Qc W k c).v - (Qc W (gi W.groups k).parent c).floor) (Qc W k c).w else (Qc W k c).v
  on:=QU W k c && !Uf W k c }
def ZE (W:Q7) (c d:Int):Nat->Q7
 | 0=>W
 | k+1=>if (gi (ZE W c d k).groups (k:Int)).used=true/\dep 3 (ZE W c d k).groups (k:Int)=d then setSh (ZE W c d k) (k:Int) c (Y7 (ZE W c d k) (k:Int) c) else ZE W c d k
theorem zf4 {W:Q7} {c d:Int} (h:d≠0):ZE W c d 1=W:=by
 show (if (gi W.groups ((0:Nat):Int)).used=true/\dep 3 W.groups ((0:Nat):Int)=d then _ else W)=W;refine if_neg fun hc=>h ?_
 have:=hc.2;rw [show (((0:Nat):Int))=0 from rfl,ZN] at this;exact this.symm
def Xa (W:Q7) (c:Int):Nat->Q7
 | 0=>W
 | j+1=>ZE (Xa W c j) c (3 - (j:Int)) 8
def QE (W:Q7) (c:Int):Q7:=Xa W c 3
abbrev Qj:Int:=34686091440
theorem zir {F K:Int} {W:Q7} (h:SF F K W) (hk:F+Qj<=K) {k c d:Int} (hu:Q6 W.groups k=true) (hd:dep 3 W.groups k=d) (d1:1<=d) (c0:0<=c) (c1:c<(W.cpus.length:Int)):SF F K (setSh W k c (Y7 W k c)):=by
 have hz:k≠0:=fun e=>by subst e; rw [ZN] at hd; omega
 have hp:=h.w.a.up hu hz;have s1:=h.w.s k c hu c0 c1;have s2:=h.w.s _ c hp c0 c1;have f1:=h.f k c hu c0 c1;have f2:=h.f _ c hp c0 c1;have lc:=ZF ((Qc W k c).v - (Qc W (gi W.groups k).parent c).floor) (Qc W k c).w;have lm:=ZD (Qc W k c).w;refine h.setSh hu c0 c1 s1.1 f1 (by show (Qc W k c).floor<=K; omega) ?_ ?_ s1.2.2.2.2.1 s1.2.2.2.2.2
 ·simp only [Y7]; split <;> omega
 ·simp only [Y7]; simp only [Qj] at hk; split <;> omega
structure XT (W W':Q7):Prop where
 n:W'.now=W.now
 c:W'.cpus=W.cpus
 t:W'.tasks=W.tasks
 g:QM W.groups W'.groups
 b:∀i:Int,0<=i->(gi W'.groups i).band=(gi W.groups i).band
 l:∀i:Int,0<=i->(gi W'.groups i).shelves.length=(gi W.groups i).shelves.length
theorem XT.refl (W:Q7):XT W W:=⟨rfl,rfl,rfl,QM.refl _,fun _ _=>rfl,fun _ _=>rfl⟩
theorem XT.trans {A B C:Q7} (h:XT A B) (k:XT B C):XT A C:=⟨k.n.trans h.n,k.c.trans h.c,k.t.trans h.t,h.g.trans k.g,fun i hi=>(k.b i hi).trans (h.b i hi),fun i hi=>(k.l i hi).trans (h.l i hi)⟩
theorem OF {W:Q7} {g c:Int} {s:Pi} (h0:0<=g) (h1:g<(W.groups.length:Int)):XT W (setSh W g c s):=⟨rfl,rfl,rfl,YX h0 h1,fun _ hi=>ND h0 h1 hi,fun _ hi=>Ac h0 h1 hi⟩
theorem Fs {F K:Int} {W:Q7} (h:SF F K W) (hk:F+Qj<=K) {c d:Int} (d1:1<=d) (c0:0<=c) (c1:c<(W.cpus.length:Int)):∀k:Nat,k<=8->SF F K (ZE W c d k)/\XT W (ZE W c d k)
 | 0,_=>⟨h,XT.refl _⟩
 | k+1,hk8=>by
  obtain ⟨ih,io⟩:=Fs h hk (d:=d) d1 c0 c1 k (by omega);have hl:=ih.w.a.gl;simp only [ZE];split
  ·rename_i hc;have hu:Q6 (ZE W c d k).groups (k:Int)=true:=Q4.2 ⟨by omega,by omega,hc.1⟩;exact ⟨zir ih hk hu hc.2 d1 c0 (by rw [io.c]; exact c1),io.trans (OF (by omega) (by omega))⟩
  ·exact ⟨ih,io⟩
theorem GH {F K:Int} {W:Q7} (h:SF F K W) (hk:F+Qj<=K) {c:Int} (c0:0<=c) (c1:c<(W.cpus.length:Int)):∀j:Nat,j<=3->SF F K (Xa W c j)/\XT W (Xa W c j)
 | 0,_=>⟨h,XT.refl _⟩
 | j+1,hj=>by
  obtain ⟨a1,b1⟩:=GH h hk c0 c1 j (by omega);obtain ⟨a2,b2⟩:=Fs a1 hk (c:=c) (d:=3 - (j:Int)) (by omega) c0 (by rw [b1.c]; exact c1) 8 (by omega);exact ⟨a2,b1.trans b2⟩
theorem GG {F K:Int} {W:Q7} (h:SF F K W) (hk:F+Qj<=K) {c:Int} (c0:0<=c) (c1:c<(W.cpus.length:Int)):SF F K (QE W c)/\XT W (QE W c):=GH h hk c0 c1 3 (Nat.le_refl _)
def Ys (W:Q7):Nat->Q7
 | 0=>W
 | c+1=>QE (Ys W c) (c:Int)
theorem T5 {F K:Int} {W:Q7} (h:SF F K W) (hk:F+Qj<=K):∀c:Nat,c<=W.cpus.length->SF F K (Ys W c)/\XT W (Ys W c)
 | 0,_=>⟨h,XT.refl _⟩
 | c+1,hc=>by
  obtain ⟨a,b⟩:=T5 h hk c (by omega);obtain ⟨a2,b2⟩:=GG a hk (c:=(c:Int)) (by omega) (by rw [b.c]; omega);exact ⟨a2,b.trans b2⟩
def Y6 (b:XS) (c:Int):XS:={ b with pool:=b.pool+gi b.locals c,locals:=b.locals.set c.toNat 0,dry:=if b.pool+gi b.locals c>0 then List.replicate b.dry.length false else b.dry }
theorem PR (l:List Int) (c:Int) (x:Int) (c0:0<=c) (c1:c<(l.length:Int)):∀k:Nat,TH (l.set c.toNat x) k=TH l k+if c<(k:Int) then x - gi l c else 0
 | 0=>by simp only [TH]; rw [if_neg (by omega)]; omega
 | k+1=>by
  simp only [TH];rw [PR l c x c0 c1 k,Qt _ _ c0 c1 (by omega)]
  by_cases e:c=(k:Int)
  ·subst e;rw [if_neg (by omega),if_pos rfl,if_pos (by omega)]; omega
  ·rw [if_neg e]
   by_cases h:c<(k:Int)
   ·rw [if_pos h,if_pos (by omega)]; omega
   ·rw [if_neg h,if_neg (by omega)]; omega
theorem CG {l:List Int} (h:∀c:Int,0<=c->c<(l.length:Int)->0<=gi l c) {c:Int} (c0:0<=c):∀k:Nat,k<=l.length->0<=TH l k/\(c<(k:Int)->gi l c<=TH l k)
 | 0,_=>by simp only [TH]; exact ⟨by omega,fun h=>by omega⟩
 | k+1,hk=>by
  have ih:=CG h c0 k (by omega);have:=h (k:Int) (by omega) (by omega);simp only [TH];refine ⟨by omega,fun hc => ?_⟩
  by_cases e:c=(k:Int)
  ·subst e; omega
  ·have:=ih.2 (by omega); omega
theorem VO {α:Type} [Inhabited α] (n:Nat) (x:α) {i:Int} (h0:0<=i) (h1:i<(n:Int)):gi (List.replicate n x) i=x:=by
 obtain ⟨k,rfl⟩:=Int.eq_ofNat_of_zero_le h0;rw [Ju (by simp; omega)]; simp
theorem z5 {b:XS} (h:VF b) {c:Int} (c0:0<=c) (c1:c<(b.locals.length:Int)) (hp:0<gi b.locals c):VF (Y6 b c)/\(Y6 b c).locals.length=b.locals.length/\(Y6 b c).quota=b.quota:=by
 have hs:=PR b.locals c 0 c0 c1 b.locals.length;rw [if_pos c1] at hs;have hn:=CG (fun d d0 d1=>(h.each d d0 d1).1) c0 b.locals.length (Nat.le_refl _);have hn2:=hn.2 c1;have p1:=h.p1;have s1:=h.s1;have su:=h.sum;have hpos:b.pool+gi b.locals c>0:=by omega
 refine ⟨⟨h.q1,h.q2,?_,?_,?_,?_,?_,h.s1,h.s2,fun d d0 d1 => ?_,?_⟩,by simp [Y6],rfl⟩
 ·simp only [Y6,List.length_set]; exact h.l1
 ·simp only [Y6,List.length_set]; exact h.l2
 ·simp only [Y6]; rw [if_pos hpos]; simp [h.dl]
 ·simp only [Y6]; omega
 ·simp only [Y6]; omega
 ·simp only [Y6,List.length_set] at d1 ⊢;have hd:=h.dl;have he:=h.each d d0 d1;rw [if_pos hpos,VO _ _ d0 (by omega),Qt _ _ c0 c1 d0];have:=h.q1;refine ⟨?_,?_,fun h=>by cases h⟩
  ·split <;> omega
  ·split <;> omega
 ·simp only [Y6,List.length_set];rw [hs]; omega
def Yi (W:Q7) (k:Int):Nat->Q7
 | 0=>W
 | c+1=>if gi (gi (Yi W k c).groups k).band.locals (c:Int)>0/\QU (Yi W k c) k (c:Int)=false then setBd (Yi W k c) k (Y6 (gi (Yi W k c).groups k).band (c:Int)) else Yi W k c
def Yv (W:Q7):Nat->Q7
 | 0=>W
 | k+1=>if (gi (Yv W k).groups (k:Int)).used=true/\(gi (Yv W k).groups (k:Int)).band.quota≠0 then Yi (Yv W k) (k:Int) (Yv W k).cpus.length else Yv W k
def MN (W:Q7):Q7:=Yv W 8
structure Ub (W W':Q7):Prop where
 n:W'.now=W.now
 c:W'.cpus=W.cpus
 t:W'.tasks=W.tasks
 g:QM W.groups W'.groups
 s:∀i:Int,0<=i->(gi W'.groups i).shelves=(gi W.groups i).shelves
theorem Ub.refl (W:Q7):Ub W W:=⟨rfl,rfl,rfl,QM.refl _,fun _ _=>rfl⟩
theorem Ub.trans {A B C:Q7} (h:Ub A B) (k:Ub B C):Ub A C:=⟨k.n.trans h.n,k.c.trans h.c,k.t.trans h.t,h.g.trans k.g,fun i hi=>(k.s i hi).trans (h.s i hi)⟩
theorem NX {W:Q7} {g:Int} {b:XS} (h0:0<=g) (h1:g<(W.groups.length:Int)):Ub W (setBd W g b):=⟨rfl,rfl,rfl,XF h0 h1 rfl rfl rfl,fun i hi=>by
 unfold setBd;rw [Y4 h0 h1 hi];split
 ·rename_i e; subst e; rfl
 ·rfl⟩
theorem SF.onlyB {F K:Int} {W W':Q7} (h:SF F K W) (ho:Ub W W') (ha:WA W'):SF F K W':=by
 have e:∀k c:Int,Q6 W'.groups k=true->Qc W' k c=Qc W k c:=fun k c hu=>by unfold Qc; rw [ho.s k (Q4.1 hu).1]
 have et:∀t:Int,Q8 W' t=Q8 W t:=fun t=>by unfold Q8; rw [ho.t]
 refine ⟨⟨ha,fun t a b n => ?_,fun t a b=>by rw [et]; exact h.w.tv t a b,fun k c u a b => ?_,fun c a b => ?_⟩,fun k c u a b => ?_⟩
 ·rw [et] at n ⊢; rw [ho.g.usd,ho.c]; exact h.w.t t a b n
 ·rw [e k c u]; rw [ho.g.usd] at u; rw [ho.c] at b; exact h.w.s k c u a b
 ·rw [ho.c] at b ⊢; exact h.w.cu c a b
 ·rw [e k c u]; rw [ho.g.usd] at u; rw [ho.c] at b; exact h.f k c u a b
theorem WA.setBd {W:Q7} (ha:WA W) {g:Int} {b:XS} (hu:Q6 W.groups g=true) (hq:(gi W.groups g).band.quota≠0) (hb:VF b) (hl:b.locals.length=W.cpus.length) (he:b.quota=(gi W.groups g).band.quota):WA (setBd W g b):=by
 obtain ⟨u0,u1,hg⟩:=ha.u hu;have hb0:=hg.band hq;refine ha.set u0 u1 rfl rfl rfl (fun hn => ?_) fun _=>⟨hg.w1,hg.w2,hg.m,hg.m0,hg.s,hg.len,fun h=>⟨(hg.root h).1,(hg.root h).2.1,by show b.quota=0; rw [he]; exact (hg.root h).2.2⟩,fun h=>absurd (he.symm.trans h) hq,fun _=>⟨hb,hl,hb0.2.2⟩⟩
 have:(gi W.groups g).used=false:=hn;rw [(Q4.1 hu).2.2] at this;cases this
theorem Lj {F K:Int} {W:Q7} (h:SF F K W) {k:Int} (hu:Q6 W.groups k=true) (hq:(gi W.groups k).band.quota≠0):∀c:Nat,c<=W.cpus.length->SF F K (Yi W k c)/\Ub W (Yi W k c)/\(gi (Yi W k c).groups k).band.quota≠0
 | 0,_=>⟨h,Ub.refl _,hq⟩
 | c+1,hc=>by
  obtain ⟨a,b,q⟩:=Lj h hu hq c (by omega);simp only [Yi];split
  ·rename_i hcond;have hu':Q6 (Yi W k c).groups k=true:=by rw [b.g.usd]; exact hu
   obtain ⟨u0,u1,hg⟩:=a.w.a.u hu';have hb:=hg.band q;have hl:=a.w.a.gl;have hcl:(Yi W k c).cpus.length=W.cpus.length:=by rw [b.c]
   obtain ⟨g1,g2,g3⟩:=z5 hb.1 (c:=(c:Int)) (by omega) (by omega) hcond.1;have ho:=NX (W:=Yi W k c) (b:=Y6 (gi (Yi W k c).groups k).band (c:Int)) u0 (by omega);refine ⟨a.onlyB ho (a.w.a.setBd hu' q g1 (by rw [g2,hb.2.1]) g3),b.trans ho,?_⟩;show (gi (setGr _ k _).groups k).band.quota≠0;rw [Y4 u0 (by omega) u0,if_pos rfl];exact fun e=>q (by rw [<-g3]; exact e)
  ·exact ⟨a,b,q⟩
theorem Vy {F K:Int} {W:Q7} (h:SF F K W):∀k:Nat,k<=8->SF F K (Yv W k)/\Ub W (Yv W k)
 | 0,_=>⟨h,Ub.refl _⟩
 | k+1,hk=>by
  obtain ⟨a,b⟩:=Vy h k (by omega);simp only [Yv];split
  ·rename_i hc;have hl:=a.w.a.gl;obtain ⟨a2,b2,_⟩:=Lj a (k:=(k:Int)) (Q4.2 ⟨by omega,by omega,hc.1⟩) hc.2 _ (Nat.le_refl _);exact ⟨a2,b.trans b2⟩
  ·exact ⟨a,b⟩
def Gw (W:Q7) (k c:Int):Pi:={ Qc W k c with floor:=QZ W k c 20 }
def QR (W:Q7) (c:Int):Nat->Q7
 | 0=>W
 | k+1=>if (gi (QR W c k).groups (k:Int)).used=true/\Zw (QR W c k) (k:Int) c 20=true/\QZ (QR W c k) (k:Int) c 20>(Qc (QR W c k) (k:Int) c).floor then setSh (QR W c k) (k:Int) c (Gw (QR W c k) (k:Int) c) else QR W c k
def Zf (W:Q7) (c:Int):Q7:=QR W c 8
theorem zbv {K:Int} {W:Q7} (h:SW K W) {k c:Int} (c0:0<=c) (c1:c<(W.cpus.length:Int)) (hK:0<=K):0<=QZ W k c 20/\QZ W k c 20<=K:=by
 unfold QZ;split
 ·omega
 ·rename_i hn;have hl:=h.a.gl;rcases Z7 (Z9 W k c) (Za W c) 20 with h1 | h1
  ·omega
  ·obtain ⟨j,hj⟩:∃j:Nat,QD (Z9 W k c) (Za W c) 20=(j:Int):=⟨(QD (Z9 W k c) (Za W c) 20).toNat,by omega⟩;rw [hj,Int.toNat_natCast] at h1 ⊢;have hp:=h1.2.2.1;unfold Za
   by_cases h12:j<12
   ·rw [if_pos h12];exact h.tv (j:Int) (by omega) (by omega)
   ·rw [if_neg h12];unfold Z9 at hp;rw [if_neg h12] at hp;unfold J6 at hp;simp only [Bool.and_eq_true] at hp;have hu:Q6 W.groups ((j - 12:Nat):Int)=true:=Q4.2 ⟨by omega,by omega,hp.1.2.1⟩;have:=h.s _ c hu c0 c1;omega
theorem Mc {K:Int} {W:Q7} (h:SW K W) (hK:0<=K) {c:Int} (c0:0<=c) (c1:c<(W.cpus.length:Int)):∀k:Nat,k<=8->SW K (QR W c k)/\XT W (QR W c k)
 | 0,_=>⟨h,XT.refl _⟩
 | k+1,hk=>by
  obtain ⟨a,b⟩:=Mc h hK c0 c1 k (by omega);have hl:=a.a.gl;have c1':c<((QR W c k).cpus.length:Int):=by rw [b.c]; exact c1
  simp only [QR];split
  ·rename_i hc;have hu:Q6 (QR W c k).groups (k:Int)=true:=Q4.2 ⟨by omega,by omega,hc.1⟩;have s1:=a.s _ c hu c0 c1';have br:=zbv a (k:=(k:Int)) c0 c1' hK;exact ⟨(a.sf.setSh (s:=Gw (QR W c k) (k:Int) c) hu c0 c1' br.1 br.2 br.2 s1.2.2.1 s1.2.2.2.1 s1.2.2.2.2.1 s1.2.2.2.2.2).w,b.trans (OF (by omega) (by omega))⟩
  ·exact ⟨a,b⟩
def X0 (x:TQ):TQ:={ x with cur := -1,ran:=0 }
def endW (W:Q7) (c:Int):Q7:=setCp W c (X0 (gi W.cpus c))
theorem ze7 {cs cs':List TQ}:∀k:Nat,(∀j:Nat,j<k->(gi cs' (j:Int)).up=(gi cs (j:Int)).up)->UC cs' k=UC cs k
 | 0,_=>rfl
 | k+1,h=>by simp only [UC]; rw [ze7 k fun j hj=>h j (by omega),h k (by omega)]
theorem CI {cs cs':List TQ} (hl:cs'.length=cs.length) (h:∀j:Nat,j<cs.length->(gi cs' (j:Int)).up=(gi cs (j:Int)).up):Jo cs'=Jo cs:=by
 unfold Jo;rw [hl];exact ze7 _ h
theorem WA.cp {W:Q7} (ha:WA W) {cs:List TQ} (hl:cs.length=W.cpus.length) (hu:Jo cs≠0):WA { W with cpus:=cs }:=
 ⟨ha.n1,ha.n2,by show 1<=cs.length; rw [hl]; exact ha.c1,by show cs.length<=4; rw [hl]; exact ha.c2,ha.t,ha.tree,hu,fun k a b=>by
  have:=ha.grp k a b;refine ⟨this.1,fun hu => ?_⟩;have hg:=this.2 hu
  exact ⟨hg.w1,hg.w2,hg.m,hg.m0,hg.s,by show (gi W.groups k).shelves.length=cs.length; rw [hl]; exact hg.len,hg.root,hg.none,fun q=>by
   have:=hg.band q;exact ⟨this.1,by show (gi W.groups k).band.locals.length=cs.length; rw [hl]; exact this.2.1,this.2.2⟩⟩⟩
theorem SW.endW {K:Int} {W:Q7} (h:SW K W) {c:Int} (c0:0<=c) (c1:c<(W.cpus.length:Int)):SW K (endW W c):=by
 have hl:(W.cpus.set c.toNat (X0 (gi W.cpus c))).length=W.cpus.length:=List.length_set;have hg:∀d:Int,0<=d->gi (W.cpus.set c.toNat (X0 (gi W.cpus c))) d=if c=d then X0 (gi W.cpus c) else gi W.cpus d:=fun d d0=>Qt _ _ c0 c1 d0
 refine ⟨h.a.cp hl ?_,fun t a b n => ?_,h.tv,fun k d u a b => ?_,fun d a b => ?_⟩
 ·rw [CI hl fun j hj => ?_]
  ·exact h.a.ups
  ·rw [hg _ (by omega)];split
   ·rename_i e; rw [e]; rfl
   ·rfl
 ·show _/\_/\_<(((W.cpus.set c.toNat (X0 (gi W.cpus c))).length:Nat):Int);rw [hl];exact h.t t a b n
 ·have b:d<(((W.cpus.set c.toNat (X0 (gi W.cpus c))).length:Nat):Int):=b;rw [hl] at b;exact h.s k d u a b
 ·have b:d<(((W.cpus.set c.toNat (X0 (gi W.cpus c))).length:Nat):Int):=b;rw [hl] at b;show _<=(gi (W.cpus.set c.toNat (X0 (gi W.cpus c))) d).cur/\_;rw [show (gi (Go.Proofs.YtclpmgfpjeaibaaGreat.endW W c).cpus d).cur=(gi (W.cpus.set c.toNat (X0 (gi W.cpus c))) d).cur from rfl,hg _ a];split
  ·exact ⟨Int.le_refl _,show (-1:Int)<12 by decide⟩
  ·exact h.cu d a b
def P6 (W:Q7) (c:Int):Bool:=decide ((gi W.cpus c).cur>=0)&&(((Q8 W (gi W.cpus c).cur).cpu != c) || !ZH W (gi W.cpus c).cur)
def UA (W:Q7) (c:Int):Q7:=if P6 (Zf (QE W c) c) c=true then endW (Zf (QE W c) c) c else Zf (QE W c) c
def J5 (W:Q7):Nat->Q7
 | 0=>W
 | c+1=>UA (J5 W c) (c:Int)
def Qg (W:Q7):Q7:=J5 (MN (Ys W W.cpus.length)) W.cpus.length
structure Fr (W W':Q7):Prop where
 n:W'.now=W.now
 c:W'.cpus.length=W.cpus.length
 t:W'.tasks=W.tasks
 g:QM W.groups W'.groups
theorem Fr.refl (W:Q7):Fr W W:=⟨rfl,rfl,rfl,QM.refl _⟩
theorem Fr.trans {A B C:Q7} (h:Fr A B) (k:Fr B C):Fr A C:=⟨k.n.trans h.n,k.c.trans h.c,k.t.trans h.t,h.g.trans k.g⟩
theorem XT.fr {W W':Q7} (h:XT W W'):Fr W W':=⟨h.n,by rw [h.c],h.t,h.g⟩
theorem Ub.fr {W W':Q7} (h:Ub W W'):Fr W W':=⟨h.n,by rw [h.c],h.t,h.g⟩
theorem Fa (W:Q7) (c:Int):Fr W (endW W c):=⟨rfl,List.length_set,rfl,QM.refl _⟩
theorem zjr {K:Int} {W:Q7} (h:SW K W) (hK:0<=K) {c:Int} (c0:0<=c) (c1:c<(W.cpus.length:Int)):SW (K+Qj) (UA W c)/\Fr W (UA W c):=by
 obtain ⟨a1,b1⟩:=GG (F:=K) (K:=K+Qj) (h.sf.mono (Int.le_refl _) (by simp only [Qj]; omega)) (Int.le_refl _) c0 c1;obtain ⟨a2,b2⟩:=Mc a1.w (by simp only [Qj]; omega) c0 (c:=c) (by rw [b1.c]; exact c1) 8 (by omega);have hf:=b1.fr.trans b2.fr;unfold UA;split
 ·exact ⟨SW.endW a2 c0 (by show c<((QR (QE W c) c 8).cpus.length:Int); rw [hf.c]; exact c1),hf.trans (Fa _ _)⟩
 ·exact ⟨a2,hf⟩
theorem PP {K:Int} {W:Q7} (h:SW K W) (hK:0<=K):∀c:Nat,c<=W.cpus.length->SW (K+(c:Int)*Qj) (J5 W c)/\Fr W (J5 W c)
 | 0,_=>⟨h.mono (by simp),Fr.refl _⟩
 | c+1,hc=>by
  obtain ⟨a,b⟩:=PP h hK c (by omega);obtain ⟨a2,b2⟩:=zjr a (by simp only [Qj]; omega) (c:=(c:Int)) (by omega) (by rw [b.c]; omega);exact ⟨a2.mono (by simp only [Qj]; omega),b.trans b2⟩
abbrev U1:Int:=5*Qj
theorem Vg {K:Int} {W:Q7} (h:SW K W) (hK:0<=K):SW (K+U1) (Qg W)/\Fr W (Qg W):=by
 obtain ⟨a1,b1⟩:=T5 (F:=K) (K:=K+Qj) (h.sf.mono (Int.le_refl _) (by simp only [Qj]; omega)) (Int.le_refl _) W.cpus.length (Nat.le_refl _);obtain ⟨a2,b2⟩:=Vy a1 8 (by omega);have hf:=b1.fr.trans b2.fr;obtain ⟨a3,b3⟩:=PP a2.w (by simp only [Qj]; omega) W.cpus.length (by show W.cpus.length<=(Yv (Ys W W.cpus.length) 8).cpus.length; rw [hf.c]; exact Nat.le_refl _);have:=h.a.c2;exact ⟨a3.mono (by simp only [Qj,U1]; omega),hf.trans b3⟩
abbrev Ql:Int:=50000000000000000
structure MF (W:Q7):Prop where
 n:W.now<=Ql
 c:∀c:Int,0<=c->c<(W.cpus.length:Int)->(gi W.cpus c).busy<=Ql/\(gi W.cpus c).idle<=Ql
 t:∀t:Int,0<=t->t<(W.tasks.length:Int)->(gi W.tasks t).v<=Ql/\(gi W.tasks t).sum<=Ql/\(gi W.tasks t).used<=Ql
 g:∀k:Int,0<=k->k<(W.groups.length:Int)->(gi W.groups k).sum<=Ql
 s:∀k c:Int,0<=k->k<(W.groups.length:Int)->0<=c->c<((gi W.groups k).shelves.length:Int)->(Qc W k c).floor<=Ql/\(Qc W k c).v<=Ql/\(Qc W k c).sum<=Ql
noncomputable def QB (W:Q7):Bool:=Vu (MF W)
theorem TI {W:Q7} (wp:XG W) (r:MF W):SW Ql W:=by
 have ht:=wp.a.t;have hg:=wp.a.gl;refine ⟨wp.a,fun t t0 t1 n => ?_,fun t t0 t1 => ?_,fun k c u c0 c1 => ?_,fun c c0 c1 => ?_⟩
 ·rcases wp.t t t0 t1 with h | h
  ·exact absurd h.1 n
  ·exact ⟨h.2.g,K9 wp.a h.2.c⟩
 ·refine ⟨?_,(r.t t t0 (by omega)).1⟩;rcases wp.t t t0 t1 with h | h
  ·rw [h.2]; exact Int.le_refl _
  ·exact (ZR.1 h.2.v).1
 ·obtain ⟨u0,u1,_⟩:=Q4.1 u;have hl:=wp.a.sl u;have hs:=wp.s k c u0 (by omega) c0 (by omega);have hr:=r.s k c u0 u1 c0 (by omega);exact ⟨(ZR.1 hs.f).1,hr.1,(ZR.1 hs.v).1,hr.2.1,hs.w1,hs.w2⟩
 ·have hc:=wp.c c c0 c1;have h1:=hc.c1;have h2:=hc.c2;omega
theorem WA.tk {W:Q7} (ha:WA W) {ts:List Oi} (hl:ts.length=W.tasks.length):WA { W with tasks:=ts }:=
 ⟨ha.n1,ha.n2,ha.c1,ha.c2,by show ts.length=12; rw [hl]; exact ha.t,ha.tree,ha.ups,fun k a b=>by
  have:=ha.grp k a b;refine ⟨this.1,fun hu => ?_⟩;have hg:=this.2 hu;exact ⟨hg.w1,hg.w2,hg.m,hg.m0,hg.s,hg.len,hg.root,hg.none,hg.band⟩⟩
theorem SW.setTk {K:Int} {W:Q7} (h:SW K W) {t:Int} (t0:0<=t) (t1:t<12) {x:Oi} (hx:x.state≠0->Q6 W.groups x.group=true/\0<=x.cpu/\x.cpu<(W.cpus.length:Int)) (v0:0<=x.v) (v1:x.v<=K):SW K (setTk W t x):=by
 have hl:=h.a.t;have e:∀i:Int,0<=i->Q8 (Go.Proofs.YtclpmgfpjeaibaaGreat.setTk W t x) i=if t=i then x else Q8 W i:=fun i i0=>Qt _ _ t0 (by omega) i0
 refine ⟨h.a.tk List.length_set,fun i a b n => ?_,fun i a b => ?_,h.s,h.cu⟩
 ·rw [e i a] at n ⊢;split
  ·rename_i he; rw [if_pos he] at n; exact hx n
  ·rename_i he; rw [if_neg he] at n; exact h.t i a b n
 ·rw [e i a];split
  ·exact ⟨v0,v1⟩
  ·exact h.tv i a b
def OP:Q7:=⟨0,[],[],[]⟩
def zlv:MW:=⟨none,0,none,0,none,0,fun _=>⟨none,0,none,0,none,0⟩⟩
noncomputable def YZ (W:Q7) (bar:Int) (W':Q7):Q7×Int:=if QG W=false then (OP,1) else if bar≠0 then (W,bar) else (W',0)
theorem zkd {W W':Q7} {bar:Int} (h:QG W=false):YZ W bar W'=(OP,1):=if_pos h
theorem zke {W W':Q7} {bar:Int} (h:QG W=true) (hb:bar≠0):YZ W bar W'=(W,bar):=by unfold YZ; rw [if_neg (by rw [h]; decide),if_pos hb]
theorem zm6 {W W':Q7} {bar:Int} (h:QG W=true) (hb:bar=0):YZ W bar W'=(W',0):=by unfold YZ; rw [if_neg (by rw [h]; decide),if_neg (by simpa using hb)]
def ZG (W:Q7) (t:Int):Bool:=X3 t 0 ((W.tasks.length:Int) - 1)&&((Q8 W t).state != 0)
theorem Yl {W:Q7} {t:Int} (h:ZG W t=true):0<=t/\t<(W.tasks.length:Int)/\(Q8 W t).state≠0:=by
 unfold ZG at h;simp only [Bool.and_eq_true,bne_iff_ne,ne_eq] at h;have:=Qx.1 h.1;exact ⟨by omega,by omega,h.2⟩
noncomputable def UM (W:Q7) (t:Int):Int:=if ZG W t=false then 2 else if (Q8 W t).state≠1 then 6 else if QB W=false then 10 else 0
def zbw (W:Q7) (t:Int):Q7:=Qg (setTk W t { Q8 W t with state:=2 })
theorem CV {W:Q7} {t:Int} (hW:QG W=true) (hb:UM W t=0):ZG W t=true/\(Q8 W t).state=1/\SW Ql W/\SW Ql (setTk W t { Q8 W t with state:=2 }):=by
 have wp:=Qn.1 hW;unfold UM at hb
 split at hb
 ·cases hb
 ·rename_i h1
  split at hb
  ·cases hb
  ·rename_i h2
   split at hb
   ·cases hb
   ·rename_i h3;have h1:ZG W t=true:=by simpa using h1
    have h2:(Q8 W t).state=1:=by simpa using h2
    have h3:QB W=true:=by simpa using h3
    have sw:=TI wp (Qn.1 h3);obtain ⟨t0,t1,n⟩:=Yl h1;have hl:=wp.a.t;have hv:=sw.tv t t0 (by omega);exact ⟨h1,h2,sw,sw.setTk t0 (by omega) (fun _=>sw.t t t0 (by omega) n) hv.1 hv.2⟩
def Jg (b:XS):XS:=⟨b.quota,b.quota,0,List.replicate b.dry.length 0,List.replicate b.dry.length false⟩
def Yk (b:XS) (c:Int):XS×Int:=
 if gi b.locals c>0 then (b,0)
 else (⟨b.quota,b.pool - ZL 20 b.pool,b.spent,b.locals.set c.toNat (ZL 20 b.pool),b.dry.set c.toNat (ZL 20 b.pool==0)⟩,if ZL 20 b.pool=0 then 2 else 0)
def Vh (b:XS) (c n:Int):XS×Int:=
 if n<1\/n>gi b.locals c then (b,3) else ({ b with spent:=b.spent+n,locals:=b.locals.set c.toNat (gi b.locals c - n) },0)
def Ym (b:XS) (op:zmp):XS×Int:=
 if op.kind=4 then (Jg b,0)
 else if X3 op.at' 0 ((b.locals.length:Int) - 1)=false then (b,1)
 else if op.kind=1 then Yk b op.at'
 else if op.kind=2 then Vh b op.at' op.n
 else if op.kind=3 then (Y6 b op.at',0)
 else (b,1)
structure QQ (base:Nat) (w:World) (b:XS) (p:MG):Prop where
 loc:XR Xh 1 Qb base w p.lO p.lC b.locals
 dry:XR Pj 1 Yp base w p.dO p.dC b.dry
def Zz (p:MG):List Nat:=Qu p.lO++Qu p.dO
theorem QQ.lt {base:Nat} {w:World} {b:XS} {p:MG} (h:QQ base w b p):∀x∈Zz p,base<=x/\x<w.heap.size:=fun x hx=>by
 rcases List.mem_append.1 hx with hx | hx
 ·exact h.loc.lt x hx
 ·exact h.dry.lt x hx
theorem QQ.ext {base:Nat} {w w':World} {b:XS} {p:MG} {bs:List Nat} (h:QQ base w b p) (hx:Q0 bs w w') (hd:∀x∈Zz p,x∉bs):QQ base w' b p:=
 ⟨h.loc.ext hx fun x hm=>hd x (List.mem_append_left _ hm),h.dry.ext hx fun x hm=>hd x (List.mem_append_right _ hm)⟩
theorem QQ.ext0 {base:Nat} {w w':World} {b:XS} {p:MG} (h:QQ base w b p) (hx:Q0 [] w w'):QQ base w' b p:=h.ext hx (by simp)
theorem QQ.extB {base:Nat} {w w':World} {b:XS} {p:MG} {bs:List Nat} (h:QQ base w b p) (hx:Q0 bs w w') (hb:∀x∈bs,x<base):QQ base w' b p:=h.ext hx fun x hm hm'=>by
 have:=(h.lt x hm).1;have:=hb x hm';omega
theorem QQ.mono {base base':Nat} {w:World} {b:XS} {p:MG} (h:QQ base w b p) (hb:base'<=base):QQ base' w b p:=⟨h.loc.mono hb,h.dry.mono hb⟩
theorem QQ.stoL {base:Nat} {w:World} {b:XS} {p:MG} (h:QQ base w b p) {c:Int} (c0:0<=c) (c1:c<(b.locals.length:Int)) (x:Int):QQ base (sto w p.lO (Int.toNat c*1) [.int .i64 x]) { b with locals:=b.locals.set c.toNat x } p:=
 ⟨h.loc.sto ZO.len c0 c1 (j:=0) (vs:=[.int .i64 x]) (x:=x) rfl (by simp),h.dry.ext (h.loc.stoX _ _) (h.dry.ty_ne h.loc (by decide))⟩
theorem QQ.stoD {base:Nat} {w:World} {b:XS} {p:MG} (h:QQ base w b p) {c:Int} (c0:0<=c) (c1:c<(b.dry.length:Int)) (x:Bool):QQ base (sto w p.dO (Int.toNat c*1) [.bool x]) { b with dry:=b.dry.set c.toNat x } p:=
 ⟨h.loc.ext (h.dry.stoX _ _) (h.loc.ty_ne h.dry (by decide)),h.dry.sto YO.len c0 c1 (j:=0) (vs:=[.bool x]) (x:=x) rfl (by simp)⟩
theorem QQ.xL {base:Nat} {w:World} {b:XS} {p:MG} (h:QQ base w b p) (n:Nat) (vs:List Value):Q0 (Zz p) w (sto w p.lO n vs):=(h.loc.stoX n vs).mono fun x hx=>List.mem_append_left _ hx
theorem QQ.xD {base:Nat} {w:World} {b:XS} {p:MG} (h:QQ base w b p) (n:Nat) (vs:List Value):Q0 (Zz p) w (sto w p.dO n vs):=(h.dry.stoX n vs).mono fun x hx=>List.mem_append_right _ hx
section
variable {b:XS} {m:MG} {w:World}
theorem PS {α:Type} [Inhabited α] {l:List α} {i:Nat} (h:i<l.length):l.take i++[gi l (i:Int)]=l.take (i+1):=by
 rw [List.take_succ_eq_append_getElem h,Ju h]
theorem Ls (h1:zkb [] w m.lO b.locals) (h2:zmq [] w m.dO b.dry) (hd:b.dry.length=b.locals.length) (hl:b.locals.length<=1048576) :
  Cz Vk #[.agg (Z2 b m).toArray] w fun e w'=>∃p,e = .returned (.agg (Z2 b p).toArray)/\QQ w.heap.size w' b p/\Q0 [] w w':=by
 refine (AT b.quota b.pool b.spent m.lO b.locals.length m.lC m.dO b.dry.length m.dC (R:=fun v w'=>∃p,v = .agg (Z2 b p).toArray/\QQ w.heap.size w' b p/\Q0 [] w w') ?_).mono fun e w' ⟨v,he,p,hv,h3⟩=>⟨p,by rw [he,hv],h3⟩
 intro x hx0 x5 hx5 x6 hx6
 refine ⟨fun vs w1=>∃(i:Nat) (p:MG),vs=[.int .i64 (i:Int),.int .i64 b.quota,.int .i64 b.pool,.int .i64 b.spent,.slice p.lO (b.locals.take i).length p.lC,.slice p.dO (b.dry.take i).length p.dC]/\i<=b.locals.length/\Sc w [x,x5,x6] w1/\Ob Xh 1 Qb w.heap.size [x,x5,x6] w1 p.lO p.lC (b.locals.take i)/\Ob Pj 1 Yp w.heap.size [x,x5,x6] w1 p.dO p.dC (b.dry.take i),
  Zm b.locals.length 0,fun wr hx _=>⟨0,⟨none,0,none,0,none,0⟩,by simp,Nat.zero_le _,(((Sc.start w).add hx0).add hx5 |>.add hx6).call0 hx,⟨.inl ⟨rfl,rfl,rfl⟩,by simp [Qu]⟩,⟨.inl ⟨rfl,rfl,rfl⟩,by simp [Qu]⟩⟩,?_⟩
 rintro c1 l l1 l2 l3O l3L l3C l4O l4L l4C wv hs ⟨i,p,he,hi,s1,hO,hD⟩;simp only [List.cons.injEq,Value.int.injEq,Value.slice.injEq,true_and,and_true] at he;obtain ⟨rfl,rfl,rfl,rfl,⟨rfl,rfl,rfl⟩,rfl,rfl,rfl⟩:=he;refine ⟨fun hlt => ?_,fun hge => ?_⟩
 ·have hlt:=of_decide_eq_true hlt;have hr1:=h1.scb s1;refine ⟨hr1.ix VI (by omega) hlt,_,hr1 i (by omega) hlt,fun b8 hb8=>⟨rfl,fun wr3 hx3 hs3 hcell => ?_⟩⟩;have s2:=s1.put hx3 hb8;have hO2:=hO.put hx3 hb8;have hD2:=hD.put hx3 hb8;obtain ⟨o2,c2,w2,hrun,hk2,hO3,hy2⟩:=hO2.app1 ZO TK (x:=gi b.locals (i:Int)) hs3 s2.ext.size hcell (zo5 _) (by rw [List.length_take]; omega) (by decide) Zj #[false,false];rw [PS (by omega)] at hrun hO3;have s3:=s2.call hy2 fun x hm=>(hO2.own.lt x hm).1
  have hD3:=hD2.call hy2 (hD2.own.ty_ne hO2.own (by decide));have hr2:=h2.scb s3;refine ⟨_,_,_,w2,hrun,hk2,hr2.ix zb4 (by omega) (by omega),_,hr2 i (by omega) (by omega),fun b9 hb9=>⟨rfl,fun wr4 hx4 hs4 hcell4 => ?_⟩⟩;have s4:=s3.put hx4 hb9;have hO4:=hO3.put hx4 hb9;have hD4:=hD3.put hx4 hb9;obtain ⟨o4,c4,w4,hrun4,hk4,hD5,hy4⟩:=hD4.app1 YO Hk (x:=gi b.dry (i:Int)) hs4 s4.ext.size hcell4 (zpt _) (by rw [List.length_take]; omega) (by decide) U4 #[false,false];rw [PS (by omega)] at hrun4 hD5;have s5:=s4.call hy4 fun x hm=>(hD4.own.lt x hm).1
  have hO5:=hO4.call hy4 (hO4.own.ty_ne hD4.own (by decide));refine ⟨_,_,_,w4,hrun4,hk4,⟨by omega,by omega⟩,fun w5 hx5 _=>⟨⟨i+1,⟨o2,c2,o4,c4,none,0⟩,rfl,by omega,(s5.step hx5).sub (by simp),(hO5.step hx5).sub (by simp),(hD5.step hx5).sub (by simp)⟩,?_⟩⟩;simp only [Zm,Jq,Yf,List.getElem?_cons_zero];omega
 ·have hge:=of_decide_eq_false hge;have e1:b.locals.take i=b.locals:=List.take_of_length_le (by omega);have e2:b.dry.take i=b.dry:=List.take_of_length_le (by omega);rw [e1] at hO ⊢;rw [e2] at hD ⊢;exact fun w2 hx2=>⟨p,rfl,⟨(hO.step hx2).own,(hD.step hx2).own⟩,(s1.step hx2).ext⟩
theorem zj2 (l:List Bool) (k:Nat) (h:k<l.length):(List.replicate k false++l.drop k).set k false=List.replicate (k+1) false++l.drop (k+1):=by
 rw [List.set_append,if_neg (by simp),List.length_replicate,Nat.sub_self,List.drop_eq_getElem_cons h,List.set_cons_zero,List.replicate_succ',List.append_assoc,List.singleton_append]
theorem Lu {base:Nat} (h:QQ base w b m) (hl:b.dry.length<=1048576) :
  Cz Vl #[.agg (Z2 b m).toArray] w fun e w'=>e = .returned (.agg (Z2 b m).toArray)/\QQ base w' { b with dry:=List.replicate b.dry.length false } m/\Q0 (Zz m) w w':=by
 refine (AU b.quota b.pool b.spent m.lO b.locals.length m.lC m.dO b.dry.length m.dC (R:=fun v w'=>v = .agg (Z2 b m).toArray/\QQ base w' { b with dry:=List.replicate b.dry.length false } m/\Q0 (Zz m) w w') ?_).mono fun e w' ⟨v,he,hv,h3⟩=>⟨by rw [he,hv],h3⟩
 intro x hx0 x5 hx5
 have hnb:∀y∈Zz m,y∉[x,x5]:=fun y hy hm=>by
  have:=(h.lt y hy).2;simp only [List.mem_cons,List.not_mem_nil,or_false] at hm;rcases hm with rfl | rfl <;> omega
 have hfr:∀y∈[x,x5],w.heap.size<=y:=fun y hm=>by
  simp only [List.mem_cons,List.not_mem_nil,or_false] at hm;rcases hm with rfl | rfl <;> assumption
 refine Vb b.dry.length 0 rfl (fun k w1=>k<=b.dry.length/\QQ base w1 { b with dry:=List.replicate k false++b.dry.drop k } m/\Q0 (Zz m) w w1) (fun w1 hx1 _=>⟨Nat.zero_le _,by simpa using h.ext0 hx1,hx1.of_nil⟩) fun k w1 hs ⟨hk,hO,hX⟩=>⟨fun hlt => ?_,fun hge => ?_⟩
 ·have hlt:=of_decide_eq_true hlt;have hlen:(List.replicate k false++b.dry.drop k).length=b.dry.length:=by simp; omega
  have e1:=hO.stoD (c:=(k:Int)) (by omega) (by show (k:Int)<((List.replicate k false++b.dry.drop k).length:Int); rw [hlen]; exact hlt) false;have e2:({ b with dry:=(List.replicate k false++b.dry.drop k).set k false }:XS)={ b with dry:=List.replicate (k+1) false++b.dry.drop (k+1) }:=by rw [zj2 _ _ (by omega)]
  have hix:=hO.dry.ix (i:=(k:Int)) (by omega) (by show (k:Int)<((List.replicate k false++b.dry.drop k).length:Int); rw [hlen]; exact hlt);have hwr:=hO.dry.wr YO.len (bs:=[x,x5]) (fun y hy=>hnb y (List.mem_append_right _ hy)) (i:=(k:Int)) (by omega) (by show (k:Int)<((List.replicate k false++b.dry.drop k).length:Int); rw [hlen]; exact hlt) (j:=0) (n:=1) (by decide);refine ⟨by rw [<-hlen]; exact hix,hwr,⟨by omega,by omega⟩,fun w2 hx2 _=>QN (by omega) ⟨by omega,?_,(hX.trans (hO.xD _ _)).fresh hx2 fun y hy=>.inl (hfr y hy)⟩⟩;rw [Int.toNat_natCast] at e1;have:=(e2▸e1:QQ base (sto w1 m.dO (k*1) [.bool false]) { b with dry:=List.replicate (k+1) false++b.dry.drop (k+1) } m);exact this.ext (by rw [Int.toNat_natCast] at hx2; exact hx2) hnb
 ·have hge:=of_decide_eq_false hge;have hk2:k=b.dry.length:=by omega
  subst hk2;rw [List.drop_length,List.append_nil] at hO;exact fun w2 hx2=>⟨rfl,hO.ext hx2 hnb,hX.fresh hx2 fun y hy=>.inl (hfr y hy)⟩
theorem Cg {p:Int} (h:0<=p):0<=ZL 20 p/\ZL 20 p<=p:=by unfold ZL; split <;> omega
theorem XB {op:zmp} (hb:VF b) (h1:zkb [] w m.lO b.locals) (h2:zmq [] w m.dO b.dry) :
  Cz ZQ #[.agg (Z2 b m).toArray,.agg (zhu op).toArray] w fun e w'=>∃p,e = .returned (.tuple #[.agg (Z2 (Ym b op).1 p).toArray,.int .i64 (Ym b op).2])/\QQ w.heap.size w' (Ym b op).1 p/\Q0 [] w w':=by
 refine (BU b.quota b.pool b.spent m.lO b.locals.length m.lC m.dO b.dry.length m.dC op.kind op.at' op.n (R:=fun v w'=>∃p,v = .tuple #[.agg (Z2 (Ym b op).1 p).toArray,.int .i64 (Ym b op).2]/\QQ w.heap.size w' (Ym b op).1 p/\Q0 [] w w') ?_).mono fun e w' ⟨v,he,p,hv,h3⟩=>⟨p,by rw [he,hv],h3⟩
 have hm9:=Zp;have hl2:=hb.l2;have hdl:=hb.dl;have q1:=hb.q1;have q2:=hb.q2;have p1:=hb.p1;have p2:=hb.p2;have s1':=hb.s1;have s2':=hb.s2;intro x hx0 x5 hx5 x6 hx6;have hok:=MQ (bs:=[]) h1 h2 (by omega);rw [Qn.2 hb] at hok;refine ⟨true,hok,fun h=>by simp at h,fun _ wr1 hx1 hs1 => ?_⟩;have t1:=((((Sc.start w).add hx0).add hx5).add hx6).call0 hx1;refine (Ls (h1.ext hx1) (h2.ext hx1) hdl (by omega)).mono fun e wv ⟨p,he,hO,hy1⟩=>⟨_,_,_,_,_,_,_,_,_,he,Qf hy1 hs1,fun g4 => ?_,fun g4 => ?_⟩
 ·have g4:op.kind=4:=by simpa using g4
  have t2:=t1.call0 hy1;have hbl:∀y∈[x,x5,x6],y<wr1.heap.size:=hs1;refine fun wr2 hx2 hs2=>⟨_,_,_,_,PN ZO TK b.dry.length (by omega) (by omega) wr2,Qf (Z8 _ _) hs2,fun wr3 hx3 hs3 => ?_⟩
  have hLo:=(VB (enc:=Xh) ZO.len Qb b.dry.length (0:Int) wr2).ext hx3 fun y hy hm=>by
   have:y=wr2.heap.size:=by simpa [Qu] using hy
   have:=hs2 y hm;omega
  have hD3:XR Pj 1 Yp wr1.heap.size wr3 p.dO p.dC b.dry:=((hO.extB hx2 hbl).ext0 (Z8 wr2 _)).extB hx3 hbl |>.dry
  have hsz1:wr1.heap.size<=wr2.heap.size:=Nat.le_trans hy1.size hx2.size;have hB3:QQ wr1.heap.size wr3 { b with locals:=List.replicate b.dry.length 0 } ⟨some ⟨wr2.heap.size,0,none⟩,b.dry.length,p.dO,p.dC,none,0⟩:=⟨hLo.mono hsz1,hD3⟩;have t3:=((t2.step hx2).call0 (Z8 wr2 (.cells ((List.replicate b.dry.length (0:Int)).flatMap Xh).toArray Qb))).step hx3;have hw:=Lu (b:=⟨b.quota,b.quota,0,List.replicate b.dry.length 0,b.dry⟩) (m:=⟨some ⟨wr2.heap.size,0,none⟩,b.dry.length,p.dO,p.dC,none,0⟩) (base:=wr1.heap.size) ⟨hB3.loc,hB3.dry⟩ (by show b.dry.length<=_; omega);simp only [Z2,List.length_replicate] at hw;refine Calls.mono hw fun e w4 ⟨he4,hO4,hy4⟩=>⟨_,_,_,_,_,_,_,_,_,he4,fun y hm=>hy4.block y (hs3 y hm) fun hm' => ?_,fun wr4 hx4=>⟨⟨some ⟨wr2.heap.size,0,none⟩,b.dry.length,p.dO,p.dC,none,0⟩,?_,?_,?_⟩⟩
  ·have:=(hB3.lt y hm').1;have:=hs1 y hm;omega
  ·have:Ym b op=(Jg b,0):=by unfold Ym; rw [if_pos g4]
   rw [this]; simp [Z2,Jg]
  ·have:Ym b op=(Jg b,0):=by unfold Ym; rw [if_pos g4]
   rw [this]
   exact (QQ.mono ⟨hO4.loc,hO4.dry⟩ hx1.size).ext hx4 fun y hy hm=>by
    have:=(hB3.lt y hy).1;have:=hs1 y hm;omega
  ·exact ((t3.call hy4 fun y hy=>Nat.le_trans hx1.size (hB3.lt y hy).1).step hx4).ext
 ·have g4:¬op.kind=4:=by simpa using g4
  have t2:=t1.call0 hy1
  have hbl:∀y∈Zz p,y∉[x,x5,x6]:=fun y hy hm=>by
   have:=(hO.lt y hy).1;have:=hs1 y hm;omega
  have hO0:QQ w.heap.size wv b p:=hO.mono hx1.size
  have fin:∀{b':XS} {c:Int} {w1 w2:World},Ym b op=(b',c)->QQ w.heap.size w1 b' p->Q0 (Zz p) wv w1->Q0 [x,x5,x6] w1 w2->QQ w.heap.size w2 (Ym b op).1 p/\Q0 [] w w2:=fun e hB hX hx=>by
   rw [e];exact ⟨hB.ext hx hbl,((t2.call hX fun y hy=>(hO0.lt y hy).1).step hx).ext⟩
  have hr1:zkb [x,x5,x6] wv p.lO b.locals:=hO.loc.rd ZO.len fun y hy=>hbl y (List.mem_append_left _ hy)
  refine ⟨⟨by omega,by omega⟩,_,Qi,fun g5 wr hx=>⟨p,?_,fin (b':=b) (c:=1) ?_ hO0 (Q0.refl _ _) hx⟩,fun g5 => ?_⟩
  ·have:Ym b op=(b,1):=by unfold Ym; rw [if_neg g4,if_pos (by simpa using g5)]
   rw [this]; rfl
  ·unfold Ym; rw [if_neg g4,if_pos (by simpa using g5)]
  have g5':X3 op.at' 0 ((b.locals.length:Int) - 1)=true:=by simpa using g5
  have hbd:Ym b op=if op.kind=1 then Yk b op.at' else if op.kind=2 then Vh b op.at' op.n else if op.kind=3 then (Y6 b op.at',0) else (b,1):=by
   unfold Ym; rw [if_neg g4,if_neg (by rw [g5']; decide)]
  obtain ⟨c0,c1⟩:=Qx.1 g5';have c1:op.at'<(b.locals.length:Int):=by omega
  have he':=hb.each _ c0 c1;have hix:=hr1.ix VI c0 c1;have hwL:YY [x,x5,x6] wv p.lO (Int.toNat op.at'*1) 1:=hO.loc.wr ZO.len (fun y hy=>hbl y (List.mem_append_left _ hy)) c0 c1 (j:=0) (by decide);refine ⟨fun g6 => ?_,fun g6 => ?_⟩
  ·have g6:op.kind=1:=by simpa using g6
   rw [if_pos g6] at hbd;refine ⟨hix,_,hr1 _ c0 c1,fun g7 wr hx=>⟨p,?_,fin (b':=b) (c:=0) ?_ hO0 (Q0.refl _ _) hx⟩,fun g7 => ?_⟩
   ·rw [hbd]; unfold Yk; rw [if_pos (of_decide_eq_true g7)]; rfl
   ·rw [hbd]; unfold Yk; rw [if_pos (of_decide_eq_true g7)]
   have g7:=of_decide_eq_false g7;have ht:Yk b op.at'=(⟨b.quota,b.pool - ZL 20 b.pool,b.spent,b.locals.set op.at'.toNat (ZL 20 b.pool),b.dry.set op.at'.toNat (ZL 20 b.pool==0)⟩,if ZL 20 b.pool=0 then 2 else 0):=by unfold Yk; rw [if_neg g7]
   rw [ht] at hbd;have hm:=Cg p1;have e1:=hO0.stoL c0 c1 (ZL 20 b.pool);have e2:=e1.stoD (c:=op.at') c0 (by show op.at'<(b.dry.length:Int); omega) (ZL 20 b.pool==0);have hX:=(hO0.xL (Int.toNat op.at'*1) [.int .i64 (ZL 20 b.pool)]).trans (e1.xD (Int.toNat op.at'*1) [.bool (ZL 20 b.pool==0)]);refine ⟨_,Xu,⟨by omega,by omega⟩,hix,hwL,e1.dry.ix c0 (by show op.at'<(b.dry.length:Int); omega),e1.dry.wr YO.len (fun y hy=>hbl y (List.mem_append_right _ hy)) c0 (by show op.at'<(b.dry.length:Int); omega) (j:=0) (by decide),fun g8 wr hx=>⟨p,?_,fin hbd ⟨e2.loc,e2.dry⟩ hX hx⟩,fun g8 wr hx=>⟨p,?_,fin hbd ⟨e2.loc,e2.dry⟩ hX hx⟩⟩
   ·rw [hbd,if_pos (by simpa using g8)]; simp [Z2]
   ·rw [hbd,if_neg (by simpa using g8)]; simp [Z2]
  ·have g6:¬op.kind=1:=by simpa using g6
   rw [if_neg g6] at hbd;refine ⟨fun g7 => ?_,fun g7 => ?_⟩
   ·have g7:op.kind=2:=by simpa using g7
    rw [if_pos g7] at hbd;refine ⟨fun _=>hix,_,fun _=>hr1 _ c0 c1,fun g8 wr hx=>⟨p,?_,fin (b':=b) (c:=3) ?_ hO0 (Q0.refl _ _) hx⟩,fun g8 => ?_⟩
    ·rw [hbd]; unfold Vh; rw [if_pos (by simpa using g8)]; rfl
    ·rw [hbd]; unfold Vh; rw [if_pos (by simpa using g8)]
    have g8':¬(op.n<1\/op.n>gi b.locals op.at'):=by simpa using g8
    have ht:Vh b op.at' op.n=({ b with spent:=b.spent+op.n,locals:=b.locals.set op.at'.toNat (gi b.locals op.at' - op.n) },0):=by unfold Vh; rw [if_neg g8']
    rw [ht] at hbd;have e1:=hO0.stoL c0 c1 (gi b.locals op.at' - op.n);refine ⟨hix,_,hr1 _ c0 c1,⟨by omega,by omega⟩,hix,hwL,⟨by omega,by omega⟩,fun wr hx=>⟨p,?_,fin hbd ⟨e1.loc,e1.dry⟩ (hO0.xL _ _) hx⟩⟩;rw [hbd]; simp [Z2]
   ·have g7:¬op.kind=2:=by simpa using g7
    rw [if_neg g7] at hbd;refine ⟨fun g8 => ?_,fun g8 wr hx=>⟨p,?_,fin (b':=b) (c:=1) ?_ hO0 (Q0.refl _ _) hx⟩⟩
    ·have g8:op.kind=3:=by simpa using g8
     rw [if_pos g8] at hbd;have e1:=hO0.stoL c0 c1 0;refine ⟨hix,_,hr1 _ c0 c1,⟨by omega,by omega⟩,hix,hwL,fun g9 wr hx hs => ?_,fun g9 wr hx=>⟨p,?_,fin hbd ?_ (hO0.xL _ _) hx⟩⟩
     ·have g9:=of_decide_eq_true g9;have e2:QQ w.heap.size wr ⟨b.quota,b.pool+gi b.locals op.at',b.spent,b.locals.set op.at'.toNat 0,b.dry⟩ p:=QQ.ext ⟨e1.loc,e1.dry⟩ hx hbl;have hw:=Lu e2 (by show b.dry.length<=_; omega);simp only [Z2,List.length_set] at hw;refine Calls.mono hw fun e w4 ⟨he4,hO4,hy4⟩=>⟨_,_,_,_,_,_,_,_,_,he4,fun y hm=>hy4.block y (hs y hm) fun hm'=>hbl y hm' hm,fun wr4 hx4=>⟨p,?_,?_,?_⟩⟩
      ·rw [hbd]; simp [Z2,Y6,if_pos g9]
      ·rw [hbd];have:Y6 b op.at'=⟨b.quota,b.pool+gi b.locals op.at',b.spent,b.locals.set op.at'.toNat 0,List.replicate b.dry.length false⟩:=by unfold Y6; rw [if_pos g9]
       rw [this];exact QQ.ext ⟨hO4.loc,hO4.dry⟩ hx4 hbl
      ·exact ((((t2.call (hO0.xL _ _) fun y hy=>(hO0.lt y hy).1).step hx).call hy4 fun y hy=>(hO0.lt y hy).1).step hx4).ext
     ·have g9:=of_decide_eq_false g9;rw [hbd]; simp [Z2,Y6,if_neg g9]
     ·have g9:=of_decide_eq_false g9;have:Y6 b op.at'=⟨b.quota,b.pool+gi b.locals op.at',b.spent,b.locals.set op.at'.toNat 0,b.dry⟩:=by unfold Y6; rw [if_neg g9]
      rw [this];exact ⟨e1.loc,e1.dry⟩
    ·rw [hbd,if_neg (by simpa using g8)]; rfl
    ·rw [hbd,if_neg (by simpa using g8)]
end
section
variable {base:Nat} {W:Q7} {m:MW} {w:World}
theorem Yd {w:World} {x x1:Nat} (h:w.heap.size<=x) (h1:w.heap.size<=x1):∀y∈[x,x1],w.heap.size<=y:=fun y hm=>by
 simp only [List.mem_cons,List.not_mem_nil,or_false] at hm;rcases hm with rfl | rfl <;> assumption
theorem Mv.two {n:Nat} (h:Y8 n base w W m) {x x1:Nat} (hx:w.heap.size<=x) (hx1:w.heap.size<=x1):Mv n base [x,x1] w m w W m:=((Mv.start h).add hx).add hx1
theorem Ny {n:Nat} {m:MW} {w:World} {k:Nat} {vs:List Value}:Q0 (QF n m) w (sto w m.cO k vs):=P2 fun a ha=>GM (by rw [ha]; simp [Qu])
theorem MD {n:Nat} {m:MW} {w:World} {k:Nat} {vs:List Value}:Q0 (QF n m) w (sto w m.tO k vs):=P2 fun a ha=>GO (by rw [ha]; simp [Qu])
theorem Hd {n:Nat} {m:MW} {w:World} {k:Nat} {vs:List Value}:Q0 (QF n m) w (sto w m.gO k vs):=P2 fun a ha=>GN (by rw [ha]; simp [Qu])
theorem E3 {n:Nat} {m:MW} {w:World} {i k:Nat} {vs:List Value} (hi:i<n):Q0 (QF n m) w (sto w (m.ms i).sO k vs):=P2 fun a ha=>J1 hi (by simp [Qp,Qu,ha])
theorem zg4 {n:Nat} {bs:List Nat} (h:Y8 n base w W m) (hd:∀x∈QF n m,x∉bs) {i:Int} (h0:0<=i) (h1:i<(W.cpus.length:Int)) {j k:Nat} (hj:j+k<=5):YY bs w m.cO (Int.toNat i*5+j) k:=h.c.wr Ma.len (fun b hb=>hd b (GM hb)) h0 h1 hj
theorem CS {n:Nat} {bs:List Nat} (h:Y8 n base w W m) (hd:∀x∈QF n m,x∉bs) {i:Int} (h0:0<=i) (h1:i<(W.tasks.length:Int)) {j k:Nat} (hj:j+k<=9):YY bs w m.tO (Int.toNat i*9+j) k:=h.t.wr Te.len (fun b hb=>hd b (GO hb)) h0 h1 hj
theorem NB {n:Nat} {bs:List Nat} (h:Y8 n base w W m) (hd:∀x∈QF n m,x∉bs) {i:Int} (h0:0<=i) (h1:i<(n:Int)) {j k:Nat} (hj:j+k<=14):YY bs w m.gO (Int.toNat i*14+j) k:=h.g.row.wr Yy.len (fun b hb=>hd b (GN hb)) h0 (by rw [YW,h.len]; exact h1) hj
theorem zm0 {n:Nat} {bs:List Nat} (h:Y8 n base w W m) (hd:∀x∈QF n m,x∉bs) {i c:Int} (h0:0<=i) (h1:i<(n:Int)) (c0:0<=c) (c1:c<((gi W.groups i).shelves.length:Int)) {j k:Nat} (hj:j+k<=5):YY bs w (m.ms i.toNat).sO (Int.toNat c*5+j) k:=
 (h.each h0 h1).shl.wr UO.len (fun b hb=>hd b (J1 (k:=i.toNat) (by omega) (by simp [Qp]; exact .inr (.inr hb)))) c0 c1 hj
theorem zly {n:Nat} (h:Y8 n base w W m) {c:Int} (c0:0<=c) (c1:c<(W.cpus.length:Int)) :
  (Y8 n base (sto w m.cO (Int.toNat c*5+1) [.int .i64 (-1)]) { W with cpus:=W.cpus.set c.toNat { gi W.cpus c with cur := -1 } } m)/\
  Y8 n base (sto (sto w m.cO (Int.toNat c*5+1) [.int .i64 (-1)]) m.cO (Int.toNat c*5+2) [.int .i64 0]) (endW W c) m:=by
 have e1:=h.stoC c0 c1 (j:=1) (vs:=[.int .i64 (-1)]) (x:={ gi W.cpus c with cur := -1 }) rfl (by decide);refine ⟨e1,?_⟩;have hg:gi (W.cpus.set c.toNat { gi W.cpus c with cur := -1 }) c={ gi W.cpus c with cur := -1 }:=by rw [Qt _ _ c0 c1 c0,if_pos rfl]
 have e2:=e1.stoC c0 (by simpa using c1) (j:=2) (vs:=[.int .i64 0]) (x:=X0 (gi W.cpus c)) (by rw [hg]; rfl) (by decide);rw [List.set_set] at e2;exact e2
theorem Zg {n:Nat} (h:Y8 n base w W m) {c:Int} (c0:0<=c) (c1:c<(W.cpus.length:Int)) :
  Cz QS #[.agg (Qa W m).toArray,.int .i64 c] w fun e w'=>e = .returned (.agg (Qa (endW W c) m).toArray)/\Mv n base [] w m w' (endW W c) m:=by
 refine (AV W.now m.cO W.cpus.length m.cC m.tO W.tasks.length m.tC m.gO W.groups.length m.gC c (R:=fun v w'=>v = .agg (Qa (endW W c) m).toArray/\Mv n base [] w m w' (endW W c) m) ?_).mono fun e w' ⟨v,he,hv,h3⟩=>⟨by rw [he,hv],h3⟩
 intro x hx x1 hx1;obtain ⟨e1,e2⟩:=zly h c0 c1;have hr:=h.rd (bs:=[]) (by simp);refine ⟨hr.c.ix ZZ c0 c1,zg4 h (by simp) c0 c1 (by decide),hr.c.ix ZZ c0 c1,zg4 e1 (by simp) c0 (by simpa using c1) (by decide),fun wr hx2=>⟨by simp [Qa,endW,setCp],((Mv.start h).deed e2 (Ny.trans Ny)).call0 hx2⟩⟩
theorem zpa {W:Q7} {g c:Int} {s:Pi}:setSh W g c s={ W with groups:=W.groups.set g.toNat { gi W.groups g with shelves:=(gi W.groups g).shelves.set c.toNat s } }:=rfl
theorem VV {W W':Q7} {m:MW} (h:Fr W W'):Qa W' m=Qa W m:=by
 simp only [Qa,h.n,h.c,h.t,h.g.len]
theorem AL {gs:List Z0} (ht:Z6 gs) {k:Int} (hu:Q6 gs k=true):Vz (gs.length+1) gs k 0=dep 3 gs k:=by
 have hp:∀g:Int,g≠0->Q6 gs g=true->Q6 gs (gi gs g).parent=true:=fun g hz hu=>(Zl ht hu hz).1
 have hd:0<=dep 3 gs k/\dep 3 gs k<=3:=by
  by_cases hz:k=0
  ·subst hz; rw [ZN]; omega
  ·obtain ⟨_,_,_,d,e,_,hd⟩:=Zl ht hu hz;omega
 have hm:=Pt gs 3 gs.length k hd.1 (by rw [ht.len]; omega);rw [Lw hp _ _ _ hu,hm,if_neg (by omega)];omega
theorem Ft {F K:Int} {n:Nat} (hsw:SF F K W) (h:Y8 n base w W m) (hk:F+Qj<=K) {k c:Int} (hu:Q6 W.groups k=true) (hn:n=8) (c0:0<=c) (c1:c<(W.cpus.length:Int)) (s:Pi) :
  Y8 n base (sto w (m.ms k.toNat).sO (Int.toNat c*5) (OV s)) (setSh W k c s) m:=by
 obtain ⟨u0,u1,_⟩:=Q4.1 hu;have hl:=hsw.w.a.gl;have hs:=hsw.w.a.sl hu;exact h.stoS u0 (by omega) c0 (by omega) (j:=0) (vs:=OV s) (x:=s) (by simp [OV]) (by simp [OV])
set_option maxHeartbeats 1000000 in
theorem PE {F K:Int} (h:Y8 8 base w W m) (hsw:SF F K W) (hk:F+Qj<=K) (hK:K<=1000000000000000000) {c:Int} (c0:0<=c) (c1:c<(W.cpus.length:Int)) :
  Cz JF #[.agg (Qa W m).toArray,.int .i64 c] w fun e w'=>e = .returned (.agg (Qa W m).toArray)/\Mv 8 base [] w m w' (QE W c) m:=by
 refine (EZ W.now m.cO W.cpus.length m.cC m.tO W.tasks.length m.tC m.gO W.groups.length m.gC c (R:=fun v w'=>v = .agg (Qa W m).toArray/\Mv 8 base [] w m w' (QE W c) m) ?_).mono fun e w' ⟨v,he,hv,h3⟩=>⟨by rw [he,hv],h3⟩
 intro x hx x1 hx1;have hgl:=hsw.w.a.gl
 refine ⟨fun vs w1=>∃(j:Nat),vs=[.int .i64 (3 - (j:Int))]/\j<=3/\Mv 8 base [x,x1] w m w1 (Xa W c j) m,
  fun vs _=>(Yf 0 vs).toNat,fun wr hx0 _=>⟨0,rfl,by decide,(Mv.two h hx hx1).call0 hx0⟩,?_⟩
 rintro d wv hs ⟨j,he,j3,hM⟩;obtain ⟨hS,hO⟩:=GH hsw hk c0 c1 j j3;have hN:Xa W c (j+1)=ZE (Xa W c j) c (3 - (j:Int)) 8:=rfl;have hE:j=3->Xa W c j=QE W c:=fun e=>by rw [e]; rfl
 generalize Xa W c j=W1 at hM hS hO hN hE;simp only [List.cons.injEq,Value.int.injEq,true_and,and_true] at he;refine ⟨fun hd => ?_,fun hd => ?_⟩
 ·have hd:=of_decide_eq_true hd;have c1':c<(W1.cpus.length:Int):=by rw [hO.c]; exact c1
  refine Vb W.groups.length 1 rfl (fun k w2=>1<=k/\k<=8/\Mv 8 base [x,x1] w m w2 (ZE W1 c d k) m) (fun w2 hx2 _=>⟨Nat.le_refl _,by decide,?_⟩) fun k w2 hs2 ⟨hk1,hk8,hM2⟩ => ?_
  ·have e:ZE W1 c d 1=W1:=zf4 (by omega);rw [e];exact hM.step hx2
  obtain ⟨hS2,hO2⟩:=Fs hS hk (c:=c) (d:=d) (by omega) c0 c1' k hk8;have hf2:=hO.trans hO2;have e0:Qa (ZE W1 c d k) m=Qa W m:=VV hf2.fr;have hr:=hM2.rd;have hgl2:(ZE W1 c d k).groups.length=W.groups.length:=hf2.g.len;have hcl2:(ZE W1 c d k).cpus.length=W.cpus.length:=by rw [hf2.c]
  have hdef:ZE W1 c d (k+1)=if (gi (ZE W1 c d k).groups (k:Int)).used=true/\dep 3 (ZE W1 c d k).groups (k:Int)=d then setSh (ZE W1 c d k) (k:Int) c (Y7 (ZE W1 c d k) (k:Int) c) else ZE W1 c d k:=rfl;have hN8:k=8->Xa W c (j+1)=ZE W1 c d k:=fun e=>by rw [hN,<-he,e]
  generalize ZE W1 c d k=W2 at hM2 hS2 hO2 hf2 e0 hr hgl2 hcl2 hdef hN8;refine ⟨fun hlt => ?_,fun hge => ?_⟩
  ·have hlt:=of_decide_eq_true hlt;have hlt2:(k:Int)<(W2.groups.length:Int):=by omega
   have hdp:=Tw (g:=(k:Int)) (c:=m.gC) hr.g (by have:=Zp; omega);rw [hgl2] at hdp;refine ⟨by have:=hr.g.ix (i:=(k:Int)) (by omega) hlt2; rwa [hgl2] at this,(gi W2.groups (k:Int)).used,hr.g.used (by omega) hlt2,_,fun _=>hdp,fun g => ?_,fun g => ?_⟩
   ·refine ⟨⟨by omega,by omega⟩,fun w3 hx3 _=>QN (by omega) ⟨by omega,by omega,?_⟩⟩;rw [hdef,if_neg]
    ·exact hM2.step hx3
    ·rintro ⟨h1,h2⟩;have hu:Q6 W2.groups (k:Int)=true:=Q4.2 ⟨by omega,hlt2,h1⟩;have:=AL hS2.w.a.tree hu;rw [hgl2] at this;rw [this,h1,h2] at g;simp at g
   ·simp only [Bool.or_eq_false_iff,Bool.not_eq_false',bne_eq_false_iff_eq] at g;have hu:Q6 W2.groups (k:Int)=true:=Q4.2 ⟨by omega,hlt2,g.1⟩;have hdk:=AL hS2.w.a.tree hu;rw [hgl2,g.2] at hdk;rw [if_pos ⟨g.1,hdk.symm⟩] at hdef;have hsl:=hS2.w.a.sl hu;have hz:(k:Int)≠0:=by omega
    have hp:=hS2.w.a.up hu hz;obtain ⟨p0,p1,_⟩:=Q4.1 hp;have hpl:=hS2.w.a.sl hp;have s1:=hS2.w.s _ c hu c0 (by omega);have s2:=hS2.w.s _ c hp c0 (by omega);have lc:=ZF ((Qc W2 (k:Int) c).v - (Qc W2 (gi W2.groups (k:Int)).parent c).floor) (Qc W2 (k:Int) c).w;have lm:=ZD (Qc W2 (k:Int) c).w;have hix:Ix m.gO W.groups.length (k:Int):=by have:=hr.g.ix (i:=(k:Int)) (by omega) hlt2; rwa [hgl2] at this
    have hixS:=(hr.g.shelves (k:Int) (by omega) hlt2).ix ZK c0 (by omega);have hact:=VQ (g:=(k:Int)) hr hS2.w.a c0 (by omega);have hdry:=OX (g:=(k:Int)) hr hS2.w.a hu c0 (by omega);rw [e0] at hact hdry;have hset:=fun s=>Ft hS2 hM2.own hk hu rfl c0 (c:=c) (by omega) s
    have hsub:∀{vs:List Value},Q0 (QF 8 m) w2 (sto w2 (m.ms k).sO (Int.toNat c*5) vs):=fun {vs}=>E3 (by omega)
    have hwr:=zm0 hM2.own hM2.nb (i:=(k:Int)) (by omega) (by omega) c0 (by omega) (j:=0) (k:=5) (by decide);simp only [Int.toNat_natCast] at hset hwr hixS;refine ⟨hix,_,_,_,hr.g.shelf (by omega) hlt2,hixS,_,_,_,_,_,(hr.g.shelves (k:Int) (by omega) hlt2) c c0 (by omega),fun b2 hb2=>⟨QU W2 (k:Int) c,hact,Uf W2 (k:Int) c,fun _=>hdry,fun g2 => ?_,fun g2 => ?_⟩⟩
    ·have hss:Y7 W2 (k:Int) c=⟨(Qc W2 (k:Int) c).floor,QU W2 (k:Int) c && !Uf W2 (k:Int) c,(Qc W2 (gi W2.groups (k:Int)).parent c).floor+YH ((Qc W2 (k:Int) c).v - (Qc W2 (gi W2.groups (k:Int)).parent c).floor) (Qc W2 (k:Int) c).w,(Qc W2 (k:Int) c).w,(Qc W2 (k:Int) c).sum⟩:=by
      unfold Y7;rw [if_pos]
      simpa [Qc] using g2
     have hset:=hset (Y7 W2 (k:Int) c);rw [hss] at hset;have hpix:Ix m.gO W.groups.length (gi W2.groups (k:Int)).parent:=by have:=hr.g.ix p0 p1; rwa [hgl2] at this
     refine ⟨hix,_,hr.g.parent (by omega) hlt2,hpix,_,_,_,hr.g.shelf p0 p1,(hr.g.shelves _ p0 p1).ix ZK c0 (by omega),_,zbq.f (hr.g.shelves _ p0 p1) c0 (by omega) (j:=0) rfl,⟨by show _<=(Qc W2 (k:Int) c).v - (Qc W2 (gi W2.groups (k:Int)).parent c).floor; omega,by show (Qc W2 (k:Int) c).v - (Qc W2 (gi W2.groups (k:Int)).parent c).floor<=_; omega⟩,_,Od,⟨?_,?_⟩,hix,_,_,_,hr.g.shelf (by omega) hlt2,hixS,hwr,⟨by omega,by omega⟩,fun w3 hx3 _=>QN (by omega) ⟨by omega,by omega,?_⟩⟩
     ·show -9223372036854775808<=(Qc W2 (gi W2.groups (k:Int)).parent c).floor+YH ((Qc W2 (k:Int) c).v - (Qc W2 (gi W2.groups (k:Int)).parent c).floor) (Qc W2 (k:Int) c).w;omega
     ·show (Qc W2 (gi W2.groups (k:Int)).parent c).floor+YH ((Qc W2 (k:Int) c).v - (Qc W2 (gi W2.groups (k:Int)).parent c).floor) (Qc W2 (k:Int) c).w<=9223372036854775807;omega
     ·rw [hdef,hss];exact (hM2.deed hset hsub).step hx3
    ·have hss:Y7 W2 (k:Int) c=⟨(Qc W2 (k:Int) c).floor,QU W2 (k:Int) c && !Uf W2 (k:Int) c,(Qc W2 (k:Int) c).v,(Qc W2 (k:Int) c).w,(Qc W2 (k:Int) c).sum⟩:=by
      unfold Y7;rw [if_neg];intro h1;rw [h1.1,show (gi (gi W2.groups (k:Int)).shelves c).on=false from h1.2] at g2;cases g2
     have hset:=hset (Y7 W2 (k:Int) c);rw [hss] at hset;refine ⟨hix,_,_,_,hr.g.shelf (by omega) hlt2,hixS,hwr,⟨by omega,by omega⟩,fun w3 hx3 _=>QN (by omega) ⟨by omega,by omega,?_⟩⟩;rw [hdef,hss];exact (hM2.deed hset hsub).step hx3
  ·have hge:=of_decide_eq_false hge;have hN8:=hN8 (by omega);refine ⟨⟨by omega,by omega⟩,fun w3 hx3 _=>⟨⟨j+1,?_,by omega,?_⟩,?_⟩⟩
   ·rw [show d - 1=3 - ((j+1:Nat):Int) by omega]
   ·rw [hN8];exact hM2.step hx3
   ·show (d - 1).toNat<d.toNat;omega
 ·have hd:=of_decide_eq_false hd;rw [<-hE (by omega)];exact fun w2 hx2=>⟨rfl,(hM.step hx2).close⟩
end
theorem Vf {n:Nat} {m:MW} {i:Nat} {p:MG}:∀x∈QF n (T3 m i p),x∈QF n m\/x∈Qp p:=fun x hx=>by
 rcases Hz hx with h | h | h | ⟨k,hk,h⟩
 ·exact .inl (GM h)
 ·exact .inl (GO h)
 ·exact .inl (GN h)
 ·simp only [T3] at h
  split at h
  ·exact .inr h
  ·exact .inl (J1 hk h)
theorem Mv.swap {n base:Nat} {bs:List Nat} {w0 w w':World} {W W':Q7} {m0 m m':MW} (h:Mv n base bs w0 m0 w W m) (k:Y8 n base w' W' m') (hx:Q0 (QF n m) w w') (hm:m'={ m with ms:=m'.ms })
  (hsub:∀x∈QF n m',x∈QF n m\/(w0.heap.size<=x/\x∉bs)):Mv n base bs w0 m0 w' W' m':=
 ⟨k,h.ext.fresh hx fun x hm=>(h.sub x hm).symm,fun x hx=>by
  rcases hsub x hx with h1 | h1
  ·exact h.sub x h1
  ·exact .inr h1.1,by rw [hm,h.hd],fun x hx=>by
  rcases hsub x hx with h1 | h1
  ·exact h.nb x h1
  ·exact h1.2,h.new⟩
section
variable {base:Nat} {W:Q7} {m:MW} {w:World}
theorem DJ {K:Int} (h:Y8 8 base w W m) (hsw:SW K W) (hK:0<=K) {c:Int} (c0:0<=c) (c1:c<(W.cpus.length:Int)) :
  Cz V2 #[.agg (Qa W m).toArray,.int .i64 c] w fun e w'=>e = .returned (.agg (Qa W m).toArray)/\Mv 8 base [] w m w' (Zf W c) m:=by
 refine (Dq W.now m.cO W.cpus.length m.cC m.tO W.tasks.length m.tC m.gO W.groups.length m.gC c (R:=fun v w'=>v = .agg (Qa W m).toArray/\Mv 8 base [] w m w' (Zf W c) m) ?_).mono fun e w' ⟨v,he,hv,h3⟩=>⟨by rw [he,hv],h3⟩
 intro x hx x1 hx1;have hgl:=hsw.a.gl;refine Vb W.groups.length 0 rfl (fun k w2=>k<=8/\Mv 8 base [x,x1] w m w2 (QR W c k) m) (fun w2 hx2 _=>⟨by decide,(Mv.two h hx hx1).call0 hx2⟩) fun k w2 hs2 ⟨hk8,hM2⟩ => ?_
 obtain ⟨hS2,hO2⟩:=Mc hsw hK c0 c1 k hk8;have e0:Qa (QR W c k) m=Qa W m:=VV hO2.fr;have hr:=hM2.rd;have hgl2:(QR W c k).groups.length=W.groups.length:=hO2.g.len;have hcl2:(QR W c k).cpus.length=W.cpus.length:=by rw [hO2.c]
 have hdef:QR W c (k+1)=if (gi (QR W c k).groups (k:Int)).used=true/\Zw (QR W c k) (k:Int) c 20=true/\QZ (QR W c k) (k:Int) c 20>(Qc (QR W c k) (k:Int) c).floor then setSh (QR W c k) (k:Int) c (Gw (QR W c k) (k:Int) c) else QR W c k:=rfl;have hN8:k=8->Zf W c=QR W c k:=fun e=>by rw [e]; rfl
 generalize QR W c k=W2 at hM2 hS2 hO2 e0 hr hgl2 hcl2 hdef hN8;refine ⟨fun hlt => ?_,fun hge => ?_⟩
 ·have hlt:=of_decide_eq_true hlt;have hlt2:(k:Int)<(W2.groups.length:Int):=by omega
  have hix:Ix m.gO W.groups.length (k:Int):=by have:=hr.g.ix (i:=(k:Int)) (by omega) hlt2; rwa [hgl2] at this
  refine ⟨hix,(gi W2.groups (k:Int)).used,hr.g.used (by omega) hlt2,fun g => ?_,fun g => ?_⟩
  ·refine ⟨⟨by omega,by omega⟩,fun w3 hx3 _=>QN (by omega) ⟨by omega,?_⟩⟩;rw [hdef,if_neg (fun h1=>by rw [h1.1] at g; cases g)];exact hM2.step hx3
  ·have g:(gi W2.groups (k:Int)).used=true:=by simpa using g
   have hu:Q6 W2.groups (k:Int)=true:=Q4.2 ⟨by omega,hlt2,g⟩;have hsl:=hS2.a.sl hu;have hle:=PD (g:=(k:Int)) hr hS2.a c0 (by omega);rw [e0] at hle;have hss:=hr.g.shelves (k:Int) (by omega) hlt2;have hixS:=hss.ix ZK c0 (by omega);have hwr:=zm0 hM2.own hM2.nb (i:=(k:Int)) (by omega) (by omega) c0 (by omega) (j:=0) (k:=1) (by decide);have hset:=hM2.own.stoS (i:=(k:Int)) (by omega) (by omega) c0 (by omega) (j:=0) (vs:=[.int .i64 (QZ W2 (k:Int) c 20)]) (x:=Gw W2 (k:Int) c) rfl (by simp);rw [<-zpa] at hset;have hsub:Q0 (QF 8 m) w2 (sto w2 (m.ms k).sO (Int.toNat c*5+0) [.int .i64 (QZ W2 (k:Int) c 20)]):=E3 (by omega);simp only [Int.toNat_natCast] at hwr hixS hset;refine ⟨_,_,hle,fun _=>hix,_,_,_,fun _=>hr.g.shelf (by omega) hlt2,fun _=>hixS,_,fun _=>zbq.f hss c0 (by omega) (j:=0) rfl,fun g2 => ?_,fun g2 => ?_⟩
   ·refine ⟨hix,_,_,_,hr.g.shelf (by omega) hlt2,hixS,hwr,⟨by omega,by omega⟩,fun w3 hx3 _=>QN (by omega) ⟨by omega,?_⟩⟩;rw [hdef,if_pos ⟨g,by simpa [Qc] using g2⟩];exact (hM2.deed hset hsub).step hx3
   ·refine ⟨⟨by omega,by omega⟩,fun w3 hx3 _=>QN (by omega) ⟨by omega,?_⟩⟩;rw [hdef,if_neg]
    ·exact hM2.step hx3
    ·rintro ⟨_,h1,h2⟩;rw [h1,show decide (QZ W2 (k:Int) c 20>(gi (gi W2.groups (k:Int)).shelves c).floor)=true from decide_eq_true h2] at g2;cases g2
 ·have hge:=of_decide_eq_false hge;rw [hN8 (by omega)];exact fun w3 hx3=>⟨rfl,(hM2.step hx3).close⟩
theorem TS.locs {bs:List Nat} {w:World} {gs:List Z0} {ms:Nat->MG} {o:OA} (h:TS bs w o gs ms) {i:Int} (h0:0<=i) (h1:i<(gs.length:Int)):Q2 bs w o (Int.toNat i*14+8+3) [.slice (ms i.toNat).lO (gi gs i).band.locals.length (ms i.toNat).lC]:=(h.cells i h0 h1).get 11 _ rfl
theorem TS.quo {bs:List Nat} {w:World} {gs:List Z0} {ms:Nat->MG} {o:OA} (h:TS bs w o gs ms) {i:Int} (h0:0<=i) (h1:i<(gs.length:Int)):Q2 bs w o (Int.toNat i*14+8+0) [.int .i64 (gi gs i).band.quota]:=(h.cells i h0 h1).get 8 _ rfl
def TF (m:MG) (p:MG):MG:=⟨p.lO,p.lC,p.dO,p.dC,m.sO,m.sC⟩
theorem Ve {m p:MG}:∀x∈Qp (TF m p),x∈Zz p\/x∈Qp m:=fun x hx=>by
 simp only [Qp,TF,Zz,List.mem_append] at hx ⊢;rcases hx with (h | h) | h
 ·exact .inl (.inl h)
 ·exact .inl (.inr h)
 ·exact .inr (.inr h)
theorem Y8.putB {n:Nat} (h:Y8 n base w W m) {i:Int} (h0:0<=i) (hi:i<(n:Int)) {b:XS} {p:MG} (hb:QQ base w b p) (hn:∀x∈Zz p,x∉QF n m) :
  Y8 n base (sto w m.gO (Int.toNat i*14+8) (Z2 b p)) (setBd W i b) (T3 m i.toNat (TF (m.ms i.toNat) p)):=by
 have hm:=h.each h0 hi;refine h.stoG h0 hi (g:={ gi W.groups i with band:=b }) (p:=TF (m.ms i.toNat) p) ⟨hb.loc,hb.dry,hm.shl⟩ (fun x hx => ?_) rfl (by simp [Z2]);rcases Ve x hx with h1 | h1
 ·exact .inl (hn x h1)
 ·exact .inr h1
set_option maxHeartbeats 1000000 in
theorem N5 {F K:Int} (h:Y8 8 base w W m) (hsw:SF F K W) (hbase:base<=w.heap.size) :
  Cz Tk #[.agg (Qa W m).toArray] w fun e w'=>∃m',e = .returned (.agg (Qa W m).toArray)/\Mv 8 base [] w m w' (MN W) m':=by
 refine (BX W.now m.cO W.cpus.length m.cC m.tO W.tasks.length m.tC m.gO W.groups.length m.gC (R:=fun v w'=>∃m',v = .agg (Qa W m).toArray/\Mv 8 base [] w m w' (MN W) m') ?_).mono fun e w' ⟨v,he,m',hv,h3⟩=>⟨m',by rw [he,hv],h3⟩
 intro x hx x1 hx1;have hgl:=hsw.w.a.gl;have hcl4:=hsw.w.a.c2;have hnew:=Yd hx hx1;refine Vb W.groups.length 0 rfl (fun k w2=>k<=8/\∃m2,Mv 8 base [x,x1] w m w2 (Yv W k) m2) (fun w2 hx2 _=>⟨by decide,m,(Mv.two h hx hx1).call0 hx2⟩) fun k w2 hs2 ⟨hk8,m2,hM2⟩ => ?_
 obtain ⟨hS2,hO2⟩:=Vy hsw k hk8;have hgl2:(Yv W k).groups.length=W.groups.length:=hO2.g.len;have hcl2:(Yv W k).cpus.length=W.cpus.length:=by rw [hO2.c]
 have hdef:Yv W (k+1)=if (gi (Yv W k).groups (k:Int)).used=true/\(gi (Yv W k).groups (k:Int)).band.quota≠0 then Yi (Yv W k) (k:Int) (Yv W k).cpus.length else Yv W k:=rfl;have hN8:k=8->MN W=Yv W k:=fun e=>by rw [e]; rfl
 generalize Yv W k=W2 at hM2 hS2 hO2 hgl2 hcl2 hdef hN8;have hmg:m2.gO=m.gO:=by rw [hM2.hd]
 have hr:=hM2.rd;refine ⟨fun hlt => ?_,fun hge => ?_⟩
 ·have hlt:=of_decide_eq_true hlt;have hlt2:(k:Int)<(W2.groups.length:Int):=by omega
  have hix:Ix m.gO W.groups.length (k:Int):=by have:=hr.g.ix (i:=(k:Int)) (by omega) hlt2; rwa [hgl2,hmg] at this
  have hru:=hr.g.used (i:=(k:Int)) (by omega) hlt2;have hrq:=hr.g.quo (i:=(k:Int)) (by omega) hlt2;rw [hmg] at hru hrq;refine ⟨hix,(gi W2.groups (k:Int)).used,hru,fun _=>hix,_,fun _=>hrq,fun g => ?_,fun g => ?_⟩
  ·refine ⟨⟨by omega,by omega⟩,fun w3 hx3 _=>QN (by omega) ⟨by omega,m2,?_⟩⟩;rw [hdef,if_neg]
   ·exact hM2.step hx3
   ·rintro ⟨h1,h2⟩;rw [h1] at g;simp [h2] at g
  ·simp only [Bool.or_eq_false_iff,Bool.not_eq_false',beq_eq_false_iff_ne] at g;have hu:Q6 W2.groups (k:Int)=true:=Q4.2 ⟨by omega,hlt2,g.1⟩;rw [if_pos ⟨g.1,g.2⟩] at hdef;refine Vb W.cpus.length 0 rfl (fun c w3=>c<=W.cpus.length/\∃m3,Mv 8 base [x,x1] w m w3 (Yi W2 (k:Int) c) m3) (fun w3 hx3 _=>⟨Nat.zero_le _,m2,hM2.step hx3⟩) fun c w3 hs3 ⟨hc,m3,hM3⟩ => ?_
   obtain ⟨hS3,hO3,hq3⟩:=Lj hS2 hu g.2 c (by omega);have hgl3:(Yi W2 (k:Int) c).groups.length=W.groups.length:=by rw [hO3.g.len,hgl2]
   have hcl3:(Yi W2 (k:Int) c).cpus.length=W.cpus.length:=by rw [hO3.c,hcl2]
   have hdef3:Yi W2 (k:Int) (c+1)=if gi (gi (Yi W2 (k:Int) c).groups (k:Int)).band.locals (c:Int)>0/\QU (Yi W2 (k:Int) c) (k:Int) (c:Int)=false then setBd (Yi W2 (k:Int) c) (k:Int) (Y6 (gi (Yi W2 (k:Int) c).groups (k:Int)).band (c:Int)) else Yi W2 (k:Int) c:=rfl;have hN3:c=W.cpus.length->Yv W (k+1)=Yi W2 (k:Int) c:=fun e=>by rw [hdef,hcl2,e]
   have e3:Qa (Yi W2 (k:Int) c) m3=Qa W m:=hM3.encW_eq (by rw [hO3.n,hO2.n]) hcl3 (by rw [hO3.t,hO2.t]) hgl3;have hu3:Q6 (Yi W2 (k:Int) c).groups (k:Int)=true:=by rw [hO3.g.usd]; exact hu
   generalize Yi W2 (k:Int) c=W3 at hM3 hS3 hO3 hq3 hgl3 hcl3 hdef3 hN3 e3 hu3;have hmg3:m3.gO=m.gO:=by rw [hM3.hd]
   have hr3:=hM3.rd;refine ⟨fun hlt3 => ?_,fun hge3 => ?_⟩
   ·have hlt3:=of_decide_eq_true hlt3;obtain ⟨u0,u1,hgu⟩:=hS3.w.a.u hu3;obtain ⟨hb,hbl,_⟩:=hgu.band hq3;have hklt:(k:Int)<(W3.groups.length:Int):=by omega
    have hrl:=hr3.g.locs (i:=(k:Int)) (by omega) hklt;have hrb:=hr3.g.band (i:=(k:Int)) (by omega) hklt;rw [hmg3] at hrl hrb;have hLo:=hr3.g.locals (k:Int) (by omega) hklt;have hDo:=hr3.g.dry (k:Int) (by omega) hklt;have hact:=VQ (g:=(k:Int)) (c:=(c:Int)) hr3 hS3.w.a (by omega) (by omega);rw [e3] at hact;refine ⟨hix,_,_,_,hrl,hLo.ix VI (by omega) (by omega),_,hLo (c:Int) (by omega) (by omega),_,fun _=>hact,fun g3 => ?_,fun g3 => ?_⟩
    ·simp only [Bool.and_eq_true,decide_eq_true_eq,Bool.not_eq_true'] at g3;rw [if_pos g3] at hdef3;refine ⟨hix,_,_,_,_,_,_,_,_,_,hrb,fun wr3 hx3 hs4 => ?_⟩;have hM4:=hM3.step hx3;have hr4:=hM4.rd0;refine Calls.mono (XB (op:=⟨3,(c:Int),0⟩) hb (hr4.g.locals (k:Int) (by omega) hklt) (hr4.g.dry (k:Int) (by omega) hklt)) ?_;rintro e wv2 ⟨p,he,hO,hy⟩
     have hbd:Ym (gi W3.groups (k:Int)).band ⟨3,(c:Int),0⟩=(Y6 (gi W3.groups (k:Int)).band (c:Int),0):=by
      unfold Ym;rw [if_neg (show ¬(3:Int)=4 by decide),if_neg (by rw [Qx.2 (by show 0<=(c:Int)/\(c:Int)<=_; omega)]; decide),if_neg (show ¬(3:Int)=1 by decide),if_neg (show ¬(3:Int)=2 by decide),if_pos rfl]
     rw [hbd] at he hO
     dsimp only at he hO
     have hM5:=hM4.call0 hy;have hbs:base<=wr3.heap.size:=by have:=hM4.ext.size; omega
     have hOb:∀y∈Zz p,wr3.heap.size<=y:=fun y hy=>(hO.lt y hy).1
     have hput:=hM5.own.putB (i:=(k:Int)) (by omega) (by omega) (hO.mono hbs) (fun y hy hm=>by have:=hOb y hy; have:=(hM4.own.lt y hm).2; omega);have hwr:=NB hM5.own hM5.nb (i:=(k:Int)) (by omega) (by omega) (j:=8) (k:=5) (by decide);have hsz:=hM4.ext.size
     have hM6:=hM5.swap hput Hd rfl fun y hy=>by
      rcases Vf y hy with h1 | h1
      ·exact .inl h1
      ·rcases Ve y h1 with h2 | h2
       ·have:=hOb y h2;exact .inr ⟨by omega,fun hm=>by have:=hs4 y hm; omega⟩
       ·exact .inl (J1 (by omega) h2)
     rw [hmg3] at hwr hM6;refine ⟨_,_,_,_,_,_,_,_,_,_,he,Qf hy hs4,fun b2 hb2=>⟨hix,hwr,⟨by omega,by omega⟩,fun w5 hx5 _=>QN (w1:=w3) (by omega) ⟨by omega,T3 m3 (Int.toNat (k:Int)) (TF (m3.ms (Int.toNat (k:Int))) p),?_⟩⟩⟩;rw [hdef3];exact hM6.step hx5
    ·refine ⟨⟨by omega,by omega⟩,fun w5 hx5 _=>QN (by omega) ⟨by omega,m3,?_⟩⟩;rw [hdef3,if_neg]
     ·exact hM3.step hx5
     ·rintro ⟨h1,h2⟩;rw [h2,decide_eq_true h1] at g3;cases g3
   ·have hge3:=of_decide_eq_false hge3;refine ⟨⟨by omega,by omega⟩,fun w5 hx5 _=>QN (by omega) ⟨by omega,m3,?_⟩⟩;rw [hN3 (by omega)];exact hM3.step hx5
 ·have hge:=of_decide_eq_false hge;rw [hN8 (by omega)];exact fun w3 hx3=>⟨m2,rfl,(hM2.step hx3).close⟩
end
end Go.Proofs.YtclpmgfpjeaibaaGreat
