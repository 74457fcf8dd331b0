/- Part 14 of what the law FnExactWorldRun needs: the engine, the functions' propositions, the contracts. -/
import Derived.Test.YthhmnlcimojhlaaGreatDoorFnExactWorldRunPm
import Derived.Test.YthhmnlcimojhlaaGreatDoorRows
import Derived.ChangeSame
import Derived.ChangeVars
import Derived.JoinedOf
import Derived.LaidLaws
import Derived.LaidHandle
import Derived.Stop.Joined
namespace Go.Proofs.YthhmnlcimojhlaaGreatDoor
open Go.ChangeShapes Go.WideShapes Go.RowKit
set_option linter.unusedVariables false
set_option linter.unusedSimpArgs false
set_option maxRecDepth 100000
abbrev laidE : List (String × DataW Unit) := [("errors.errorType", Rows.laid_errors_errorType)]
theorem zait : Tryz.prog.globalNamed "errors.errorType" = some 0 := by kernel_rfl
theorem zaiu : (Tryz.prog.cutTypes.find? (·.1 == "internal/reflectlite.rtype")).map (·.2) = some 191 := by kernel_rfl
theorem zacd:Tryz.prog.types.size=263:=by kernel_rfl
theorem z78:((List.range 263).filter fun t=>Tryz.prog.rowNamed t [101,114,114,111,114])=[64]:=by kernel_rfl
theorem z77:typeHandle Tryz.prog 64 = .pointer (some ⟨1,64,none⟩):=by kernel_rfl
theorem glob_of_laid {W:World} (h:laidMetH Tryz.prog laidE W):zrt W:=by
 have h':laidMet Tryz.prog [] W∧handlesMet Tryz.prog laidE W:=h
 obtain ⟨name,u,ty,e1,e2,e3,e4,e5⟩:=h'.2 _ (List.mem_singleton.2 rfl)
 have en:name=[101,114,114,111,114]:=(Option.some.inj e1).symm
 subst en
 obtain rfl:=Option.some.inj (zaiu.symm.trans e2)
 have hm:ty∈(List.range 263).filter fun t=>Tryz.prog.rowNamed t [101,114,114,111,114]:=List.mem_filter.2 ⟨List.mem_range.2 (by rw [←zacd]; exact e3),e4⟩
 rw [z78] at hm
 obtain rfl:=List.mem_singleton.1 hm
 rw [z77] at e5
 unfold zrt
 simpa using World.var?_cell zait e5 0
noncomputable def laidWorld (os:Os):World :=
 let w0:=World.holding Tryz.prog os ⟨#[],#[],[]⟩
 { w0 with heap:=w0.heap.modify 0 fun
   | .cells _ t frozen=>.cells #[.iface 191 (.agg #[.pointer (some ⟨1,64,none⟩)])] t frozen
   | o=>o }
theorem laidWorld_met (os:Os) (args:Array Value):laidMetH Tryz.prog laidE ((laidWorld os).forCall (fun _ _=>0) ⟨#[],args,[]⟩).memory :=
 laidMetH_of_parts (laidMet_nil _ _) (by kernel_rfl)
end Go.Proofs.YthhmnlcimojhlaaGreatDoor
namespace Go.Proofs.YthhmnlcimojhlaaGreatDoor
open Go.RowKit
set_option linter.unusedVariables false
set_option linter.unusedSimpArgs false
set_option maxRecDepth 10000
theorem zadl {l w:Int} (h0:0≤l) (h1:l≤zd6 w):zge l w=l:=by
 unfold zge
 rw [if_neg (show ¬zd6 w<l by omega)]
 split <;> omega
theorem zwb {p q:Nat→Bool}:∀{n:Nat},(∀j,j<n→p j=q j)→anyB p n=anyB q n
 | 0,_=>rfl
 | n+1,h=>by simp only [anyB]; rw [zwb fun j hj=>h j (by omega),h n (by omega)]
theorem zxq {p q:Nat→Bool} {v u:Nat→Int}:∀{n:Nat},(∀j,j<n→p j=q j)→(∀j,j<n→p j=true→v j=u j)→zbf p v n=zbf q u n
 | 0,_,_=>rfl
 | n+1,h,hv=>by
  have ih:=zxq (p:=p) (q:=q) (v:=v) (u:=u) (n:=n) (fun j hj=>h j (by omega)) fun j hj=>hv j (by omega)
  simp only [zbf]
  rw [ih,←h n (by omega)]
  cases hp:p n with
  | false=>simp
  | true =>
   rw [hv n (by omega) hp]
   rcases zdv q u n with ⟨e,_⟩ | ⟨e0,e1,e2,_⟩
   ·rw [e]; simp
   ·rw [hv _ (by omega) (by rw [h _ (by omega)]; exact e2)]
theorem zym {gs:List Grp} (ht:zfu gs):∀g:Int,zad gs g=true→∀x∈zdb gs g,zad gs x=true∧x≠0 :=
 z91 ht (fun x hx=>by rw [show zdb gs 0=[] from zcf _ _] at hx; cases hx) fun h hu hz ih x hx=>by
  rw [zdz ht hu hz] at hx
  rcases List.mem_cons.1 hx with e | e
  ·subst e; exact ⟨hu,hz⟩
  ·exact ih x e
def stnd (W:Wld) (k c:Int):Prop:=(shf W (gi W.groups k).parent c).floor≤(shf W k c).v∧(shf W k c).v - (shf W (gi W.groups k).parent c).floor≤zd6 (shf W k c).w
structure PreT (W:Wld) (x:Tsk):Prop where
 st:x.state=1∨x.state=2
 g:zad W.groups x.group=true
 n:zav x.nice≠0
 m:mOk x.mask=true
 m0:x.mask≠0
 s:tmOk x.sum=true
 u:tmOk x.used=true
 l1:0≤x.load
 l2:x.load≤8000000
 f:x.state=1→(shf W x.group x.cpu).floor≤x.v∧x.v - (shf W x.group x.cpu).floor≤zd6 (zav x.nice)
structure PreS (W:Wld) (k c:Int):Prop where
 s:tmOk (shf W k c).sum=true
 root:k=0→(shf W k c).on=false∧(shf W k c).v=0∧(shf W k c).w=10
 st:k≠0→(shf W k c).on=true→stnd W k c
structure PreC (W:Wld) (c:Int):Prop where
 b:tmOk (gi W.cpus c).busy=true
 i:tmOk (gi W.cpus c).idle=true
 c1 : -1≤(gi W.cpus c).cur
 c2:(gi W.cpus c).cur<12
 no:(gi W.cpus c).cur<0→(gi W.cpus c).ran=0
 yes:0≤(gi W.cpus c).cur→(gi W.cpus c).up=true∧1≤(gi W.cpus c).ran∧(gi W.cpus c).ran≤149
 q:0≤(gi W.cpus c).cur→(tkk W (gi W.cpus c).cur).state=1→(tkk W (gi W.cpus c).cur).cpu=c →
  (tkk W (gi W.cpus c).cur).v - (shf W (tkk W (gi W.cpus c).cur).group c).floor≤zc2 (gi W.cpus c).ran (zav (tkk W (gi W.cpus c).cur).nice) ∧
  ∀x∈zdb W.groups (tkk W (gi W.cpus c).cur).group,stnd W x c∧(shf W x c).v - (shf W (gi W.groups x).parent c).floor≤zc2 (gi W.cpus c).ran (shf W x c).w
structure PreA (W:Wld):Prop where
 a:WA W
 t:∀t:Int,0≤t→t<12→(tkk W t).state=0∧tkk W t=z88∨(tkk W t).state≠0∧PreT W (tkk W t)
 l:∀t:Int,0≤t→t<12→(tkk W t).state≠0→0≤(tkk W t).cpu∧(tkk W t).cpu<(W.cpus.length:Int)
 s:∀k c:Int,zad W.groups k=true→0≤c→c<(W.cpus.length:Int)→PreS W k c
structure Pre (W:Wld):Prop extends PreA W where
 c:∀c:Int,0≤c→c<(W.cpus.length:Int)→PreC W c
theorem zah9 {W:Wld} (wp:WldP W) {k c:Int} (hu:zad W.groups k=true) (c0:0≤c) (c1:c<(W.cpus.length:Int)):ShfP W k c:=by
 obtain ⟨u0,u1,_⟩:=wp.a.u hu
 have hl:=wp.a.sl hu
 exact wp.s k c u0 u1 c0 (by omega)
structure Oth (c:Int) (W W':Wld):Prop where
 n:W'.now=W.now
 t:W'.tasks=W.tasks
 g:zcj W.groups W'.groups
 len:W'.cpus.length=W.cpus.length
 b:∀i:Int,0≤i→(gi W'.groups i).band=(gi W.groups i).band
 e:∀k d:Int,0≤k→0≤d→d≠c→shf W' k d=shf W k d
 cp:∀d:Int,0≤d→d≠c→gi W'.cpus d=gi W.cpus d
theorem Oth.refl (c:Int) (W:Wld):Oth c W W:=⟨rfl,rfl,zcj.refl _,rfl,fun _ _=>rfl,fun _ _ _ _ _=>rfl,fun _ _ _=>rfl⟩
theorem Oth.trans {c:Int} {A B C:Wld} (h:Oth c A B) (k:Oth c B C):Oth c A C:=⟨k.n.trans h.n,k.t.trans h.t,h.g.trans k.g,k.len.trans h.len,fun i hi=>(k.b i hi).trans (h.b i hi),fun i d hi hd hn=>(k.e i d hi hd hn).trans (h.e i d hi hd hn),fun d hd hn=>(k.cp d hd hn).trans (h.cp d hd hn)⟩
theorem zx0 {W:Wld} {g c:Int} {s:Shf} (h0:0≤g) (h1:g<(W.groups.length:Int)) (c0:0≤c) (c1:c<((gi W.groups g).shelves.length:Int)):Oth c W (setSh W g c s) :=
 ⟨rfl,rfl,zh0 h0 h1,rfl,fun i hi=>z56 h0 h1 hi,fun k d hk hd hn=>by
  rw [zkc h0 h1 c0 c1 hk hd,if_neg fun h=>hn h.2.symm],fun _ _ _=>rfl⟩
theorem zag6 {W:Wld} {c:Int} (c0:0≤c) (c1:c<(W.cpus.length:Int)):Oth c W (endW W c) :=
 ⟨rfl,rfl,zcj.refl _,List.length_set,fun _ _=>rfl,fun _ _ _ _ _=>rfl,fun d d0 hn=>by
  show gi (W.cpus.set c.toNat (endC (gi W.cpus c))) d=_
  rw [zba _ _ c0 c1 d0,if_neg fun h=>hn h.symm]⟩
section
variable {c d:Int} {W W':Wld}
theorem zmd (ht:W'.tasks=W.tasks) (hT:zcj W.groups W'.groups) {g:Int} (h:∀j:Nat,j<W.groups.length→1≤j→(gi W.groups (j:Int)).used=true→(gi W.groups (j:Int)).parent=g→(shf W' (j:Int) d).on=(shf W (j:Int) d).on):zbc W' g d=zbc W g d:=by
 unfold zbc
 rw [ht,hT.len]
 congr 1
 ·refine zwb fun j _ => ?_
  unfold actT
  rw [ht]
 ·refine zwb fun j hj => ?_
  unfold actG
  rw [hT.u,hT.p]
  by_cases h1:1≤j
  ·cases hu:(gi W.groups (j:Int)).used with
   | false=>simp
   | true =>
    by_cases hp:(gi W.groups (j:Int)).parent=g
    ·rw [h j hj h1 hu hp]
    ·rw [show ((gi W.groups (j:Int)).parent==g)=false from beq_false_of_ne hp]; simp
  ·simp [h1]
theorem zadv (ht:W'.tasks=W.tasks) (hT:zcj W.groups W'.groups) (hl:W.groups.length=8) (h:∀k:Int,0≤k→(shf W' k d).on=(shf W k d).on) (g:Int) {j:Nat} (hj:j<20):memP W' g d j=memP W g d j:=by
 unfold memP
 split
 ·unfold actT; rw [ht]
 ·unfold actG
  rw [hT.u,hT.p,h _ (by omega)]
theorem z6z (ht:W'.tasks=W.tasks) (h:∀k:Int,0≤k→(shf W' k d).v=(shf W k d).v) (j:Nat):memV W' d j=memV W d j:=by
 unfold memV
 split
 ·unfold tkk; rw [ht]
 ·rw [h _ (by omega)]
theorem zab0 (ht:W'.tasks=W.tasks) (hT:zcj W.groups W'.groups) (hl:W.groups.length=8) (h:∀k:Int,0≤k→(shf W' k d).on=(shf W k d).on) (hv:∀k:Int,0≤k→(shf W' k d).v=(shf W k d).v) (g:Int):zfb W' g d 20=zfb W g d 20∧zb6 W' g d 20=zb6 W g d 20:=by
 have e:zbf (memP W' g d) (memV W' d) 20=zbf (memP W g d) (memV W d) 20:=zxq (fun j hj=>zadv ht hT hl h g hj) fun j _ _=>z6z ht hv j
 unfold zfb zb6
 rw [e]
 refine ⟨rfl,?_⟩
 split
 ·rfl
 ·exact z6z ht hv _
theorem ztj (ht:W'.tasks=W.tasks) (t:Int):tkk W' t=tkk W t:=by unfold tkk; rw [ht]
theorem z5f (hT:zcj W.groups W'.groups) (g:Int):zdb W'.groups g=zdb W.groups g:=hT.path 3 g
theorem zah3 {g:Int} (hb:(gi W'.groups g).band=(gi W.groups g).band):dryD W' g d=dryD W g d:=by unfold dryD; rw [hb]
end
end Go.Proofs.YthhmnlcimojhlaaGreatDoor
namespace Go.Proofs.YthhmnlcimojhlaaGreatDoor
open Go.RowKit
set_option linter.unusedVariables false
set_option linter.unusedSimpArgs false
set_option maxRecDepth 10000
structure LC (c:Int) (W W':Wld):Prop where
 o:Oth c W W'
 cs:W'.cpus=W.cpus
 f:∀k d:Int,0≤k→0≤d→(shf W' k d).floor=(shf W k d).floor
 w:∀k d:Int,0≤k→0≤d→(shf W' k d).w=(shf W k d).w
 s:∀k d:Int,0≤k→0≤d→(shf W' k d).sum=(shf W k d).sum
 r:∀d:Int,0≤d→shf W' 0 d=shf W 0 d
 v:∀k d:Int,zad W.groups k=true→k≠0→0≤d→stnd W k d→(shf W' k d).v=(shf W k d).v
theorem LC.refl (c:Int) (W:Wld):LC c W W:=⟨Oth.refl _ _,rfl,fun _ _ _ _=>rfl,fun _ _ _ _=>rfl,fun _ _ _ _=>rfl,fun _ _=>rfl,fun _ _ _ _ _ _=>rfl⟩
theorem LC.st {c:Int} {W W':Wld} (ht:zfu W.groups) (h:LC c W W') {k d:Int} (hu:zad W.groups k=true) (hz:k≠0) (d0:0≤d) (hs:stnd W k d):stnd W' k d:=by
 have hp:=(zac.1 (zgj ht hu hz).1).1
 have k0:=(zac.1 hu).1
 unfold stnd
 rw [h.o.g.p,h.f _ d hp d0,h.v k d hu hz d0 hs,h.w k d k0 d0]
 exact hs
theorem LC.trans {c:Int} {A B C:Wld} (ht:zfu A.groups) (h:LC c A B) (k:LC c B C):LC c A C :=
 ⟨h.o.trans k.o,k.cs.trans h.cs,fun i d a b=>(k.f i d a b).trans (h.f i d a b),fun i d a b=>(k.w i d a b).trans (h.w i d a b),fun i d a b=>(k.s i d a b).trans (h.s i d a b),fun d a=>(k.r d a).trans (h.r d a),fun i d hu hz d0 hs=>by
  rw [k.v i d (by rw [h.o.g.usd]; exact hu) hz d0 (h.st ht hu hz d0 hs),h.v i d hu hz d0 hs]⟩
theorem Pre.lc {c:Int} {W W':Wld} (p:Pre W) (h:LC c W W') (ha:WA W') (hon:∀k d:Int,zad W.groups k=true→k≠0→0≤d→d<(W.cpus.length:Int)→(shf W' k d).on=true→stnd W' k d):Pre W':=by
 have et:∀t,tkk W' t=tkk W t:=ztj h.o.t
 refine ⟨⟨ha,fun t t0 t1 => ?_,fun t t0 t1 n => ?_,fun k d hu d0 d1 => ?_⟩,fun d d0 d1 => ?_⟩
 ·rw [et]
  rcases p.t t t0 t1 with hz | ⟨n,hx⟩
  ·exact .inl hz
  ·refine .inr ⟨n,hx.st,by rw [h.o.g.usd]; exact hx.g,hx.n,hx.m,hx.m0,hx.s,hx.u,hx.l1,hx.l2,fun h1 => ?_⟩
   rw [h.f _ _ (zac.1 hx.g).1 (p.l t t0 t1 n).1]
   exact hx.f h1
 ·rw [et] at n ⊢
  rw [h.o.len]
  exact p.l t t0 t1 n
 ·rw [h.o.g.usd] at hu
  rw [h.cs] at d1
  have hs:=p.s k d hu d0 d1
  have k0:=(zac.1 hu).1
  refine ⟨by rw [h.s k d k0 d0]; exact hs.s,fun hz => ?_,fun hz ho=>hon k d hu hz d0 d1 ho⟩
  subst hz
  rw [h.r d d0]
  exact hs.root rfl
 ·rw [h.cs] at d1
  have hc:=p.c d d0 d1
  refine ⟨by rw [h.cs]; exact hc.b,by rw [h.cs]; exact hc.i,by rw [h.cs]; exact hc.c1,by rw [h.cs]; exact hc.c2,by rw [h.cs]; exact hc.no,by rw [h.cs]; exact hc.yes,?_⟩
  rw [h.cs]
  simp only [et]
  intro h0 h1 h2
  obtain ⟨q1,q2⟩:=hc.q h0 h1 h2
  have hu:zad W.groups (tkk W (gi W.cpus d).cur).group=true:=by
   rcases p.t _ h0 hc.c2 with hz | ⟨_,hx⟩
   ·rw [hz.1] at h1; cases h1
   ·exact hx.g
  refine ⟨by rw [h.f _ d (zac.1 hu).1 d0]; exact q1,fun x hx => ?_⟩
  rw [z5f h.o.g] at hx
  obtain ⟨xu,xz⟩:=zym p.a.tree _ hu x hx
  obtain ⟨s1,s2⟩:=q2 x hx
  refine ⟨h.st p.a.tree xu xz d0 s1,?_⟩
  rw [h.o.g.p,h.v x d xu xz d0 s1,h.f _ d (zac.1 (p.a.up xu xz)).1 d0,h.w x d (zac.1 xu).1 d0]
  exact s2
def onEq (W:Wld) (c k:Int):Prop:=(shf W k c).on=(zbc W k c && !dryD W k c)
theorem zagu {W:Wld} (p:Pre W) {k c d:Int} (hu:zad W.groups k=true) (hd:dep 3 W.groups k=d) (d1:1≤d) (c0:0≤c) (c1:c<(W.cpus.length:Int)) :
  LC c W (setSh W k c (zda W k c))∧Pre (setSh W k c (zda W k c))∧onEq (setSh W k c (zda W k c)) c k∧∀g:Int,zad W.groups g=true→g≠k→(gi W.groups k).parent≠g→onEq W c g→onEq (setSh W k c (zda W k c)) c g:=by
 have hz:k≠0:=fun e=>by subst e; rw [zfc] at hd; omega
 obtain ⟨u0,u1,_⟩:=zac.1 hu
 have hl:=p.a.gl
 have hsl:=p.a.sl hu
 have c1':c<((gi W.groups k).shelves.length:Int):=by omega
 have hpu:=p.a.up hu hz
 have hpk:(gi W.groups k).parent≠k:=fun e=>by
  obtain ⟨_,_,_,n,e1,e2,_⟩:=zgj p.a.tree hu hz
  rw [e] at e2; omega
 have e:∀{i j:Int},0≤i→0≤j→shf (setSh W k c (zda W k c)) i j=if k=i∧c=j then zda W k c else shf W i j:=fun hi hj=>zkc u0 u1 c0 c1' hi hj
 have ev:stnd W k c→(zda W k c).v=(shf W k c).v:=fun hs=>by
  simp only [zda]
  split
  ·rw [zadl (by have:=hs.1; omega) hs.2]; omega
  ·rfl
 have eq0:∀{i j:Int},k=i∧c=j→(zda W k c).floor=(shf W i j).floor∧(zda W k c).w=(shf W i j).w∧(zda W k c).sum=(shf W i j).sum:=fun h=>by
  obtain ⟨rfl,rfl⟩:=h; exact ⟨rfl,rfl,rfl⟩
 have hT:=zh0 (W:=W) (g:=k) (c:=c) (s:=zda W k c) u0 u1
 have lc:LC c W (setSh W k c (zda W k c)):=by
  refine ⟨zx0 u0 u1 c0 c1',rfl,fun i j hi hj => ?_,fun i j hi hj => ?_,fun i j hi hj => ?_,fun j hj => ?_,fun i j iu iz hj hs => ?_⟩
  ·rw [e hi hj]; split
   ·rename_i h; exact (eq0 h).1
   ·rfl
  ·rw [e hi hj]; split
   ·rename_i h; exact (eq0 h).2.1
   ·rfl
  ·rw [e hi hj]; split
   ·rename_i h; exact (eq0 h).2.2
   ·rfl
  ·rw [e (Int.le_refl 0) hj,if_neg fun h=>hz h.1]
  ·rw [e (zac.1 iu).1 hj]; split
   ·rename_i h
    obtain ⟨rfl,rfl⟩:=h
    exact ev hs
   ·rfl
 have act:∀g:Int,(gi W.groups k).parent≠g→zbc (setSh W k c (zda W k c)) g c=zbc W g c:=fun g hg=>by
  refine zmd (W:=W) (W':=setSh W k c (zda W k c)) rfl hT fun j hj _ _ hp => ?_
  rw [e (by omega) c0,if_neg]
  rintro ⟨h,_⟩
  exact hg (by rw [h]; exact hp)
 have hoe:onEq (setSh W k c (zda W k c)) c k:=by
  unfold onEq
  rw [e u0 c0,if_pos ⟨rfl,rfl⟩,act k hpk,zqr u0 u1 u0]
  rfl
 refine ⟨lc,p.lc lc (p.a.setSh u0 (by omega)) fun i j iu iz j0 j1 ho => ?_,hoe,fun g gu gk hg h => ?_⟩
 ·by_cases h:k=i∧c=j
  ·obtain ⟨rfl,rfl⟩:=h
   by_cases hs:stnd W k c
   ·exact lc.st p.a.tree hu hz c0 hs
   ·have hoff:(shf W k c).on=false:=by
     cases hb:(shf W k c).on with
     | false=>rfl
     | true=>exact absurd ((p.s k c hu c0 c1).st hz hb) hs
    rw [e u0 c0,if_pos ⟨rfl,rfl⟩] at ho
    have ho:(zbc W k c && !dryD W k c)=true:=ho
    unfold stnd
    rw [hT.p,e u0 c0,if_pos ⟨rfl,rfl⟩,lc.f _ c (zac.1 hpu).1 c0]
    simp only [zda]
    rw [if_pos ⟨ho,hoff⟩]
    have:=zku ((shf W k c).v - (shf W (gi W.groups k).parent c).floor) (shf W k c).w
    omega
  ·rw [e (zac.1 iu).1 j0,if_neg h] at ho
   exact lc.st p.a.tree iu iz j0 ((p.s i j iu j0 j1).st iz ho)
 ·unfold onEq
  have g0:=(zac.1 gu).1
  rw [e g0 c0,if_neg fun h=>gk h.1.symm,act g hg,zqr u0 u1 g0]
  exact h
theorem zagt {W:Wld} (p:Pre W) {c d:Int} (d1:1≤d) (c0:0≤c) (c1:c<(W.cpus.length:Int)) (hI:∀g:Int,zad W.groups g=true→d<dep 3 W.groups g→onEq W c g):∀k:Nat,k≤8 →
  LC c W (zcd W c d k)∧Pre (zcd W c d k)∧∀g:Int,zad W.groups g=true→d<dep 3 W.groups g∨dep 3 W.groups g=d∧g<(k:Int)→onEq (zcd W c d k) c g
 | 0,_=>⟨LC.refl _ _,p,fun g gu h=>hI g gu (by
   rcases h with h | h
   ·exact h
   ·have:=(zac.1 gu).1
    have:=h.2
    omega)⟩
 | k+1,hk=>by
  obtain ⟨a,b,ih⟩:=zagt p d1 c0 c1 hI k (by omega)
  have hl:=b.a.gl
  have hT:=a.o.g
  simp only [zcd]
  split
  ·rename_i hc
   have hu:zad (zcd W c d k).groups (k:Int)=true:=zac.2 ⟨by omega,by omega,hc.1⟩
   obtain ⟨l1,l2,l3,l4⟩:=zagu b hu hc.2 d1 c0 (c:=c) (by rw [a.cs]; exact c1)
   refine ⟨a.trans p.a.tree l1,l2,fun g gu h => ?_⟩
   by_cases e:g=(k:Int)
   ·subst e; exact l3
   ·have hkz:(k:Int)≠0:=fun e=>by have:=hc.2; rw [e,zfc] at this; omega
    obtain ⟨_,_,_,n,e1,e2,_⟩:=zgj b.a.tree hu hkz
    refine l4 g (by rw [hT.usd]; exact gu) e (fun hp => ?_) (ih g gu ?_)
    ·rw [hp,hT.dep] at e2
     have:=hc.2
     omega
    ·rcases h with h | h
     ·exact .inl h
     ·exact .inr ⟨h.1,by have:=h.2; omega⟩
  ·rename_i hc
   refine ⟨a,b,fun g gu h=>ih g gu ?_⟩
   rcases h with h | h
   ·exact .inl h
   ·refine .inr ⟨h.1,?_⟩
    by_cases e:g=(k:Int)
    ·subst e
     exact absurd ⟨by rw [hT.u]; exact (zac.1 gu).2.2,by rw [hT.dep]; exact h.1⟩ hc
    ·have:=h.2
     omega
structure FC (c:Int) (W W':Wld):Prop where
 o:Oth c W W'
 cs:W'.cpus=W.cpus
 on:∀k d:Int,0≤k→0≤d→(shf W' k d).on=(shf W k d).on
 v:∀k d:Int,0≤k→0≤d→(shf W' k d).v=(shf W k d).v
 w:∀k d:Int,0≤k→0≤d→(shf W' k d).w=(shf W k d).w
 s:∀k d:Int,0≤k→0≤d→(shf W' k d).sum=(shf W k d).sum
 up:∀k d:Int,0≤k→0≤d→(shf W k d).floor≤(shf W' k d).floor
 fl:∀k:Int,0≤k→(shf W' k c).floor=(shf W k c).floor∨zfb W k c 20=true∧(shf W' k c).floor=zb6 W k c 20
theorem z6l {W:Wld} (ha:WA W) {c:Int} (c0:0≤c) (c1:c<(W.cpus.length:Int)):∀k:Nat,k≤8→FC c W (zay W c k)∧WA (zay W c k)∧∀g:Int,zad W.groups g=true→g<(k:Int)→zfb W g c 20=true→zb6 W g c 20≤(shf (zay W c k) g c).floor
 | 0,_=>⟨⟨Oth.refl _ _,rfl,fun _ _ _ _=>rfl,fun _ _ _ _=>rfl,fun _ _ _ _=>rfl,fun _ _ _ _=>rfl,fun _ _ _ _=>Int.le_refl _,fun _ _=>.inl rfl⟩,ha,fun g gu h=>by have:=(zac.1 gu).1; omega⟩
 | k+1,hk=>by
  obtain ⟨f,hA,ih⟩:=z6l ha c0 c1 k (by omega)
  have hl:=hA.gl
  have hT:=f.o.g
  have hb:=zab0 f.o.t hT ha.gl (fun i hi=>f.on i c hi c0) (fun i hi=>f.v i c hi c0)
  simp only [zay]
  split
  ·rename_i hc
   have hu:zad (zay W c k).groups (k:Int)=true:=zac.2 ⟨by omega,by omega,hc.1⟩
   have hsl:=hA.sl hu
   have c1':c<((gi (zay W c k).groups (k:Int)).shelves.length:Int):=by rw [hsl,f.cs]; exact c1
   have e:∀{i j:Int},0≤i→0≤j→shf (setSh (zay W c k) (k:Int) c (zw5 (zay W c k) (k:Int) c)) i j=if (k:Int)=i∧c=j then zw5 (zay W c k) (k:Int) c else shf (zay W c k) i j:=fun hi hj=>zkc (by omega) (by omega) c0 c1' hi hj
   refine ⟨⟨f.o.trans (zx0 (by omega) (by omega) c0 c1'),f.cs,fun i j hi hj => ?_,fun i j hi hj => ?_,fun i j hi hj => ?_,fun i j hi hj => ?_,fun i j hi hj => ?_,fun i hi => ?_⟩,hA.setSh (by omega) (by omega),fun g gu hg hB => ?_⟩
   ·rw [e hi hj]; split
    ·rename_i h; obtain ⟨rfl,rfl⟩:=h; exact f.on _ _ hi hj
    ·exact f.on i j hi hj
   ·rw [e hi hj]; split
    ·rename_i h; obtain ⟨rfl,rfl⟩:=h; exact f.v _ _ hi hj
    ·exact f.v i j hi hj
   ·rw [e hi hj]; split
    ·rename_i h; obtain ⟨rfl,rfl⟩:=h; exact f.w _ _ hi hj
    ·exact f.w i j hi hj
   ·rw [e hi hj]; split
    ·rename_i h; obtain ⟨rfl,rfl⟩:=h; exact f.s _ _ hi hj
    ·exact f.s i j hi hj
   ·rw [e hi hj]; split
    ·rename_i h; obtain ⟨rfl,rfl⟩:=h
     have h1:=f.up (k:Int) c hi hj
     have h2:=hc.2.2
     show _≤zb6 (zay W c k) (k:Int) c 20
     omega
    ·exact f.up i j hi hj
   ·rw [e hi c0]; split
    ·rename_i h; obtain ⟨rfl,_⟩:=h
     refine .inr ⟨(hb _).1▸hc.2.1,?_⟩
     show zb6 (zay W c k) (k:Int) c 20=_
     exact (hb _).2
    ·exact f.fl i hi
   ·have g0:=(zac.1 gu).1
    rw [e g0 c0]
    split
    ·rename_i h; obtain ⟨rfl,_⟩:=h
     show _≤zb6 (zay W c k) (k:Int) c 20
     rw [(hb _).2]; exact Int.le_refl _
    ·rename_i h
     exact ih g gu (by have:g≠(k:Int):=fun e=>h ⟨e.symm,rfl⟩; omega) hB
  ·rename_i hc
   refine ⟨f,hA,fun g gu hg hB => ?_⟩
   by_cases e:g=(k:Int)
   ·subst e
    rw [hT.u,(hb _).1,(hb _).2] at hc
    by_cases h:zb6 W (k:Int) c 20>(shf (zay W c k) (k:Int) c).floor
    ·exact absurd ⟨(zac.1 gu).2.2,hB,h⟩ hc
    ·omega
   ·exact ih g gu (by omega) hB
theorem Oth.active {c d:Int} {W W':Wld} (h:Oth c W W') (d0:0≤d) (hd:d≠c) (g:Int):zbc W' g d=zbc W g d :=
 zmd h.t h.g fun j _ _ _ _=>by rw [h.e _ d (by omega) d0 hd]
theorem Oth.line {c:Int} {W W':Wld} (h:Oth c W W') (ht:zfu W.groups) {t:Int} (hu:zad W.groups (tkk W t).group=true) (d0:0≤(tkk W t).cpu) (hd:(tkk W t).cpu≠c):zij W' t=zij W t:=by
 unfold zij zn6
 rw [ztj h.t,z5f h.g]
 congr 1
 rw [Bool.eq_iff_iff,List.all_eq_true,List.all_eq_true]
 refine forall_congr' fun x=>forall_congr' fun hx => ?_
 rw [h.e x _ (zac.1 (zym ht _ hu x hx).1).1 d0 hd]
end Go.Proofs.YthhmnlcimojhlaaGreatDoor
namespace Go.Proofs.YthhmnlcimojhlaaGreatDoor
open Go.RowKit
set_option linter.unusedVariables false
set_option linter.unusedSimpArgs false
set_option maxRecDepth 10000
theorem zks {α β:Type} [Inhabited α] {f:α→β} (l:List α) (k:Int) {x:α} (h:f x=f (gi l k)) (i:Int):f (gi (l.set k.toNat x) i)=f (gi l i):=by
 unfold gi at *
 simp only [List.getD_eq_getElem?_getD,List.getElem?_set] at *
 by_cases e:k.toNat=i.toNat
 ·rw [if_pos e]
  split
  ·rw [←e]; simpa using h
  ·rename_i hl
   have:l[i.toNat]? = none:=List.getElem?_eq_none_iff.2 (by omega)
   rw [this]
 ·rw [if_neg e]
structure Sta (W W':Wld):Prop where
 g:zcj W.groups W'.groups
 m:∀i:Int,(gi W'.groups i).cpus=(gi W.groups i).cpus
 w:∀i:Int,(gi W'.groups i).weight=(gi W.groups i).weight
 len:W'.cpus.length=W.cpus.length
 u:∀i:Int,(gi W'.cpus i).up=(gi W.cpus i).up
theorem Sta.trans {A B C:Wld} (h:Sta A B) (k:Sta B C):Sta A C:=⟨h.g.trans k.g,fun i=>(k.m i).trans (h.m i),fun i=>(k.w i).trans (h.w i),k.len.trans h.len,fun i=>(k.u i).trans (h.u i)⟩
end Go.Proofs.YthhmnlcimojhlaaGreatDoor
namespace Go.Proofs.YthhmnlcimojhlaaGreatDoor
open Go.RowKit
set_option linter.unusedVariables false
set_option linter.unusedSimpArgs false
set_option maxRecDepth 10000
theorem zagw {W:Wld} (ha:WA W) {k c d:Int} (hu:zad W.groups k=true) (hd:dep 3 W.groups k=d) (d1:1≤d) (c0:0≤c) (c1:c<(W.cpus.length:Int)) :
  WA (setSh W k c (zda W k c))∧onEq (setSh W k c (zda W k c)) c k∧∀g:Int,zad W.groups g=true→g≠k→(gi W.groups k).parent≠g→onEq W c g→onEq (setSh W k c (zda W k c)) c g:=by
 have hz:k≠0:=fun e=>by subst e; rw [zfc] at hd; omega
 obtain ⟨u0,u1,_⟩:=zac.1 hu
 have hl:=ha.gl
 have hsl:=ha.sl hu
 have c1':c<((gi W.groups k).shelves.length:Int):=by omega
 have hpk:(gi W.groups k).parent≠k:=fun e=>by
  obtain ⟨_,_,_,n,e1,e2,_⟩:=zgj ha.tree hu hz
  rw [e] at e2; omega
 have e:∀{i j:Int},0≤i→0≤j→shf (setSh W k c (zda W k c)) i j=if k=i∧c=j then zda W k c else shf W i j:=fun hi hj=>zkc u0 u1 c0 c1' hi hj
 have hT:=zh0 (W:=W) (g:=k) (c:=c) (s:=zda W k c) u0 u1
 have act:∀g:Int,(gi W.groups k).parent≠g→zbc (setSh W k c (zda W k c)) g c=zbc W g c:=fun g hg=>by
  refine zmd (W:=W) (W':=setSh W k c (zda W k c)) rfl hT fun j hj _ _ hp => ?_
  rw [e (by omega) c0,if_neg]
  rintro ⟨h,_⟩
  exact hg (by rw [h]; exact hp)
 refine ⟨ha.setSh u0 (by omega),?_,fun g gu gk hg h => ?_⟩
 ·unfold onEq
  rw [e u0 c0,if_pos ⟨rfl,rfl⟩,act k hpk,zqr u0 u1 u0]
  rfl
 ·unfold onEq
  have g0:=(zac.1 gu).1
  rw [e g0 c0,if_neg fun h=>gk h.1.symm,act g hg,zqr u0 u1 g0]
  exact h
theorem z9u {W:Wld} (ha:WA W) {c d:Int} (d1:1≤d) (c0:0≤c) (c1:c<(W.cpus.length:Int)) (hI:∀g:Int,zad W.groups g=true→d<dep 3 W.groups g→onEq W c g):∀k:Nat,k≤8 →
  WA (zcd W c d k)∧zjj W (zcd W c d k)∧∀g:Int,zad W.groups g=true→d<dep 3 W.groups g∨dep 3 W.groups g=d∧g<(k:Int)→onEq (zcd W c d k) c g
 | 0,_=>⟨ha,zjj.refl _,fun g gu h=>hI g gu (by
   rcases h with h | h
   ·exact h
   ·have:=(zac.1 gu).1
    have:=h.2
    omega)⟩
 | k+1,hk=>by
  obtain ⟨a,b,ih⟩:=z9u ha d1 c0 c1 hI k (by omega)
  have hl:=a.gl
  have hT:=b.g
  simp only [zcd]
  split
  ·rename_i hc
   have hu:zad (zcd W c d k).groups (k:Int)=true:=zac.2 ⟨by omega,by omega,hc.1⟩
   obtain ⟨l1,l3,l4⟩:=zagw a hu hc.2 d1 c0 (c:=c) (by rw [b.c]; exact c1)
   refine ⟨l1,b.trans (zl2 (by omega) (by omega)),fun g gu h => ?_⟩
   by_cases e:g=(k:Int)
   ·subst e; exact l3
   ·have hkz:(k:Int)≠0:=fun e=>by have:=hc.2; rw [e,zfc] at this; omega
    obtain ⟨_,_,_,n,e1,e2,_⟩:=zgj a.tree hu hkz
    refine l4 g (by rw [hT.usd]; exact gu) e (fun hp => ?_) (ih g gu ?_)
    ·rw [hp,hT.dep] at e2
     have:=hc.2
     omega
    ·rcases h with h | h
     ·exact .inl h
     ·exact .inr ⟨h.1,by have:=h.2; omega⟩
  ·rename_i hc
   refine ⟨a,b,fun g gu h=>ih g gu ?_⟩
   rcases h with h | h
   ·exact .inl h
   ·refine .inr ⟨h.1,?_⟩
    by_cases e:g=(k:Int)
    ·subst e
     exact absurd ⟨by rw [hT.u]; exact (zac.1 gu).2.2,by rw [hT.dep]; exact h.1⟩ hc
    ·have:=h.2
     omega
theorem zadn {W:Wld} (ha:WA W) {c:Int} (c0:0≤c) (c1:c<(W.cpus.length:Int)):WA (zbl W c)∧zjj W (zbl W c)∧∀g:Int,zad W.groups g=true→g≠0→onEq (zbl W c) c g:=by
 have key:∀j:Nat,j≤3→WA (zfn W c j)∧zjj W (zfn W c j)∧∀g:Int,zad W.groups g=true→3 - (j:Int)<dep 3 W.groups g→onEq (zfn W c j) c g:=by
  intro j
  induction j with
  | zero=>exact fun _=>⟨ha,zjj.refl _,fun g gu h=>by have:=(z1k ha gu).2; omega⟩
  | succ j ih =>
   intro hj
   obtain ⟨a,b,h⟩:=ih (by omega)
   have hT:=b.g
   obtain ⟨a2,b2,h2⟩:=z9u a (c:=c) (d:=3 - (j:Int)) (by omega) c0 (by rw [b.c]; exact c1) (fun g gu hd=>h g (by rwa [hT.usd] at gu) (by rwa [hT.dep] at hd)) 8 (Nat.le_refl _)
   refine ⟨a2,b.trans b2,fun g gu hd=>h2 g (by rw [hT.usd]; exact gu) ?_⟩
   rw [hT.dep]
   have:=(zac.1 gu).2.1
   have:=ha.gl
   by_cases e:dep 3 W.groups g=3 - (j:Int)
   ·exact .inr ⟨e,by omega⟩
   ·exact .inl (by omega)
 obtain ⟨a,b,h⟩:=key 3 (Nat.le_refl _)
 refine ⟨a,b,fun g gu gz=>h g gu ?_⟩
 obtain ⟨_,_,_,n,e1,_⟩:=zgj ha.tree gu gz
 omega
theorem z67 {W:Wld} (ha:WA W) {c d:Int} (d1:1≤d) (c0:0≤c) (c1:c<(W.cpus.length:Int)):∀k:Nat,k≤8→Oth c W (zcd W c d k)∧WA (zcd W c d k)
 | 0,_=>⟨Oth.refl _ _,ha⟩
 | k+1,hk=>by
  obtain ⟨o,a⟩:=z67 ha d1 c0 c1 k (by omega)
  have hl:=a.gl
  simp only [zcd]
  split
  ·rename_i hc
   have hu:zad (zcd W c d k).groups (k:Int)=true:=zac.2 ⟨by omega,by omega,hc.1⟩
   exact ⟨o.trans (zx0 (by omega) (by omega) c0 (by rw [a.sl hu,o.len]; exact c1)),a.setSh (by omega) (by omega)⟩
  ·exact ⟨o,a⟩
theorem zabc {W:Wld} (ha:WA W) {c:Int} (c0:0≤c) (c1:c<(W.cpus.length:Int)):Oth c W (zbl W c):=by
 have key:∀j:Nat,j≤3→Oth c W (zfn W c j)∧WA (zfn W c j):=by
  intro j
  induction j with
  | zero=>exact fun _=>⟨Oth.refl _ _,ha⟩
  | succ j ih =>
   intro hj
   obtain ⟨o,a⟩:=ih (by omega)
   obtain ⟨o2,a2⟩:=z67 a (c:=c) (d:=3 - (j:Int)) (by omega) c0 (by rw [o.len]; exact c1) 8 (Nat.le_refl _)
   exact ⟨o.trans o2,a2⟩
 exact (key 3 (Nat.le_refl _)).1
structure Dm (W:Wld) (c:Int):Prop where
 on:∀k:Int,zad W.groups k=true→k≠0→onEq W c k
 cu:0≤(gi W.cpus c).cur→(tkk W (gi W.cpus c).cur).cpu=c∧zij W (gi W.cpus c).cur=true
theorem zakz {W:Wld} (wp:WldP W) {c:Int} (c0:0≤c) (c1:c<(W.cpus.length:Int)):Dm W c :=
 ⟨fun k hu hz=>(zah9 wp hu c0 c1).on hz,fun h=>⟨((wp.c c c0 c1).yes h).2.2.2.1,((wp.c c c0 c1).yes h).2.2.2.2.1⟩⟩
theorem Dm.oth {K:Int} {c d:Int} {W W':Wld} (h:Dm W d) (sw:SW K W) (o:Oth c W W') (d0:0≤d) (d1:d<(W.cpus.length:Int)) (hd:d≠c):Dm W' d:=by
 refine ⟨fun k hu hz => ?_,fun h0 => ?_⟩
 ·rw [o.g.usd] at hu
  have k0:=(zac.1 hu).1
  have:=h.on k hu hz
  unfold onEq at this ⊢
  rw [o.e k d k0 d0 hd,o.active d0 hd,zah3 (o.b k k0)]
  exact this
 ·rw [o.cp d d0 hd] at h0 ⊢
  rw [ztj o.t]
  obtain ⟨h1,h2⟩:=h.cu h0
  refine ⟨h1,?_⟩
  have hs:(tkk W (gi W.cpus d).cur).state=1:=by
   unfold zij at h2
   rw [Bool.and_eq_true] at h2
   exact eq_of_beq h2.1
  have hu:=(sw.t _ h0 (sw.cu d d0 d1).2 (by rw [hs]; decide)).1
  rw [o.line sw.a.tree hu (by rw [h1]; exact d0) (by rw [h1]; exact hd)]
  exact h2
theorem zaab {K:Int} {W:Wld} (sw:SW K W) {c:Int} (c0:0≤c) (c1:c<(W.cpus.length:Int)):Oth c W (zp9 W c)∧Dm (zp9 W c) c:=by
 obtain ⟨p1,os,hon⟩:=zadn sw.a c0 c1
 have ol:=zabc sw.a c0 c1
 obtain ⟨f,hA,_⟩:=z6l p1 c0 (c:=c) (by rw [os.c]; exact c1) 8 (Nat.le_refl _)
 have f:FC c (zbl W c) (zbz (zbl W c) c):=f
 have hon:∀g:Int,zad (zbl W c).groups g=true→g≠0→onEq (zbl W c) c g:=fun g gu gz=>hon g (by rwa [os.g.usd] at gu) gz
 have hdef:zp9 W c=if z0a (zbz (zbl W c) c) c=true then endW (zbz (zbl W c) c) c else zbz (zbl W c) c:=rfl
 have hO:Oth c W (zbz (zbl W c) c):=ol.trans f.o
 have hFc:(zbz (zbl W c) c).cpus.length=W.cpus.length:=hO.len
 have hT:=f.o.g
 have honF:∀k:Int,zad (zbz (zbl W c) c).groups k=true→k≠0→onEq (zbz (zbl W c) c) c k:=fun k hu hz=>by
  rw [hT.usd] at hu
  have k0:=(zac.1 hu).1
  have:=hon k hu hz
  unfold onEq at this ⊢
  rw [f.on k c k0 c0,zmd f.o.t hT fun j _ _ _ _=>f.on _ c (by omega) c0,zah3 (f.o.b k k0)]
  exact this
 rw [hdef]
 clear hdef
 generalize zbz (zbl W c) c=F at honF hO hFc
 have cF:c<(F.cpus.length:Int):=by rw [hFc]; exact c1
 split
 ·refine ⟨hO.trans (zag6 c0 cF),honF,fun h0 => ?_⟩
  rw [show gi (endW F c).cpus c=endC (gi F.cpus c) from (zba _ _ c0 cF c0).trans (if_pos rfl)] at h0
  have h0:(0:Int)≤-1:=h0
  omega
 ·rename_i hg
  have hg:z0a F c=false:=by simpa using hg
  refine ⟨hO,honF,fun h0 => ?_⟩
  unfold z0a at hg
  rw [decide_eq_true h0,Bool.true_and,Bool.or_eq_false_iff] at hg
  exact ⟨by simpa using hg.1,by simpa using hg.2⟩
theorem zaaa {K:Int} {W:Wld} (sw:SW K W) (hK:0≤K):∀c:Nat,c≤W.cpus.length→∀d:Int,0≤d→d<(c:Int)→Dm (zkk W c) d
 | 0,_=>fun d a b=>by omega
 | c+1,hc=>fun d d0 d1=>by
  obtain ⟨s1,f1⟩:=zov sw hK c (by omega)
  obtain ⟨o,dm⟩:=zaab s1 (c:=(c:Int)) (by omega) (by rw [f1.c]; omega)
  by_cases h:d=(c:Int)
  ·subst h; exact dm
  ·exact (zaaa sw hK c (by omega) d d0 (by omega)).oth s1 o d0 (by rw [f1.c]; omega) h
theorem zaen {K:Int} {W:Wld} (sw:SW K W) (hK:0≤K) {d:Int} (d0:0≤d) (d1:d<(W.cpus.length:Int)):Dm (zao W) d:=by
 obtain ⟨s1,o1⟩:=zly (F:=K) (K:=K+lagB) (sw.sf.mono (Int.le_refl _) (by simp only [lagB]; omega)) (Int.le_refl _) W.cpus.length (Nat.le_refl _)
 obtain ⟨s2,b2⟩:=zkt s1 8 (Nat.le_refl _)
 exact zaaa s2.w (by simp only [lagB]; omega) W.cpus.length (by show W.cpus.length≤(zd5 (zes W W.cpus.length) 8).cpus.length; rw [b2.c,o1.c]; exact Nat.le_refl _) d d0 d1
structure zaii (W:Wld) (t c:Int):Prop where
 t0:0≤t
 t1:t<12
 st:(tkk W t).state=1
 cpu:(tkk W t).cpu=c
 on:∀x∈zdb W.groups (tkk W t).group,(shf W x c).on=true
theorem zady {W:Wld} (ha:WA W) {c:Int} (f:Nat):∀g:Int,zad W.groups g=true→(4 - dep 3 W.groups g).toNat=f→(∀x∈zdb W.groups g,(shf W x c).on=true)→0≤zxw W g c→zaii W (zxw W g c) c:=by
 induction f with
 | zero =>
  intro g hu hf
  have:=z1k ha hu
  omega
 | succ f ih =>
  intro g hu hf hp h
  rw [zxx ha hu] at h ⊢
  by_cases h1:za5 W g c<0
  ·rw [if_pos h1] at h; omega
  ·rw [if_neg h1] at h ⊢
   by_cases h2:za5 W g c<12
   ·rw [if_pos h2] at h ⊢
    have hm:memP W g c (za5 W g c).toNat=true:=by
     rcases zdv (memP W g c) (memV W c) 20 with ⟨a,_⟩ | ⟨_,_,a,_⟩
     ·unfold za5 at h1; omega
     ·exact a
    rw [zpo (by omega)] at hm
    unfold actT at hm
    rw [show (((za5 W g c).toNat:Nat):Int)=za5 W g c by omega] at hm
    simp only [Bool.and_eq_true,beq_iff_eq] at hm
    refine ⟨h,h2,hm.1.1,hm.2,?_⟩
    rw [show (tkk W (za5 W g c)).group=g from hm.1.2]
    exact hp
   ·rw [if_neg h2] at h ⊢
    obtain ⟨k1,k2,k3,k4⟩:=zqv ha hu (g:=g) (c:=c) (by omega)
    have hm:memP W g c (za5 W g c).toNat=true:=by
     rcases zdv (memP W g c) (memV W c) 20 with ⟨a,_⟩ | ⟨_,_,a,_⟩
     ·unfold za5 at h1; omega
     ·exact a
    rw [show (za5 W g c).toNat=12+(za5 W g c - 12).toNat by omega,zra] at hm
    unfold actG at hm
    rw [show (((za5 W g c - 12).toNat:Nat):Int)=za5 W g c - 12 by omega] at hm
    simp only [Bool.and_eq_true,beq_iff_eq] at hm
    refine ih _ k1 (by omega) (fun x hx => ?_) h
    rw [zdz ha.tree k1 k2] at hx
    rcases List.mem_cons.1 hx with e | e
    ·rw [e]; exact hm.2
    ·rw [hm.1.2.2] at e; exact hp x e
theorem zad8 {W:Wld} (ha:WA W) {c:Int} (h12:(gi W.cpus c).cur<12) (hcu:0≤(gi W.cpus c).cur→(tkk W (gi W.cpus c).cur).cpu=c∧zij W (gi W.cpus c).cur=true) (h:¬zai W c<0):zaii W (zai W c) c:=by
 unfold zai at h ⊢
 split
 ·rename_i hc
  obtain ⟨h1,h2⟩:=hcu hc.1
  unfold zij zn6 at h2
  rw [Bool.and_eq_true,List.all_eq_true,h1] at h2
  exact ⟨hc.1,h12,eq_of_beq h2.1,h1,h2.2⟩
 ·rename_i hc
  rw [if_neg hc] at h
  exact zady ha _ 0 ha.root rfl (fun x hx=>by rw [show zdb W.groups 0=[] from zcf _ _] at hx; cases hx) (by omega)
end Go.Proofs.YthhmnlcimojhlaaGreatDoor
namespace Go.Proofs.YthhmnlcimojhlaaGreatDoor
open Go.RowKit
set_option linter.unusedVariables false
set_option linter.unusedSimpArgs false
set_option maxRecDepth 10000
structure SumC (W W':Wld):Prop where
 n:W'.now=W.now
 t:W'.tasks=W.tasks
 s:∀i d:Int,(shf W' i d).sum=(shf W i d).sum
 g:∀i:Int,(gi W'.groups i).sum=(gi W.groups i).sum
 b:∀i:Int,(gi W'.cpus i).busy=(gi W.cpus i).busy
 i:∀i:Int,(gi W'.cpus i).idle=(gi W.cpus i).idle
 u:∀i:Int,(gi W'.cpus i).up=(gi W.cpus i).up
 r:∀i:Int,(gi W'.cpus i).ran=(gi W.cpus i).ran∨(gi W'.cpus i).ran=0
theorem SumC.refl (W:Wld):SumC W W:=⟨rfl,rfl,fun _ _=>rfl,fun _=>rfl,fun _=>rfl,fun _=>rfl,fun _=>rfl,fun _=>.inl rfl⟩
theorem SumC.trans {A B C:Wld} (h:SumC A B) (k:SumC B C):SumC A C :=
 ⟨k.n.trans h.n,k.t.trans h.t,fun i d=>(k.s i d).trans (h.s i d),fun i=>(k.g i).trans (h.g i),fun i=>(k.b i).trans (h.b i),fun i=>(k.i i).trans (h.i i),fun i=>(k.u i).trans (h.u i),fun i=>by
  rcases k.r i with e | e
  ·rcases h.r i with e2 | e2
   ·exact .inl (e.trans e2)
   ·exact .inr (e.trans e2)
  ·exact .inr e⟩
theorem zaie (W:Wld) {g c:Int} {s:Shf} (h:s.sum=(shf W g c).sum):SumC W (setSh W g c s) :=
 ⟨rfl,rfl,fun i d=>zks (f:=fun G:Grp=>(gi G.shelves d).sum) W.groups g (x:={ gi W.groups g with shelves:=(gi W.groups g).shelves.set c.toNat s }) (zks (f:=Shf.sum) (gi W.groups g).shelves c h d) i,fun i=>zks (f:=Grp.sum) W.groups g (x:={ gi W.groups g with shelves:=(gi W.groups g).shelves.set c.toNat s }) rfl i,fun _=>rfl,fun _=>rfl,fun _=>rfl,fun _=>.inl rfl⟩
theorem zaid (W:Wld) (g:Int) (b:Bnd):SumC W (setBd W g b) :=
 ⟨rfl,rfl,fun i d=>zks (f:=fun G:Grp=>(gi G.shelves d).sum) W.groups g (x:={ gi W.groups g with band:=b }) rfl i,fun i=>zks (f:=Grp.sum) W.groups g (x:={ gi W.groups g with band:=b }) rfl i,fun _=>rfl,fun _=>rfl,fun _=>rfl,fun _=>.inl rfl⟩
theorem zacu {α:Type} [Inhabited α] (l:List α) (k:Int) (x:α) (i:Int):gi (l.set k.toNat x) i=gi l i∨gi (l.set k.toNat x) i=x:=by
 unfold gi
 simp only [List.getD_eq_getElem?_getD,List.getElem?_set]
 split
 ·split
  ·exact .inr rfl
  ·rename_i e hl
   refine .inl ?_
   rw [show l[i.toNat]? = none from List.getElem?_eq_none_iff.2 (by omega)]
 ·exact .inl rfl
theorem zaer (W:Wld) (c:Int):SumC W (endW W c) :=
 ⟨rfl,rfl,fun _ _=>rfl,fun _=>rfl,fun i=>zks (f:=Cpu.busy) W.cpus c (x:=endC (gi W.cpus c)) rfl i,fun i=>zks (f:=Cpu.idle) W.cpus c (x:=endC (gi W.cpus c)) rfl i,fun i=>zks (f:=Cpu.up) W.cpus c (x:=endC (gi W.cpus c)) rfl i,fun i=>by
  rcases zacu W.cpus c (endC (gi W.cpus c)) i with e | e
  ·exact .inl (by show (gi (W.cpus.set c.toNat (endC (gi W.cpus c))) i).ran=_; rw [e])
  ·exact .inr (by show (gi (W.cpus.set c.toNat (endC (gi W.cpus c))) i).ran=0; rw [e]; rfl)⟩
theorem zyx (W:Wld) (c d:Int):∀k:Nat,SumC W (zcd W c d k)
 | 0=>SumC.refl _
 | k+1=>by
  simp only [zcd]
  split
  ·exact (zyx W c d k).trans (zaie _ rfl)
  ·exact zyx W c d k
theorem zs0 (W:Wld) (c:Int):∀j:Nat,SumC W (zfn W c j)
 | 0=>SumC.refl _
 | j+1=>(zs0 W c j).trans (zyx _ _ _ _)
theorem z18 (W:Wld):∀c:Nat,SumC W (zes W c)
 | 0=>SumC.refl _
 | c+1=>(z18 W c).trans (zs0 (zes W c) (c:Int) 3)
theorem zyv (W:Wld) (k:Int):∀c:Nat,SumC W (zdm W k c)
 | 0=>SumC.refl _
 | c+1=>by
  simp only [zdm]
  split
  ·exact (zyv W k c).trans (zaid _ _ _)
  ·exact zyv W k c
theorem zyw (W:Wld):∀k:Nat,SumC W (zd5 W k)
 | 0=>SumC.refl _
 | k+1=>by
  simp only [zd5]
  split
  ·exact (zyw W k).trans (zyv _ _ _)
  ·exact zyw W k
theorem zsz (W:Wld) (c:Int):∀k:Nat,SumC W (zay W c k)
 | 0=>SumC.refl _
 | k+1=>by
  simp only [zay]
  split
  ·exact (zsz W c k).trans (zaie _ rfl)
  ·exact zsz W c k
theorem zaes (W:Wld) (c:Int):SumC W (zp9 W c):=by
 have h:=(zs0 W c 3).trans (zsz (zbl W c) c 8)
 unfold zp9
 split
 ·exact h.trans (zaer _ _)
 ·exact h
theorem z7t (W:Wld):∀c:Nat,SumC W (zkk W c)
 | 0=>SumC.refl _
 | c+1=>(z7t W c).trans (zaes (zkk W c) (c:Int))
theorem zabn (W:Wld):SumC W (zao W):=((z18 W W.cpus.length).trans (zyw (zes W W.cpus.length) 8)).trans (z7t (zw8 (zes W W.cpus.length)) W.cpus.length)
structure RB (S:Int) (W:Wld):Prop where
 n:W.now≤50000000000000000
 t:∀t:Int,0≤t→t<12→0≤(tkk W t).sum∧(tkk W t).sum≤S∧0≤(tkk W t).used∧(tkk W t).used≤S
 s:∀k c:Int,zad W.groups k=true→0≤c→c<(W.cpus.length:Int)→0≤(shf W k c).sum∧(shf W k c).sum≤S
 g:∀k:Int,zad W.groups k=true→0≤(gi W.groups k).sum∧(gi W.groups k).sum≤S
 c:∀c:Int,0≤c→c<(W.cpus.length:Int)→0≤(gi W.cpus c).busy∧(gi W.cpus c).busy≤S∧0≤(gi W.cpus c).idle∧(gi W.cpus c).idle≤50000000000000000∧0≤(gi W.cpus c).ran∧(gi W.cpus c).ran≤149
theorem RB.sum {S:Int} {W W':Wld} (h:RB S W) (k:SumC W W') (hT:zcj W.groups W'.groups) (hl:W'.cpus.length=W.cpus.length):RB S W':=by
 refine ⟨by rw [k.n]; exact h.n,fun t a b=>by rw [ztj k.t]; exact h.t t a b,fun i c u a b => ?_,fun i u => ?_,fun c a b => ?_⟩
 ·rw [hT.usd] at u
  rw [hl] at b
  rw [k.s]; exact h.s i c u a b
 ·rw [hT.usd] at u
  rw [k.g]; exact h.g i u
 ·rw [hl] at b
  have:=h.c c a b
  rw [k.b,k.i]
  refine ⟨this.1,this.2.1,this.2.2.1,this.2.2.2.1,?_⟩
  rcases k.r c with e | e
  ·rw [e]; exact this.2.2.2.2
  ·rw [e]; exact ⟨by omega,by omega⟩
theorem zak6 {W:Wld} (wp:WldP W) (r:z2b W):RB zb2 W:=by
 have hl:=wp.a.gl
 have ht:=wp.a.t
 refine ⟨r.n,fun t a b => ?_,fun k c u a b => ?_,fun k u => ?_,fun c a b => ?_⟩
 ·have h:=r.t t a (by omega)
  rcases wp.t t a b with hz | ⟨_,hx⟩
  ·rw [hz.2]; decide
  ·exact ⟨(zl6.1 hx.s).1,h.2.1,(zl6.1 hx.u).1,h.2.2⟩
 ·obtain ⟨u0,u1,_⟩:=zac.1 u
  have hs:=wp.a.sl u
  exact ⟨(zl6.1 (zah9 wp u a b).s).1,(r.s k c u0 u1 a (by omega)).2.2⟩
 ·obtain ⟨u0,u1,hg⟩:=wp.a.u u
  exact ⟨(zl6.1 hg.s).1,r.g k u0 (by omega)⟩
 ·have hc:=wp.c c a b
  have hr:=r.c c a b
  refine ⟨(zl6.1 hc.b).1,hr.1,(zl6.1 hc.i).1,hr.2,?_⟩
  by_cases h:(gi W.cpus c).cur<0
  ·rw [hc.no h]; decide
  ·have:=hc.yes (by omega); omega
theorem zahn {b:Bnd} (h:BndP b) {c:Int} (c0:0≤c) (c1:c<(b.locals.length:Int)):BndP (zc1 b c).1∧(zc1 b c).1.locals.length=b.locals.length∧(zc1 b c).1.quota=b.quota:=by
 unfold zc1
 split
 ·exact ⟨h,rfl,rfl⟩
 ·rename_i hn
  have hm:=z4l h.p1
  have he:=h.each c c0 c1
  have hs:=zu0 b.locals c (minI 20 b.pool) c0 c1 b.locals.length
  rw [if_pos c1] at hs
  have p2:=h.p2
  have su:=h.sum
  have dl:=h.dl
  refine ⟨⟨h.q1,h.q2,?_,?_,?_,?_,?_,h.s1,h.s2,fun d d0 d1 => ?_,?_⟩,by simp,rfl⟩
  ·simp only [List.length_set]; exact h.l1
  ·simp only [List.length_set]; exact h.l2
  ·simp only [List.length_set]; exact h.dl
  ·show 0≤b.pool - minI 20 b.pool; omega
  ·show b.pool - minI 20 b.pool≤b.quota; omega
  ·simp only [List.length_set] at d1
   have hd:=h.each d d0 d1
   show 0≤gi (b.locals.set c.toNat (minI 20 b.pool)) d∧gi (b.locals.set c.toNat (minI 20 b.pool)) d≤b.quota∧(gi (b.dry.set c.toNat (minI 20 b.pool==0)) d=true→gi (b.locals.set c.toNat (minI 20 b.pool)) d=0∧b.pool - minI 20 b.pool=0)
   rw [zba _ _ c0 c1 d0,zba _ _ c0 (by omega) d0]
   have hz:minI 20 b.pool=0→b.pool=0:=fun e=>by unfold minI at e; split at e <;> omega
   by_cases e:c=d
   ·subst e
    rw [if_pos rfl,if_pos rfl]
    refine ⟨hm.1,by omega,fun hd0 => ?_⟩
    have e0:minI 20 b.pool=0:=eq_of_beq hd0
    have:=hz e0
    exact ⟨e0,by omega⟩
   ·rw [if_neg e,if_neg e]
    refine ⟨hd.1,hd.2.1,fun hd0 => ?_⟩
    have:=hd.2.2 hd0
    exact ⟨this.1,by omega⟩
  ·show b.pool - minI 20 b.pool+b.spent+sumI (b.locals.set c.toNat (minI 20 b.pool)) (b.locals.set c.toNat (minI 20 b.pool)).length=b.quota
   rw [List.length_set,hs]
   omega
theorem zaep {b:Bnd} (h:BndP b) {c n:Int} (c0:0≤c) (c1:c<(b.locals.length:Int)):BndP (zfo b c n).1∧(zfo b c n).1.locals.length=b.locals.length∧(zfo b c n).1.quota=b.quota:=by
 unfold zfo
 split
 ·exact ⟨h,rfl,rfl⟩
 ·rename_i hn
  have hs:=zu0 b.locals c (gi b.locals c - n) c0 c1 b.locals.length
  rw [if_pos c1] at hs
  have hnn:=(z80 (fun d d0 d1=>(h.each d d0 d1).1) c0 b.locals.length (Nat.le_refl _)).2 c1
  have p1:=h.p1
  have su:=h.sum
  have s1:=h.s1
  have dl:=h.dl
  have hn1:¬n<1:=fun e=>hn (.inl e)
  have hn2:¬n>gi b.locals c:=fun e=>hn (.inr e)
  refine ⟨⟨h.q1,h.q2,?_,?_,?_,h.p1,h.p2,?_,?_,fun d d0 d1 => ?_,?_⟩,by simp,rfl⟩
  ·simp only [List.length_set]; exact h.l1
  ·simp only [List.length_set]; exact h.l2
  ·simp only [List.length_set]; exact h.dl
  ·show 0≤b.spent+n; omega
  ·show b.spent+n≤b.quota; omega
  ·simp only [List.length_set] at d1
   have hd:=h.each d d0 d1
   show 0≤gi (b.locals.set c.toNat (gi b.locals c - n)) d∧gi (b.locals.set c.toNat (gi b.locals c - n)) d≤b.quota∧(gi b.dry d=true→gi (b.locals.set c.toNat (gi b.locals c - n)) d=0∧b.pool=0)
   rw [zba _ _ c0 c1 d0]
   by_cases e:c=d
   ·subst e
    rw [if_pos rfl]
    exact ⟨by omega,by omega,fun hd0=>by have:=(hd.2.2 hd0).1; omega⟩
   ·rw [if_neg e]
    exact hd
  ·show b.pool+(b.spent+n)+sumI (b.locals.set c.toNat (gi b.locals c - n)) (b.locals.set c.toNat (gi b.locals c - n)).length=b.quota
   rw [List.length_set,hs]
   omega
def hldN (b:Bnd) (c:Int):Nat→Nat
 | 0=>0
 | d+1=>hldN b c d+if (d:Int)≠c∧gi b.locals (d:Int)>0 then 1 else 0
def wetN (b:Bnd) (c:Int):Nat:=if gi b.dry c=true then 0 else 1
def phiB (b:Bnd) (c:Int):Nat:=9*hldN b c 4+wetN b c
theorem zacx (b:Bnd) (c:Int):∀n:Nat,hldN b c n≤n
 | 0=>Nat.le_refl _
 | n+1=>by
  have:=zacx b c n
  simp only [hldN]
  split <;> omega
theorem zajg (b:Bnd) (c:Int):phiB b c≤37:=by
 have:=zacx b c 4
 unfold phiB wetN
 split <;> omega
def phiN (W:Wld) (c:Int):Nat→Nat
 | 0=>0
 | k+1=>phiN W c k+phiB (gi W.groups (k:Int)).band c
def phiW (W:Wld) (c:Int):Nat:=phiN W c 8
theorem zsv {W W':Wld} {c:Int} (h:∀k:Nat,k<8→phiB (gi W'.groups (k:Int)).band c≤phiB (gi W.groups (k:Int)).band c):∀k:Nat,k≤8→phiN W' c k≤phiN W c k
 | 0,_=>Nat.le_refl _
 | k+1,hk=>by
  have:=zsv h k (by omega)
  have:=h k (by omega)
  simp only [phiN]
  omega
theorem zad6 {W W':Wld} {c:Int} (h:∀k:Nat,k<8→phiB (gi W'.groups (k:Int)).band c≤phiB (gi W.groups (k:Int)).band c) {j:Nat} (hj:phiB (gi W'.groups (j:Int)).band c<phiB (gi W.groups (j:Int)).band c):∀k:Nat,j<k→k≤8→phiN W' c k<phiN W c k
 | 0,h0,_=>absurd h0 (Nat.not_lt_zero j)
 | k+1,hjk,hk=>by
  have h1:=zsv h k (by omega)
  have h2:=h k (by omega)
  simp only [phiN]
  by_cases e:j=k
  ·subst e; omega
  ·have:=zad6 h hj k (by omega) (by omega)
   omega
theorem zaji (W:Wld) (c:Int):phiW W c≤296:=by
 have key:∀k:Nat,phiN W c k≤37*k:=by
  intro k
  induction k with
  | zero=>exact Nat.le_refl _
  | succ k ih =>
   have:=zajg (gi W.groups (k:Int)).band c
   simp only [phiN]
   omega
 exact key 8
theorem zqz {b b':Bnd} {c:Int} (h:∀d:Nat,(d:Int)≠c→gi b'.locals (d:Int)=gi b.locals (d:Int)):∀n:Nat,hldN b' c n=hldN b c n
 | 0=>rfl
 | n+1=>by
  simp only [hldN]
  rw [zqz h n]
  by_cases e:(n:Int)=c
  ·simp [e]
  ·rw [h n e]
theorem z9t {b b':Bnd} {c:Int} {e:Nat} (he:(e:Int)≠c) (h0:gi b'.locals (e:Int)=0) (h1:gi b.locals (e:Int)>0) (h:∀d:Nat,d≠e→gi b'.locals (d:Int)=gi b.locals (d:Int)):∀n:Nat,hldN b' c n+(if e<n then 1 else 0)=hldN b c n
 | 0=>rfl
 | n+1=>by
  have ih:=z9t he h0 h1 h n
  simp only [hldN]
  by_cases hn:n=e
  ·subst hn
   rw [if_neg (Nat.lt_irrefl n)] at ih
   rw [if_pos (Nat.lt_succ_self n),if_neg (by rintro ⟨_,h⟩; omega),if_pos ⟨he,h1⟩]
   omega
  ·rw [h n hn]
   generalize (if (n:Int)≠c∧gi b.locals (n:Int)>0 then 1 else 0)=y
   by_cases hlt:e<n
   ·rw [if_pos hlt] at ih
    rw [if_pos (by omega)]
    omega
   ·rw [if_neg hlt] at ih
    rw [if_neg (by omega)]
    omega
theorem zag8 {b:Bnd} (h:BndP b) {c:Int} {e:Nat} (e1:(e:Int)<(b.locals.length:Int)) (hp:gi b.locals (e:Int)>0):phiB (zem b (e:Int)) c≤phiB b c:=by
 have hl:=h.l2
 have hset:∀d:Nat,gi (zem b (e:Int)).locals (d:Int)=if e=d then 0 else gi b.locals (d:Int):=fun d=>by
  show gi (b.locals.set (e:Int).toNat 0) (d:Int)=_
  rw [zba _ _ (by omega) e1 (by omega)]
  by_cases h:e=d
  ·subst h; simp
  ·rw [if_neg h,if_neg (by omega)]
 unfold phiB
 by_cases hc:(e:Int)=c
 ·have h1:=zqz (b:=b) (b':=zem b (e:Int)) (c:=c) (fun d hd=>by rw [hset d,if_neg (fun h=>hd (by rw [←h]; exact hc))]) 4
  have hw:gi b.dry c=false:=by
   cases hd:gi b.dry c with
   | false=>rfl
   | true =>
    have:=((h.each c (by omega) (by omega)).2.2 hd).1
    rw [←hc] at this; omega
  rw [h1]
  unfold wetN
  rw [hw]
  split <;> simp
 ·have h1:=z9t (b:=b) (b':=zem b (e:Int)) (c:=c) hc (by rw [hset e,if_pos rfl]) hp (fun d hd=>by rw [hset d,if_neg (fun h=>hd h.symm)]) 4
  rw [if_pos (by omega)] at h1
  have:wetN (zem b (e:Int)) c≤1:=by unfold wetN; split <;> omega
  omega
theorem zag9 {b:Bnd} {c:Int} (c0:0≤c) (c1:c<(b.locals.length:Int)) (hdl:b.dry.length=b.locals.length) (hw:gi b.dry c=false):phiB (zc1 b c).1 c≤phiB b c∧((zc1 b c).2=2→phiB (zc1 b c).1 c<phiB b c)∧((zc1 b c).2≠2→gi (zc1 b c).1.dry c=false):=by
 unfold zc1
 split
 ·exact ⟨Nat.le_refl _,fun h=>(by cases h),fun _=>hw⟩
 ·have h1:=zqz (b:=b) (b':=⟨b.quota,b.pool - minI 20 b.pool,b.spent,b.locals.set c.toNat (minI 20 b.pool),b.dry.set c.toNat (minI 20 b.pool==0)⟩) (c:=c) (fun d hd=>by
   show gi (b.locals.set c.toNat (minI 20 b.pool)) (d:Int)=_
   rw [zba _ _ c0 c1 (by omega),if_neg fun h=>hd h.symm]) 4
  have hd:gi (b.dry.set c.toNat (minI 20 b.pool==0)) c=(minI 20 b.pool==0):=by rw [zba _ _ c0 (by omega) c0,if_pos rfl]
  unfold phiB
  rw [h1]
  unfold wetN
  rw [hw]
  simp only [hd]
  by_cases hm:minI 20 b.pool=0
  ·rw [if_pos (show (minI 20 b.pool==0)=true by rw [hm]; rfl),if_neg (by decide)]
   exact ⟨by omega,fun _=>by omega,fun h=>absurd (if_pos hm) h⟩
  ·have hb:(minI 20 b.pool==0)=false:=by simpa using hm
   rw [hb]
   exact ⟨Nat.le_refl _,fun h=>(by rw [if_neg hm] at h; cases h),fun _=>rfl⟩
theorem zad7 {b:Bnd} {c n:Int} (c0:0≤c) (c1:c<(b.locals.length:Int)):phiB (zfo b c n).1 c=phiB b c:=by
 unfold zfo
 split
 ·rfl
 ·unfold phiB wetN
  rw [zqz (b:=b) (c:=c) (fun d hd=>by
   show gi (b.locals.set c.toNat (gi b.locals c - n)) (d:Int)=_
   rw [zba _ _ c0 c1 (by omega),if_neg fun h=>hd h.symm]) 4]
theorem z7f {F K:Int} {W:Wld} (h:SF F K W) {k:Int} (hu:zad W.groups k=true) (hq:(gi W.groups k).band.quota≠0) (c:Int):∀d:Nat,d≤W.cpus.length→(∀j:Int,0≤j→phiB (gi (zdm W k d).groups j).band c≤phiB (gi W.groups j).band c)
 | 0,_=>fun _ _=>Nat.le_refl _
 | d+1,hd=>by
  have ih:=z7f h hu hq c d (by omega)
  obtain ⟨a,b,q⟩:=zqy h hu hq d (by omega)
  simp only [zdm]
  split
  ·rename_i hc
   have hu':zad (zdm W k d).groups k=true:=by rw [b.g.usd]; exact hu
   obtain ⟨u0,u1,hg⟩:=a.w.a.u hu'
   have hb:=hg.band q
   have hl:=a.w.a.gl
   intro j hj
   show phiB (gi (zau _ k _).groups j).band c≤_
   rw [ze9 u0 (by omega) hj]
   split
   ·rename_i e
    subst e
    exact Nat.le_trans (zag8 hb.1 (by rw [hb.2.1,b.c]; omega) hc.1) (ih k hj)
   ·exact ih j hj
  ·exact ih
theorem z7g {F K:Int} {W:Wld} (h:SF F K W) (c:Int):∀k:Nat,k≤8→∀j:Int,0≤j→phiB (gi (zd5 W k).groups j).band c≤phiB (gi W.groups j).band c
 | 0,_=>fun _ _=>Nat.le_refl _
 | k+1,hk=>by
  have ih:=z7g h c k (by omega)
  obtain ⟨a,b⟩:=zkt h k (by omega)
  have hl:=a.w.a.gl
  simp only [zd5]
  split
  ·rename_i hc
   exact fun j hj=>Nat.le_trans (z7f a (zac.2 ⟨by omega,by omega,hc.1⟩) hc.2 c _ (Nat.le_refl _) j hj) (ih j hj)
  ·exact ih
theorem zab2 {K:Int} {W:Wld} (sw:SW K W) {c:Int} (c0:0≤c) (c1:c<(W.cpus.length:Int)) (i:Int) (hi:0≤i):(gi (zp9 W c).groups i).band=(gi W.groups i).band:=(zaab sw c0 c1).1.b i hi
theorem z57 {K:Int} {W:Wld} (sw:SW K W) (hK:0≤K) (i:Int) (hi:0≤i):∀c:Nat,c≤W.cpus.length→(gi (zkk W c).groups i).band=(gi W.groups i).band
 | 0,_=>rfl
 | c+1,hc=>by
  obtain ⟨s1,f1⟩:=zov sw hK c (by omega)
  rw [show zkk W (c+1)=zp9 (zkk W c) (c:Int) from rfl,zab2 s1 (by omega) (by rw [f1.c]; omega) i hi,z57 sw hK i hi c (by omega)]
theorem zabd {K:Int} {W:Wld} (sw:SW K W) (hK:0≤K) (c:Int):phiW (zao W) c≤phiW W c:=by
 obtain ⟨s1,o1⟩:=zly (F:=K) (K:=K+lagB) (sw.sf.mono (Int.le_refl _) (by simp only [lagB]; omega)) (Int.le_refl _) W.cpus.length (Nat.le_refl _)
 obtain ⟨s2,b2⟩:=zkt s1 8 (Nat.le_refl _)
 refine zsv (fun k hk => ?_) 8 (Nat.le_refl _)
 have h1:(gi (zao W).groups (k:Int)).band=(gi (zd5 (zes W W.cpus.length) 8).groups (k:Int)).band:=z57 s2.w (by simp only [lagB]; omega) (k:Int) (by omega) W.cpus.length (by show W.cpus.length≤(zd5 (zes W W.cpus.length) 8).cpus.length; rw [b2.c,o1.c]; exact Nat.le_refl _)
 rw [h1]
 have h2:=z7g s1 c 8 (Nat.le_refl _) (k:Int) (by omega)
 rw [o1.b (k:Int) (by omega)] at h2
 exact h2
end Go.Proofs.YthhmnlcimojhlaaGreatDoor
namespace Go.Proofs.YthhmnlcimojhlaaGreatDoor
open Go.RowKit
set_option linter.unusedVariables false
set_option linter.unusedSimpArgs false
set_option maxRecDepth 10000
theorem zh6 {a:Array Value} {i j:Nat} {v:Value} (h:i≠j):(a.setIfInBounds i v).getD j undef=a.getD j undef:=by
 rw [Array.getD_eq_getD_getElem?,Array.getD_eq_getD_getElem?,Array.getElem?_setIfInBounds_ne h]
end Go.Proofs.YthhmnlcimojhlaaGreatDoor
namespace Go.Proofs.YthhmnlcimojhlaaGreatDoor
open Go.RowKit
set_option linter.unusedVariables false
set_option linter.unusedSimpArgs false
set_option maxRecDepth 10000
def mkC (k:Int):Cpu:=⟨Int.tmod (k) 3==0,k+1,k+1+1,k+1+1+1,k+1+1+1+1⟩
def zje (n:Nat) (k:Int):List Cpu:=(List.range n).map fun (i:Nat)=>mkC (k+5*(i:Int))
theorem zhd (n:Nat) (k:Int):(zje n k).length=n:=by simp [zje]
theorem z9x {n:Nat} {k:Int} {i:Nat} (h:i<n):gi (zje n k) (i:Int)=mkC (k+5*(i:Int)):=by
 rw [ze4 (by rw [zhd]; exact h)]; simp [zje]
theorem zaa0 {base:Nat} {l:List Cpu} {o:Option Addr} {c:Nat} {k:Int} {w:World} (h:Own encC 5 za1 base w o c l) (hl:l.length≤1048576) (hk:0≤k) (hk2:k≤100000000000000000) :
  Calls Tryz.prog ziu #[.slice o l.length c,.int .i64 k] w fun e w'=>e = .returned (.int .i64 (k+5*(l.length:Int)))∧Own encC 5 za1 base w' o c (zje l.length k)∧ExtX (zaq o) w w':=by
 refine (zwp o l.length c k (R:=fun v w'=>v = .int .i64 (k+5*(l.length:Int))∧Own encC 5 za1 base w' o c (zje l.length k)∧ExtX (zaq o) w w') ?_).mono fun e w' ⟨v,he,hv,h1⟩=>⟨by rw [he,hv],h1⟩
 refine ⟨fun vs w1=>∃(i:Nat),vs=[.int .i64 (k+5*(i:Int)),.int .i64 (i:Int)]∧i≤l.length∧Own encC 5 za1 base w1 o c ((zje l.length k).take i++l.drop i)∧ExtX (zaq o) w w1,zc5 l.length 1,fun wr hx _=>⟨0,by simp,Nat.zero_le _,by simpa using h.ext0 hx,hx.of_nil⟩,?_⟩
 rintro k1 i1 w1 _ ⟨i,he,hi,hO,hX⟩
 simp only [List.cons.injEq,Value.int.injEq,true_and,and_true] at he
 obtain ⟨rfl,rfl⟩:=he
 have hlen:((zje l.length k).take i++l.drop i).length=l.length:=by simp [zhd]; omega
 refine ⟨fun hlt => ?_,fun hge => ?_⟩
 ·have hlt:=of_decide_eq_true hlt
  have hi':(i:Int)<(((zje l.length k).take i++l.drop i).length:Int):=by rw [hlen]; exact hlt
  have hix:Ix o l.length (i:Int):=by have:=hO.ix (i:=(i:Int)) (by omega) hi'; rwa [hlen] at this
  have hset:∀x,(((zje l.length k).take i++l.drop i).set i x).length=l.length:=fun x=>by rw [List.length_set]; exact hlen
  have hgs:∀x,gi (((zje l.length k).take i++l.drop i).set i x) (i:Int)=x:=fun x=>by
   have:=zba ((zje l.length k).take i++l.drop i) x (i:=(i:Int)) (by omega) hi' (j:=(i:Int)) (by omega)
   rw [if_pos rfl,Int.toNat_natCast] at this
   exact this
  have hss:∀x y,(((zje l.length k).take i++l.drop i).set i x).set i y=((zje l.length k).take i++l.drop i).set i y:=fun x y=>by rw [List.set_set]
  generalize hL:(zje l.length k).take i++l.drop i=L at hO hlen hi' hset hgs hss
  have e0:=hO.sto zc9.len (i:=(i:Int)) (by omega) hi' (j:=0) (vs:=[.bool (Int.tmod (k+5*(i:Int)) 3==0)]) (x:=⟨Int.tmod (k+5*(i:Int)) 3==0,(gi L i).cur,(gi L i).ran,(gi L i).busy,(gi L i).idle⟩) rfl (by simp)
  rw [Int.toNat_natCast] at e0
  have e1:=e0.sto zc9.len (i:=(i:Int)) (by omega) (by rw [hset]; exact hlt) (j:=1) (vs:=[.int .i64 (k+5*(i:Int)+1)]) (x:=⟨Int.tmod (k+5*(i:Int)) 3==0,k+5*(i:Int)+1,(gi L i).ran,(gi L i).busy,(gi L i).idle⟩) (by rw [hgs]; rfl) (by simp)
  rw [Int.toNat_natCast,hss] at e1
  have e2:=e1.sto zc9.len (i:=(i:Int)) (by omega) (by rw [hset]; exact hlt) (j:=2) (vs:=[.int .i64 (k+5*(i:Int)+1+1)]) (x:=⟨Int.tmod (k+5*(i:Int)) 3==0,k+5*(i:Int)+1,k+5*(i:Int)+1+1,(gi L i).busy,(gi L i).idle⟩) (by rw [hgs]; rfl) (by simp)
  rw [Int.toNat_natCast,hss] at e2
  have e3:=e2.sto zc9.len (i:=(i:Int)) (by omega) (by rw [hset]; exact hlt) (j:=3) (vs:=[.int .i64 (k+5*(i:Int)+1+1+1)]) (x:=⟨Int.tmod (k+5*(i:Int)) 3==0,k+5*(i:Int)+1,k+5*(i:Int)+1+1,k+5*(i:Int)+1+1+1,(gi L i).idle⟩) (by rw [hgs]; rfl) (by simp)
  rw [Int.toNat_natCast,hss] at e3
  have e4:=e3.sto zc9.len (i:=(i:Int)) (by omega) (by rw [hset]; exact hlt) (j:=4) (vs:=[.int .i64 (k+5*(i:Int)+1+1+1+1)]) (x:=mkC (k+5*(i:Int))) (by rw [hgs]; rfl) (by simp)
  rw [Int.toNat_natCast,hss] at e4
  refine ⟨by decide,hix,hO.wr zc9.len (by simp) (by omega) hi' (j:=0) (by decide),⟨by omega,by omega⟩,hix,e0.wr zc9.len (by simp) (by omega) (by rw [hset]; exact hlt) (j:=1) (by decide),⟨by omega,by omega⟩,hix,e1.wr zc9.len (by simp) (by omega) (by rw [hset]; exact hlt) (j:=2) (by decide),⟨by omega,by omega⟩,hix,e2.wr zc9.len (by simp) (by omega) (by rw [hset]; exact hlt) (j:=3) (by decide),⟨by omega,by omega⟩,hix,e3.wr zc9.len (by simp) (by omega) (by rw [hset]; exact hlt) (j:=4) (by decide),⟨by omega,by omega⟩,⟨by omega,by omega⟩,fun w2 hx2 _=>⟨⟨i+1,by congr 2; omega,by omega,?_,?_⟩,?_⟩⟩
  ·have:L.set i (mkC (k+5*(i:Int)))=(zje l.length k).take (i+1)++l.drop (i+1):=by
    have hi2:i<(zje l.length k).length:=by rw [zhd]; omega
    have hlt':i<l.length:=by omega
    rw [←hL,List.set_append,if_neg (by simp [zhd]; omega),List.length_take,zhd,show i - min i l.length=0 by omega,List.drop_eq_getElem_cons hlt',List.set_cons_zero,List.take_succ_eq_append_getElem hi2,List.append_assoc,List.singleton_append]
    have:=z9x (n:=l.length) (k:=k) hlt'
    rw [ze4 hi2] at this
    rw [this]
   rw [this] at e4
   exact e4.ext0 hx2
  ·exact (((((hX.trans (hO.stoX _ _)).trans (e0.stoX _ _)).trans (e1.stoX _ _)).trans (e2.stoX _ _)).trans (e3.stoX _ _)).trans hx2.of_nil
  ·simp only [zc5,cntM,zd1,List.getElem?_cons_zero,List.getElem?_cons_succ]
   omega
 ·have hge:=of_decide_eq_false hge
  have:i=l.length:=by omega
  subst this
  refine fun w2 hx2=>⟨rfl,?_,hX.trans hx2.of_nil⟩
  have e:(zje l.length k).take l.length++l.drop l.length=zje l.length k:=by
   rw [List.drop_length,List.append_nil,List.take_of_length_le (by rw [zhd]; exact Nat.le_refl _)]
  rw [e] at hO
  exact hO.ext0 hx2
theorem zaax {n:Nat} {o:Option Addr} {c:Nat} {k:Int} {w:World} {bs:List Nat} (h:RdC bs w o (zje n k)) (hl:n≤1048576) (hk:0≤k) (hk2:k≤100000000000000000) :
  zab bs Tryz.prog zis #[.slice o n c,.int .i64 k] w (.int .i64 (k+5*(n:Int))) :=
 zya o n c k fun wr hx=>by
  have h:=(h.ext hx).less (cs:=[]) (by simp)
  refine zq8 n 0 rfl (fun x i=>i≤n∧x=k+5*(i:Int)) ⟨Nat.zero_le _,by simp⟩ fun x i ⟨hi,hx1⟩=>⟨fun hlt => ?_,fun hge => ?_⟩
  ·subst hx1
   have hlt:=of_decide_eq_true hlt
   have hc:=h i (by omega) (by rw [zhd]; exact hlt)
   have hix:Ix o n (i:Int):=by have:=h.ix zep (i:=(i:Int)) (by omega) (by rw [zhd]; exact hlt); rwa [zhd] at this
   rw [z9x (by omega)] at hc
   refine ⟨hix,_,hc.1,by decide,fun hb=>by simp [mkC] at hb,fun _=>⟨⟨by omega,by omega⟩,hix,_,hc.2.1,fun hb=>by simp [mkC] at hb,fun _=>⟨⟨by omega,by omega⟩,hix,_,hc.2.2.1,fun hb=>by simp [mkC] at hb,fun _=>⟨⟨by omega,by omega⟩,hix,_,hc.2.2.2.1,fun hb=>by simp [mkC] at hb,fun _=>⟨⟨by omega,by omega⟩,hix,_,hc.2.2.2.2,fun hb=>by simp [mkC] at hb,fun _=>⟨⟨by omega,by omega⟩,⟨by omega,by omega⟩,zbp (by omega) ⟨by omega,by omega⟩⟩⟩⟩⟩⟩⟩
  ·have hge:=of_decide_eq_false hge
   have:i=n:=by omega
   subst this
   rw [hx1]
def mkT (k:Int):Tsk:=⟨k,k+1,k+1+1,k+1+1+1,k+1+1+1+1,k+1+1+1+1+1,k+1+1+1+1+1+1,k+1+1+1+1+1+1+1,k+1+1+1+1+1+1+1+1⟩
def zka (n:Nat) (k:Int):List Tsk:=(List.range n).map fun (i:Nat)=>mkT (k+9*(i:Int))
theorem zhe (n:Nat) (k:Int):(zka n k).length=n:=by simp [zka]
theorem z90 {n:Nat} {k:Int} {i:Nat} (h:i<n):gi (zka n k) (i:Int)=mkT (k+9*(i:Int)):=by
 rw [ze4 (by rw [zhe]; exact h)]; simp [zka]
theorem z8q {base:Nat} {l:List Tsk} {o:Option Addr} {c:Nat} {k:Int} {w:World} (h:Own encT 9 zap base w o c l) (hl:l.length≤1048576) (hk:0≤k) (hk2:k≤100000000000000000) :
  Calls Tryz.prog zhs #[.slice o l.length c,.int .i64 k] w fun e w'=>e = .returned (.int .i64 (k+9*(l.length:Int)))∧Own encT 9 zap base w' o c (zka l.length k)∧ExtX (zaq o) w w':=by
 refine (zt7 o l.length c k (R:=fun v w'=>v = .int .i64 (k+9*(l.length:Int))∧Own encT 9 zap base w' o c (zka l.length k)∧ExtX (zaq o) w w') ?_).mono fun e w' ⟨v,he,hv,h1⟩=>⟨by rw [he,hv],h1⟩
 refine ⟨fun vs w1=>∃(i:Nat),vs=[.int .i64 (k+9*(i:Int)),.int .i64 (i:Int)]∧i≤l.length∧Own encT 9 zap base w1 o c ((zka l.length k).take i++l.drop i)∧ExtX (zaq o) w w1,zc5 l.length 1,fun wr hx _=>⟨0,by simp,Nat.zero_le _,by simpa using h.ext0 hx,hx.of_nil⟩,?_⟩
 rintro k1 i1 w1 _ ⟨i,he,hi,hO,hX⟩
 simp only [List.cons.injEq,Value.int.injEq,true_and,and_true] at he
 obtain ⟨rfl,rfl⟩:=he
 have hlen:((zka l.length k).take i++l.drop i).length=l.length:=by simp [zhe]; omega
 refine ⟨fun hlt => ?_,fun hge => ?_⟩
 ·have hlt:=of_decide_eq_true hlt
  have hi':(i:Int)<(((zka l.length k).take i++l.drop i).length:Int):=by rw [hlen]; exact hlt
  have hix:Ix o l.length (i:Int):=by have:=hO.ix (i:=(i:Int)) (by omega) hi'; rwa [hlen] at this
  have hset:∀x,(((zka l.length k).take i++l.drop i).set i x).length=l.length:=fun x=>by rw [List.length_set]; exact hlen
  have hgs:∀x,gi (((zka l.length k).take i++l.drop i).set i x) (i:Int)=x:=fun x=>by
   have:=zba ((zka l.length k).take i++l.drop i) x (i:=(i:Int)) (by omega) hi' (j:=(i:Int)) (by omega)
   rw [if_pos rfl,Int.toNat_natCast] at this
   exact this
  have hss:∀x y,(((zka l.length k).take i++l.drop i).set i x).set i y=((zka l.length k).take i++l.drop i).set i y:=fun x y=>by rw [List.set_set]
  generalize hL:(zka l.length k).take i++l.drop i=L at hO hlen hi' hset hgs hss
  have e0:=hO.sto za6.len (i:=(i:Int)) (by omega) hi' (j:=0) (vs:=[.int .i64 (k+9*(i:Int))]) (x:=⟨k+9*(i:Int),(gi L i).group,(gi L i).cpu,(gi L i).nice,(gi L i).mask,(gi L i).v,(gi L i).sum,(gi L i).used,(gi L i).load⟩) rfl (by simp)
  rw [Int.toNat_natCast] at e0
  have e1:=e0.sto za6.len (i:=(i:Int)) (by omega) (by rw [hset]; exact hlt) (j:=1) (vs:=[.int .i64 (k+9*(i:Int)+1)]) (x:=⟨k+9*(i:Int),k+9*(i:Int)+1,(gi L i).cpu,(gi L i).nice,(gi L i).mask,(gi L i).v,(gi L i).sum,(gi L i).used,(gi L i).load⟩) (by rw [hgs]; rfl) (by simp)
  rw [Int.toNat_natCast,hss] at e1
  have e2:=e1.sto za6.len (i:=(i:Int)) (by omega) (by rw [hset]; exact hlt) (j:=2) (vs:=[.int .i64 (k+9*(i:Int)+1+1)]) (x:=⟨k+9*(i:Int),k+9*(i:Int)+1,k+9*(i:Int)+1+1,(gi L i).nice,(gi L i).mask,(gi L i).v,(gi L i).sum,(gi L i).used,(gi L i).load⟩) (by rw [hgs]; rfl) (by simp)
  rw [Int.toNat_natCast,hss] at e2
  have e3:=e2.sto za6.len (i:=(i:Int)) (by omega) (by rw [hset]; exact hlt) (j:=3) (vs:=[.int .i64 (k+9*(i:Int)+1+1+1)]) (x:=⟨k+9*(i:Int),k+9*(i:Int)+1,k+9*(i:Int)+1+1,k+9*(i:Int)+1+1+1,(gi L i).mask,(gi L i).v,(gi L i).sum,(gi L i).used,(gi L i).load⟩) (by rw [hgs]; rfl) (by simp)
  rw [Int.toNat_natCast,hss] at e3
  have e4:=e3.sto za6.len (i:=(i:Int)) (by omega) (by rw [hset]; exact hlt) (j:=4) (vs:=[.int .i64 (k+9*(i:Int)+1+1+1+1)]) (x:=⟨k+9*(i:Int),k+9*(i:Int)+1,k+9*(i:Int)+1+1,k+9*(i:Int)+1+1+1,k+9*(i:Int)+1+1+1+1,(gi L i).v,(gi L i).sum,(gi L i).used,(gi L i).load⟩) (by rw [hgs]; rfl) (by simp)
  rw [Int.toNat_natCast,hss] at e4
  have e5:=e4.sto za6.len (i:=(i:Int)) (by omega) (by rw [hset]; exact hlt) (j:=5) (vs:=[.int .i64 (k+9*(i:Int)+1+1+1+1+1)]) (x:=⟨k+9*(i:Int),k+9*(i:Int)+1,k+9*(i:Int)+1+1,k+9*(i:Int)+1+1+1,k+9*(i:Int)+1+1+1+1,k+9*(i:Int)+1+1+1+1+1,(gi L i).sum,(gi L i).used,(gi L i).load⟩) (by rw [hgs]; rfl) (by simp)
  rw [Int.toNat_natCast,hss] at e5
  have e6:=e5.sto za6.len (i:=(i:Int)) (by omega) (by rw [hset]; exact hlt) (j:=6) (vs:=[.int .i64 (k+9*(i:Int)+1+1+1+1+1+1)]) (x:=⟨k+9*(i:Int),k+9*(i:Int)+1,k+9*(i:Int)+1+1,k+9*(i:Int)+1+1+1,k+9*(i:Int)+1+1+1+1,k+9*(i:Int)+1+1+1+1+1,k+9*(i:Int)+1+1+1+1+1+1,(gi L i).used,(gi L i).load⟩) (by rw [hgs]; rfl) (by simp)
  rw [Int.toNat_natCast,hss] at e6
  have e7:=e6.sto za6.len (i:=(i:Int)) (by omega) (by rw [hset]; exact hlt) (j:=7) (vs:=[.int .i64 (k+9*(i:Int)+1+1+1+1+1+1+1)]) (x:=⟨k+9*(i:Int),k+9*(i:Int)+1,k+9*(i:Int)+1+1,k+9*(i:Int)+1+1+1,k+9*(i:Int)+1+1+1+1,k+9*(i:Int)+1+1+1+1+1,k+9*(i:Int)+1+1+1+1+1+1,k+9*(i:Int)+1+1+1+1+1+1+1,(gi L i).load⟩) (by rw [hgs]; rfl) (by simp)
  rw [Int.toNat_natCast,hss] at e7
  have e8:=e7.sto za6.len (i:=(i:Int)) (by omega) (by rw [hset]; exact hlt) (j:=8) (vs:=[.int .i64 (k+9*(i:Int)+1+1+1+1+1+1+1+1)]) (x:=mkT (k+9*(i:Int))) (by rw [hgs]; rfl) (by simp)
  rw [Int.toNat_natCast,hss] at e8
  refine ⟨hix,hO.wr za6.len (by simp) (by omega) hi' (j:=0) (by decide),⟨by omega,by omega⟩,hix,e0.wr za6.len (by simp) (by omega) (by rw [hset]; exact hlt) (j:=1) (by decide),⟨by omega,by omega⟩,hix,e1.wr za6.len (by simp) (by omega) (by rw [hset]; exact hlt) (j:=2) (by decide),⟨by omega,by omega⟩,hix,e2.wr za6.len (by simp) (by omega) (by rw [hset]; exact hlt) (j:=3) (by decide),⟨by omega,by omega⟩,hix,e3.wr za6.len (by simp) (by omega) (by rw [hset]; exact hlt) (j:=4) (by decide),⟨by omega,by omega⟩,hix,e4.wr za6.len (by simp) (by omega) (by rw [hset]; exact hlt) (j:=5) (by decide),⟨by omega,by omega⟩,hix,e5.wr za6.len (by simp) (by omega) (by rw [hset]; exact hlt) (j:=6) (by decide),⟨by omega,by omega⟩,hix,e6.wr za6.len (by simp) (by omega) (by rw [hset]; exact hlt) (j:=7) (by decide),⟨by omega,by omega⟩,hix,e7.wr za6.len (by simp) (by omega) (by rw [hset]; exact hlt) (j:=8) (by decide),⟨by omega,by omega⟩,⟨by omega,by omega⟩,fun w2 hx2 _=>⟨⟨i+1,by congr 2; omega,by omega,?_,?_⟩,?_⟩⟩
  ·have:L.set i (mkT (k+9*(i:Int)))=(zka l.length k).take (i+1)++l.drop (i+1):=by
    have hi2:i<(zka l.length k).length:=by rw [zhe]; omega
    have hlt':i<l.length:=by omega
    rw [←hL,List.set_append,if_neg (by simp [zhe]; omega),List.length_take,zhe,show i - min i l.length=0 by omega,List.drop_eq_getElem_cons hlt',List.set_cons_zero,List.take_succ_eq_append_getElem hi2,List.append_assoc,List.singleton_append]
    have:=z90 (n:=l.length) (k:=k) hlt'
    rw [ze4 hi2] at this
    rw [this]
   rw [this] at e8
   exact e8.ext0 hx2
  ·exact (((((((((hX.trans (hO.stoX _ _)).trans (e0.stoX _ _)).trans (e1.stoX _ _)).trans (e2.stoX _ _)).trans (e3.stoX _ _)).trans (e4.stoX _ _)).trans (e5.stoX _ _)).trans (e6.stoX _ _)).trans (e7.stoX _ _)).trans hx2.of_nil
  ·simp only [zc5,cntM,zd1,List.getElem?_cons_zero,List.getElem?_cons_succ]
   omega
 ·have hge:=of_decide_eq_false hge
  have:i=l.length:=by omega
  subst this
  refine fun w2 hx2=>⟨rfl,?_,hX.trans hx2.of_nil⟩
  have e:(zka l.length k).take l.length++l.drop l.length=zka l.length k:=by
   rw [List.drop_length,List.append_nil,List.take_of_length_le (by rw [zhe]; exact Nat.le_refl _)]
  rw [e] at hO
  exact hO.ext0 hx2
theorem z8l {n:Nat} {o:Option Addr} {c:Nat} {k:Int} {w:World} {bs:List Nat} (h:RdT bs w o (zka n k)) (hl:n≤1048576) (hk:0≤k) (hk2:k≤100000000000000000) :
  zab bs Tryz.prog zhq #[.slice o n c,.int .i64 k] w (.int .i64 (k+9*(n:Int))) :=
 zuk o n c k fun wr hx=>by
  have h:=(h.ext hx).less (cs:=[]) (by simp)
  refine zq8 n 0 rfl (fun x i=>i≤n∧x=k+9*(i:Int)) ⟨Nat.zero_le _,by simp⟩ fun x i ⟨hi,hx1⟩=>⟨fun hlt => ?_,fun hge => ?_⟩
  ·subst hx1
   have hlt:=of_decide_eq_true hlt
   have hc:=h i (by omega) (by rw [zhe]; exact hlt)
   have hix:Ix o n (i:Int):=by have:=h.ix zc6 (i:=(i:Int)) (by omega) (by rw [zhe]; exact hlt); rwa [zhe] at this
   rw [z90 (by omega)] at hc
   refine ⟨hix,_,hc.1,fun hb=>by simp [mkT] at hb,fun _=>⟨⟨by omega,by omega⟩,hix,_,hc.2.1,fun hb=>by simp [mkT] at hb,fun _=>⟨⟨by omega,by omega⟩,hix,_,hc.2.2.1,fun hb=>by simp [mkT] at hb,fun _=>⟨⟨by omega,by omega⟩,hix,_,hc.2.2.2.1,fun hb=>by simp [mkT] at hb,fun _=>⟨⟨by omega,by omega⟩,hix,_,hc.2.2.2.2.1,fun hb=>by simp [mkT] at hb,fun _=>⟨⟨by omega,by omega⟩,hix,_,hc.2.2.2.2.2.1,fun hb=>by simp [mkT] at hb,fun _=>⟨⟨by omega,by omega⟩,hix,_,hc.2.2.2.2.2.2.1,fun hb=>by simp [mkT] at hb,fun _=>⟨⟨by omega,by omega⟩,hix,_,hc.2.2.2.2.2.2.2.1,fun hb=>by simp [mkT] at hb,fun _=>⟨⟨by omega,by omega⟩,hix,_,hc.2.2.2.2.2.2.2.2,fun hb=>by simp [mkT] at hb,fun _=>⟨⟨by omega,by omega⟩,⟨by omega,by omega⟩,zbp (by omega) ⟨by omega,by omega⟩⟩⟩⟩⟩⟩⟩⟩⟩⟩⟩
  ·have hge:=of_decide_eq_false hge
   have:i=n:=by omega
   subst this
   rw [hx1]
def mkI (k:Int):Int:=k
def zj9 (n:Nat) (k:Int):List Int:=(List.range n).map fun (i:Nat)=>mkI (k+1*(i:Int))
theorem zef (n:Nat) (k:Int):(zj9 n k).length=n:=by simp [zj9]
theorem z9y {n:Nat} {k:Int} {i:Nat} (h:i<n):gi (zj9 n k) (i:Int)=mkI (k+1*(i:Int)):=by
 rw [ze4 (by rw [zef]; exact h)]; simp [zj9]
theorem zaa1 {base:Nat} {l:List Int} {o:Option Addr} {c:Nat} {k:Int} {w:World} (h:Own encI 1 ty_int base w o c l) (hl:l.length≤1048576) (hk:0≤k) (hk2:k≤100000000000000000) :
  Calls Tryz.prog ziv #[.slice o l.length c,.int .i64 k] w fun e w'=>e = .returned (.int .i64 (k+1*(l.length:Int)))∧Own encI 1 ty_int base w' o c (zj9 l.length k)∧ExtX (zaq o) w w':=by
 refine (zwq o l.length c k (R:=fun v w'=>v = .int .i64 (k+1*(l.length:Int))∧Own encI 1 ty_int base w' o c (zj9 l.length k)∧ExtX (zaq o) w w') ?_).mono fun e w' ⟨v,he,hv,h1⟩=>⟨by rw [he,hv],h1⟩
 refine ⟨fun vs w1=>∃(i:Nat),vs=[.int .i64 (k+1*(i:Int)),.int .i64 (i:Int)]∧i≤l.length∧Own encI 1 ty_int base w1 o c ((zj9 l.length k).take i++l.drop i)∧ExtX (zaq o) w w1,zc5 l.length 1,fun wr hx _=>⟨0,by simp,Nat.zero_le _,by simpa using h.ext0 hx,hx.of_nil⟩,?_⟩
 rintro k1 i1 w1 _ ⟨i,he,hi,hO,hX⟩
 simp only [List.cons.injEq,Value.int.injEq,true_and,and_true] at he
 obtain ⟨rfl,rfl⟩:=he
 have hlen:((zj9 l.length k).take i++l.drop i).length=l.length:=by simp [zef]; omega
 refine ⟨fun hlt => ?_,fun hge => ?_⟩
 ·have hlt:=of_decide_eq_true hlt
  have hi':(i:Int)<(((zj9 l.length k).take i++l.drop i).length:Int):=by rw [hlen]; exact hlt
  have hix:Ix o l.length (i:Int):=by have:=hO.ix (i:=(i:Int)) (by omega) hi'; rwa [hlen] at this
  have hset:∀x,(((zj9 l.length k).take i++l.drop i).set i x).length=l.length:=fun x=>by rw [List.length_set]; exact hlen
  have hgs:∀x,gi (((zj9 l.length k).take i++l.drop i).set i x) (i:Int)=x:=fun x=>by
   have:=zba ((zj9 l.length k).take i++l.drop i) x (i:=(i:Int)) (by omega) hi' (j:=(i:Int)) (by omega)
   rw [if_pos rfl,Int.toNat_natCast] at this
   exact this
  have hss:∀x y,(((zj9 l.length k).take i++l.drop i).set i x).set i y=((zj9 l.length k).take i++l.drop i).set i y:=fun x y=>by rw [List.set_set]
  generalize hL:(zj9 l.length k).take i++l.drop i=L at hO hlen hi' hset hgs hss
  have e0:=hO.sto zcq.len (i:=(i:Int)) (by omega) hi' (j:=0) (vs:=[.int .i64 (k+1*(i:Int))]) (x:=mkI (k+1*(i:Int))) rfl (by simp)
  rw [Int.toNat_natCast] at e0
  refine ⟨hix,hO.wr zcq.len (by simp) (by omega) hi' (j:=0) (by decide),⟨by omega,by omega⟩,⟨by omega,by omega⟩,fun w2 hx2 _=>⟨⟨i+1,by congr 2; omega,by omega,?_,?_⟩,?_⟩⟩
  ·have:L.set i (mkI (k+1*(i:Int)))=(zj9 l.length k).take (i+1)++l.drop (i+1):=by
    have hi2:i<(zj9 l.length k).length:=by rw [zef]; omega
    have hlt':i<l.length:=by omega
    rw [←hL,List.set_append,if_neg (by simp [zef]; omega),List.length_take,zef,show i - min i l.length=0 by omega,List.drop_eq_getElem_cons hlt',List.set_cons_zero,List.take_succ_eq_append_getElem hi2,List.append_assoc,List.singleton_append]
    have:=z9y (n:=l.length) (k:=k) hlt'
    rw [ze4 hi2] at this
    rw [this]
   rw [this] at e0
   exact e0.ext0 hx2
  ·exact (hX.trans (hO.stoX _ _)).trans hx2.of_nil
  ·simp only [zc5,cntM,zd1,List.getElem?_cons_zero,List.getElem?_cons_succ]
   omega
 ·have hge:=of_decide_eq_false hge
  have:i=l.length:=by omega
  subst this
  refine fun w2 hx2=>⟨rfl,?_,hX.trans hx2.of_nil⟩
  have e:(zj9 l.length k).take l.length++l.drop l.length=zj9 l.length k:=by
   rw [List.drop_length,List.append_nil,List.take_of_length_le (by rw [zef]; exact Nat.le_refl _)]
  rw [e] at hO
  exact hO.ext0 hx2
theorem zaay {n:Nat} {o:Option Addr} {c:Nat} {k:Int} {w:World} {bs:List Nat} (h:RdI bs w o (zj9 n k)) (hl:n≤1048576) (hk:0≤k) (hk2:k≤100000000000000000) :
  zab bs Tryz.prog zit #[.slice o n c,.int .i64 k] w (.int .i64 (k+1*(n:Int))) :=
 zyb o n c k fun wr hx=>by
  have h:=(h.ext hx).less (cs:=[]) (by simp)
  refine zq8 n 0 rfl (fun x i=>i≤n∧x=k+1*(i:Int)) ⟨Nat.zero_le _,by simp⟩ fun x i ⟨hi,hx1⟩=>⟨fun hlt => ?_,fun hge => ?_⟩
  ·subst hx1
   have hlt:=of_decide_eq_true hlt
   have hc:=h i (by omega) (by rw [zef]; exact hlt)
   have hix:Ix o n (i:Int):=by have:=h.ix zex (i:=(i:Int)) (by omega) (by rw [zef]; exact hlt); rwa [zef] at this
   rw [z9y (by omega)] at hc
   refine ⟨hix,_,hc,fun hb=>by simp [mkI] at hb,fun _=>⟨⟨by omega,by omega⟩,⟨by omega,by omega⟩,zbp (by omega) ⟨by omega,by omega⟩⟩⟩
  ·have hge:=of_decide_eq_false hge
   have:i=n:=by omega
   subst this
   rw [hx1]
def mkB (k:Int):Bool:=Int.tmod (k) 3==0
def zkh (n:Nat) (k:Int):List Bool:=(List.range n).map fun (i:Nat)=>mkB (k+1*(i:Int))
theorem ze6 (n:Nat) (k:Int):(zkh n k).length=n:=by simp [zkh]
theorem z9w {n:Nat} {k:Int} {i:Nat} (h:i<n):gi (zkh n k) (i:Int)=mkB (k+1*(i:Int)):=by
 rw [ze4 (by rw [ze6]; exact h)]; simp [zkh]
theorem z8p {base:Nat} {l:List Bool} {o:Option Addr} {c:Nat} {k:Int} {w:World} (h:Own encB 1 za2 base w o c l) (hl:l.length≤1048576) (hk:0≤k) (hk2:k≤100000000000000000) :
  Calls Tryz.prog zhr #[.slice o l.length c,.int .i64 k] w fun e w'=>e = .returned (.int .i64 (k+1*(l.length:Int)))∧Own encB 1 za2 base w' o c (zkh l.length k)∧ExtX (zaq o) w w':=by
 refine (zt6 o l.length c k (R:=fun v w'=>v = .int .i64 (k+1*(l.length:Int))∧Own encB 1 za2 base w' o c (zkh l.length k)∧ExtX (zaq o) w w') ?_).mono fun e w' ⟨v,he,hv,h1⟩=>⟨by rw [he,hv],h1⟩
 refine ⟨fun vs w1=>∃(i:Nat),vs=[.int .i64 (k+1*(i:Int)),.int .i64 (i:Int)]∧i≤l.length∧Own encB 1 za2 base w1 o c ((zkh l.length k).take i++l.drop i)∧ExtX (zaq o) w w1,zc5 l.length 1,fun wr hx _=>⟨0,by simp,Nat.zero_le _,by simpa using h.ext0 hx,hx.of_nil⟩,?_⟩
 rintro k1 i1 w1 _ ⟨i,he,hi,hO,hX⟩
 simp only [List.cons.injEq,Value.int.injEq,true_and,and_true] at he
 obtain ⟨rfl,rfl⟩:=he
 have hlen:((zkh l.length k).take i++l.drop i).length=l.length:=by simp [ze6]; omega
 refine ⟨fun hlt => ?_,fun hge => ?_⟩
 ·have hlt:=of_decide_eq_true hlt
  have hi':(i:Int)<(((zkh l.length k).take i++l.drop i).length:Int):=by rw [hlen]; exact hlt
  have hix:Ix o l.length (i:Int):=by have:=hO.ix (i:=(i:Int)) (by omega) hi'; rwa [hlen] at this
  have hset:∀x,(((zkh l.length k).take i++l.drop i).set i x).length=l.length:=fun x=>by rw [List.length_set]; exact hlen
  have hgs:∀x,gi (((zkh l.length k).take i++l.drop i).set i x) (i:Int)=x:=fun x=>by
   have:=zba ((zkh l.length k).take i++l.drop i) x (i:=(i:Int)) (by omega) hi' (j:=(i:Int)) (by omega)
   rw [if_pos rfl,Int.toNat_natCast] at this
   exact this
  have hss:∀x y,(((zkh l.length k).take i++l.drop i).set i x).set i y=((zkh l.length k).take i++l.drop i).set i y:=fun x y=>by rw [List.set_set]
  generalize hL:(zkh l.length k).take i++l.drop i=L at hO hlen hi' hset hgs hss
  have e0:=hO.sto zcp.len (i:=(i:Int)) (by omega) hi' (j:=0) (vs:=[.bool (Int.tmod (k+1*(i:Int)) 3==0)]) (x:=mkB (k+1*(i:Int))) rfl (by simp)
  rw [Int.toNat_natCast] at e0
  refine ⟨by decide,hix,hO.wr zcp.len (by simp) (by omega) hi' (j:=0) (by decide),⟨by omega,by omega⟩,⟨by omega,by omega⟩,fun w2 hx2 _=>⟨⟨i+1,by congr 2; omega,by omega,?_,?_⟩,?_⟩⟩
  ·have:L.set i (mkB (k+1*(i:Int)))=(zkh l.length k).take (i+1)++l.drop (i+1):=by
    have hi2:i<(zkh l.length k).length:=by rw [ze6]; omega
    have hlt':i<l.length:=by omega
    rw [←hL,List.set_append,if_neg (by simp [ze6]; omega),List.length_take,ze6,show i - min i l.length=0 by omega,List.drop_eq_getElem_cons hlt',List.set_cons_zero,List.take_succ_eq_append_getElem hi2,List.append_assoc,List.singleton_append]
    have:=z9w (n:=l.length) (k:=k) hlt'
    rw [ze4 hi2] at this
    rw [this]
   rw [this] at e0
   exact e0.ext0 hx2
  ·exact (hX.trans (hO.stoX _ _)).trans hx2.of_nil
  ·simp only [zc5,cntM,zd1,List.getElem?_cons_zero,List.getElem?_cons_succ]
   omega
 ·have hge:=of_decide_eq_false hge
  have:i=l.length:=by omega
  subst this
  refine fun w2 hx2=>⟨rfl,?_,hX.trans hx2.of_nil⟩
  have e:(zkh l.length k).take l.length++l.drop l.length=zkh l.length k:=by
   rw [List.drop_length,List.append_nil,List.take_of_length_le (by rw [ze6]; exact Nat.le_refl _)]
  rw [e] at hO
  exact hO.ext0 hx2
theorem z8k {n:Nat} {o:Option Addr} {c:Nat} {k:Int} {w:World} {bs:List Nat} (h:RdB bs w o (zkh n k)) (hl:n≤1048576) (hk:0≤k) (hk2:k≤100000000000000000) :
  zab bs Tryz.prog zhp #[.slice o n c,.int .i64 k] w (.int .i64 (k+1*(n:Int))) :=
 zuj o n c k fun wr hx=>by
  have h:=(h.ext hx).less (cs:=[]) (by simp)
  refine zq8 n 0 rfl (fun x i=>i≤n∧x=k+1*(i:Int)) ⟨Nat.zero_le _,by simp⟩ fun x i ⟨hi,hx1⟩=>⟨fun hlt => ?_,fun hge => ?_⟩
  ·subst hx1
   have hlt:=of_decide_eq_true hlt
   have hc:=h i (by omega) (by rw [ze6]; exact hlt)
   have hix:Ix o n (i:Int):=by have:=h.ix znn (i:=(i:Int)) (by omega) (by rw [ze6]; exact hlt); rwa [ze6] at this
   rw [z9w (by omega)] at hc
   refine ⟨hix,_,hc,by decide,fun hb=>by simp [mkB] at hb,fun _=>⟨⟨by omega,by omega⟩,⟨by omega,by omega⟩,zbp (by omega) ⟨by omega,by omega⟩⟩⟩
  ·have hge:=of_decide_eq_false hge
   have:i=n:=by omega
   subst this
   rw [hx1]
def mkS (k:Int):Shf:=⟨k,Int.tmod (k+1) 3==0,k+1+1,k+1+1+1,k+1+1+1+1⟩
def zki (n:Nat) (k:Int):List Shf:=(List.range n).map fun (i:Nat)=>mkS (k+5*(i:Int))
theorem ze7 (n:Nat) (k:Int):(zki n k).length=n:=by simp [zki]
theorem z9z {n:Nat} {k:Int} {i:Nat} (h:i<n):gi (zki n k) (i:Int)=mkS (k+5*(i:Int)):=by
 rw [ze4 (by rw [ze7]; exact h)]; simp [zki]
theorem z6u {base:Nat} {l:List Shf} {o:Option Addr} {c:Nat} {k:Int} {w:World} (h:Own encS 5 za4 base w o c l) (hl:l.length≤1048576) (hk:0≤k) (hk2:k≤100000000000000000) :
  Calls Tryz.prog zgy #[.slice o l.length c,.int .i64 k] w fun e w'=>e = .returned (.int .i64 (k+5*(l.length:Int)))∧Own encS 5 za4 base w' o c (zki l.length k)∧ExtX (zaq o) w w':=by
 refine (zsf o l.length c k (R:=fun v w'=>v = .int .i64 (k+5*(l.length:Int))∧Own encS 5 za4 base w' o c (zki l.length k)∧ExtX (zaq o) w w') ?_).mono fun e w' ⟨v,he,hv,h1⟩=>⟨by rw [he,hv],h1⟩
 refine ⟨fun vs w1=>∃(i:Nat),vs=[.int .i64 (k+5*(i:Int)),.int .i64 (i:Int)]∧i≤l.length∧Own encS 5 za4 base w1 o c ((zki l.length k).take i++l.drop i)∧ExtX (zaq o) w w1,zc5 l.length 1,fun wr hx _=>⟨0,by simp,Nat.zero_le _,by simpa using h.ext0 hx,hx.of_nil⟩,?_⟩
 rintro k1 i1 w1 _ ⟨i,he,hi,hO,hX⟩
 simp only [List.cons.injEq,Value.int.injEq,true_and,and_true] at he
 obtain ⟨rfl,rfl⟩:=he
 have hlen:((zki l.length k).take i++l.drop i).length=l.length:=by simp [ze7]; omega
 refine ⟨fun hlt => ?_,fun hge => ?_⟩
 ·have hlt:=of_decide_eq_true hlt
  have hi':(i:Int)<(((zki l.length k).take i++l.drop i).length:Int):=by rw [hlen]; exact hlt
  have hix:Ix o l.length (i:Int):=by have:=hO.ix (i:=(i:Int)) (by omega) hi'; rwa [hlen] at this
  have hset:∀x,(((zki l.length k).take i++l.drop i).set i x).length=l.length:=fun x=>by rw [List.length_set]; exact hlen
  have hgs:∀x,gi (((zki l.length k).take i++l.drop i).set i x) (i:Int)=x:=fun x=>by
   have:=zba ((zki l.length k).take i++l.drop i) x (i:=(i:Int)) (by omega) hi' (j:=(i:Int)) (by omega)
   rw [if_pos rfl,Int.toNat_natCast] at this
   exact this
  have hss:∀x y,(((zki l.length k).take i++l.drop i).set i x).set i y=((zki l.length k).take i++l.drop i).set i y:=fun x y=>by rw [List.set_set]
  generalize hL:(zki l.length k).take i++l.drop i=L at hO hlen hi' hset hgs hss
  have e0:=hO.sto zbo.len (i:=(i:Int)) (by omega) hi' (j:=0) (vs:=[.int .i64 (k+5*(i:Int))]) (x:=⟨k+5*(i:Int),(gi L i).on,(gi L i).v,(gi L i).w,(gi L i).sum⟩) rfl (by simp)
  rw [Int.toNat_natCast] at e0
  have e1:=e0.sto zbo.len (i:=(i:Int)) (by omega) (by rw [hset]; exact hlt) (j:=1) (vs:=[.bool (Int.tmod (k+5*(i:Int)+1) 3==0)]) (x:=⟨k+5*(i:Int),Int.tmod (k+5*(i:Int)+1) 3==0,(gi L i).v,(gi L i).w,(gi L i).sum⟩) (by rw [hgs]; rfl) (by simp)
  rw [Int.toNat_natCast,hss] at e1
  have e2:=e1.sto zbo.len (i:=(i:Int)) (by omega) (by rw [hset]; exact hlt) (j:=2) (vs:=[.int .i64 (k+5*(i:Int)+1+1)]) (x:=⟨k+5*(i:Int),Int.tmod (k+5*(i:Int)+1) 3==0,k+5*(i:Int)+1+1,(gi L i).w,(gi L i).sum⟩) (by rw [hgs]; rfl) (by simp)
  rw [Int.toNat_natCast,hss] at e2
  have e3:=e2.sto zbo.len (i:=(i:Int)) (by omega) (by rw [hset]; exact hlt) (j:=3) (vs:=[.int .i64 (k+5*(i:Int)+1+1+1)]) (x:=⟨k+5*(i:Int),Int.tmod (k+5*(i:Int)+1) 3==0,k+5*(i:Int)+1+1,k+5*(i:Int)+1+1+1,(gi L i).sum⟩) (by rw [hgs]; rfl) (by simp)
  rw [Int.toNat_natCast,hss] at e3
  have e4:=e3.sto zbo.len (i:=(i:Int)) (by omega) (by rw [hset]; exact hlt) (j:=4) (vs:=[.int .i64 (k+5*(i:Int)+1+1+1+1)]) (x:=mkS (k+5*(i:Int))) (by rw [hgs]; rfl) (by simp)
  rw [Int.toNat_natCast,hss] at e4
  refine ⟨hix,hO.wr zbo.len (by simp) (by omega) hi' (j:=0) (by decide),⟨by omega,by omega⟩,by decide,hix,e0.wr zbo.len (by simp) (by omega) (by rw [hset]; exact hlt) (j:=1) (by decide),⟨by omega,by omega⟩,hix,e1.wr zbo.len (by simp) (by omega) (by rw [hset]; exact hlt) (j:=2) (by decide),⟨by omega,by omega⟩,hix,e2.wr zbo.len (by simp) (by omega) (by rw [hset]; exact hlt) (j:=3) (by decide),⟨by omega,by omega⟩,hix,e3.wr zbo.len (by simp) (by omega) (by rw [hset]; exact hlt) (j:=4) (by decide),⟨by omega,by omega⟩,⟨by omega,by omega⟩,fun w2 hx2 _=>⟨⟨i+1,by congr 2; omega,by omega,?_,?_⟩,?_⟩⟩
  ·have:L.set i (mkS (k+5*(i:Int)))=(zki l.length k).take (i+1)++l.drop (i+1):=by
    have hi2:i<(zki l.length k).length:=by rw [ze7]; omega
    have hlt':i<l.length:=by omega
    rw [←hL,List.set_append,if_neg (by simp [ze7]; omega),List.length_take,ze7,show i - min i l.length=0 by omega,List.drop_eq_getElem_cons hlt',List.set_cons_zero,List.take_succ_eq_append_getElem hi2,List.append_assoc,List.singleton_append]
    have:=z9z (n:=l.length) (k:=k) hlt'
    rw [ze4 hi2] at this
    rw [this]
   rw [this] at e4
   exact e4.ext0 hx2
  ·exact (((((hX.trans (hO.stoX _ _)).trans (e0.stoX _ _)).trans (e1.stoX _ _)).trans (e2.stoX _ _)).trans (e3.stoX _ _)).trans hx2.of_nil
  ·simp only [zc5,cntM,zd1,List.getElem?_cons_zero,List.getElem?_cons_succ]
   omega
 ·have hge:=of_decide_eq_false hge
  have:i=l.length:=by omega
  subst this
  refine fun w2 hx2=>⟨rfl,?_,hX.trans hx2.of_nil⟩
  have e:(zki l.length k).take l.length++l.drop l.length=zki l.length k:=by
   rw [List.drop_length,List.append_nil,List.take_of_length_le (by rw [ze7]; exact Nat.le_refl _)]
  rw [e] at hO
  exact hO.ext0 hx2
theorem z6q {n:Nat} {o:Option Addr} {c:Nat} {k:Int} {w:World} {bs:List Nat} (h:RdS bs w o (zki n k)) (hl:n≤1048576) (hk:0≤k) (hk2:k≤100000000000000000) :
  zab bs Tryz.prog zgw #[.slice o n c,.int .i64 k] w (.int .i64 (k+5*(n:Int))) :=
 zsu o n c k fun wr hx=>by
  have h:=(h.ext hx).less (cs:=[]) (by simp)
  refine zq8 n 0 rfl (fun x i=>i≤n∧x=k+5*(i:Int)) ⟨Nat.zero_le _,by simp⟩ fun x i ⟨hi,hx1⟩=>⟨fun hlt => ?_,fun hge => ?_⟩
  ·subst hx1
   have hlt:=of_decide_eq_true hlt
   have hc:=h i (by omega) (by rw [ze7]; exact hlt)
   have hix:Ix o n (i:Int):=by have:=h.ix zey (i:=(i:Int)) (by omega) (by rw [ze7]; exact hlt); rwa [ze7] at this
   rw [z9z (by omega)] at hc
   refine ⟨hix,_,hc.1,fun hb=>by simp [mkS] at hb,fun _=>⟨⟨by omega,by omega⟩,hix,_,hc.2.1,by decide,fun hb=>by simp [mkS] at hb,fun _=>⟨⟨by omega,by omega⟩,hix,_,hc.2.2.1,fun hb=>by simp [mkS] at hb,fun _=>⟨⟨by omega,by omega⟩,hix,_,hc.2.2.2.1,fun hb=>by simp [mkS] at hb,fun _=>⟨⟨by omega,by omega⟩,hix,_,hc.2.2.2.2,fun hb=>by simp [mkS] at hb,fun _=>⟨⟨by omega,by omega⟩,⟨by omega,by omega⟩,zbp (by omega) ⟨by omega,by omega⟩⟩⟩⟩⟩⟩⟩
  ·have hge:=of_decide_eq_false hge
   have:i=n:=by omega
   subst this
   rw [hx1]
end Go.Proofs.YthhmnlcimojhlaaGreatDoor
