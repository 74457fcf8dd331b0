/- Part 15 of what the law FnStay needs: the engine, the functions' propositions, the contracts. -/
import Derived.Test.YtclpmgfpjeaibaaGreatDoorFnStayPn
import Derived.Laws.BytesArg
namespace Go.Proofs.YtclpmgfpjeaibaaGreatDoor
open Go.RowKit
set_option linter.unusedVariables false
set_option linter.unusedSimpArgs false
set_option maxRecDepth 10000
theorem zyk {α:Type} [Inhabited α] {l:List α} {i:Int} (h0:0<=i) (h1:i<(l.length:Int)):l.set i.toNat (gi l i)=l:=by
 obtain ⟨k,rfl⟩:=Int.eq_ofNat_of_zero_le h0
 rw [zkd (by omega),Int.toNat_natCast,List.set_getElem_self]
def nxK (G:Grp) (K:Int):Int:=K+1+1+1+1+1+1+1+1+1+1+1+1*(G.band.locals.length:Int)+1*(G.band.dry.length:Int)+5*(G.shelves.length:Int)
def gK (gs:List Grp) (k:Int):Nat->Int
 | 0=>k
 | i+1=>nxK (gi gs (i:Int)) (gK gs k i)
section
variable {n base:Nat} {W:Wld} {m:MW} {w w':World} {G G':Grp} {i:Int}
set_option maxHeartbeats 1000000 in
set_option maxHeartbeats 1000000 in
end
def kC (W:Wld):Int:=1+5*(W.cpus.length:Int)
def kT (W:Wld):Int:=kC W+9*(W.tasks.length:Int)
def mK (W:Wld):Int:=gK W.groups (kT W) W.groups.length
section
variable {n base:Nat} {W:Wld} {m:MW} {w w':World} {bs:List Nat}
end
theorem zahd {W:Wld} {t:Int} {x:Tsk} (t0:0<=t) (t1:t<(W.tasks.length:Int)):tkk (setTk W t x) t=x:=by
 show gi (W.tasks.set t.toNat x) t=x
 rw [za4 _ _ t0 t1 t0,if_pos rfl]
theorem set_set {W:Wld} {t:Int} {x y:Tsk}:setTk (setTk W t x) t y=setTk W t y:=by simp [setTk]
section
variable {W:Wld} {m:MW} {w:World} {bar:Int}
set_option maxHeartbeats 1000000 in
set_option maxHeartbeats 1000000 in
end
noncomputable def grpB (W:Wld) (g:Int) (ok:Bool):Int:=if ok=false\/g=0 then 1 else if zae W.groups g=false then 2 else if zhh W=false then 10 else 0
theorem zah5 {W:Wld} {g:Int} {ok:Bool} (h:grpB W g ok=0):ok=true/\g≠0/\zae W.groups g=true/\zhh W=true:=by
 unfold grpB at h
 split at h
 ·cases h
 ·rename_i h1
  split at h
  ·cases h
  ·rename_i h2
   split at h
   ·cases h
   ·rename_i h3
    exact ⟨by cases ok <;> simp_all,fun e=>h1 (.inr e),by simpa using h2,by simpa using h3⟩
theorem SW.setGr {K:Int} {W:Wld} (h:SW K W) {g:Int} {x:Grp} (hu:zae W.groups g=true) (u:x.used=(gi W.groups g).used) (p:x.parent=(gi W.groups g).parent) (n:x.name=(gi W.groups g).name) (s:x.shelves=(gi W.groups g).shelves) (hx:GrpU W g x):SW K (setGr W g x):=by
 obtain ⟨u0,u1,ut⟩:=zac.1 hu
 have hl:=h.a.gl
 have hT:=zka (x:=x) u0 u1 u p n
 have es:∀k c:Int,0<=k->shf (Go.Proofs.YtclpmgfpjeaibaaGreatDoor.setGr W g x) k c=shf W k c:=fun k c k0=>by
  unfold shf
  rw [zex u0 u1 k0]
  split
  ·rename_i e; subst e; rw [s]
  ·rfl
 refine ⟨h.a.set u0 (by omega) u p n (fun hn=>by rw [u,ut] at hn; cases hn) fun _=>hx,fun t a b n=>by rw [hT.usd]; exact h.t t a b n,h.tv,fun k c uk a b => ?_,h.cu⟩
 rw [hT.usd] at uk
 rw [es k c (zac.1 uk).1]
 exact h.s k c uk a b
section
variable {W W':Wld} {m:MW} {w:World} {bar:Int}
theorem zxd {g:Int} {ok:Bool} (h:RdW [] w W m) (hl:LenW W) :
  Calls Tryz.prog zix #[.agg (encW W m).toArray,.int .i64 g,.bool ok] w fun e w'=>(zbi W=false/\e = .returned (.tuple #[.agg (encW zs7 noM).toArray,.int .i64 1])/\ExtX [] w w')\/(zbi W=true/\∃m',e = .returned (.tuple #[.agg (encW W m').toArray,.int .i64 (grpB W g ok)])/\MWd 8 w.heap.size w' W m'/\ExtX [] w w'):=by
 refine (zwp W.now m.cO W.cpus.length m.cC m.tO W.tasks.length m.tC m.gO W.groups.length m.gC g ok (R:=fun v w'=>(zbi W=false/\v = .tuple #[.agg (encW zs7 noM).toArray,.int .i64 1]/\ExtX [] w w')\/(zbi W=true/\∃m',v = .tuple #[.agg (encW W m').toArray,.int .i64 (grpB W g ok)]/\MWd 8 w.heap.size w' W m'/\ExtX [] w w')) ?_).mono fun e w' ⟨v,he,h3⟩=>by
  rw [he]
  rcases h3 with ⟨a,b,c⟩ | ⟨a,m',b,c⟩
  ·exact .inl ⟨a,by rw [b],c⟩
  ·exact .inr ⟨a,m',by rw [b],c⟩
 intro x hx x1 hx1 wr hx2 hs2
 refine Calls.mono (zj2 (h.ext hx2) hl) ?_
 rintro e wv (⟨hW,he,hy⟩ | ⟨hW,m',he,hM,hy⟩)
 ·exact ⟨_,_,_,_,_,_,_,_,_,_,_,he,zaz hy hs2,fun _ wr1 hx3=>.inl ⟨hW,rfl,(hx2.trans hy).fresh hx3 fun y hm=>.inl (zl9 hx hx1 y hm)⟩,fun g=>by simp at g⟩
 have hK:=Wk.begin hx hx1 hx2 hs2 hM hy
 have hc1:((if zhh W=true then 0 else 10:Int)==1)=false:=by split <;> rfl
 refine ⟨_,_,_,_,_,_,_,_,_,_,_,he,zaz hy hs2,fun g1 wr1 hx3=>.inr ⟨hW,m',?_,(hK.step hx3).fin⟩,fun g1=>⟨_,zel hK.rd.g,fun g2 wr2 hx3=>.inr ⟨hW,m',?_,(hK.step hx3).fin⟩,fun g2 wr3 hx3=>.inr ⟨hW,m',?_,(hK.step hx3).fin⟩⟩⟩
 ·have hb:grpB W g ok=1:=by
   unfold grpB
   rw [if_pos]
   rw [hc1] at g1
   simpa using g1
  rw [hb]; rfl
 ·rw [hc1] at g1
  have g1:¬(ok=false\/g=0):=by simpa using g1
  have hb:grpB W g ok=2:=by unfold grpB; rw [if_neg g1,if_pos (by simpa using g2)]
  rw [hb]; rfl
 ·rw [hc1] at g1
  have g1:¬(ok=false\/g=0):=by simpa using g1
  have hb:grpB W g ok=if zhh W=true then 0 else 10:=by
   unfold grpB; rw [if_neg g1,if_neg (by simpa using g2)]
   cases zhh W <;> rfl
  rw [hb]; rfl
theorem Done.pre {base pb:Nat} {ex:List Nat} {w0 w w':World} {W':Wld} {m m':MW} (hx:ExtX [] w0 w) (h:Done base pb ex w m w' W' m'):Done base pb ex w0 m w' W' m':=
 ⟨h.own,h.pt,hx.of_nil.trans h.ext,fun x hy=>(h.sub x hy).imp id fun hz=>Nat.le_trans hx.size hz⟩
theorem Done.post {base pb:Nat} {ex:List Nat} {w w' w1:World} {W':Wld} {m m':MW} (h:Done base pb ex w m w' W' m') (hx:ExtX [] w' w1):Done base pb ex w m w1 W' m':=
 ⟨h.own.ext0 hx,za0 h.pt hx (by simp),h.ext.trans hx.of_nil,h.sub⟩
theorem Mp.grf {base pb:Nat} {bs:List Nat} {w0:World} {m0:MW} (h:Mp base pb bs w0 m0 w W m) {g:Int} (u0:0<=g) (u1:g<8) {G:Grp} (e1:G.band.locals=(gi W.groups g).band.locals) (e2:G.band.dry=(gi W.groups g).band.dry) (e3:G.shelves=(gi W.groups g).shelves) {j:Nat} {vs:List Value}
  (he:encG G (m.ms g.toNat)=(encG (gi W.groups g) (m.ms g.toNat)).take j++vs++(encG (gi W.groups g) (m.ms g.toNat)).drop (j+vs.length)) (hj:j+vs.length<=14) :
  Mp base pb bs w0 m0 (Go.Proofs.YtclpmgfpjeaibaaGreatDoor.sto w m.gO (Int.toNat g*14+j) vs) (setGr W g G) m:=
 h.deed (h.own.stoG0 u0 u1 e1 e2 e3 he hj) subG (by simp [encW,setGr])
end
theorem SF.endW {F K:Int} {W:Wld} (h:SF F K W) {c:Int} (c0:0<=c) (c1:c<(W.cpus.length:Int)):SF F K (endW W c):=
 ⟨h.w.endW c0 c1,fun k d u a b=>h.f k d u a (by
  have b:d<(((W.cpus.set c.toNat (endC (gi W.cpus c))).length:Nat):Int):=b
  rwa [List.length_set] at b)⟩
def mFst (m:Int):Int:=if mHas m 0=true then 0 else if mHas m 1=true then 1 else if mHas m 2=true then 2 else if mHas m 3=true then 3 else -1
theorem zah2:∀a:Fin 16,a.val≠0->mHas (a.val:Int) (mFst (a.val:Int))=true:=by decide +kernel
theorem zaft {m:Int} (h:mOk m=true) (h0:m≠0):mHas m (mFst m)=true:=by
 obtain ⟨f,rfl⟩:=zqo h
 exact zah2 f fun e=>h0 (by rw [e]; rfl)
theorem zakc (gs:List Grp) (g u:Int):mOk (pinD gs g u)=true:=by
 unfold pinD
 rw [List.foldl_append]
 exact z3y _ _
theorem z90 {W:Wld} (ha:WA W) (g mask:Int):mOk (zch W g mask)=true/\zch W g mask≠0:=by
 unfold zch
 split
 ·rename_i h; exact ⟨z3y _ _,h⟩
 ·split
  ·rename_i h
   refine ⟨?_,h⟩
   exact zakc _ _ _
  ·exact ⟨zai9 ha.c2,ha.ups⟩
structure RelF (W W':Wld):Prop where
 n:W'.now=W.now
 c:W'.cpus.length=W.cpus.length
 t:W'.tasks.length=W.tasks.length
 g:W'.groups=W.groups
theorem RelF.trans {A B C:Wld} (h:RelF A B) (k:RelF B C):RelF A C:=⟨k.n.trans h.n,k.c.trans h.c,k.t.trans h.t,k.g.trans h.g⟩
section
variable {base:Nat} {W W':Wld} {m:MW} {w:World} {bar:Int}
theorem z24 (W:Wld) (t:Int) (x:Tsk) (m:MW):encW (setTk W t x) m=encW W m:=by simp [encW,setTk]
section
variable {pb:Nat}
end
end
def onC (W:Wld) (c:Int) (j:Nat):Bool:=((tkk W (j:Int)).state==1)&&((tkk W (j:Int)).cpu==c)
def rdyF (W:Wld) (c:Int) (j:Nat):Int:=if onC W c j=true then 1 else 0
def ldsF (W:Wld) (c:Int) (j:Nat):Int:=if onC W c j=true then (tkk W (j:Int)).load else 0
def rdyS (W:Wld) (c:Int):Int:=sumF (rdyF W c) W.tasks.length
def ldsS (W:Wld) (c:Int):Int:=sumF (ldsF W c) W.tasks.length
def ltPl (W:Wld) (a b:Int):Bool:=decide (ldsS W a<ldsS W b)||((ldsS W a==ldsS W b)&&decide (rdyS W a<rdyS W b))
def plaN (W:Wld) (m:Int):Nat->Int
 | 0 => -1
 | k+1=>if (mHas m (k:Int)&&(decide (plaN W m k<0)||ltPl W (k:Int) (plaN W m k)))=true then (k:Int) else plaN W m k
def plaD (W:Wld) (m:Int):Int:=plaN W m W.cpus.length
theorem z9d {W:Wld} {m:Int} {k:Nat} (h:(mHas m (k:Int)&&(decide (plaN W m k<0)||ltPl W (k:Int) (plaN W m k)))=true):plaN W m (k+1)=(k:Int):=if_pos h
theorem zadc {W:Wld} {m:Int} {k:Nat} (h:(mHas m (k:Int)&&(decide (plaN W m k<0)||ltPl W (k:Int) (plaN W m k)))=false):plaN W m (k+1)=plaN W m k:=if_neg (by rw [h]; decide)
theorem z1d (W:Wld) (m:Int):∀k:Nat,-1<=plaN W m k/\plaN W m k<(k:Int)/\(0<=plaN W m k->mHas m (plaN W m k)=true)
 | 0=>⟨Int.le_refl _,by show (-1:Int)<0; decide,fun h=>by have:(0:Int)<=-1:=h; omega⟩
 | k+1=>by
  have ih:=z1d W m k
  simp only [plaN]
  split
  ·rename_i h
   simp only [Bool.and_eq_true] at h
   exact ⟨by omega,by omega,fun _=>h.1⟩
  ·exact ⟨ih.1,by omega,ih.2.2⟩
theorem z6r {W:Wld} {m:Int} {j:Nat} (h:mHas m (j:Int)=true):∀k:Nat,j<k->0<=plaN W m k
 | 0,hk=>absurd hk (Nat.not_lt_zero j)
 | k+1,hk=>by
  by_cases e:j=k
  ·subst e
   by_cases hn:plaN W m j<0
   ·rw [z9d (by rw [h,decide_eq_true hn]; rfl)]; omega
   ·simp only [plaN]; split <;> omega
  ·have:=z6r (W:=W) h k (by omega)
   simp only [plaN]
   split <;> omega
theorem zakd {W:Wld} (ha:WA W) {m:Int} (hm:mOk m=true) (h0:m≠0) (hs:∀c:Int,mHas m c=true->0<=c/\c<(W.cpus.length:Int)):0<=plaD W m/\plaD W m<(W.cpus.length:Int)/\mHas m (plaD W m)=true:=by
 have hf:=zaft hm h0
 have hr:=hs _ hf
 have e:((mFst m).toNat:Int)=mFst m:=by omega
 have h1:=z6r (W:=W) (m:=m) (j:=(mFst m).toNat) (by rw [e]; exact hf) W.cpus.length (by omega)
 have h2:=z1d W m W.cpus.length
 exact ⟨h1,h2.2.1,h2.2.2 h1⟩
theorem zadd {W:Wld} (ha:WA W) (g mask:Int):0<=plaD W (zch W g mask)/\plaD W (zch W g mask)<(W.cpus.length:Int)/\mHas (zch W g mask) (plaD W (zch W g mask))=true:=
 zakd ha (z90 ha g mask).1 (z90 ha g mask).2 fun _ h=>zwe ha h
def LdW (W:Wld):Prop:=∀t:Int,0<=t->t<12->0<=(tkk W t).load/\(tkk W t).load<=8000000
theorem zajz {W:Wld} (wp:WldP W):LdW W:=fun t t0 t1=>by
 rcases wp.t t t0 t1 with h | ⟨_,h⟩
 ·rw [h.2]; decide
 ·exact ⟨h.l1,h.l2⟩
theorem zaat (W:Wld) (c:Int) (j:Nat):0<=rdyF W c j/\rdyF W c j<=1:=by unfold rdyF; split <;> omega
theorem zaau {W:Wld} (c:Int) (k:Nat):0<=sumF (rdyF W c) k/\sumF (rdyF W c) k<=(k:Int)*1:=z1o (zaat W c) k
theorem z06 {W:Wld} (hl:LdW W) (c:Int):∀k:Nat,k<=12->0<=sumF (ldsF W c) k/\sumF (ldsF W c) k<=(k:Int)*8000000
 | 0,_=>by simp [sumF]
 | k+1,hk=>by
  have ih:=z06 hl c k (by omega)
  have h1:=hl (k:Int) (by omega) (by omega)
  simp only [sumF]
  have h2:0<=ldsF W c k/\ldsF W c k<=8000000:=by unfold ldsF; split <;> omega
  omega
section
variable {W:Wld} {m:MW} {w:World} {bs:List Nat} {p:Option Addr}
theorem znd {c:Int} (h:RdW bs w W m) (htl:W.tasks.length=12):zad bs Tryz.prog zgf #[.agg (encW W m).toArray,.int .i64 c] w (.int .i64 (rdyS W c)):=
 zx4 W.now m.cO W.cpus.length m.cC m.tO W.tasks.length m.tC m.gO W.groups.length m.gC c fun wr hx=>by
  have h:=(h.ext hx).less (cs:=[]) (by simp)
  intro _ _
  refine zz8 W.tasks.length 0 rfl (fun x k=>k<=W.tasks.length/\x=sumF (rdyF W c) k) ⟨Nat.zero_le _,rfl⟩ fun x k ⟨hk,hx2⟩=>⟨fun hlt => ?_,fun hge => ?_⟩
  ·have hlt:=of_decide_eq_true hlt
   have hr:=zaau (W:=W) c k
   refine ⟨h.t.ix zce (by omega) hlt,_,h.t.f (by omega) hlt (j:=0) rfl,fun _=>h.t.ix zce (by omega) hlt,_,fun _=>h.t.f (by omega) hlt (j:=2) rfl,fun g2=>⟨⟨by omega,by omega⟩,⟨by omega,by omega⟩,zb1 (by omega) ⟨by omega,?_⟩⟩,fun g2=>⟨⟨by omega,by omega⟩,zb1 (by omega) ⟨by omega,?_⟩⟩⟩
   ·have g2:onC W c k=true:=g2
    simp only [sumF,rdyF]; rw [if_pos g2,hx2]
   ·have g2:onC W c k=false:=g2
    simp only [sumF,rdyF]; rw [if_neg (by rw [g2]; decide),hx2,Int.add_zero]
  ·have hge:=of_decide_eq_false hge
   have:k=W.tasks.length:=by omega
   subst this
   rw [hx2]; rfl
theorem zhb {c:Int} (h:RdW bs w W m) (htl:W.tasks.length=12) (hl:LdW W):zad bs Tryz.prog zdo #[.agg (encW W m).toArray,.int .i64 c] w (.int .i64 (ldsS W c)):=
 zx2 W.now m.cO W.cpus.length m.cC m.tO W.tasks.length m.tC m.gO W.groups.length m.gC c fun wr hx=>by
  have h:=(h.ext hx).less (cs:=[]) (by simp)
  intro _ _
  refine zz8 W.tasks.length 0 rfl (fun x k=>k<=W.tasks.length/\x=sumF (ldsF W c) k) ⟨Nat.zero_le _,rfl⟩ fun x k ⟨hk,hx2⟩=>⟨fun hlt => ?_,fun hge => ?_⟩
  ·have hlt:=of_decide_eq_true hlt
   have hr:=z06 hl c k (by omega)
   have hl1:=hl (k:Int) (by omega) (by omega)
   refine ⟨h.t.ix zce (by omega) hlt,_,h.t.f (by omega) hlt (j:=0) rfl,fun _=>h.t.ix zce (by omega) hlt,_,fun _=>h.t.f (by omega) hlt (j:=2) rfl,fun g2=>⟨h.t.ix zce (by omega) hlt,(tkk W (k:Int)).load,h.t.f (by omega) hlt (j:=8) rfl,⟨by omega,by omega⟩,⟨by omega,by omega⟩,zb1 (by omega) ⟨by omega,?_⟩⟩,fun g2=>⟨⟨by omega,by omega⟩,zb1 (by omega) ⟨by omega,?_⟩⟩⟩
   ·have g2:onC W c k=true:=g2
    simp only [sumF,ldsF]; rw [if_pos g2,hx2]
   ·have g2:onC W c k=false:=g2
    simp only [sumF,ldsF]; rw [if_neg (by rw [g2]; decide),hx2,Int.add_zero]
  ·have hge:=of_decide_eq_false hge
   have:k=W.tasks.length:=by omega
   subst this
   rw [hx2]; rfl
theorem zxc {x:Int} (h:RdW bs w W m) (ha:WA W) (hl:LdW W):zad bs Tryz.prog ziw #[.agg (encW W m).toArray,.int .i64 x] w (.int .i64 (plaD W x)):=
 zx3 W.now m.cO W.cpus.length m.cC m.tO W.tasks.length m.tC m.gO W.groups.length m.gC x fun wr hx=>by
  have h:=(h.ext hx).less (cs:=[]) (by simp)
  have hcl:=ha.c2
  have htl:=ha.t
  intro _ _
  refine zz8 W.cpus.length 0 rfl (fun b k=>k<=W.cpus.length/\b=plaN W x k) ⟨Nat.zero_le _,rfl⟩ fun b k ⟨hk,hb⟩=>⟨fun hlt => ?_,fun hge => ?_⟩
  ·have hlt:=of_decide_eq_true hlt
   have key:(((decide (b<0))||(decide (ldsS W (k:Int)<ldsS W b)))||((ldsS W (k:Int)==ldsS W b)&&(decide (rdyS W (k:Int)<rdyS W b))))=(decide (plaN W x k<0)||ltPl W (k:Int) (plaN W x k)):=by rw [hb,Bool.or_assoc]; rfl
   refine ⟨_,zia,fun g=>⟨⟨by omega,by omega⟩,zb1 (by omega) ⟨by omega,?_⟩⟩,fun g=>⟨_,fun _=>zhb h htl hl,_,fun _=>zhb h htl hl,_,fun _=>zhb h htl hl,_,fun _=>zhb h htl hl,_,fun _ _=>znd h htl,_,fun _ _=>znd h htl,fun g2=>⟨⟨by omega,by omega⟩,zb1 (by omega) ⟨by omega,?_⟩⟩,fun g2=>⟨⟨by omega,by omega⟩,zb1 (by omega) ⟨by omega,?_⟩⟩⟩⟩
   ·have g:mHas x (k:Int)=false:=by simpa using g
    rw [hb,zadc (by rw [g]; rfl)]
   ·have g:mHas x (k:Int)=true:=by simpa using g
    rw [z9d (by rw [g,<-key,g2]; rfl)]
   ·have g:mHas x (k:Int)=true:=by simpa using g
    rw [hb,zadc (by rw [g,<-key,g2]; rfl)]
  ·have hge:=of_decide_eq_false hge
   have:k=W.cpus.length:=by omega
   subst this
   rw [hb]; rfl
end
def upP (W:Wld) (g:Int):List Int:=zbk W.groups g++[0]
theorem zago (W:Wld):upP W 0=[0]:=by unfold upP; rw [show zbk W.groups 0=[] from zbm W.groups 3]; rfl
theorem zagp {W:Wld} (ht:zeb W.groups) {g:Int} (hu:zae W.groups g=true) (hz:g≠0):upP W g=g::upP W (gi W.groups g).parent:=by
 unfold upP
 rw [zcf ht hu hz,List.cons_append]
theorem z4p (gs:List Grp):∀(f:Nat) (g:Int),(zl2 f gs g).length<=f
 | 0,_=>Nat.le_refl _
 | f+1,g=>by
  simp only [zl2]
  split
  ·simp
  ·have:=z4p gs f (gi gs g).parent
   simp; omega
theorem zai8 (W:Wld) (g:Int):(upP W g).length<=4:=by
 unfold upP
 have:=z4p W.groups 3 g
 simp; omega
section
variable {W:Wld} {m:MW} {w:World} {bs:List Nat} {p:Option Addr}
def zadh (W:Wld) (g:Int):List Int:=if g=0 then [] else upP W (gi W.groups g).parent
theorem z6s {W:Wld} (ht:zeb W.groups) {g:Int} (hu:zae W.groups g=true):g::zadh W g=upP W g:=by
 unfold zadh
 by_cases hz:g=0
 ·subst hz; rw [if_pos rfl,zago]
 ·rw [if_neg hz,zagp ht hu hz]
theorem zxi {t:Int} (h:RdW [] w W m) (ht:zeb W.groups) (t0:0<=t) (t1:t<(W.tasks.length:Int)) (hu:zae W.groups (tkk W t).group=true) :
  Calls Tryz.prog zi2 #[.agg (encW W m).toArray,.int .i64 t] w fun e w'=>∃o c',e = .returned (.slice o (upP W (tkk W t).group).length c')/\Own encI 1 zao w.heap.size w' o c' (upP W (tkk W t).group)/\ExtX [] w w':=by
 refine (zwt W.now m.cO W.cpus.length m.cC m.tO W.tasks.length m.tC m.gO W.groups.length m.gC t (R:=fun v w'=>∃o c',v = .slice o (upP W (tkk W t).group).length c'/\Own encI 1 zao w.heap.size w' o c' (upP W (tkk W t).group)/\ExtX [] w w') ?_).mono fun e w' ⟨v,he,o,c',hv,h1⟩=>⟨o,c',by rw [he,hv],h1⟩
 intro b hb
 refine ⟨h.t.ix zce t0 t1,_,h.t.f t0 t1 (j:=1) rfl,fun b1 wb hx1 hb1 hcell hn => ?_⟩
 have hlen:=zai8 W (tkk W t).group
 have hO0:Own encI 1 zao w.heap.size wb (some ⟨b1,0,none⟩) 1 [(tkk W t).group]:=.inr ⟨b1,[],rfl,hb1,hcell,by simp [encI],by simp⟩
 have hbn:∀x∈[b],w.heap.size<=x:=by simpa using hb
 refine ⟨fun vs w1=>∃(g:Int) (l:List Int) (o:Option Addr) (c':Nat),vs=[.int .i64 g,.slice o l.length c']/\zae W.groups g=true/\l++zadh W g=upP W (tkk W t).group/\Sc w [b] w1/\Ob encI 1 zao w.heap.size [b] w1 o c' l,fun vs _=>(dep 3 W.groups (zef 0 vs)).toNat,
  fun wr hx _=>⟨_,[(tkk W t).group],_,1,rfl,hu,z6s ht hu,(Sc.mk hx1 hbn).step hx,⟨hO0.ext hx (by simp [za9]; exact fun e=>hn (by simp [e])),by simp [za9]; exact fun e=>hn (by simp [e])⟩⟩,?_⟩
 rintro g oO oL oC w1 hs1 ⟨g',l,o',c',he,hug,hI,s1,hO⟩
 simp only [List.cons.injEq,Value.int.injEq,Value.slice.injEq,true_and,and_true] at he
 obtain ⟨rfl,rfl,rfl,rfl⟩:=he
 have hg:=((h.wide (cs:=[b]) fun x hm=>.inr (hbn x hm)).ext s1.ext.of_nil).g
 have hll:l.length<=4:=by
  have:=congrArg List.length hI
  simp at this
  omega
 refine ⟨fun hz => ?_,fun hz wr hx => ?_⟩
 ·have hz:g≠0:=by simpa using hz
  obtain ⟨hp,a,b',d,e,e2,hd⟩:=zd4 ht hug hz
  refine ⟨hg.ix a b',_,hg.parent a b',fun b2 hb2 wr1 hx2 hs2 hcell2 => ?_⟩
  have s2:=s1.put hx2 hb2
  have hO2:=hO.put hx2 hb2
  obtain ⟨o2,c2,w2,hrun,hk2,hO3,hx3⟩:=hO2.app1 zgj zrr (x:=(gi W.groups g).parent) hs2 s2.ext.size hcell2 (oneI _) (by omega) (by decide) zee #[false,false]
  have s3:=s2.call hx3 fun x hm=>(hO2.own.lt x hm).1
  refine ⟨_,_,_,w2,hrun,hk2,fun wr2 hx4 _=>⟨⟨_,l++[(gi W.groups g).parent],o2,c2,rfl,hp,?_,(s3.step hx4).sub (by simp),(hO3.step hx4).sub (by simp)⟩,?_⟩⟩
  ·rw [List.append_assoc,List.singleton_append,z6s ht hp,<-hI]
   unfold zadh
   rw [if_neg hz]
  ·show (dep 3 W.groups (gi W.groups g).parent).toNat<(dep 3 W.groups g).toNat
   omega
 ·have hz:g=0:=by simpa using hz
  subst hz
  have hl:l=upP W (tkk W t).group:=by
   rw [<-hI]
   unfold zadh
   rw [if_pos rfl,List.append_nil]
  subst hl
  exact ⟨oO,oC,rfl,(hO.step hx).own,(s1.step hx).ext⟩
end
theorem zaee (cs:List Cpu) {c:Int} (c0:0<=c):∀k:Nat,k<=4->c<(k:Int)->(gi cs c).up=true->mHas (upsN cs k) c=true
 | 0,_,h,_=>by omega
 | k+1,hk,h,hu=>by
  have hl:=zs2 cs k (by omega)
  have hb:bitN k<=8:=by
   have:k=0\/k=1\/k=2\/k=3:=by omega
   rcases this with rfl | rfl | rfl | rfl <;> decide
  have key:=z81 ⟨k,by omega⟩ ⟨(upsN cs k).toNat,by omega⟩ ⟨c.toNat,by omega⟩
  rw [show ((⟨(upsN cs k).toNat,by omega⟩:Fin 8).val:Int)=upsN cs k by show (((upsN cs k).toNat:Nat):Int)=upsN cs k; omega,show ((⟨c.toNat,by omega⟩:Fin 4).val:Int)=c by show ((c.toNat:Nat):Int)=c; omega] at key
  simp only [upsN]
  by_cases e:c=(k:Int)
  ·subst e
   rw [if_pos hu,key hl.2]
   simp
  ·have ih:=zaee cs c0 k (by omega) (by omega) hu
   split
   ·rw [key hl.2,ih]; simp
   ·exact ih
theorem z68 {cs:List Cpu} (h4:cs.length<=4) {c:Int} (c0:0<=c) (c1:c<(cs.length:Int)) (hu:(gi cs c).up=true):upsD cs≠0:=fun e=>by
 have h:=zaee cs c0 cs.length h4 c1 hu
 rw [show upsN cs cs.length=0 from e] at h
 have hr:=zlh h
 have:c=0\/c=1\/c=2\/c=3:=by omega
 rcases this with rfl | rfl | rfl | rfl <;> exact absurd h (by decide)
theorem SW.setCp {K:Int} {W:Wld} (h:SW K W) {c:Int} (c0:0<=c) (c1:c<(W.cpus.length:Int)) {x:Cpu} (hu:upsD (W.cpus.set c.toNat x)≠0) (h1 : -1<=x.cur) (h2:x.cur<12):SW K (setCp W c x):=by
 have hl:(W.cpus.set c.toNat x).length=W.cpus.length:=List.length_set
 have hg:∀d:Int,0<=d->gi (W.cpus.set c.toNat x) d=if c=d then x else gi W.cpus d:=fun d d0=>za4 _ _ c0 c1 d0
 refine ⟨h.a.cp hl hu,fun t a b n => ?_,h.tv,fun k d u a b => ?_,fun d a b => ?_⟩
 ·show _/\_/\_<(((W.cpus.set c.toNat x).length:Nat):Int)
  rw [hl]
  exact h.t t a b n
 ·have b:d<(((W.cpus.set c.toNat x).length:Nat):Int):=b
  rw [hl] at b
  exact h.s k d u a b
 ·have b:d<(((W.cpus.set c.toNat x).length:Nat):Int):=b
  rw [hl] at b
  show _<=(gi (W.cpus.set c.toNat x) d).cur/\(gi (W.cpus.set c.toNat x) d).cur<12
  rw [hg _ a]
  split
  ·exact ⟨h1,h2⟩
  ·exact h.cu d a b
theorem z7o (W:Wld) (c:Int) (x:Cpu) (m:MW):encW (setCp W c x) m=encW W m:=by simp [encW,setCp]
section
variable {W W':Wld} {m:MW} {w:World}
end
theorem zadn (W:Wld) (t:Int) (x:Tsk):(setTk W t x).tasks.length=W.tasks.length:=by simp [setTk]
section
variable {base pb:Nat} {W W':Wld} {m:MW} {w:World}
set_option maxHeartbeats 1000000 in
set_option maxHeartbeats 1000000 in
end
theorem z69 {a b w:Int} (ha:0<=a) (hb:0<=b) (h:a+b<=100000000) (w1:1<=w) (w2:w<=20):zbn (a+b) w=zbn a w+zbn b w:=by
 rw [zko (by omega) h w1 w2,zko ha (by omega) w1 w2,zko hb (by omega) w1 w2,Int.add_mul]
theorem zacj {l w:Int} (h0:0<=l) (h1:l<=zcq w):zd6 l w=l:=by
 unfold zd6
 rw [if_neg (show ¬zcq w<l by omega)]
 split <;> omega
theorem zqd {p q:Nat->Bool}:∀{n:Nat},(∀j,j<n->p j=q j)->anyB p n=anyB q n
 | 0,_=>rfl
 | n+1,h=>by simp only [anyB]; rw [zqd fun j hj=>h j (by omega),h n (by omega)]
theorem zpt {p q:Nat->Bool} {v u:Nat->Int}:∀{n:Nat},(∀j,j<n->p j=q j)->(∀j,j<n->p j=true->v j=u j)->zbb p v n=zbb q u n
 | 0,_,_=>rfl
 | n+1,h,hv=>by
  have ih:=zpt (p:=p) (q:=q) (v:=v) (u:=u) (n:=n) (fun j hj=>h j (by omega)) fun j hj=>hv j (by omega)
  simp only [zbb]
  rw [ih,<-h n (by omega)]
  cases hp:p n with
  | false=>simp
  | true=>
   rw [hv n (by omega) hp]
   rcases zbz q u n with ⟨e,_⟩ | ⟨e0,e1,e2,_⟩
   ·rw [e]; simp
   ·rw [hv _ (by omega) (by rw [h _ (by omega)]; exact e2)]
theorem zen {gs:List Grp} (ht:zeb gs):∀g:Int,zae gs g=true->∀x∈zbk gs g,zae gs x=true/\x≠0:=
 zob ht (fun x hx=>by rw [show zbk gs 0=[] from zbm _ _] at hx; cases hx) fun h hu hz ih x hx=>by
  rw [zcf ht hu hz] at hx
  rcases List.mem_cons.1 hx with e | e
  ·subst e; exact ⟨hu,hz⟩
  ·exact ih x e
def stnd (W:Wld) (k c:Int):Prop:=(shf W (gi W.groups k).parent c).floor<=(shf W k c).v/\(shf W k c).v - (shf W (gi W.groups k).parent c).floor<=zcq (shf W k c).w
structure PreT (W:Wld) (x:Tsk):Prop where
 st:x.state=1\/x.state=2
 g:zae W.groups x.group=true
 n:zai x.nice≠0
 m:mOk x.mask=true
 m0:x.mask≠0
 s:tmOk x.sum=true
 u:tmOk x.used=true
 l1:0<=x.load
 l2:x.load<=8000000
 f:x.state=1->(shf W x.group x.cpu).floor<=x.v/\x.v - (shf W x.group x.cpu).floor<=zcq (zai x.nice)
structure PreS (W:Wld) (k c:Int):Prop where
 s:tmOk (shf W k c).sum=true
 root:k=0->(shf W k c).on=false/\(shf W k c).v=0/\(shf W k c).w=10
 st:k≠0->(shf W k c).on=true->stnd W k c
structure PreC (W:Wld) (c:Int):Prop where
 b:tmOk (gi W.cpus c).busy=true
 i:tmOk (gi W.cpus c).idle=true
 c1 : -1<=(gi W.cpus c).cur
 c2:(gi W.cpus c).cur<12
 no:(gi W.cpus c).cur<0->(gi W.cpus c).ran=0
 yes:0<=(gi W.cpus c).cur->(gi W.cpus c).up=true/\1<=(gi W.cpus c).ran/\(gi W.cpus c).ran<=149
 q:0<=(gi W.cpus c).cur->(tkk W (gi W.cpus c).cur).state=1->(tkk W (gi W.cpus c).cur).cpu=c->
  (tkk W (gi W.cpus c).cur).v - (shf W (tkk W (gi W.cpus c).cur).group c).floor<=zbn (gi W.cpus c).ran (zai (tkk W (gi W.cpus c).cur).nice)/\
  ∀x∈zbk W.groups (tkk W (gi W.cpus c).cur).group,stnd W x c/\(shf W x c).v - (shf W (gi W.groups x).parent c).floor<=zbn (gi W.cpus c).ran (shf W x c).w
structure PreA (W:Wld):Prop where
 a:WA W
 t:∀t:Int,0<=t->t<12->(tkk W t).state=0/\tkk W t=zn6\/(tkk W t).state≠0/\PreT W (tkk W t)
 l:∀t:Int,0<=t->t<12->(tkk W t).state≠0->0<=(tkk W t).cpu/\(tkk W t).cpu<(W.cpus.length:Int)
 s:∀k c:Int,zae W.groups k=true->0<=c->c<(W.cpus.length:Int)->PreS W k c
structure Pre (W:Wld):Prop extends PreA W where
 c:∀c:Int,0<=c->c<(W.cpus.length:Int)->PreC W c
def Loc (W:Wld):Prop:=∀t:Int,0<=t->t<12->(tkk W t).state≠0->mHas (zch W (tkk W t).group (tkk W t).mask) (tkk W t).cpu=true
def Flo (W:Wld):Prop:=∀k c:Int,zae W.groups k=true->0<=c->c<(W.cpus.length:Int)->zc4 W k c 20=true->zby W k c 20<=(shf W k c).floor
theorem zux {v f k:Int} (hv:tmOk v=true) (hf:tmOk f=true):zpc v f k=true↔f<=v/\v - f<=zcq k:=by
 have h1:=ze9.1 hv
 have h2:=ze9.1 hf
 have hw:IntKind.i64.wrap (v - f)=v - f:=InR.wrap (k:=.i64) ⟨by show _<=v - f; omega,by show v - f<=_; omega⟩
 unfold zpc
 rw [hw]
 simp
theorem z53 {W:Wld} (wp:WldP W):Loc W:=fun t t0 t1 n=>by
 rcases wp.t t t0 t1 with h | h
 ·exact absurd h.1 n
 ·exact h.2.c
theorem zyl {W:Wld} (wp:WldP W) {k c:Int} (hu:zae W.groups k=true) (c0:0<=c) (c1:c<(W.cpus.length:Int)):ShfP W k c:=by
 obtain ⟨u0,u1,_⟩:=wp.a.u hu
 have hl:=wp.a.sl hu
 exact wp.s k c u0 u1 c0 (by omega)
theorem zyd {W:Wld} (wp:WldP W):Pre W:=by
 have hst:∀k c:Int,zae W.groups k=true->k≠0->0<=c->c<(W.cpus.length:Int)->(shf W k c).on=true->stnd W k c:=fun k c hu hz c0 c1 ho=>by
  have h1:=zyl wp hu c0 c1
  have h2:=zyl wp (wp.a.up hu hz) c0 c1
  exact (zux h1.v h2.f).1 (h1.st hz ho)
 refine ⟨⟨wp.a,fun t t0 t1 => ?_,fun t t0 t1 n => ?_,fun k c hu c0 c1 => ?_⟩,fun c c0 c1 => ?_⟩
 ·rcases wp.t t t0 t1 with h | ⟨n,h⟩
  ·exact .inl h
  ·refine .inr ⟨n,h.st,h.g,h.n,h.m,h.m0,h.s,h.u,h.l1,h.l2,fun h1 => ?_⟩
   obtain ⟨d0,d1⟩:=zwe wp.a h.c
   exact (zux h.v (zyl wp h.g d0 d1).f).1 (h.f h1)
 ·rcases wp.t t t0 t1 with h | ⟨_,h⟩
  ·exact absurd h.1 n
  ·exact zwe wp.a h.c
 ·have h:=zyl wp hu c0 c1
  exact ⟨h.s,h.root,fun hz ho=>hst k c hu hz c0 c1 ho⟩
 ·have h:=wp.c c c0 c1
  have hl:=wp.a.t
  refine ⟨h.b,h.i,h.c1,by have:=h.c2; omega,h.no,fun h0=>⟨(h.yes h0).1,(h.yes h0).2.1,(h.yes h0).2.2.1⟩,fun h0 h1 h2 => ?_⟩
  obtain ⟨_,_,_,_,hline,hstay⟩:=h.yes h0
  unfold zsx at hstay
  rw [Bool.and_eq_true,decide_eq_true_eq] at hstay
  refine ⟨hstay.1,fun x hx => ?_⟩
  have hu:zae W.groups (tkk W (gi W.cpus c).cur).group=true:=by
   rcases wp.t _ h0 (by have:=h.c2; omega) with hz | ⟨_,hz⟩
   ·rw [hz.1] at h1; cases h1
   ·exact hz.g
  obtain ⟨xu,xz⟩:=zen wp.a.tree _ hu x hx
  unfold ze3 zk7 at hline
  rw [Bool.and_eq_true,h2,List.all_eq_true] at hline
  have hs:=hstay.2
  unfold zny at hs
  rw [List.all_eq_true] at hs
  exact ⟨hst x c xu xz c0 c1 (hline.2 x hx),of_decide_eq_true (hs x hx)⟩
structure Oth (c:Int) (W W':Wld):Prop where
 n:W'.now=W.now
 t:W'.tasks=W.tasks
 g:zb6 W.groups W'.groups
 len:W'.cpus.length=W.cpus.length
 b:∀i:Int,0<=i->(gi W'.groups i).band=(gi W.groups i).band
 e:∀k d:Int,0<=k->0<=d->d≠c->shf W' k d=shf W k d
 cp:∀d:Int,0<=d->d≠c->gi W'.cpus d=gi W.cpus d
theorem Oth.refl (c:Int) (W:Wld):Oth c W W:=⟨rfl,rfl,zb6.refl _,rfl,fun _ _=>rfl,fun _ _ _ _ _=>rfl,fun _ _ _=>rfl⟩
theorem Oth.trans {c:Int} {A B C:Wld} (h:Oth c A B) (k:Oth c B C):Oth c A C:=⟨k.n.trans h.n,k.t.trans h.t,h.g.trans k.g,k.len.trans h.len,fun i hi=>(k.b i hi).trans (h.b i hi),fun i d hi hd hn=>(k.e i d hi hd hn).trans (h.e i d hi hd hn),fun d hd hn=>(k.cp d hd hn).trans (h.cp d hd hn)⟩
theorem zxt {W:Wld} {g c:Int} {s:Shf} (h0:0<=g) (h1:g<(W.groups.length:Int)) (c0:0<=c) (c1:c<((gi W.groups g).shelves.length:Int)):Oth c W (setSh W g c s):=
 ⟨rfl,rfl,zep h0 h1,rfl,fun i hi=>z5c h0 h1 hi,fun k d hk hd hn=>by
  rw [zhj h0 h1 c0 c1 hk hd,if_neg fun h=>hn h.2.symm],fun _ _ _=>rfl⟩
theorem z9c {W:Wld} {c:Int} (c0:0<=c) (c1:c<(W.cpus.length:Int)):Oth c W (endW W c):=
 ⟨rfl,rfl,zb6.refl _,List.length_set,fun _ _=>rfl,fun _ _ _ _ _=>rfl,fun d d0 hn=>by
  show gi (W.cpus.set c.toNat (endC (gi W.cpus c))) d=_
  rw [za4 _ _ c0 c1 d0,if_neg fun h=>hn h.symm]⟩
section
variable {c d:Int} {W W':Wld}
theorem zho (ht:W'.tasks=W.tasks) (hT:zb6 W.groups W'.groups) {g:Int} (h:∀j:Nat,j<W.groups.length->1<=j->(gi W.groups (j:Int)).used=true->(gi W.groups (j:Int)).parent=g->(shf W' (j:Int) d).on=(shf W (j:Int) d).on):za5 W' g d=za5 W g d:=by
 unfold za5
 rw [ht,hT.len]
 congr 1
 ·refine zqd fun j _ => ?_
  unfold actT
  rw [ht]
 ·refine zqd fun j hj => ?_
  unfold actG
  rw [hT.u,hT.p]
  by_cases h1:1<=j
  ·cases hu:(gi W.groups (j:Int)).used with
   | false=>simp
   | true=>
    by_cases hp:(gi W.groups (j:Int)).parent=g
    ·rw [h j hj h1 hu hp]
    ·rw [show ((gi W.groups (j:Int)).parent==g)=false from beq_false_of_ne hp]; simp
  ·simp [h1]
theorem zact (ht:W'.tasks=W.tasks) (hT:zb6 W.groups W'.groups) (hl:W.groups.length=8) (h:∀k:Int,0<=k->(shf W' k d).on=(shf W k d).on) (g:Int) {j:Nat} (hj:j<20):memP W' g d j=memP W g d j:=by
 unfold memP
 split
 ·unfold actT; rw [ht]
 ·unfold actG
  rw [hT.u,hT.p,h _ (by omega)]
theorem z55 (ht:W'.tasks=W.tasks) (h:∀k:Int,0<=k->(shf W' k d).v=(shf W k d).v) (j:Nat):memV W' d j=memV W d j:=by
 unfold memV
 split
 ·unfold tkk; rw [ht]
 ·rw [h _ (by omega)]
theorem zv6 (ht:W'.tasks=W.tasks) (hT:zb6 W.groups W'.groups) (hl:W.groups.length=8) (h:∀k:Int,0<=k->(shf W' k d).on=(shf W k d).on) (hv:∀k:Int,0<=k->(shf W' k d).v=(shf W k d).v) (g:Int):zc4 W' g d 20=zc4 W g d 20/\zby W' g d 20=zby W g d 20:=by
 have e:zbb (memP W' g d) (memV W' d) 20=zbb (memP W g d) (memV W d) 20:=zpt (fun j hj=>zact ht hT hl h g hj) fun j _ _=>z55 ht hv j
 unfold zc4 zby
 rw [e]
 refine ⟨rfl,?_⟩
 split
 ·rfl
 ·exact z55 ht hv _
theorem zd7 (ht:W'.tasks=W.tasks) (t:Int):tkk W' t=tkk W t:=by unfold tkk; rw [ht]
theorem zi3 (hT:zb6 W.groups W'.groups) (g:Int):zbk W'.groups g=zbk W.groups g:=hT.path 3 g
theorem z5g {g:Int} (hb:(gi W'.groups g).band=(gi W.groups g).band):dryD W' g d=dryD W g d:=by unfold dryD; rw [hb]
end
theorem zabd {W:Wld} {g c:Int} {j:Nat} (hj:j<20) (h:memP W g c j=true):zc4 W g c 20=true/\zby W g c 20<=memV W c j:=by
 unfold zc4 zby
 rcases zbz (memP W g c) (memV W c) 20 with ⟨_,h2⟩ | ⟨h1,_,_,h4,_⟩
 ·rw [h2 j hj] at h; cases h
 ·rw [if_neg (by omega)]
  exact ⟨decide_eq_true h1,h4 j hj h⟩
theorem zabe {W:Wld} (ha:WA W) {t:Int} (t0:0<=t) (t1:t<12) (hs:(tkk W t).state=1):zc4 W (tkk W t).group (tkk W t).cpu 20=true/\zby W (tkk W t).group (tkk W t).cpu 20<=(tkk W t).v:=by
 have e:((t.toNat:Nat):Int)=t:=by omega
 have h:memP W (tkk W t).group (tkk W t).cpu t.toNat=true:=by
  rw [zim (by omega)]
  unfold actT
  rw [e]
  show (((tkk W t).state==1)&&((tkk W t).group==_)&&((tkk W t).cpu==_))=true
  rw [hs]; simp
 have:=zabd (by omega) h
 rwa [ztj (by omega),e] at this
theorem z0s {W:Wld} (ha:WA W) {k c:Int} (hu:zae W.groups k=true) (hz:k≠0) (ho:(shf W k c).on=true):zc4 W (gi W.groups k).parent c 20=true/\zby W (gi W.groups k).parent c 20<=(shf W k c).v:=by
 obtain ⟨k0,k1,ku⟩:=zac.1 hu
 have hl:=ha.gl
 have e:((k.toNat:Nat):Int)=k:=by omega
 have h:memP W (gi W.groups k).parent c (12+k.toNat)=true:=by
  rw [zil]
  unfold actG
  rw [e,ku,ho]
  simp
  omega
 have:=zabd (by omega) h
 rwa [zti,e] at this
structure LC (c:Int) (W W':Wld):Prop where
 o:Oth c W W'
 cs:W'.cpus=W.cpus
 f:∀k d:Int,0<=k->0<=d->(shf W' k d).floor=(shf W k d).floor
 w:∀k d:Int,0<=k->0<=d->(shf W' k d).w=(shf W k d).w
 s:∀k d:Int,0<=k->0<=d->(shf W' k d).sum=(shf W k d).sum
 r:∀d:Int,0<=d->shf W' 0 d=shf W 0 d
 v:∀k d:Int,zae W.groups k=true->k≠0->0<=d->stnd W k d->(shf W' k d).v=(shf W k d).v
theorem LC.refl (c:Int) (W:Wld):LC c W W:=⟨Oth.refl _ _,rfl,fun _ _ _ _=>rfl,fun _ _ _ _=>rfl,fun _ _ _ _=>rfl,fun _ _=>rfl,fun _ _ _ _ _ _=>rfl⟩
theorem LC.st {c:Int} {W W':Wld} (ht:zeb W.groups) (h:LC c W W') {k d:Int} (hu:zae W.groups k=true) (hz:k≠0) (d0:0<=d) (hs:stnd W k d):stnd W' k d:=by
 have hp:=(zac.1 (zd4 ht hu hz).1).1
 have k0:=(zac.1 hu).1
 unfold stnd
 rw [h.o.g.p,h.f _ d hp d0,h.v k d hu hz d0 hs,h.w k d k0 d0]
 exact hs
theorem LC.trans {c:Int} {A B C:Wld} (ht:zeb A.groups) (h:LC c A B) (k:LC c B C):LC c A C:=
 ⟨h.o.trans k.o,k.cs.trans h.cs,fun i d a b=>(k.f i d a b).trans (h.f i d a b),fun i d a b=>(k.w i d a b).trans (h.w i d a b),fun i d a b=>(k.s i d a b).trans (h.s i d a b),fun d a=>(k.r d a).trans (h.r d a),fun i d hu hz d0 hs=>by
  rw [k.v i d (by rw [h.o.g.usd]; exact hu) hz d0 (h.st ht hu hz d0 hs),h.v i d hu hz d0 hs]⟩
theorem Pre.lc {c:Int} {W W':Wld} (p:Pre W) (h:LC c W W') (ha:WA W') (hon:∀k d:Int,zae W.groups k=true->k≠0->0<=d->d<(W.cpus.length:Int)->(shf W' k d).on=true->stnd W' k d):Pre W':=by
 have et:∀t,tkk W' t=tkk W t:=zd7 h.o.t
 refine ⟨⟨ha,fun t t0 t1 => ?_,fun t t0 t1 n => ?_,fun k d hu d0 d1 => ?_⟩,fun d d0 d1 => ?_⟩
 ·rw [et]
  rcases p.t t t0 t1 with hz | ⟨n,hx⟩
  ·exact .inl hz
  ·refine .inr ⟨n,hx.st,by rw [h.o.g.usd]; exact hx.g,hx.n,hx.m,hx.m0,hx.s,hx.u,hx.l1,hx.l2,fun h1 => ?_⟩
   rw [h.f _ _ (zac.1 hx.g).1 (p.l t t0 t1 n).1]
   exact hx.f h1
 ·rw [et] at n ⊢
  rw [h.o.len]
  exact p.l t t0 t1 n
 ·rw [h.o.g.usd] at hu
  rw [h.cs] at d1
  have hs:=p.s k d hu d0 d1
  have k0:=(zac.1 hu).1
  refine ⟨by rw [h.s k d k0 d0]; exact hs.s,fun hz => ?_,fun hz ho=>hon k d hu hz d0 d1 ho⟩
  subst hz
  rw [h.r d d0]
  exact hs.root rfl
 ·rw [h.cs] at d1
  have hc:=p.c d d0 d1
  refine ⟨by rw [h.cs]; exact hc.b,by rw [h.cs]; exact hc.i,by rw [h.cs]; exact hc.c1,by rw [h.cs]; exact hc.c2,by rw [h.cs]; exact hc.no,by rw [h.cs]; exact hc.yes,?_⟩
  rw [h.cs]
  simp only [et]
  intro h0 h1 h2
  obtain ⟨q1,q2⟩:=hc.q h0 h1 h2
  have hu:zae W.groups (tkk W (gi W.cpus d).cur).group=true:=by
   rcases p.t _ h0 hc.c2 with hz | ⟨_,hx⟩
   ·rw [hz.1] at h1; cases h1
   ·exact hx.g
  refine ⟨by rw [h.f _ d (zac.1 hu).1 d0]; exact q1,fun x hx => ?_⟩
  rw [zi3 h.o.g] at hx
  obtain ⟨xu,xz⟩:=zen p.a.tree _ hu x hx
  obtain ⟨s1,s2⟩:=q2 x hx
  refine ⟨h.st p.a.tree xu xz d0 s1,?_⟩
  rw [h.o.g.p,h.v x d xu xz d0 s1,h.f _ d (zac.1 (p.a.up xu xz)).1 d0,h.w x d (zac.1 xu).1 d0]
  exact s2
def onEq (W:Wld) (c k:Int):Prop:=(shf W k c).on=(za5 W k c && !dryD W k c)
theorem zafl {W:Wld} (p:Pre W) {k c d:Int} (hu:zae W.groups k=true) (hd:dep 3 W.groups k=d) (d1:1<=d) (c0:0<=c) (c1:c<(W.cpus.length:Int)) :
  LC c W (setSh W k c (zda W k c))/\Pre (setSh W k c (zda W k c))/\onEq (setSh W k c (zda W k c)) c k/\∀g:Int,zae W.groups g=true->g≠k->(gi W.groups k).parent≠g->onEq W c g->onEq (setSh W k c (zda W k c)) c g:=by
 have hz:k≠0:=fun e=>by subst e; rw [zcv] at hd; omega
 obtain ⟨u0,u1,_⟩:=zac.1 hu
 have hl:=p.a.gl
 have hsl:=p.a.sl hu
 have c1':c<((gi W.groups k).shelves.length:Int):=by omega
 have hpu:=p.a.up hu hz
 have hpk:(gi W.groups k).parent≠k:=fun e=>by
  obtain ⟨_,_,_,n,e1,e2,_⟩:=zd4 p.a.tree hu hz
  rw [e] at e2; omega
 have e:∀{i j:Int},0<=i->0<=j->shf (setSh W k c (zda W k c)) i j=if k=i/\c=j then zda W k c else shf W i j:=fun hi hj=>zhj u0 u1 c0 c1' hi hj
 have ev:stnd W k c->(zda W k c).v=(shf W k c).v:=fun hs=>by
  simp only [zda]
  split
  ·rw [zacj (by have:=hs.1; omega) hs.2]; omega
  ·rfl
 have eq0:∀{i j:Int},k=i/\c=j->(zda W k c).floor=(shf W i j).floor/\(zda W k c).w=(shf W i j).w/\(zda W k c).sum=(shf W i j).sum:=fun h=>by
  obtain ⟨rfl,rfl⟩:=h; exact ⟨rfl,rfl,rfl⟩
 have hT:=zep (W:=W) (g:=k) (c:=c) (s:=zda W k c) u0 u1
 have lc:LC c W (setSh W k c (zda W k c)):=by
  refine ⟨zxt u0 u1 c0 c1',rfl,fun i j hi hj => ?_,fun i j hi hj => ?_,fun i j hi hj => ?_,fun j hj => ?_,fun i j iu iz hj hs => ?_⟩
  ·rw [e hi hj]; split
   ·rename_i h; exact (eq0 h).1
   ·rfl
  ·rw [e hi hj]; split
   ·rename_i h; exact (eq0 h).2.1
   ·rfl
  ·rw [e hi hj]; split
   ·rename_i h; exact (eq0 h).2.2
   ·rfl
  ·rw [e (Int.le_refl 0) hj,if_neg fun h=>hz h.1]
  ·rw [e (zac.1 iu).1 hj]; split
   ·rename_i h
    obtain ⟨rfl,rfl⟩:=h
    exact ev hs
   ·rfl
 have act:∀g:Int,(gi W.groups k).parent≠g->za5 (setSh W k c (zda W k c)) g c=za5 W g c:=fun g hg=>by
  refine zho (W:=W) (W':=setSh W k c (zda W k c)) rfl hT fun j hj _ _ hp => ?_
  rw [e (by omega) c0,if_neg]
  rintro ⟨h,_⟩
  exact hg (by rw [h]; exact hp)
 have hoe:onEq (setSh W k c (zda W k c)) c k:=by
  unfold onEq
  rw [e u0 c0,if_pos ⟨rfl,rfl⟩,act k hpk,zqj u0 u1 u0]
  rfl
 refine ⟨lc,p.lc lc (p.a.setSh u0 (by omega)) fun i j iu iz j0 j1 ho => ?_,hoe,fun g gu gk hg h => ?_⟩
 ·by_cases h:k=i/\c=j
  ·obtain ⟨rfl,rfl⟩:=h
   by_cases hs:stnd W k c
   ·exact lc.st p.a.tree hu hz c0 hs
   ·have hoff:(shf W k c).on=false:=by
     cases hb:(shf W k c).on with
     | false=>rfl
     | true=>exact absurd ((p.s k c hu c0 c1).st hz hb) hs
    rw [e u0 c0,if_pos ⟨rfl,rfl⟩] at ho
    have ho:(za5 W k c && !dryD W k c)=true:=ho
    unfold stnd
    rw [hT.p,e u0 c0,if_pos ⟨rfl,rfl⟩,lc.f _ c (zac.1 hpu).1 c0]
    simp only [zda]
    rw [if_pos ⟨ho,hoff⟩]
    have:=zeh ((shf W k c).v - (shf W (gi W.groups k).parent c).floor) (shf W k c).w
    omega
  ·rw [e (zac.1 iu).1 j0,if_neg h] at ho
   exact lc.st p.a.tree iu iz j0 ((p.s i j iu j0 j1).st iz ho)
 ·unfold onEq
  have g0:=(zac.1 gu).1
  rw [e g0 c0,if_neg fun h=>gk h.1.symm,act g hg,zqj u0 u1 g0]
  exact h
theorem z85 {W:Wld} (p:Pre W) {c d:Int} (d1:1<=d) (c0:0<=c) (c1:c<(W.cpus.length:Int)) (hI:∀g:Int,zae W.groups g=true->d<dep 3 W.groups g->onEq W c g):∀k:Nat,k<=8->
  LC c W (zcd W c d k)/\Pre (zcd W c d k)/\∀g:Int,zae W.groups g=true->d<dep 3 W.groups g\/dep 3 W.groups g=d/\g<(k:Int)->onEq (zcd W c d k) c g
 | 0,_=>⟨LC.refl _ _,p,fun g gu h=>hI g gu (by
   rcases h with h | h
   ·exact h
   ·have:=(zac.1 gu).1
    have:=h.2
    omega)⟩
 | k+1,hk=>by
  obtain ⟨a,b,ih⟩:=z85 p d1 c0 c1 hI k (by omega)
  have hl:=b.a.gl
  have hT:=a.o.g
  simp only [zcd]
  split
  ·rename_i hc
   have hu:zae (zcd W c d k).groups (k:Int)=true:=zac.2 ⟨by omega,by omega,hc.1⟩
   obtain ⟨l1,l2,l3,l4⟩:=zafl b hu hc.2 d1 c0 (c:=c) (by rw [a.cs]; exact c1)
   refine ⟨a.trans p.a.tree l1,l2,fun g gu h => ?_⟩
   by_cases e:g=(k:Int)
   ·subst e; exact l3
   ·have hkz:(k:Int)≠0:=fun e=>by have:=hc.2; rw [e,zcv] at this; omega
    obtain ⟨_,_,_,n,e1,e2,_⟩:=zd4 b.a.tree hu hkz
    refine l4 g (by rw [hT.usd]; exact gu) e (fun hp => ?_) (ih g gu ?_)
    ·rw [hp,hT.dep] at e2
     have:=hc.2
     omega
    ·rcases h with h | h
     ·exact .inl h
     ·exact .inr ⟨h.1,by have:=h.2; omega⟩
  ·rename_i hc
   refine ⟨a,b,fun g gu h=>ih g gu ?_⟩
   rcases h with h | h
   ·exact .inl h
   ·refine .inr ⟨h.1,?_⟩
    by_cases e:g=(k:Int)
    ·subst e
     exact absurd ⟨by rw [hT.u]; exact (zac.1 gu).2.2,by rw [hT.dep]; exact h.1⟩ hc
    ·have:=h.2
     omega
theorem z51 {W:Wld} (p:Pre W) {c:Int} (c0:0<=c) (c1:c<(W.cpus.length:Int)):LC c W (zat W c)/\Pre (zat W c)/\∀g:Int,zae W.groups g=true->g≠0->onEq (zat W c) c g:=by
 have key:∀j:Nat,j<=3->LC c W (zdz W c j)/\Pre (zdz W c j)/\∀g:Int,zae W.groups g=true->3 - (j:Int)<dep 3 W.groups g->onEq (zdz W c j) c g:=by
  intro j
  induction j with
  | zero=>exact fun _=>⟨LC.refl _ _,p,fun g gu h=>by have:=(zqh p.a gu).2; omega⟩
  | succ j ih=>
   intro hj
   obtain ⟨a,b,h⟩:=ih (by omega)
   have hT:=a.o.g
   obtain ⟨a2,b2,h2⟩:=z85 b (c:=c) (d:=3 - (j:Int)) (by omega) c0 (by rw [a.cs]; exact c1) (fun g gu hd=>h g (by rwa [hT.usd] at gu) (by rwa [hT.dep] at hd)) 8 (Nat.le_refl _)
   refine ⟨a.trans p.a.tree a2,b2,fun g gu hd=>h2 g (by rw [hT.usd]; exact gu) ?_⟩
   rw [hT.dep]
   have:=(zac.1 gu).2.1
   have:=p.a.gl
   by_cases e:dep 3 W.groups g=3 - (j:Int)
   ·exact .inr ⟨e,by omega⟩
   ·exact .inl (by omega)
 obtain ⟨a,b,h⟩:=key 3 (Nat.le_refl _)
 refine ⟨a,b,fun g gu gz=>h g gu ?_⟩
 obtain ⟨_,_,_,n,e1,_⟩:=zd4 p.a.tree gu gz
 omega
theorem z07 {W:Wld} (p:Pre W):∀c:Nat,c<=W.cpus.length->Pre (zbq W c)/\(zbq W c).cpus=W.cpus
 | 0,_=>⟨p,rfl⟩
 | c+1,hc=>by
  obtain ⟨a,e⟩:=z07 p c (by omega)
  obtain ⟨l,b,_⟩:=z51 a (c:=(c:Int)) (by omega) (by rw [e]; omega)
  exact ⟨b,l.cs.trans e⟩
theorem Pre.onlyB {W W':Wld} (p:Pre W) (ho:zkp W W') (ha:WA W'):Pre W':=by
 have et:∀t,tkk W' t=tkk W t:=zd7 ho.t
 have es:∀k d:Int,0<=k->shf W' k d=shf W k d:=fun k d hk=>by unfold shf; rw [ho.s k hk]
 have est:∀k d:Int,zae W.groups k=true->k≠0->(stnd W' k d↔stnd W k d):=fun k d hu hz=>by
  unfold stnd
  rw [ho.g.p,es _ _ (zac.1 (p.a.up hu hz)).1,es _ _ (zac.1 hu).1]
 refine ⟨⟨ha,fun t t0 t1 => ?_,fun t t0 t1 n => ?_,fun k d hu d0 d1 => ?_⟩,fun d d0 d1 => ?_⟩
 ·rw [et]
  rcases p.t t t0 t1 with hz | ⟨n,hx⟩
  ·exact .inl hz
  ·refine .inr ⟨n,hx.st,by rw [ho.g.usd]; exact hx.g,hx.n,hx.m,hx.m0,hx.s,hx.u,hx.l1,hx.l2,fun h1 => ?_⟩
   rw [es _ _ (zac.1 hx.g).1]
   exact hx.f h1
 ·rw [et] at n ⊢
  rw [ho.c]
  exact p.l t t0 t1 n
 ·rw [ho.g.usd] at hu
  rw [ho.c] at d1
  have hs:=p.s k d hu d0 d1
  have k0:=(zac.1 hu).1
  exact ⟨by rw [es k d k0]; exact hs.s,by rw [es k d k0]; exact hs.root,fun hz h=>(est k d hu hz).2 (hs.st hz (by rwa [es k d k0] at h))⟩
 ·rw [ho.c] at d1
  have hc:=p.c d d0 d1
  refine ⟨by rw [ho.c]; exact hc.b,by rw [ho.c]; exact hc.i,by rw [ho.c]; exact hc.c1,by rw [ho.c]; exact hc.c2,by rw [ho.c]; exact hc.no,by rw [ho.c]; exact hc.yes,?_⟩
  rw [ho.c]
  simp only [et]
  intro h0 h1 h2
  obtain ⟨q1,q2⟩:=hc.q h0 h1 h2
  have hu:zae W.groups (tkk W (gi W.cpus d).cur).group=true:=by
   rcases p.t _ h0 hc.c2 with hz | ⟨_,hx⟩
   ·rw [hz.1] at h1; cases h1
   ·exact hx.g
  refine ⟨by rw [es _ d (zac.1 hu).1]; exact q1,fun x hx => ?_⟩
  rw [zi3 ho.g] at hx
  obtain ⟨xu,xz⟩:=zen p.a.tree _ hu x hx
  obtain ⟨s1,s2⟩:=q2 x hx
  refine ⟨(est x d xu xz).2 s1,?_⟩
  rw [ho.g.p,es x d (zac.1 xu).1,es _ d (zac.1 (p.a.up xu xz)).1]
  exact s2
structure FC (c:Int) (W W':Wld):Prop where
 o:Oth c W W'
 cs:W'.cpus=W.cpus
 on:∀k d:Int,0<=k->0<=d->(shf W' k d).on=(shf W k d).on
 v:∀k d:Int,0<=k->0<=d->(shf W' k d).v=(shf W k d).v
 w:∀k d:Int,0<=k->0<=d->(shf W' k d).w=(shf W k d).w
 s:∀k d:Int,0<=k->0<=d->(shf W' k d).sum=(shf W k d).sum
 up:∀k d:Int,0<=k->0<=d->(shf W k d).floor<=(shf W' k d).floor
 fl:∀k:Int,0<=k->(shf W' k c).floor=(shf W k c).floor\/zc4 W k c 20=true/\(shf W' k c).floor=zby W k c 20
theorem zqq {W:Wld} (ha:WA W) {c:Int} (c0:0<=c) (c1:c<(W.cpus.length:Int)):∀k:Nat,k<=8->FC c W (za3 W c k)/\WA (za3 W c k)/\∀g:Int,zae W.groups g=true->g<(k:Int)->zc4 W g c 20=true->zby W g c 20<=(shf (za3 W c k) g c).floor
 | 0,_=>⟨⟨Oth.refl _ _,rfl,fun _ _ _ _=>rfl,fun _ _ _ _=>rfl,fun _ _ _ _=>rfl,fun _ _ _ _=>rfl,fun _ _ _ _=>Int.le_refl _,fun _ _=>.inl rfl⟩,ha,fun g gu h=>by have:=(zac.1 gu).1; omega⟩
 | k+1,hk=>by
  obtain ⟨f,hA,ih⟩:=zqq ha c0 c1 k (by omega)
  have hl:=hA.gl
  have hT:=f.o.g
  have hb:=zv6 f.o.t hT ha.gl (fun i hi=>f.on i c hi c0) (fun i hi=>f.v i c hi c0)
  simp only [za3]
  split
  ·rename_i hc
   have hu:zae (za3 W c k).groups (k:Int)=true:=zac.2 ⟨by omega,by omega,hc.1⟩
   have hsl:=hA.sl hu
   have c1':c<((gi (za3 W c k).groups (k:Int)).shelves.length:Int):=by rw [hsl,f.cs]; exact c1
   have e:∀{i j:Int},0<=i->0<=j->shf (setSh (za3 W c k) (k:Int) c (zw1 (za3 W c k) (k:Int) c)) i j=if (k:Int)=i/\c=j then zw1 (za3 W c k) (k:Int) c else shf (za3 W c k) i j:=fun hi hj=>zhj (by omega) (by omega) c0 c1' hi hj
   refine ⟨⟨f.o.trans (zxt (by omega) (by omega) c0 c1'),f.cs,fun i j hi hj => ?_,fun i j hi hj => ?_,fun i j hi hj => ?_,fun i j hi hj => ?_,fun i j hi hj => ?_,fun i hi => ?_⟩,hA.setSh (by omega) (by omega),fun g gu hg hB => ?_⟩
   ·rw [e hi hj]; split
    ·rename_i h; obtain ⟨rfl,rfl⟩:=h; exact f.on _ _ hi hj
    ·exact f.on i j hi hj
   ·rw [e hi hj]; split
    ·rename_i h; obtain ⟨rfl,rfl⟩:=h; exact f.v _ _ hi hj
    ·exact f.v i j hi hj
   ·rw [e hi hj]; split
    ·rename_i h; obtain ⟨rfl,rfl⟩:=h; exact f.w _ _ hi hj
    ·exact f.w i j hi hj
   ·rw [e hi hj]; split
    ·rename_i h; obtain ⟨rfl,rfl⟩:=h; exact f.s _ _ hi hj
    ·exact f.s i j hi hj
   ·rw [e hi hj]; split
    ·rename_i h; obtain ⟨rfl,rfl⟩:=h
     have h1:=f.up (k:Int) c hi hj
     have h2:=hc.2.2
     show _<=zby (za3 W c k) (k:Int) c 20
     omega
    ·exact f.up i j hi hj
   ·rw [e hi c0]; split
    ·rename_i h; obtain ⟨rfl,_⟩:=h
     refine .inr ⟨(hb _).1▸hc.2.1,?_⟩
     show zby (za3 W c k) (k:Int) c 20=_
     exact (hb _).2
    ·exact f.fl i hi
   ·have g0:=(zac.1 gu).1
    rw [e g0 c0]
    split
    ·rename_i h; obtain ⟨rfl,_⟩:=h
     show _<=zby (za3 W c k) (k:Int) c 20
     rw [(hb _).2]; exact Int.le_refl _
    ·rename_i h
     exact ih g gu (by have:g≠(k:Int):=fun e=>h ⟨e.symm,rfl⟩; omega) hB
  ·rename_i hc
   refine ⟨f,hA,fun g gu hg hB => ?_⟩
   by_cases e:g=(k:Int)
   ·subst e
    rw [hT.u,(hb _).1,(hb _).2] at hc
    by_cases h:zby W (k:Int) c 20>(shf (za3 W c k) (k:Int) c).floor
    ·exact absurd ⟨(zac.1 gu).2.2,hB,h⟩ hc
    ·omega
   ·exact ih g gu (by omega) hB
theorem Oth.active {c d:Int} {W W':Wld} (h:Oth c W W') (d0:0<=d) (hd:d≠c) (g:Int):za5 W' g d=za5 W g d:=
 zho h.t h.g fun j _ _ _ _=>by rw [h.e _ d (by omega) d0 hd]
theorem Oth.line {c:Int} {W W':Wld} (h:Oth c W W') (ht:zeb W.groups) {t:Int} (hu:zae W.groups (tkk W t).group=true) (d0:0<=(tkk W t).cpu) (hd:(tkk W t).cpu≠c):ze3 W' t=ze3 W t:=by
 unfold ze3 zk7
 rw [zd7 h.t,zi3 h.g]
 congr 1
 rw [Bool.eq_iff_iff,List.all_eq_true,List.all_eq_true]
 refine forall_congr' fun x=>forall_congr' fun hx => ?_
 rw [h.e x _ (zac.1 (zen ht _ hu x hx).1).1 d0 hd]
structure Dn (W:Wld) (c:Int):Prop where
 on:∀k:Int,zae W.groups k=true->k≠0->onEq W c k
 cu:0<=(gi W.cpus c).cur->(tkk W (gi W.cpus c).cur).cpu=c/\ze3 W (gi W.cpus c).cur=true
 fl:∀k:Int,zae W.groups k=true->zc4 W k c 20=true->zby W k c 20<=(shf W k c).floor
theorem Dn.oth {c d:Int} {W W':Wld} (h:Dn W d) (p:Pre W) (o:Oth c W W') (d0:0<=d) (d1:d<(W.cpus.length:Int)) (hd:d≠c):Dn W' d:=by
 refine ⟨fun k hu hz => ?_,fun h0 => ?_,fun k hu hB => ?_⟩
 ·rw [o.g.usd] at hu
  have k0:=(zac.1 hu).1
  have:=h.on k hu hz
  unfold onEq at this ⊢
  rw [o.e k d k0 d0 hd,o.active d0 hd,z5g (o.b k k0)]
  exact this
 ·rw [o.cp d d0 hd] at h0 ⊢
  rw [zd7 o.t]
  obtain ⟨h1,h2⟩:=h.cu h0
  refine ⟨h1,?_⟩
  have hs:(tkk W (gi W.cpus d).cur).state=1:=by
   unfold ze3 at h2
   rw [Bool.and_eq_true] at h2
   exact eq_of_beq h2.1
  have hu:zae W.groups (tkk W (gi W.cpus d).cur).group=true:=by
   rcases p.t _ h0 (p.c d d0 d1).c2 with hz | ⟨_,hx⟩
   ·rw [hz.1] at hs; cases hs
   ·exact hx.g
  rw [o.line p.a.tree hu (by rw [h1]; exact d0) (by rw [h1]; exact hd)]
  exact h2
 ·rw [o.g.usd] at hu
  have hb:=zv6 (d:=d) o.t o.g p.a.gl (fun i hi=>by rw [o.e i d hi d0 hd]) (fun i hi=>by rw [o.e i d hi d0 hd]) k
  rw [hb.1] at hB
  rw [hb.2,o.e k d (zac.1 hu).1 d0 hd]
  exact h.fl k hu hB
theorem PreT.cp {W:Wld} {x:Tsk} (h:PreT W x) (cs:List Cpu):PreT { W with cpus:=cs } x:=⟨h.st,h.g,h.n,h.m,h.m0,h.s,h.u,h.l1,h.l2,h.f⟩
theorem PreS.cp {W:Wld} {k c:Int} (h:PreS W k c) (cs:List Cpu):PreS { W with cpus:=cs } k c:=⟨h.s,h.root,h.st⟩
theorem PreA.endW {W:Wld} (p:PreA W) {c:Int} (c0:0<=c) (c1:c<(W.cpus.length:Int)):PreA (endW W c):=by
 have hlen:(Go.Proofs.YtclpmgfpjeaibaaGreatDoor.endW W c).cpus.length=W.cpus.length:=List.length_set
 refine ⟨?_,fun t t0 t1 => ?_,fun t t0 t1 n => ?_,fun k d hu d0 d1 => ?_⟩
 ·refine p.a.cp List.length_set ?_
  rw [z8j List.length_set fun j hj => ?_]
  ·exact p.a.ups
  ·rw [za4 _ _ c0 c1 (by omega)]
   split
   ·rename_i e; rw [<-e]; rfl
   ·rfl
 ·rcases p.t t t0 t1 with h | h
  ·exact .inl h
  ·exact .inr ⟨h.1,h.2.cp _⟩
 ·rw [hlen]; exact p.l t t0 t1 n
 ·rw [hlen] at d1; exact (p.s k d hu d0 d1).cp _
theorem Pre.endW {W:Wld} (p:Pre W) {c:Int} (c0:0<=c) (c1:c<(W.cpus.length:Int)):Pre (endW W c):=by
 refine ⟨p.toPreA.endW c0 c1,fun d d0 d1 => ?_⟩
 have hlen:(Go.Proofs.YtclpmgfpjeaibaaGreatDoor.endW W c).cpus.length=W.cpus.length:=List.length_set
 have hcp:gi (Go.Proofs.YtclpmgfpjeaibaaGreatDoor.endW W c).cpus d=if c=d then endC (gi W.cpus c) else gi W.cpus d:=za4 _ _ c0 c1 d0
 rw [hlen] at d1
 have hc:=p.c d d0 d1
 by_cases e:c=d
 ·subst e
  rw [if_pos rfl] at hcp
  have n1:(endC (gi W.cpus c)).cur = -1:=rfl
  exact ⟨by rw [hcp]; exact hc.b,by rw [hcp]; exact hc.i,by rw [hcp,n1]; exact Int.le_refl _,by rw [hcp,n1]; decide,fun _=>by rw [hcp]; rfl,fun h=>by rw [hcp,n1] at h; omega,fun h=>by rw [hcp,n1] at h; omega⟩
 ·rw [if_neg e] at hcp
  exact ⟨by rw [hcp]; exact hc.b,by rw [hcp]; exact hc.i,by rw [hcp]; exact hc.c1,by rw [hcp]; exact hc.c2,by rw [hcp]; exact hc.no,by rw [hcp]; exact hc.yes,by rw [hcp]; exact hc.q⟩
theorem zagc {W:Wld} (p:Pre W) {c:Int} (c0:0<=c) (c1:c<(W.cpus.length:Int)):Pre (zhl W c)/\Oth c W (zhl W c)/\Dn (zhl W c) c:=by
 obtain ⟨l,p1,hon⟩:=z51 p c0 c1
 obtain ⟨f,hA,hfl⟩:=zqq p1.a c0 (c:=c) (by rw [l.cs]; exact c1) 8 (Nat.le_refl _)
 have f:FC c (zat W c) (za7 (zat W c) c):=f
 have hA:WA (za7 (zat W c) c):=hA
 have hfl:∀g:Int,zae (zat W c).groups g=true->g<((8:Nat):Int)->zc4 (zat W c) g c 20=true->zby (zat W c) g c 20<=(shf (za7 (zat W c) c) g c).floor:=hfl
 have hon:∀g:Int,zae (zat W c).groups g=true->g≠0->onEq (zat W c) c g:=fun g gu gz=>hon g (by rwa [l.o.g.usd] at gu) gz
 have hgl:=p1.a.gl
 have hlc:(zat W c).cpus.length=W.cpus.length:=by rw [l.cs]
 have hdef:zhl W c=if zoq (za7 (zat W c) c) c=true then endW (za7 (zat W c) c) c else za7 (zat W c) c:=rfl
 have hO:Oth c W (za7 (zat W c) c):=l.o.trans f.o
 rw [hdef]
 clear hdef
 have c1':c<((zat W c).cpus.length:Int):=by rw [hlc]; exact c1
 generalize zat W c=V at p1 hon f hA hfl hgl hlc hO c1'
 generalize za7 V c=F at f hA hfl hO
 have et:∀t,tkk F t=tkk V t:=zd7 f.o.t
 have hT:=f.o.g
 have best:=zv6 (d:=c) f.o.t hT hgl (fun i hi=>f.on i c hi c0) (fun i hi=>f.v i c hi c0)
 have low:∀k:Int,zae V.groups k=true->∀v:Int,(zc4 V k c 20=true/\zby V k c 20<=v)->(shf V k c).floor<=v->(shf F k c).floor<=v:=fun k hu v hv hf=>by
  rcases f.fl k (zac.1 hu).1 with e | ⟨_,e⟩
  ·rw [e]; exact hf
  ·rw [e]; exact hv.2
 have st:∀k d:Int,zae V.groups k=true->k≠0->0<=d->(shf V k d).on=true->stnd V k d->stnd F k d:=fun k d hu hz d0 ho hs=>by
  have pu:=p1.a.up hu hz
  have k0:=(zac.1 hu).1
  have q0:=(zac.1 pu).1
  unfold stnd
  rw [hT.p,f.v k d k0 d0,f.w k d k0 d0]
  have hup:=f.up _ d q0 d0
  refine ⟨?_,by have:=hs.2; omega⟩
  by_cases hd:d=c
  ·subst hd
   exact low _ pu _ (z0s p1.a hu hz ho) hs.1
  ·rw [f.o.e _ d q0 d0 hd]; exact hs.1
 have pa:PreA F:=by
  refine ⟨hA,fun t t0 t1 => ?_,fun t t0 t1 n => ?_,fun k d hu d0 d1 => ?_⟩
  ·rw [et]
   rcases p1.t t t0 t1 with hz | ⟨n,hx⟩
   ·exact .inl hz
   ·refine .inr ⟨n,hx.st,by rw [hT.usd]; exact hx.g,hx.n,hx.m,hx.m0,hx.s,hx.u,hx.l1,hx.l2,fun h1 => ?_⟩
    obtain ⟨d0,d1⟩:=p1.l t t0 t1 n
    have g0:=(zac.1 hx.g).1
    have hup:=f.up _ _ g0 d0
    have hs:=hx.f h1
    refine ⟨?_,by omega⟩
    by_cases hd:(tkk V t).cpu=c
    ·have hb:=zabe p1.a t0 t1 h1
     rw [hd] at hb hs ⊢
     exact low _ hx.g _ hb hs.1
    ·rw [f.o.e _ _ g0 d0 hd]; exact hs.1
  ·rw [et] at n ⊢
   rw [f.cs]
   exact p1.l t t0 t1 n
  ·rw [hT.usd] at hu
   rw [f.cs] at d1
   have hs:=p1.s k d hu d0 d1
   have k0:=(zac.1 hu).1
   refine ⟨by rw [f.s k d k0 d0]; exact hs.s,fun hz => ?_,fun hz h => ?_⟩
   ·rw [f.on k d k0 d0,f.v k d k0 d0,f.w k d k0 d0]; exact hs.root hz
   ·rw [f.on k d k0 d0] at h
    exact st k d hu hz d0 h (hs.st hz h)
 have ptu:∀t:Int,0<=t->t<12->(tkk V t).state=1->zae V.groups (tkk V t).group=true:=fun t t0 t1 h=>by
  rcases p1.t t t0 t1 with hz | ⟨_,hx⟩
  ·rw [hz.1] at h; cases h
  ·exact hx.g
 have pc:∀d:Int,0<=d->d<(V.cpus.length:Int)->(d=c->zoq F c=false)->PreC F d:=fun d d0 d1 hg=>by
  have hc:=p1.c d d0 d1
  refine ⟨by rw [f.cs]; exact hc.b,by rw [f.cs]; exact hc.i,by rw [f.cs]; exact hc.c1,by rw [f.cs]; exact hc.c2,by rw [f.cs]; exact hc.no,by rw [f.cs]; exact hc.yes,?_⟩
  rw [f.cs]
  simp only [et]
  intro h0 h1 h2
  obtain ⟨q1,q2⟩:=hc.q h0 h1 h2
  have hu:=ptu _ h0 hc.c2 h1
  have hup:=f.up _ d (zac.1 hu).1 d0
  refine ⟨by omega,fun x hx => ?_⟩
  rw [zi3 hT] at hx
  obtain ⟨xu,xz⟩:=zen p1.a.tree _ hu x hx
  obtain ⟨s1,s2⟩:=q2 x hx
  have x0:=(zac.1 xu).1
  have q0:=(zac.1 (p1.a.up xu xz)).1
  have hup2:=f.up _ d q0 d0
  refine ⟨?_,by rw [hT.p,f.v x d x0 d0,f.w x d x0 d0]; omega⟩
  by_cases hd:d=c
  ·subst hd
   have hl:ze3 F (gi V.cpus d).cur=true:=by
    have:=hg rfl
    unfold zoq at this
    rw [f.cs,et,decide_eq_true h0,h2] at this
    simpa using this
   unfold ze3 zk7 at hl
   rw [et,h2,zi3 hT,Bool.and_eq_true,List.all_eq_true] at hl
   have ho:=hl.2 x hx
   rw [f.on x d x0 d0] at ho
   exact st x d xu xz d0 ho s1
  ·unfold stnd
   rw [hT.p,f.o.e x d x0 d0 hd,f.o.e _ d q0 d0 hd]
   exact s1
 have honF:∀k:Int,zae F.groups k=true->k≠0->onEq F c k:=fun k hu hz=>by
  rw [hT.usd] at hu
  have k0:=(zac.1 hu).1
  have:=hon k hu hz
  unfold onEq at this ⊢
  rw [f.on k c k0 c0,zho f.o.t hT fun j _ _ _ _=>f.on _ c (by omega) c0,z5g (f.o.b k k0)]
  exact this
 have hflF:∀k:Int,zae F.groups k=true->zc4 F k c 20=true->zby F k c 20<=(shf F k c).floor:=fun k hu hB=>by
  rw [hT.usd] at hu
  rw [(best k).1] at hB
  rw [(best k).2]
  exact hfl k hu (by have:=(zac.1 hu).2.1; omega) hB
 split
 ·rename_i hg
  have cF:c<(F.cpus.length:Int):=by rw [f.cs]; exact c1'
  have hcp:∀d:Int,0<=d->gi (endW F c).cpus d=if c=d then endC (gi F.cpus c) else gi F.cpus d:=fun d d0=>za4 _ _ c0 cF d0
  have hlen:(endW F c).cpus.length=F.cpus.length:=List.length_set
  refine ⟨⟨pa.endW c0 cF,fun d d0 d1 => ?_⟩,hO.trans (z9c c0 cF),honF,fun h0 => ?_,hflF⟩
  ·rw [hlen] at d1
   by_cases e:c=d
   ·subst e
    have hc:=p1.c c c0 c1'
    have e1:gi (endW F c).cpus c=endC (gi V.cpus c):=by rw [hcp c c0,if_pos rfl,f.cs]
    have n1:(endC (gi V.cpus c)).cur = -1:=rfl
    exact ⟨by rw [e1]; exact hc.b,by rw [e1]; exact hc.i,by rw [e1,n1]; exact Int.le_refl _,by rw [e1,n1]; decide,fun _=>by rw [e1]; rfl,fun h=>by rw [e1,n1] at h; omega,fun h=>by rw [e1,n1] at h; omega⟩
   ·have hc:=pc d d0 (by rw [<-f.cs]; exact d1) fun h=>absurd h.symm e
    have e1:gi (endW F c).cpus d=gi F.cpus d:=by rw [hcp d d0,if_neg e]
    exact ⟨by rw [e1]; exact hc.b,by rw [e1]; exact hc.i,by rw [e1]; exact hc.c1,by rw [e1]; exact hc.c2,by rw [e1]; exact hc.no,by rw [e1]; exact hc.yes,by rw [e1]; exact hc.q⟩
  ·rw [hcp c c0,if_pos rfl] at h0
   have h0:(0:Int)<=-1:=h0
   omega
 ·rename_i hg
  have hg:zoq F c=false:=by simpa using hg
  refine ⟨⟨pa,fun d d0 d1=>pc d d0 (by rw [<-f.cs]; exact d1) fun _=>hg⟩,hO,honF,fun h0 => ?_,hflF⟩
  unfold zoq at hg
  rw [decide_eq_true h0,Bool.true_and,Bool.or_eq_false_iff] at hg
  exact ⟨by simpa using hg.1,by simpa using hg.2⟩
theorem z9r {W:Wld} (p:Pre W):∀c:Nat,c<=W.cpus.length->Pre (zeo W c)/\(zeo W c).cpus.length=W.cpus.length/\(zeo W c).tasks=W.tasks/\zb6 W.groups (zeo W c).groups/\∀d:Int,0<=d->d<(c:Int)->Dn (zeo W c) d
 | 0,_=>⟨p,rfl,rfl,zb6.refl _,fun d a b=>by omega⟩
 | c+1,hc=>by
  obtain ⟨a,e,et,eg,ih⟩:=z9r p c (by omega)
  obtain ⟨p1,o,dn⟩:=zagc a (c:=(c:Int)) (by omega) (by rw [e]; omega)
  refine ⟨p1,o.len.trans e,o.t.trans et,eg.trans o.g,fun d d0 d1 => ?_⟩
  by_cases h:d=(c:Int)
  ·subst h; exact dn
  ·exact (ih d d0 (by omega)).oth a o d0 (by rw [e]; omega) h
theorem zadq {K:Int} {W:Wld} (sw:SW K W) (p:Pre W) (hK:0<=K):Pre (zah W)/\Fr W (zah W)/\∀d:Int,0<=d->d<(W.cpus.length:Int)->Dn (zah W) d:=by
 obtain ⟨a,e⟩:=z07 p W.cpus.length (Nat.le_refl _)
 obtain ⟨s1,_⟩:=zhe (F:=K) (K:=K+lagB) (sw.sf.mono (Int.le_refl _) (by simp only [lagB]; omega)) (Int.le_refl _) W.cpus.length (Nat.le_refl _)
 obtain ⟨s2,b2⟩:=zh9 s1 8 (Nat.le_refl _)
 have p2:=a.onlyB b2 s2.w.a
 have e2:(zdm (zbq W W.cpus.length) 8).cpus.length=W.cpus.length:=by rw [b2.c,e]
 obtain ⟨p3,e3,_,_,dn⟩:=z9r p2 W.cpus.length (by rw [e2]; exact Nat.le_refl _)
 exact ⟨p3,(zgq sw hK).2,dn⟩
theorem zako {K:Int} {W:Wld} (sw:SW K W) (hK:K<=100000000000000000) (p:Pre W) (hl:Loc W) (dn:∀d:Int,0<=d->d<(W.cpus.length:Int)->Dn W d):WldP W/\Flo W:=by
 have tm:∀k c:Int,zae W.groups k=true->0<=c->c<(W.cpus.length:Int)->tmOk (shf W k c).floor=true/\tmOk (shf W k c).v=true:=fun k c hu c0 c1=>by
  have:=sw.s k c hu c0 c1
  exact ⟨ze9.2 (by omega),ze9.2 (by omega)⟩
 have tv:∀t:Int,0<=t->t<12->tmOk (tkk W t).v=true:=fun t t0 t1=>by
  have:=sw.tv t t0 t1
  exact ze9.2 (by omega)
 refine ⟨⟨p.a,fun t t0 t1 => ?_,fun k c k0 k1 c0 c1 => ?_,fun c c0 c1 => ?_⟩,fun k c hu c0 c1 hB=>(dn c c0 c1).fl k hu hB⟩
 ·rcases p.t t t0 t1 with hz | ⟨n,hx⟩
  ·exact .inl hz
  ·obtain ⟨d0,d1⟩:=p.l t t0 t1 n
   exact .inr ⟨n,hx.st,hx.g,hx.n,hx.m,hx.m0,tv t t0 t1,hx.s,hx.u,hx.l1,hx.l2,hl t t0 t1 n,fun h1=>(zux (tv t t0 t1) (tm _ _ hx.g d0 d1).1).2 (hx.f h1)⟩
 ·have hgl:=p.a.gl
  have hu:zae W.groups k=true:=by
   cases hb:(gi W.groups k).used with
   | true=>exact zac.2 ⟨k0,by omega,hb⟩
   | false=>
    have:=((p.a.grp k k0 k1).1 hb).l
    omega
  have hsl:=p.a.sl hu
  have c1:c<(W.cpus.length:Int):=by omega
  have hs:=p.s k c hu c0 c1
  have ht:=tm k c hu c0 c1
  have hw:=sw.s k c hu c0 c1
  exact ⟨ht.1,ht.2,hs.s,hw.2.2.2.2.1,hw.2.2.2.2.2,hs.root,fun hz=>(dn c c0 c1).on k hu hz,fun hz ho=>(zux ht.2 (tm _ c (p.a.up hu hz) c0 c1).1).2 (hs.st hz ho)⟩
 ·have hc:=p.c c c0 c1
  have htl:=p.a.t
  refine ⟨hc.b,hc.i,hc.c1,by have:=hc.c2; omega,hc.no,fun h0 => ?_⟩
  obtain ⟨y1,y2,y3⟩:=hc.yes h0
  obtain ⟨z1,z2⟩:=(dn c c0 c1).cu h0
  have hs:(tkk W (gi W.cpus c).cur).state=1:=by
   unfold ze3 at z2
   rw [Bool.and_eq_true] at z2
   exact eq_of_beq z2.1
  obtain ⟨q1,q2⟩:=hc.q h0 hs z1
  refine ⟨y1,y2,y3,z1,z2,?_⟩
  unfold zsx zny
  rw [Bool.and_eq_true,List.all_eq_true]
  exact ⟨decide_eq_true q1,fun x hx=>decide_eq_true (q2 x hx).2⟩
theorem zb8 {α β:Type} [Inhabited α] {f:α->β} (l:List α) (k:Int) {x:α} (h:f x=f (gi l k)) (i:Int):f (gi (l.set k.toNat x) i)=f (gi l i):=by
 unfold gi at *
 simp only [List.getD_eq_getElem?_getD,List.getElem?_set] at *
 by_cases e:k.toNat=i.toNat
 ·rw [if_pos e]
  split
  ·rw [<-e]; simpa using h
  ·rename_i hl
   have:l[i.toNat]? = none:=List.getElem?_eq_none_iff.2 (by omega)
   rw [this]
 ·rw [if_neg e]
structure Sta (W W':Wld):Prop where
 g:zb6 W.groups W'.groups
 m:∀i:Int,(gi W'.groups i).cpus=(gi W.groups i).cpus
 w:∀i:Int,(gi W'.groups i).weight=(gi W.groups i).weight
 len:W'.cpus.length=W.cpus.length
 u:∀i:Int,(gi W'.cpus i).up=(gi W.cpus i).up
theorem Sta.refl (W:Wld):Sta W W:=⟨zb6.refl _,fun _=>rfl,fun _=>rfl,rfl,fun _=>rfl⟩
theorem Sta.trans {A B C:Wld} (h:Sta A B) (k:Sta B C):Sta A C:=⟨h.g.trans k.g,fun i=>(k.m i).trans (h.m i),fun i=>(k.w i).trans (h.w i),k.len.trans h.len,fun i=>(k.u i).trans (h.u i)⟩
theorem zadw {W:Wld} {g:Int} {x:Grp} (u:x.used=(gi W.groups g).used) (p:x.parent=(gi W.groups g).parent) (n:x.name=(gi W.groups g).name) (m:x.cpus=(gi W.groups g).cpus) (w:x.weight=(gi W.groups g).weight):Sta W (setGr W g x):=
 ⟨⟨List.length_set,fun i=>zb8 (f:=Grp.used) _ _ u i,fun i=>zb8 (f:=Grp.parent) _ _ p i,fun i=>zb8 (f:=Grp.name) _ _ n i⟩,fun i=>zb8 (f:=Grp.cpus) _ _ m i,fun i=>zb8 (f:=Grp.weight) _ _ w i,rfl,fun _=>rfl⟩
theorem z60 (W:Wld) (g c:Int) (s:Shf):Sta W (setSh W g c s):=zadw rfl rfl rfl rfl rfl
theorem zadu (W:Wld) (g:Int) (b:Bnd):Sta W (setBd W g b):=zadw rfl rfl rfl rfl rfl
theorem zakh (W:Wld) (t:Int) (x:Tsk):Sta W (setTk W t x):=⟨zb6.refl _,fun _=>rfl,fun _=>rfl,rfl,fun _=>rfl⟩
theorem z9p {W:Wld} {c:Int} {x:Cpu} (u:x.up=(gi W.cpus c).up):Sta W (setCp W c x):=⟨zb6.refl _,fun _=>rfl,fun _=>rfl,List.length_set,fun i=>zb8 (f:=Cpu.up) _ _ u i⟩
theorem z8e (W:Wld) (c:Int):Sta W (endW W c):=z9p rfl
theorem zyo (W:Wld) (c d:Int):∀k:Nat,Sta W (zcd W c d k)
 | 0=>Sta.refl _
 | k+1=>by
  simp only [zcd]
  split
  ·exact (zyo W c d k).trans (z60 _ _ _ _)
  ·exact zyo W c d k
theorem zsw (W:Wld) (c:Int):∀j:Nat,Sta W (zdz W c j)
 | 0=>Sta.refl _
 | j+1=>(zsw W c j).trans (zyo _ _ _ _)
theorem z1m (W:Wld):∀c:Nat,Sta W (zbq W c)
 | 0=>Sta.refl _
 | c+1=>(z1m W c).trans (zsw (zbq W c) (c:Int) 3)
theorem zym (W:Wld) (k:Int):∀c:Nat,Sta W (zdk W k c)
 | 0=>Sta.refl _
 | c+1=>by
  simp only [zdk]
  split
  ·exact (zym W k c).trans (zadu _ _ _)
  ·exact zym W k c
theorem zyn (W:Wld):∀k:Nat,Sta W (zdm W k)
 | 0=>Sta.refl _
 | k+1=>by
  simp only [zdm]
  split
  ·exact (zyn W k).trans (zym _ _ _)
  ·exact zyn W k
theorem zsv (W:Wld) (c:Int):∀k:Nat,Sta W (za3 W c k)
 | 0=>Sta.refl _
 | k+1=>by
  simp only [za3]
  split
  ·exact (zsv W c k).trans (z60 _ _ _ _)
  ·exact zsv W c k
theorem zadx (W:Wld) (c:Int):Sta W (zhl W c):=by
 have h:=(zsw W c 3).trans (zsv (zat W c) c 8)
 unfold zhl
 split
 ·exact h.trans (z8e _ _)
 ·exact h
theorem z61 (W:Wld):∀c:Nat,Sta W (zeo W c)
 | 0=>Sta.refl _
 | c+1=>(z61 W c).trans (zadx (zeo W c) (c:Int))
theorem zaaz (W:Wld):Sta W (zah W):=((z1m W W.cpus.length).trans (zyn (zbq W W.cpus.length) 8)).trans (z61 (zop (zbq W W.cpus.length)) W.cpus.length)
theorem Sta.ups {W W':Wld} (h:Sta W W'):upsD W'.cpus=upsD W.cpus:=z8j h.len fun j _=>h.u j
theorem Sta.pin {W W':Wld} (h:Sta W W') (g u:Int):pinD W'.groups g u=pinD W.groups g u:=by
 unfold pinD
 rw [show zbk W'.groups g=zbk W.groups g from h.g.path 3 g]
 congr 1
 funext s x
 rw [h.m]
theorem Sta.wh {W W':Wld} (h:Sta W W') (g m:Int):zch W' g m=zch W g m:=by
 unfold zch
 rw [h.ups,h.pin]
theorem Sta.loc {W W':Wld} (h:Sta W W') (ht:W'.tasks=W.tasks) (hl:Loc W):Loc W':=fun t t0 t1 n=>by
 rw [zd7 ht] at n ⊢
 rw [h.wh]
 exact hl t t0 t1 n
theorem zaay {K:Int} {W:Wld} (sw:SW K W) (hK:0<=K) (hK2:K+stlB<=100000000000000000) (p:Pre W) (hl:Loc W):WldP (zah W)/\Flo (zah W):=by
 obtain ⟨p1,hf,dn⟩:=zadq sw p hK
 exact zako (zgq sw hK).1 hK2 p1 ((zaaz W).loc hf.t hl) fun d d0 d1=>dn d d0 (by rw [<-hf.c]; exact d1)
theorem PreS.cong {W W':Wld} {k c:Int} (h:PreS W k c) (e:shf W' k c=shf W k c) (ep:k≠0->(shf W' (gi W'.groups k).parent c).floor=(shf W (gi W.groups k).parent c).floor):PreS W' k c:=
 ⟨by rw [e]; exact h.s,by rw [e]; exact h.root,fun hz ho=>by
  rw [e] at ho
  have:=h.st hz ho
  unfold stnd at this ⊢
  rw [e,ep hz]; exact this⟩
theorem Pre.setTk {W:Wld} (p:Pre W) {t:Int} (t0:0<=t) (t1:t<12) {x:Tsk} (hx:x.state=0/\x=zn6\/x.state≠0/\PreT W x/\0<=x.cpu/\x.cpu<(W.cpus.length:Int))
  (hc:∀c:Int,0<=c->c<(W.cpus.length:Int)->(gi W.cpus c).cur=t->x.state=1->x.cpu=c->x.v - (shf W x.group c).floor<=zbn (gi W.cpus c).ran (zai x.nice)/\∀y∈zbk W.groups x.group,stnd W y c/\(shf W y c).v - (shf W (gi W.groups y).parent c).floor<=zbn (gi W.cpus c).ran (shf W y c).w):Pre (setTk W t x):=by
 have hl:=p.a.t
 have e:∀i:Int,0<=i->tkk (Go.Proofs.YtclpmgfpjeaibaaGreatDoor.setTk W t x) i=if t=i then x else tkk W i:=fun i i0=>za4 _ _ t0 (by omega) i0
 refine ⟨⟨p.a.tk List.length_set,fun i a b => ?_,fun i a b n => ?_,fun k c hu c0 c1 => ?_⟩,fun c c0 c1 => ?_⟩
 ·rw [e i a]
  split
  ·rcases hx with h | ⟨h1,h2,_⟩
   ·exact .inl h
   ·exact .inr ⟨h1,h2.st,h2.g,h2.n,h2.m,h2.m0,h2.s,h2.u,h2.l1,h2.l2,h2.f⟩
  ·rcases p.t i a b with h | ⟨h1,h2⟩
   ·exact .inl h
   ·exact .inr ⟨h1,h2.st,h2.g,h2.n,h2.m,h2.m0,h2.s,h2.u,h2.l1,h2.l2,h2.f⟩
 ·rw [e i a] at n ⊢
  split
  ·rename_i h
   rw [if_pos h] at n
   rcases hx with h | ⟨_,_,h2⟩
   ·exact absurd h.1 n
   ·exact h2
  ·rename_i h
   rw [if_neg h] at n
   exact p.l i a b n
 ·exact (p.s k c hu c0 c1).cong rfl fun _=>rfl
 ·have h:=p.c c c0 c1
  refine ⟨h.b,h.i,h.c1,h.c2,h.no,h.yes,fun h0 => ?_⟩
  rw [e _ h0]
  split
  ·rename_i he
   exact fun h1 h2=>hc c c0 c1 he.symm h1 h2
  ·exact h.q h0
def fstN (p:Nat->Bool):Nat->Int
 | 0 => -1
 | k+1=>if (decide (fstN p k<0)&&p k)=true then (k:Int) else fstN p k
theorem zm2 (p:Nat->Bool):∀k:Nat,(fstN p k = -1/\∀j,j<k->p j=false)\/(0<=fstN p k/\fstN p k<(k:Int)/\p (fstN p k).toNat=true/\∀j:Nat,(j:Int)<fstN p k->p j=false)
 | 0=>.inl ⟨rfl,fun j hj=>absurd hj (Nat.not_lt_zero j)⟩
 | k+1=>by
  simp only [fstN]
  rcases zm2 p k with ⟨h1,h2⟩ | ⟨h1,h2,h3,h4⟩
  ·cases hp:p k with
   | true=>
    rw [h1,if_pos (by rfl)]
    exact .inr ⟨by omega,by omega,by simpa using hp,fun j hj=>h2 j (by omega)⟩
   | false=>
    rw [if_neg (by simp),h1]
    refine .inl ⟨rfl,fun j hj => ?_⟩
    by_cases e:j=k
    ·rw [e]; exact hp
    ·exact h2 j (by omega)
  ·rw [if_neg (by rw [decide_eq_false (by omega:¬fstN p k<0)]; simp)]
   exact .inr ⟨h1,by omega,h3,h4⟩
theorem zab2 {p:Nat->Bool} {n:Nat} (h:∀j,j<n->p j=false):fstN p n = -1:=by
 rcases zm2 p n with ⟨h1,_⟩ | ⟨h1,h2,h3,_⟩
 ·exact h1
 ·rw [h _ (by omega)] at h3; cases h3
theorem zab1 {p:Nat->Bool} {n:Nat} {a:Int} (a0:0<=a) (a1:a<(n:Int)) (hp:p a.toNat=true) (hn:∀j:Nat,(j:Int)<a->p j=false):fstN p n=a:=by
 rcases zm2 p n with ⟨_,h2⟩ | ⟨h1,h2,h3,h4⟩
 ·rw [h2 _ (by omega)] at hp; cases hp
 ·by_cases l:fstN p n<a
  ·rw [hn _ (by omega)] at h3; cases h3
  ·by_cases g:a<fstN p n
   ·rw [h4 _ (by omega)] at hp; cases hp
   ·omega
def zm8 (W:Wld) (j:Nat):Bool:=(tkk W (j:Int)).state==0
def zlf (W:Wld):Int:=fstN (zm8 W) 12
noncomputable def zmm (W:Wld) (g n x:Int):Int:=if zai n=0\/mOk x=false\/x=0 then 1 else if zae W.groups g=false then 2 else if zlf W<0 then 3 else if zhh W=false then 10 else 0
def zsf (W:Wld) (g x:Int):Int:=plaD W (zch W g x)
def zpr (W:Wld) (g n x:Int):Tsk:=⟨1,g,zsf W g x,n,x,(shf W g (zsf W g x)).floor,0,0,0⟩
def zaad (W:Wld) (g n x:Int):Wld:=zah (endW (setTk W (zlf W) (zpr W g n x)) (zsf W g x))
noncomputable def zol (W:Wld) (bar:Int) (W':Wld) (a:Int):Wld×Int×Int:=if zbi W=false then (zs7,-1,1) else if bar≠0 then (W,-1,bar) else (W',a,0)
def Ans3 (r:Wld×Int×Int) (w:World) (v:Value) (w':World):Prop:=∃n m',v = .tuple #[.agg (encW r.1 m').toArray,.int .i64 r.2.1,.int .i64 r.2.2]/\MWd n w.heap.size w' r.1 m'/\ExtX [] w w'
structure zakr (W:Wld) (g n x:Int):Prop where
 w:zai n≠0
 m:mOk x=true
 m0:x≠0
 u:zae W.groups g=true
 f0:0<=zlf W
 f1:zlf W<12
 f2:(tkk W (zlf W)).state=0
 r:zhh W=true
 sw:SW zbr W
 c0:0<=zsf W g x
 c1:zsf W g x<(W.cpus.length:Int)
 ch:mHas (zch W g x) (zsf W g x)=true
 sw2:SW zbr (setTk W (zlf W) (zpr W g n x))
theorem z26 {W:Wld} {g n x:Int} (hW:zbi W=true) (hb:zmm W g n x=0):zakr W g n x:=by
 have wp:=zbp.1 hW
 unfold zmm at hb
 split at hb
 ·cases hb
 ·rename_i h1
  split at hb
  ·cases hb
  ·rename_i h2
   split at hb
   ·cases hb
   ·rename_i h3
    split at hb
    ·cases hb
    ·rename_i h4
     have h4:zhh W=true:=by simpa using h4
     have h2:zae W.groups g=true:=by simpa using h2
     have sw:=zai4 wp (zbp.1 h4)
     have hf:0<=zlf W/\zlf W<12/\zm8 W (zlf W).toNat=true:=by
      rcases zm2 (zm8 W) 12 with ⟨a,_⟩ | ⟨a,b,c,_⟩
      ·unfold zlf at h3; omega
      ·exact ⟨a,b,c⟩
     obtain ⟨c0,c1,ch⟩:=zadd wp.a g x
     have hs:=sw.s g _ h2 c0 c1
     have e:(((zlf W).toNat:Nat):Int)=zlf W:=by omega
     refine ⟨fun h=>h1 (.inl h),?_,fun h=>h1 (.inr (.inr h)),h2,hf.1,hf.2.1,?_,h4,sw,c0,c1,ch,sw.setTk hf.1 hf.2.1 (x:=zpr W g n x) (fun _=>⟨h2,c0,c1⟩) hs.1 hs.2.1⟩
     ·cases hm:mOk x with
      | true=>rfl
      | false=>exact absurd (.inr (.inl hm)) h1
     ·have:=hf.2.2
      unfold zm8 at this
      rw [e] at this
      exact eq_of_beq this
section
variable {W W':Wld} {m:MW} {w:World} {bar a:Int}
theorem Ans3.bad {w':World} (hW:zbi W=false) (hx:ExtX [] w w'):Ans3 (zol W bar W' a) w (.tuple #[.agg (encW zs7 noM).toArray,.int .i64 (-1),.int .i64 1]) w':=by
 rw [show zol W bar W' a=(zs7,-1,1) from if_pos hW]
 exact ⟨0,noM,rfl,MWd.zero _ _,hx⟩
theorem Ans3.no {n:Nat} {bs:List Nat} {w':World} {m':MW} (hW:zbi W=true) (hb:bar≠0) (hk:Wk n bs w w' W m') {c:Int} (hc:bar=c):Ans3 (zol W bar W' a) w (.tuple #[.agg (encW W m').toArray,.int .i64 (-1),.int .i64 c]) w':=by
 rw [show zol W bar W' a=(W,-1,c) by unfold zol; rw [if_neg (by rw [hW]; decide),if_pos hb,hc]]
 exact ⟨n,m',rfl,hk.fin⟩
theorem Ans3.ok {n:Nat} {bs:List Nat} {w':World} {m':MW} (hW:zbi W=true) (hb:bar=0) (hk:Wk n bs w w' W' m'):Ans3 (zol W bar W' a) w (.tuple #[.agg (encW W' m').toArray,.int .i64 a,.int .i64 0]) w':=by
 rw [show zol W bar W' a=(W',a,0) by unfold zol; rw [if_neg (by rw [hW]; decide),if_neg (by simpa using hb)]]
 exact ⟨n,m',rfl,hk.fin⟩
set_option maxHeartbeats 1000000 in
theorem zxa {g n x:Int} (h:RdW [] w W m) (hl:LenW W) :
  Calls Tryz.prog zge #[.agg (encW W m).toArray,.int .i64 g,.int .i64 n,.int .i64 x] w fun e w'=>∃v,e = .returned v/\Ans3 (zol W (zmm W g n x) (zaad W g n x) (zlf W)) w v w':=by
 refine zwl W.now m.cO W.cpus.length m.cC m.tO W.tasks.length m.tC m.gO W.groups.length m.gC g n x (R:=fun v w'=>Ans3 (zol W (zmm W g n x) (zaad W g n x) (zlf W)) w v w') ?_
 intro y hy y1 hy1 wr hx2 hs2
 refine Calls.mono (zj2 (h.ext hx2) hl) ?_
 rintro e wv (⟨hW,he,hy2⟩ | ⟨hW,m',he,hM,hy2⟩)
 ·exact ⟨_,_,_,_,_,_,_,_,_,_,_,he,zaz hy2 hs2,fun _ wr1 hx3=>Ans3.bad hW ((hx2.trans hy2).fresh hx3 fun z hm=>.inl (zl9 hy hy1 z hm)),fun g=>by simp at g⟩
 have hK:=Wk.begin hy hy1 hx2 hs2 hM hy2
 have hr:=hK.rd
 have wp:=zbp.1 hW
 have htl:=wp.a.t
 refine ⟨_,_,_,_,_,_,_,_,_,_,_,he,zaz hy2 hs2,fun g=>by split at g <;> simp at g,fun _=>⟨_,zfj,_,fun _=>zfv,fun g1 wr2 hx3 => ?_,fun g1=>⟨_,zel hr.g,fun g2 wr3 hx3 => ?_,fun g2=>⟨⟨by omega,by omega⟩,?_⟩⟩⟩⟩
 ·have hb:zmm W g n x=1:=by
   unfold zmm
   rw [if_pos]
   simp only [Bool.or_eq_true,beq_iff_eq,Bool.not_eq_true'] at g1
   rcases g1 with (g1 | g1) | g1
   ·exact .inl g1
   ·exact .inr (.inl g1)
   ·exact .inr (.inr g1)
  exact Ans3.no hW (by rw [hb]; decide) (hK.step hx3) hb
 ·have n1:¬(zai n=0\/mOk x=false\/x=0):=by
   simp only [Bool.or_eq_false_iff,beq_eq_false_iff_ne,Bool.not_eq_false',ne_eq] at g1
   rintro (h | h | h)
   ·exact g1.1.1 h
   ·rw [g1.1.2] at h; cases h
   ·exact g1.2 h
  have hb:zmm W g n x=2:=by unfold zmm; rw [if_neg n1,if_pos (by simpa using g2)]
  exact Ans3.no hW (by rw [hb]; decide) (hK.step hx3) hb
 have n1:¬(zai n=0\/mOk x=false\/x=0):=by
  simp only [Bool.or_eq_false_iff,beq_eq_false_iff_ne,Bool.not_eq_false',ne_eq] at g1
  rintro (h | h | h)
  ·exact g1.1.1 h
  ·rw [g1.1.2] at h; cases h
  ·exact g1.2 h
 have hu:zae W.groups g=true:=by simpa using g2
 have n2:¬zae W.groups g=false:=by rw [hu]; decide
 refine ⟨fun vs w1=>∃a t:Int,vs=[.int .i64 a,.int .i64 t]/\-1<=t/\t<12/\(a = -1/\(∀j:Nat,t<(j:Int)->j<12->zm8 W j=false)\/t<a/\a<12/\zm8 W a.toNat=true/\∀j:Nat,t<(j:Int)->(j:Int)<a->zm8 W j=false)/\ExtX [y,y1] wv w1,
  fun vs _=>(zef 1 vs+1).toNat,fun w1 hx0 _=>⟨-1,_,rfl,by omega,by omega,.inl ⟨rfl,fun j h1 h2=>by omega⟩,hx0⟩,?_⟩
 rintro av tv wv1 hs3 ⟨a,t,he2,ht0,ht1,hcond,hxw⟩
 simp only [List.cons.injEq,Value.int.injEq,true_and,and_true] at he2
 obtain ⟨rfl,rfl⟩:=he2
 have hK1:=hK.step hxw
 have hr1:=hK1.rd
 refine ⟨fun hlt => ?_,fun hge => ?_⟩
 ·have hlt:=of_decide_eq_true hlt
  have e:((tv.toNat:Nat):Int)=tv:=by omega
  have hst:zm8 W tv.toNat=((tkk W tv).state==0):=by unfold zm8; rw [e]
  refine ⟨hr1.t.ix zce hlt (by omega),_,hr1.t.f hlt (by omega) (j:=0) rfl,fun g3=>⟨⟨by omega,by omega⟩,fun wr5 hx5 _=>⟨⟨tv,tv - 1,rfl,by omega,by omega,.inr ⟨by omega,ht1,by rw [hst]; exact g3,fun j h1 h2=>by omega⟩,hxw.trans hx5⟩,?_⟩⟩,fun g3=>⟨⟨by omega,by omega⟩,fun wr6 hx6 _=>⟨⟨av,tv - 1,rfl,by omega,by omega,?_,hxw.trans hx6⟩,?_⟩⟩⟩
  ·simp only [zef,List.getElem?_cons_zero,List.getElem?_cons_succ]; omega
  ·have g3:zm8 W tv.toNat=false:=by rw [hst]; exact g3
   have one:∀j:Nat,tv - 1<(j:Int)->¬tv<(j:Int)->zm8 W j=false:=fun j h1 h2=>by
    have:j=tv.toNat:=by omega
    rw [this]; exact g3
   rcases hcond with ⟨h1,h2⟩ | ⟨h1,h2,h3,h4⟩
   ·exact .inl ⟨h1,fun j j1 j2=>if h:tv<(j:Int) then h2 j h j2 else one j j1 h⟩
   ·exact .inr ⟨by omega,h2,h3,fun j j1 j2=>if h:tv<(j:Int) then h4 j h j2 else one j j1 h⟩
  ·simp only [zef,List.getElem?_cons_zero,List.getElem?_cons_succ]; omega
 ·have hge:=of_decide_eq_false hge
  have ht:tv = -1:=by omega
  subst ht
  have hfree:av=zlf W:=by
   rcases hcond with ⟨h1,h2⟩ | ⟨h1,h2,h3,h4⟩
   ·rw [h1]; exact (zab2 fun j hj=>h2 j (by omega) hj).symm
   ·exact (zab1 (by omega) h2 h3 fun j hj=>h4 j (by omega) hj).symm
  subst hfree
  refine ⟨fun g4 wr7 hx7 => ?_,fun g4=>⟨fun g5 wr8 hx8 => ?_,fun g5 => ?_⟩⟩
  ·have g4:=of_decide_eq_true g4
   have hb:zmm W g n x=3:=by unfold zmm; rw [if_neg n1,if_neg n2,if_pos g4]
   exact Ans3.no hW (by rw [hb]; decide) (hK1.step hx7) hb
  ·have g4:=of_decide_eq_false g4
   have hr0:¬zhh W=true:=fun hr=>by rw [if_pos hr] at g5; simp at g5
   have hb:zmm W g n x=10:=by unfold zmm; rw [if_neg n1,if_neg n2,if_neg g4,if_pos (by simpa using hr0)]
   rw [if_neg hr0]
   exact Ans3.no hW (by rw [hb]; decide) (hK1.step hx8) hb
  have g4:=of_decide_eq_false g4
  have hr0:zhh W=true:=Decidable.byContradiction fun hr=>by rw [if_neg hr] at g5; simp at g5
  have hb:zmm W g n x=0:=by unfold zmm; rw [if_neg n1,if_neg n2,if_neg g4,if_neg (by rw [hr0]; decide)]
  have hf:=z26 hW hb
  obtain ⟨u0,u1,_⟩:=zac.1 hu
  have hsl:=wp.a.sl hu
  have c0:=hf.c0
  have c1:=hf.c1
  have f0:=hf.f0
  have f1:=hf.f1
  have hset:Wk 8 [y,y1] w (sto wv1 m'.tO (Int.toNat (zlf W)*9) (encT (zpr W g n x))) (setTk W (zlf W) (zpr W g n x)) m':=hK1.sto (hK1.own.stoT f0 (by rw [htl]; exact f1) (j:=0) (vs:=encT (zpr W g n x)) (x:=zpr W g n x) (by simp [encT]) (by simp [encT])) subT
  refine ⟨_,zo9 hr1 wp.a.c2 wp.a.tree hu,_,zxc hr1 wp.a (zajz wp),hr1.g.ix u0 u1,_,_,_,hr1.g.shelf u0 u1,(hr1.g.shelves g u0 u1).ix ze4 c0 (by rw [hsl]; exact c1),(shf W g (zsf W g x)).floor,RdS.f (hr1.g.shelves g u0 u1) c0 (by rw [hsl]; exact c1) (j:=0) rfl,hr1.t.ix zce f0 (by rw [htl]; exact f1),wrT hK1.own hK1.nb f0 (by rw [htl]; exact f1) (j:=0) (k:=9) (by decide),fun wr9 hx9 hs9 => ?_⟩
  have e5:encW (setTk W (zlf W) (zpr W g n x)) m'=encW W m':=z24 _ _ _ _
  have hK4:=hset.step hx9
  have hcall2:=zgo hK4.own c0 (show zsf W g x<((setTk W (zlf W) (zpr W g n x)).cpus.length:Int) from c1)
  rw [e5] at hcall2
  refine Calls.mono hcall2 ?_
  rintro e2 wv2 ⟨he2,hy4⟩
  refine ⟨_,_,_,_,_,_,_,_,_,_,he2,hK4.kept hy4 hs9,fun wr10 hx10 hs10 => ?_⟩
  have hK7:=(hK4.deed hy4 hs9).step hx10
  have hcall3:=zfl hK7.own (hf.sw2.endW c0 c1) (by decide) (by decide) hK7.base
  refine Calls.mono hcall3 ?_
  rintro e3 wv3 ⟨m2,he3,hy5⟩
  exact ⟨_,_,_,_,_,_,_,_,_,_,he3,hK7.kept hy5 hs10,fun wr8 hx8=>Ans3.ok hW hb ((hK7.deed hy5 hs10).step hx8)⟩
end
section
variable {base pb:Nat} {W W':Wld} {m:MW} {w:World}
end
structure Inv (W:Wld):Prop where
 wp:WldP W
 fl:Flo W
theorem zjh {K:Int} {W:Wld} (sw:SW K W) (hK:0<=K) (hK2:K+stlB<=100000000000000000) (p:Pre W) (hl:Loc W):Inv (zah W):=by
 obtain ⟨a,b⟩:=zaay sw hK hK2 p hl
 exact ⟨a,b⟩
theorem Loc.endW {W:Wld} (h:Loc W) (c:Int):Loc (endW W c):=(z8e W c).loc rfl h
theorem Loc.setTk {W:Wld} (h:Loc W) (ha:WA W) {t:Int} (t0:0<=t) (t1:t<12) {x:Tsk} (hx:x.state≠0->mHas (zch W x.group x.mask) x.cpu=true):Loc (setTk W t x):=fun i i0 i1 n=>by
 have hl:=ha.t
 have e:tkk (Go.Proofs.YtclpmgfpjeaibaaGreatDoor.setTk W t x) i=if t=i then x else tkk W i:=za4 _ _ t0 (by omega) i0
 rw [e] at n ⊢
 rw [(zakh W t x).wh]
 split at n
 ·rename_i he
  rw [if_pos he]; exact hx n
 ·rename_i he
  rw [if_neg he]; exact h i i0 i1 n
theorem zahx (W:Wld) (t c:Int) (x:Tsk):endW (setTk W t x) c=setTk (endW W c) t x:=rfl
theorem z8b {W:Wld} (p:Pre W) {t:Int} (t0:0<=t) (t1:t<12) (n:(tkk W t).state≠0):PreT W (tkk W t):=by
 rcases p.t t t0 t1 with h | h
 ·exact absurd h.1 n
 ·exact h.2
theorem zaiu {W:Wld} (p:Pre W) {t c:Int} (t0:0<=t) (t1:t<12) {x:Tsk} (n:x.state≠0) (hx:PreT W x) (hc:x.cpu=c) (c0:0<=c) (c1:c<(W.cpus.length:Int)):Pre (endW (setTk W t x) c):=by
 rw [zahx]
 have hl:(endW W c).cpus.length=W.cpus.length:=List.length_set
 refine (p.endW c0 c1).setTk t0 t1 (.inr ⟨n,⟨hx.st,hx.g,hx.n,hx.m,hx.m0,hx.s,hx.u,hx.l1,hx.l2,hx.f⟩,by rw [hl,hc]; exact ⟨c0,c1⟩⟩) fun d d0 d1 hcur _ hd => ?_
 rw [hc] at hd
 subst hd
 have e1:gi (endW W c).cpus c=endC (gi W.cpus c):=(za4 _ _ c0 c1 c0).trans (if_pos rfl)
 rw [e1] at hcur
 have hcur:(-1:Int)=t:=hcur
 omega
section
variable {W W':Wld} {m:MW} {w:World} {bar:Int}
structure Mn (base pb:Nat) (w0:World) (m0:MW) (w:World) (W:Wld) (m:MW):Prop where
 own:MWd 8 base w W m
 pt:w.heap[pb]? = some (.cells (encW W m).toArray zab (0,0))
 pn:pb∉zbc 8 m
 ext:ExtX (pb::zbc 8 m0) w0 w
 sub:∀x∈zbc 8 m,x∈zbc 8 m0\/w0.heap.size<=x
section
variable {base pb:Nat} {w0 w':World} {m0 m':MW}
theorem Mn.start (h:PW base pb w W m):Mn base pb w m w W m:=⟨h.own,h.pt,h.pn,ExtX.refl _ _,fun _ hx=>.inl hx⟩
end
end
theorem Pre.same {W W':Wld} (p:Pre W) (ha:WA W') (ht:W'.tasks=W.tasks) (hc:W'.cpus=W.cpus) (hT:zb6 W.groups W'.groups) (hs:∀k c:Int,shf W' k c=shf W k c):Pre W':=by
 have est:∀k c:Int,stnd W' k c↔stnd W k c:=fun k c=>by
  unfold stnd
  rw [hT.p,hs,hs]
 refine ⟨⟨ha,fun t t0 t1 => ?_,fun t t0 t1 n=>by rw [zd7 ht] at n ⊢; rw [hc]; exact p.l t t0 t1 n,fun k c hk c0 c1 => ?_⟩,fun c c0 c1 => ?_⟩
 ·rw [zd7 ht]
  rcases p.t t t0 t1 with h | ⟨h1,h2⟩
  ·exact .inl h
  ·exact .inr ⟨h1,h2.st,by rw [hT.usd]; exact h2.g,h2.n,h2.m,h2.m0,h2.s,h2.u,h2.l1,h2.l2,fun h=>by rw [hs]; exact h2.f h⟩
 ·rw [hT.usd] at hk
  rw [hc] at c1
  exact (p.s k c hk c0 c1).cong (hs _ _) fun _=>by rw [hT.p,hs]
 ·rw [hc] at c1
  have h:=p.c c c0 c1
  refine ⟨by rw [hc]; exact h.b,by rw [hc]; exact h.i,by rw [hc]; exact h.c1,by rw [hc]; exact h.c2,by rw [hc]; exact h.no,by rw [hc]; exact h.yes,fun h0 h1 h2 => ?_⟩
  rw [hc,zd7 ht] at *
  obtain ⟨q1,q2⟩:=h.q h0 h1 h2
  refine ⟨by rw [hs]; exact q1,fun y hy => ?_⟩
  rw [zi3 hT] at hy
  rw [est,hT.p,hs,hs]
  exact q2 y hy
theorem zajc {W W':Wld} (hT:zb6 W.groups W'.groups) (hm:∀i:Int,(gi W'.groups i).cpus=(gi W.groups i).cpus) (hu:upsD W'.cpus=upsD W.cpus) (g m:Int):zch W' g m=zch W g m:=by
 unfold zch
 have hp:pinD W'.groups g (upsD W.cpus)=pinD W.groups g (upsD W.cpus):=by
  unfold pinD
  rw [show zbk W'.groups g=zbk W.groups g from hT.path 3 g]
  congr 1
  funext s x
  rw [hm]
 rw [hu,hp]
theorem Loc.same {W W':Wld} (h:Loc W) (ht:W'.tasks=W.tasks) (hT:zb6 W.groups W'.groups) (hm:∀i:Int,(gi W'.groups i).cpus=(gi W.groups i).cpus) (hu:upsD W'.cpus=upsD W.cpus):Loc W':=fun t t0 t1 n=>by
 rw [zd7 ht] at n ⊢
 rw [zajc hT hm hu]
 exact h t t0 t1 n
theorem zakg {W:Wld} {g:Int} {x:Grp} (s:x.shelves=(gi W.groups g).shelves) (k c:Int):shf (setGr W g x) k c=shf W k c:=by
 unfold shf
 rw [show (gi (setGr W g x).groups k).shelves=(gi W.groups k).shelves from zb8 (f:=Grp.shelves) _ _ s k]
theorem PreT.gr {W W':Wld} {x:Tsk} (h:PreT W x) (e:W'.groups=W.groups):PreT W' x:=
 ⟨h.st,by rw [e]; exact h.g,h.n,h.m,h.m0,h.s,h.u,h.l1,h.l2,fun hs=>by unfold shf; rw [e]; exact h.f hs⟩
def weiS (W:Wld) (g c x:Int):Shf:={ shf W g c with v:=if (shf W g c).on=true then (shf W (gi W.groups g).parent c).floor+zd6 ((shf W g c).v - (shf W (gi W.groups g).parent c).floor) x else (shf W g c).v,w:=x }
def weiE (W:Wld) (g c:Int):Bool:=decide ((gi W.cpus c).cur>=0)&&insD 3 W.groups g (tkk W (gi W.cpus c).cur).group
def weiV (W:Wld) (g c x:Int):Wld:=setSh W g c (weiS W g c x)
def weiW (W:Wld) (g c x:Int):Wld:=if (shf W g c).w=x then W else if weiE (weiV W g c x) g c=true then endW (weiV W g c x) c else weiV W g c x
def CurU (W:Wld):Prop:=∀c:Int,0<=c->c<(W.cpus.length:Int)->(gi W.cpus c).cur>=0->zae W.groups (tkk W (gi W.cpus c).cur).group=true
theorem zahs {W:Wld} (wp:WldP W):CurU W:=fun c c0 c1 h=>by
 have hc:=wp.c c c0 c1
 have hy:=hc.yes h
 have hl:=hy.2.2.2.2.1
 have c2:=hc.c2
 have ht:=wp.a.t
 unfold ze3 at hl
 simp only [Bool.and_eq_true,beq_iff_eq] at hl
 rcases wp.t (gi W.cpus c).cur h (by omega) with h1 | h1
 ·rw [h1.1] at hl; exact absurd hl.1 (by decide)
 ·exact h1.2.g
theorem CurU.setSh {W:Wld} (h:CurU W) {g c:Int} {s:Shf} (u0:0<=g) (u1:g<(W.groups.length:Int)):CurU (setSh W g c s):=fun d d0 d1 hc=>by
 rw [(zep u0 u1).usd]
 exact h d d0 d1 hc
theorem CurU.endW {W:Wld} (h:CurU W) {c:Int} (c0:0<=c) (c1:c<(W.cpus.length:Int)):CurU (endW W c):=fun d d0 d1 hc=>by
 have d1:d<(((W.cpus.set c.toNat (endC (gi W.cpus c))).length:Nat):Int):=d1
 rw [List.length_set] at d1
 have hg:gi (Go.Proofs.YtclpmgfpjeaibaaGreatDoor.endW W c).cpus d=if c=d then endC (gi W.cpus c) else gi W.cpus d:=za4 _ _ c0 c1 d0
 rw [hg] at hc ⊢
 split at hc
 ·exact absurd hc (by show ¬(-1:Int)>=0; decide)
 ·rename_i hn
  rw [if_neg hn]
  exact h d d0 d1 hc
theorem zaja {F K:Int} {W:Wld} (h:SF F K W) (hk:F+lagB<=K) {g c x:Int} (hu:zae W.groups g=true) (hz:g≠0) (c0:0<=c) (c1:c<(W.cpus.length:Int)) (x1:1<=x) (x2:x<=20):SF F K (weiV W g c x):=by
 have hp:=h.w.a.up hu hz
 have s1:=h.w.s g c hu c0 c1
 have s2:=h.w.s _ c hp c0 c1
 have f1:=h.f g c hu c0 c1
 have f2:=h.f _ c hp c0 c1
 have lc:=zeh ((shf W g c).v - (shf W (gi W.groups g).parent c).floor) x
 have lm:=zc8 x
 refine h.setSh hu c0 c1 s1.1 f1 (by show (shf W g c).floor<=K; omega) ?_ ?_ x1 x2
 ·simp only [weiS]; split <;> omega
 ·simp only [weiS]; simp only [lagB] at hk; split <;> omega
theorem zajb {F K:Int} {W:Wld} (h:SF F K W) (hk:F+lagB<=K) (hc:CurU W) {g c x:Int} (hu:zae W.groups g=true) (hz:g≠0) (c0:0<=c) (c1:c<(W.cpus.length:Int)) (x1:1<=x) (x2:x<=20):SF F K (weiW W g c x)/\Fr W (weiW W g c x)/\CurU (weiW W g c x):=by
 obtain ⟨u0,u1,_⟩:=zac.1 hu
 have hv:=zaja h hk hu hz c0 c1 x1 x2
 have hf:Fr W (weiV W g c x):=(zhf u0 u1).fr
 have hc2:CurU (weiV W g c x):=hc.setSh u0 u1
 unfold weiW
 split
 ·exact ⟨h,Fr.refl _,hc⟩
 ·split
  ·exact ⟨hv.endW c0 c1,hf.trans (z5r _ _),hc2.endW c0 c1⟩
  ·exact ⟨hv,hf,hc2⟩
def weiN (W:Wld) (g x:Int):Nat->Wld
 | 0=>W
 | c+1=>weiW (weiN W g x c) g (c:Int) x
theorem zyx {F K:Int} {W:Wld} (h:SF F K W) (hk:F+lagB<=K) (hc:CurU W) {g x:Int} (hu:zae W.groups g=true) (hz:g≠0) (x1:1<=x) (x2:x<=20):∀c:Nat,c<=W.cpus.length->SF F K (weiN W g x c)/\Fr W (weiN W g x c)/\CurU (weiN W g x c)
 | 0,_=>⟨h,Fr.refl _,hc⟩
 | c+1,hn=>by
  obtain ⟨a,b,d⟩:=zyx h hk hc hu hz x1 x2 c (by omega)
  obtain ⟨a2,b2,d2⟩:=zajb a hk d (g:=g) (c:=(c:Int)) (x:=x) (by rw [b.g.usd]; exact hu) hz (by omega) (by rw [b.c]; omega) x1 x2
  exact ⟨a2,b.trans b2,d2⟩
def wghG (W:Wld) (g x:Int):Grp:={ gi W.groups g with weight:=x }
noncomputable def wghB (W:Wld) (g x:Int):Int:=grpB W g (inB x 1 20)
def wghW (W:Wld) (g x:Int):Wld:=zah (weiN (setGr W g (wghG W g x)) g x W.cpus.length)
theorem z9z {W:Wld} {g x:Int} (hW:zbi W=true) (hb:wghB W g x=0):inB x 1 20=true/\g≠0/\zae W.groups g=true/\zhh W=true/\SF zbr (zbr+lagB) W/\SF zbr (zbr+lagB) (setGr W g (wghG W g x))/\CurU (setGr W g (wghG W g x))/\zb6 W.groups (setGr W g (wghG W g x)).groups:=by
 obtain ⟨h1,h2,h3,h4⟩:=zah5 hb
 have wp:=zbp.1 hW
 have sw:=zai4 wp (zbp.1 h4)
 obtain ⟨u0,u1,hg⟩:=wp.a.u h3
 have hx:=za6.1 h1
 have hl:=wp.a.gl
 have s1:=sw.setGr (x:=wghG W g x) h3 rfl rfl rfl rfl ⟨hx.1,hx.2,hg.m,hg.m0,hg.s,hg.len,fun h=>absurd h h2,hg.none,hg.band⟩
 have hT:zb6 W.groups (setGr W g (wghG W g x)).groups:=zka u0 (by omega) rfl rfl rfl
 refine ⟨h1,h2,h3,h4,sw.sf.mono (Int.le_refl _) (by simp only [lagB]; decide),s1.sf.mono (Int.le_refl _) (by simp only [lagB]; decide),fun d d0 d1 hc => ?_,hT⟩
 rw [hT.usd]
 exact zahs wp d d0 d1 hc
theorem zagn {gs:List Grp} (ht:zeb gs) {g h:Int} (u1:zae gs g=true) (u2:zae gs h=true):ztn gs g h=insD 3 gs g h:=by
 unfold ztn
 rw [u1,u2,show zrq gs=true from @decide_eq_true _ (Classical.propDecidable _) ht]
 rfl
section
variable {base:Nat} {W W':Wld} {m:MW} {w:World} {bar:Int}
set_option maxHeartbeats 1000000 in
theorem zud {F K:Int} (h:MWd 8 base w W m) (hsw:SF F K W) (hk:F+lagB<=K) (hK:K<=1000000000000000000) (hcu:CurU W) {g c x:Int} (hu:zae W.groups g=true) (hz:g≠0) (c0:0<=c) (c1:c<(W.cpus.length:Int)) :
  Calls Tryz.prog zhu #[.agg (encW W m).toArray,.int .i64 g,.int .i64 c,.int .i64 x] w fun e w'=>e = .returned (.agg (encW W m).toArray)/\Mv 8 base [] w m w' (weiW W g c x) m:=by
 refine (zt7 W.now m.cO W.cpus.length m.cC m.tO W.tasks.length m.tC m.gO W.groups.length m.gC g c x (R:=fun v w'=>v = .agg (encW W m).toArray/\Mv 8 base [] w m w' (weiW W g c x) m) ?_).mono fun e w' ⟨v,he,hv,h3⟩=>⟨by rw [he,hv],h3⟩
 intro y hy y1 hy1
 obtain ⟨u0,u1,_⟩:=zac.1 hu
 have hgl:=hsw.w.a.gl
 have htl:=hsw.w.a.t
 have hsl:=hsw.w.a.sl hu
 have hp:=hsw.w.a.up hu hz
 obtain ⟨p0,p1,_⟩:=zac.1 hp
 have hpl:=hsw.w.a.sl hp
 have s1:=hsw.w.s g c hu c0 c1
 have s2:=hsw.w.s _ c hp c0 c1
 have lc:=zeh ((shf W g c).v - (shf W (gi W.groups g).parent c).floor) x
 have lm:=zc8 x
 have hM:=Mv.two h hy hy1
 have hr:=(Mv.start h).rd
 have hix:=hr.g.ix (i:=g) u0 u1
 have hixS:=(hr.g.shelves g u0 u1).ix ze4 c0 (by omega)
 have hcx:=hr.c.ix zeg c0 c1
 have hwr:=wrS h (by simp) (i:=g) (bs:=[]) u0 (by omega) c0 (by omega) (j:=0) (k:=5) (by decide)
 have hcr:=hsw.w.cu c c0 c1
 have cur1:decide ((gi W.cpus c).cur>=0)=true->(gi W.cpus c).cur<(W.tasks.length:Int):=fun _=>by omega
 have hT:zb6 W.groups (weiV W g c x).groups:=zep u0 u1
 have hE:(decide ((gi W.cpus c).cur>=0)&&ztn (weiV W g c x).groups g (gi W.tasks (gi W.cpus c).cur).group)=weiE (weiV W g c x) g c:=by
  unfold weiE
  show _=(decide ((gi W.cpus c).cur>=0)&&insD 3 (weiV W g c x).groups g (tkk W (gi W.cpus c).cur).group)
  by_cases hc:(gi W.cpus c).cur>=0
  ·rw [zagn (hT.tree hsw.w.a.tree) (by rw [hT.usd]; exact hu) (by rw [hT.usd]; exact hcu c c0 c1 hc)]; rfl
  ·rw [decide_eq_false hc]; rfl
 have hlen:(weiV W g c x).groups.length=W.groups.length:=hT.len
 have hfr:Fr W (weiV W g c x):=(zhf u0 u1).fr
 have eW:encW (weiV W g c x) m=encW W m:=zir hfr
 have eE:encW (endW (weiV W g c x) c) m=encW W m:=zir (hfr.trans (z5r _ _))
 refine ⟨hix,_,_,_,hr.g.shelf u0 u1,hixS,_,_,_,_,_,(hr.g.shelves g u0 u1) c c0 (by omega),fun b2 hb2=>⟨fun g1 wr hx=>⟨rfl,?_⟩,fun g1=>⟨fun g2 => ?_,fun g2 => ?_⟩⟩⟩
 ·have g1:(shf W g c).w=x:=eq_of_beq g1
  unfold weiW
  rw [if_pos g1]
  exact (Mv.start h).call0 hx
 ·have hss:weiS W g c x=⟨(shf W g c).floor,(shf W g c).on,(shf W (gi W.groups g).parent c).floor+zd6 ((shf W g c).v - (shf W (gi W.groups g).parent c).floor) x,x,(shf W g c).sum⟩:=by
   unfold weiS
   rw [if_pos (show (shf W g c).on=true from g2)]
  have hset:=z3w hsw h hk hu rfl c0 c1 (weiS W g c x)
  rw [hss] at hset
  have hM2:=((hM.add hb2).deed hset (subS (by omega)))
  have hV:setSh W g c ⟨(shf W g c).floor,(shf W g c).on,(shf W (gi W.groups g).parent c).floor+zd6 ((shf W g c).v - (shf W (gi W.groups g).parent c).floor) x,x,(shf W g c).sum⟩=weiV W g c x:=by unfold weiV; rw [hss]
  rw [hV] at hM2
  have hr2:=hM2.rd
  have hM2':=hM2.close
  have hr0:=hM2'.rd
  refine ⟨hix,_,hr.g.parent u0 u1,hr.g.ix p0 p1,_,_,_,hr.g.shelf p0 p1,(hr.g.shelves _ p0 p1).ix ze4 c0 (by omega),_,RdS.f (hr.g.shelves _ p0 p1) c0 (by omega) (j:=0) rfl,⟨by show _<=(shf W g c).v - (shf W (gi W.groups g).parent c).floor; omega,by show (shf W g c).v - (shf W (gi W.groups g).parent c).floor<=_; omega⟩,_,zqz,⟨by show _<=(shf W (gi W.groups g).parent c).floor+zd6 ((shf W g c).v - (shf W (gi W.groups g).parent c).floor) x; omega,by show (shf W (gi W.groups g).parent c).floor+zd6 ((shf W g c).v - (shf W (gi W.groups g).parent c).floor) x<=_; omega⟩,hix,_,_,_,hr.g.shelf u0 u1,hixS,hwr,hcx,(gi W.cpus c).cur,?_⟩
  refine ⟨RdC.f hr0.c c0 c1 (j:=1) rfl,fun gc=>hr0.t.ix zce (of_decide_eq_true gc) (cur1 gc),_,fun gc=>RdT.f hr0.t (of_decide_eq_true gc) (cur1 gc) (j:=1) rfl,_,fun gc=>by rw [<-hlen]; exact zmf hr0.g (by have:=zcx; omega),fun gc wr1 hx3 hs3 => ?_,fun gc wr3 hx3 => ?_⟩
  ·have he:weiE (weiV W g c x) g c=true:=by rw [<-hE]; exact gc
   have hM3:=hM2.step (hx3.of_nil)
   have hcall:=zgo hM3.own c0 c1
   rw [eW,eE] at hcall
   refine Calls.mono hcall ?_
   rintro e wv ⟨he1,hy2⟩
   refine ⟨_,_,_,_,_,_,_,_,_,_,he1,hM3.kept hy2 hs3,fun wr2 hx4=>⟨rfl,?_⟩⟩
   unfold weiW
   rw [if_neg (show ¬(shf W g c).w=x from ne_of_beq_false g1),if_pos he]
   exact ((hM3.call hy2 hs3).step hx4).close
  ·have he:weiE (weiV W g c x) g c=false:=by rw [<-hE]; exact gc
   refine ⟨rfl,?_⟩
   unfold weiW
   rw [if_neg (show ¬(shf W g c).w=x from ne_of_beq_false g1),if_neg (by rw [he]; decide)]
   exact (hM2.step hx3.of_nil).close
 ·have hss:weiS W g c x=⟨(shf W g c).floor,(shf W g c).on,(shf W g c).v,x,(shf W g c).sum⟩:=by
   unfold weiS
   rw [if_neg (by rw [show (shf W g c).on=false from g2]; decide)]
  have hset:=z3w hsw h hk hu rfl c0 c1 (weiS W g c x)
  rw [hss] at hset
  have hM2:=((hM.add hb2).deed hset (subS (by omega)))
  have hV:setSh W g c ⟨(shf W g c).floor,(shf W g c).on,(shf W g c).v,x,(shf W g c).sum⟩=weiV W g c x:=by unfold weiV; rw [hss]
  rw [hV] at hM2
  have hr2:=hM2.rd
  have hM2':=hM2.close
  have hr0:=hM2'.rd
  refine ⟨hix,_,_,_,hr.g.shelf u0 u1,hixS,hwr,hcx,(gi W.cpus c).cur,?_⟩
  refine ⟨RdC.f hr0.c c0 c1 (j:=1) rfl,fun gc=>hr0.t.ix zce (of_decide_eq_true gc) (cur1 gc),_,fun gc=>RdT.f hr0.t (of_decide_eq_true gc) (cur1 gc) (j:=1) rfl,_,fun gc=>by rw [<-hlen]; exact zmf hr0.g (by have:=zcx; omega),fun gc wr1 hx3 hs3 => ?_,fun gc wr3 hx3 => ?_⟩
  ·have he:weiE (weiV W g c x) g c=true:=by rw [<-hE]; exact gc
   have hM3:=hM2.step (hx3.of_nil)
   have hcall:=zgo hM3.own c0 c1
   rw [eW,eE] at hcall
   refine Calls.mono hcall ?_
   rintro e wv ⟨he1,hy2⟩
   refine ⟨_,_,_,_,_,_,_,_,_,_,he1,hM3.kept hy2 hs3,fun wr2 hx4=>⟨rfl,?_⟩⟩
   unfold weiW
   rw [if_neg (show ¬(shf W g c).w=x from ne_of_beq_false g1),if_pos he]
   exact ((hM3.call hy2 hs3).step hx4).close
  ·have he:weiE (weiV W g c x) g c=false:=by rw [<-hE]; exact gc
   refine ⟨rfl,?_⟩
   unfold weiW
   rw [if_neg (show ¬(shf W g c).w=x from ne_of_beq_false g1),if_neg (by rw [he]; decide)]
   exact (hM2.step hx3.of_nil).close
theorem zsh {g x:Int} (h:RdW [] w W m) (hl:LenW W) :
  Calls Tryz.prog ze7 #[.agg (encW W m).toArray,.int .i64 g,.int .i64 x] w fun e w'=>∃v,e = .returned v/\AnsW (ansD W (wghB W g x) (wghW W g x)) w v w':=by
 refine zsb W.now m.cO W.cpus.length m.cC m.tO W.tasks.length m.tC m.gO W.groups.length m.gC g x (R:=fun v w'=>AnsW (ansD W (wghB W g x) (wghW W g x)) w v w') ?_
 intro y hy y1 hy1
 refine ⟨_,zfk,fun wr hx2 hs2 => ?_⟩
 refine Calls.mono (zxd (g:=g) (ok:=inB x 1 20) (h.ext hx2) hl) ?_
 rintro e wv (⟨hW,he,hy2⟩ | ⟨hW,m',he,hM,hy2⟩)
 ·exact ⟨_,_,_,_,_,_,_,_,_,_,_,he,zaz hy2 hs2,fun _ wr1 hx3=>AnsW.bad hW ((hx2.trans hy2).fresh hx3 fun z hm=>.inl (zl9 hy hy1 z hm)),fun g=>by simp at g⟩
 have hK:=Wk.begin hy hy1 hx2 hs2 hM hy2
 refine ⟨_,_,_,_,_,_,_,_,_,_,_,he,zaz hy2 hs2,fun g1 wr1 hx3=>AnsW.no hW (by simpa [wghB] using g1) (hK.step hx3) rfl,fun g1 => ?_⟩
 have hb:wghB W g x=0:=by simpa [wghB] using g1
 have hr:=hK.rd
 obtain ⟨hix1,hz,hu,hroom,_,sf,hcu,hT⟩:=z9z hW hb
 have hxr:=za6.1 hix1
 obtain ⟨u0,u1,_⟩:=zac.1 hu
 have hgl:W.groups.length=8:=by have:=sf.w.a.gl; rwa [hT.len] at this
 have hix:=hr.g.ix (i:=g) u0 u1
 have hset:Wk 8 [y,y1] w (sto wv m'.gO (Int.toNat g*14+3) [.int .i64 x]) (setGr W g (wghG W g x)) m':=hK.sto (hK.own.stoG0 u0 (by omega) (g:=wghG W g x) rfl rfl rfl (j:=3) (vs:=[.int .i64 x]) rfl (by simp)) subG
 have hwr:=wrG hK.own hK.nb (i:=g) u0 (by omega) (j:=3) (k:=1) (by decide)
 have e0:encW (setGr W g (wghG W g x)) m'=encW W m':=by simp [encW,setGr]
 have huV:zae (setGr W g (wghG W g x)).groups g=true:=by rw [hT.usd]; exact hu
 have hcl:(setGr W g (wghG W g x)).cpus.length=W.cpus.length:=rfl
 have hE:wghW W g x=zah (weiN (setGr W g (wghG W g x)) g x W.cpus.length):=rfl
 rw [hE]
 have hc4:=sf.w.a.c2
 generalize setGr W g (wghG W g x)=V at hset sf hcu hT e0 huV hcl hc4
 refine ⟨hix,hwr,fun vs w1=>∃(k:Nat),vs = .int .i64 (k:Int)::encW W m'/\k<=W.cpus.length/\Wk 8 [y,y1] w w1 (weiN V g x k) m',zd5 W.cpus.length 0,fun w1 hx0 _=>⟨0,rfl,Nat.zero_le _,hset.step hx0⟩,?_⟩
 rintro c1 l l1O l1L l1C l2O l2L l2C l3O l3L l3C wv2 hs3 ⟨k,he2,hk,hK2⟩
 obtain ⟨hS,hf,hc2⟩:=zyx sf (Int.le_refl _) hcu huV hz hxr.1 hxr.2 k (by omega)
 have hdef:weiN V g x (k+1)=weiW (weiN V g x k) g (k:Int) x:=rfl
 have hend:k=W.cpus.length->weiN V g x W.cpus.length=weiN V g x k:=fun e=>by rw [e]
 have eU:encW (weiN V g x k) m'=encW W m':=(zir hf).trans e0
 have hcU:=hf.c
 have huU:zae (weiN V g x k).groups g=true:=by rw [hf.g.usd]; exact huV
 simp only [encW,List.cons.injEq,Value.int.injEq,Value.slice.injEq,true_and,and_true] at he2
 obtain ⟨rfl,rfl,⟨rfl,rfl,rfl⟩,⟨rfl,rfl,rfl⟩,rfl,rfl,rfl⟩:=he2
 generalize weiN V g x k=U at hK2 hS hf hc2 hdef hend eU hcU huU
 refine ⟨fun hlt wr3 hx3 hs4 => ?_,fun hge wr5 hx5 hs5 => ?_⟩
 ·have hlt:=of_decide_eq_true hlt
  have hK3:=hK2.step hx3
  have hcall:=zud hK3.own hS (Int.le_refl _) (by simp only [lagB]; decide) hc2 (g:=g) (c:=(k:Int)) (x:=x) huU hz (by omega) (by omega)
  rw [eU] at hcall
  refine Calls.mono hcall ?_
  rintro e wv3 ⟨he3,hy3⟩
  refine ⟨_,_,_,_,_,_,_,_,_,_,he3,hK3.kept hy3 hs4,⟨by omega,by omega⟩,fun wr4 hx4 _=>⟨⟨k+1,rfl,by omega,?_⟩,?_⟩⟩
  ·rw [hdef]
   exact (hK3.deed hy3 hs4).step hx4
  ·simp only [zd5,cntM,zef,List.getElem?_cons_zero]; omega
 ·have hge:=of_decide_eq_false hge
  rw [hend (by omega)]
  have hK5:=hK2.step hx5
  have hcall:=zfl hK5.own hS.w (by simp only [lagB]; decide) (by simp only [lagB]; decide) hK5.base
  rw [eU] at hcall
  refine Calls.mono hcall ?_
  rintro e2 wv2 ⟨m2,he2,hy2⟩
  exact ⟨_,_,_,_,_,_,_,_,_,_,he2,hK5.kept hy2 hs5,fun wr4 hx5=>AnsW.ok hW hb ((hK5.deed hy2 hs5).step hx5)⟩
section
variable {pb:Nat}
end
end
theorem zafd {gs:List Grp} (ht:zeb gs) {g:Int}:∀h:Int,zae gs h=true->g∈zbk gs h->insD 3 gs g h=true:=
 zob ht (fun hx=>by rw [show zbk gs 0=[] from zbm _ _] at hx; cases hx) fun h hu hz ih hx=>by
  by_cases e:h=g
  ·subst e; simp [insD]
  ·rw [z5u ht hu hz e]
   rw [zcf ht hu hz] at hx
   rcases List.mem_cons.1 hx with e2 | e2
   ·exact absurd e2.symm e
   ·exact ih e2
theorem zai1 (W:Wld) (g c x:Int):Sta W (weiW W g c x):=by
 unfold weiW
 split
 ·exact Sta.refl _
 ·split
  ·exact (z60 _ _ _ _).trans (z8e _ _)
  ·exact z60 _ _ _ _
theorem Pre.wei {W:Wld} (p:Pre W) {g c x:Int} (hu:zae W.groups g=true) (hz:g≠0) (c0:0<=c) (c1:c<(W.cpus.length:Int)):Pre (weiW W g c x):=by
 obtain ⟨u0,u1,_⟩:=zac.1 hu
 have hl:=p.a.gl
 have hsl:=p.a.sl hu
 have c1':c<((gi W.groups g).shelves.length:Int):=by omega
 have e:∀{i j:Int},0<=i->0<=j->shf (weiV W g c x) i j=if g=i/\c=j then weiS W g c x else shf W i j:=fun hi hj=>zhj u0 u1 c0 c1' hi hj
 have hT:zb6 W.groups (weiV W g c x).groups:=zep u0 u1
 have ef:∀{i j:Int},0<=i->0<=j->(shf (weiV W g c x) i j).floor=(shf W i j).floor:=fun {i j} hi hj=>by
  rw [e hi hj]; split
  ·rename_i h; obtain ⟨rfl,rfl⟩:=h; rfl
  ·rfl
 have hpu:=p.a.up hu hz
 have p0:=(zac.1 hpu).1
 have same:∀{i j:Int},zae W.groups i=true->i≠0->0<=j->¬(g=i/\c=j)->stnd W i j->stnd (weiV W g c x) i j:=fun {i j} iu iz j0 hn h=>by
  unfold stnd at h ⊢
  rw [hT.p,ef (zac.1 (p.a.up iu iz)).1 j0,e (zac.1 iu).1 j0,if_neg hn]
  exact h
 have hA:PreA (weiV W g c x):=by
  refine ⟨p.a.setSh u0 (by omega),fun t t0 t1 => ?_,fun t t0 t1 n=>p.l t t0 t1 n,fun i j iu j0 j1 => ?_⟩
  ·rcases p.t t t0 t1 with h | ⟨n,h⟩
   ·exact .inl h
   ·exact .inr ⟨n,h.st,by rw [hT.usd]; exact h.g,h.n,h.m,h.m0,h.s,h.u,h.l1,h.l2,fun h1=>by
     show (shf (weiV W g c x) (tkk W t).group (tkk W t).cpu).floor<=(tkk W t).v/\(tkk W t).v - (shf (weiV W g c x) (tkk W t).group (tkk W t).cpu).floor<=_
     rw [ef (zac.1 h.g).1 (p.l t t0 t1 n).1]; exact h.f h1⟩
  ·rw [hT.usd] at iu
   have hs:=p.s i j iu j0 j1
   have i0:=(zac.1 iu).1
   by_cases h:g=i/\c=j
   ·obtain ⟨rfl,rfl⟩:=h
    refine ⟨by rw [e i0 j0,if_pos ⟨rfl,rfl⟩]; exact hs.s,fun h0=>absurd h0 hz,fun _ ho => ?_⟩
    rw [e i0 j0,if_pos ⟨rfl,rfl⟩] at ho
    have ho:(shf W g c).on=true:=ho
    unfold stnd
    rw [hT.p,ef p0 j0,e i0 j0,if_pos ⟨rfl,rfl⟩]
    simp only [weiS]
    rw [if_pos ho]
    have:=zeh ((shf W g c).v - (shf W (gi W.groups g).parent c).floor) x
    omega
   ·refine ⟨by rw [e i0 j0,if_neg h]; exact hs.s,by rw [e i0 j0,if_neg h]; exact hs.root,fun iz ho => ?_⟩
    rw [e i0 j0,if_neg h] at ho
    exact same iu iz j0 h (hs.st iz ho)
 have hC:∀d:Int,0<=d->d<(W.cpus.length:Int)->(d=c->weiE (weiV W g c x) g c=false)->PreC (weiV W g c x) d:=fun d d0 d1 hd=>by
  have h:=p.c d d0 d1
  refine ⟨h.b,h.i,h.c1,h.c2,h.no,h.yes,fun h0 h1 h2 => ?_⟩
  obtain ⟨q1,q2⟩:=h.q h0 h1 h2
  have hcu:zae W.groups (tkk W (gi W.cpus d).cur).group=true:=by
   rcases p.t _ h0 h.c2 with hz | ⟨_,hx⟩
   ·have h1:(tkk W (gi W.cpus d).cur).state=1:=h1
    have h3:(tkk W (gi W.cpus d).cur).state=0:=hz.1
    rw [h3] at h1; cases h1
   ·exact hx.g
  refine ⟨by show (tkk W (gi W.cpus d).cur).v - (shf (weiV W g c x) (tkk W (gi W.cpus d).cur).group d).floor<=_; rw [ef (zac.1 hcu).1 d0]; exact q1,fun y hy => ?_⟩
  have hy:y∈zbk W.groups (tkk W (gi W.cpus d).cur).group:=by rw [<-zi3 hT]; exact hy
  obtain ⟨yu,yz⟩:=zen p.a.tree _ hcu y hy
  have y0:=(zac.1 yu).1
  have hn:¬(g=y/\c=d):=by
   rintro ⟨rfl,rfl⟩
   have h3:=hd rfl
   unfold weiE at h3
   have h4:=zafd (hT.tree p.a.tree) (g:=g) (tkk W (gi W.cpus c).cur).group (by rw [hT.usd]; exact hcu) (by rw [zi3 hT]; exact hy)
   rw [show (gi (weiV W g c x).cpus c).cur=(gi W.cpus c).cur from rfl,decide_eq_true (show (gi W.cpus c).cur>=0 from h0),Bool.true_and] at h3
   rw [show (tkk (weiV W g c x) (gi W.cpus c).cur).group=(tkk W (gi W.cpus c).cur).group from rfl,h4] at h3
   cases h3
  obtain ⟨s1,s2⟩:=q2 y hy
  refine ⟨same yu yz d0 hn s1,?_⟩
  rw [hT.p,ef (zac.1 (p.a.up yu yz)).1 d0,e y0 d0,if_neg hn]
  exact s2
 unfold weiW
 split
 ·exact p
 ·split
  ·refine ⟨hA.endW c0 c1,fun d d0 d1 => ?_⟩
   have hlen:(Go.Proofs.YtclpmgfpjeaibaaGreatDoor.endW (weiV W g c x) c).cpus.length=W.cpus.length:=List.length_set
   have hcp:gi (Go.Proofs.YtclpmgfpjeaibaaGreatDoor.endW (weiV W g c x) c).cpus d=if c=d then endC (gi W.cpus c) else gi W.cpus d:=za4 _ _ c0 c1 d0
   rw [hlen] at d1
   by_cases ed:c=d
   ·subst ed
    have h:=p.c c c0 c1
    rw [if_pos rfl] at hcp
    have n1:(endC (gi W.cpus c)).cur = -1:=rfl
    exact ⟨by rw [hcp]; exact h.b,by rw [hcp]; exact h.i,by rw [hcp,n1]; exact Int.le_refl _,by rw [hcp,n1]; decide,fun _=>by rw [hcp]; rfl,fun h=>by rw [hcp,n1] at h; omega,fun h=>by rw [hcp,n1] at h; omega⟩
   ·have h:=hC d d0 d1 fun hd=>absurd hd.symm ed
    rw [if_neg ed] at hcp
    exact ⟨by rw [hcp]; exact h.b,by rw [hcp]; exact h.i,by rw [hcp]; exact h.c1,by rw [hcp]; exact h.c2,by rw [hcp]; exact h.no,by rw [hcp]; exact h.yes,by rw [hcp]; exact h.q⟩
  ·rename_i he
   exact ⟨hA,fun d d0 d1=>hC d d0 d1 fun _=>by simpa using he⟩
section
variable {base pb:Nat} {W W':Wld} {m:MW} {w:World}
set_option maxHeartbeats 1000000 in
end
theorem zafe {W:Wld} {g n x:Int} (hW:zbi W=true) (hb:zmm W g n x=0):Inv (zaad W g n x):=by
 have wp:=zbp.1 hW
 have h:=z26 hW hb
 have p:=zyd wp
 have hT:PreT W (zpr W g n x):=⟨.inl rfl,h.u,h.w,h.m,h.m0,by show tmOk 0=true; decide,by show tmOk 0=true; decide,Int.le_refl _,by show (0:Int)<=8000000; decide,fun _=>by
  have:=(zc8 (zai n)).1
  show (shf W g (zsf W g x)).floor<=(shf W g (zsf W g x)).floor/\(shf W g (zsf W g x)).floor - (shf W g (zsf W g x)).floor<=zcq (zai n)
  omega⟩
 exact zjh (h.sw2.endW h.c0 h.c1) (by decide) (by decide) (zaiu p h.f0 h.f1 (show (1:Int)≠0 by decide) hT rfl h.c0 h.c1) (((z53 wp).setTk wp.a h.f0 h.f1 (x:=zpr W g n x) fun _=>h.ch).endW _)
theorem zaib {W:Wld} {g x:Int} (hW:zbi W=true) (hb:wghB W g x=0):Inv (wghW W g x):=by
 have wp:=zbp.1 hW
 obtain ⟨h1,hz,hu,_,_,sf,cu,hT⟩:=z9z hW hb
 have hx:=za6.1 h1
 have hu':zae (setGr W g (wghG W g x)).groups g=true:=by rw [hT.usd]; exact hu
 have p1:Pre (setGr W g (wghG W g x)):=(zyd wp).same sf.w.a rfl rfl hT (zakg rfl)
 have l1:Loc (setGr W g (wghG W g x)):=(z53 wp).same rfl hT (fun i=>zb8 (f:=Grp.cpus) W.groups g (x:=wghG W g x) rfl i) rfl
 have hlen:(setGr W g (wghG W g x)).cpus.length=W.cpus.length:=rfl
 show Inv (zah (weiN (setGr W g (wghG W g x)) g x W.cpus.length))
 rw [<-hlen]
 generalize setGr W g (wghG W g x)=V at sf cu hu' p1 l1
 have all:∀k:Nat,k<=V.cpus.length->Pre (weiN V g x k)/\Sta V (weiN V g x k):=by
  intro k
  induction k with
  | zero=>exact fun _=>⟨p1,Sta.refl _⟩
  | succ k ih=>
   intro hk
   obtain ⟨a,b⟩:=ih (by omega)
   exact ⟨a.wei (by rw [b.g.usd]; exact hu') hz (by omega) (by rw [b.len]; omega),b.trans (zai1 _ _ _ _)⟩
 obtain ⟨a,b⟩:=all _ (Nat.le_refl _)
 obtain ⟨sf2,fr,_⟩:=zyx sf (Int.le_refl _) cu hu' hz hx.1 hx.2 V.cpus.length (Nat.le_refl _)
 exact zjh sf2.w (by simp only [lagB]; decide) (by simp only [lagB,stlB]; decide) a (b.loc fr.t l1)
theorem zafn {W:Wld} (ha:WA W) {k c d:Int} (hu:zae W.groups k=true) (hd:dep 3 W.groups k=d) (d1:1<=d) (c0:0<=c) (c1:c<(W.cpus.length:Int)) :
  WA (setSh W k c (zda W k c))/\onEq (setSh W k c (zda W k c)) c k/\∀g:Int,zae W.groups g=true->g≠k->(gi W.groups k).parent≠g->onEq W c g->onEq (setSh W k c (zda W k c)) c g:=by
 have hz:k≠0:=fun e=>by subst e; rw [zcv] at hd; omega
 obtain ⟨u0,u1,_⟩:=zac.1 hu
 have hl:=ha.gl
 have hsl:=ha.sl hu
 have c1':c<((gi W.groups k).shelves.length:Int):=by omega
 have hpk:(gi W.groups k).parent≠k:=fun e=>by
  obtain ⟨_,_,_,n,e1,e2,_⟩:=zd4 ha.tree hu hz
  rw [e] at e2; omega
 have e:∀{i j:Int},0<=i->0<=j->shf (setSh W k c (zda W k c)) i j=if k=i/\c=j then zda W k c else shf W i j:=fun hi hj=>zhj u0 u1 c0 c1' hi hj
 have hT:=zep (W:=W) (g:=k) (c:=c) (s:=zda W k c) u0 u1
 have act:∀g:Int,(gi W.groups k).parent≠g->za5 (setSh W k c (zda W k c)) g c=za5 W g c:=fun g hg=>by
  refine zho (W:=W) (W':=setSh W k c (zda W k c)) rfl hT fun j hj _ _ hp => ?_
  rw [e (by omega) c0,if_neg]
  rintro ⟨h,_⟩
  exact hg (by rw [h]; exact hp)
 refine ⟨ha.setSh u0 (by omega),?_,fun g gu gk hg h => ?_⟩
 ·unfold onEq
  rw [e u0 c0,if_pos ⟨rfl,rfl⟩,act k hpk,zqj u0 u1 u0]
  rfl
 ·unfold onEq
  have g0:=(zac.1 gu).1
  rw [e g0 c0,if_neg fun h=>gk h.1.symm,act g hg,zqj u0 u1 g0]
  exact h
theorem z86 {W:Wld} (ha:WA W) {c d:Int} (d1:1<=d) (c0:0<=c) (c1:c<(W.cpus.length:Int)) (hI:∀g:Int,zae W.groups g=true->d<dep 3 W.groups g->onEq W c g):∀k:Nat,k<=8->
  WA (zcd W c d k)/\zgt W (zcd W c d k)/\∀g:Int,zae W.groups g=true->d<dep 3 W.groups g\/dep 3 W.groups g=d/\g<(k:Int)->onEq (zcd W c d k) c g
 | 0,_=>⟨ha,zgt.refl _,fun g gu h=>hI g gu (by
   rcases h with h | h
   ·exact h
   ·have:=(zac.1 gu).1
    have:=h.2
    omega)⟩
 | k+1,hk=>by
  obtain ⟨a,b,ih⟩:=z86 ha d1 c0 c1 hI k (by omega)
  have hl:=a.gl
  have hT:=b.g
  simp only [zcd]
  split
  ·rename_i hc
   have hu:zae (zcd W c d k).groups (k:Int)=true:=zac.2 ⟨by omega,by omega,hc.1⟩
   obtain ⟨l1,l3,l4⟩:=zafn a hu hc.2 d1 c0 (c:=c) (by rw [b.c]; exact c1)
   refine ⟨l1,b.trans (zhf (by omega) (by omega)),fun g gu h => ?_⟩
   by_cases e:g=(k:Int)
   ·subst e; exact l3
   ·have hkz:(k:Int)≠0:=fun e=>by have:=hc.2; rw [e,zcv] at this; omega
    obtain ⟨_,_,_,n,e1,e2,_⟩:=zd4 a.tree hu hkz
    refine l4 g (by rw [hT.usd]; exact gu) e (fun hp => ?_) (ih g gu ?_)
    ·rw [hp,hT.dep] at e2
     have:=hc.2
     omega
    ·rcases h with h | h
     ·exact .inl h
     ·exact .inr ⟨h.1,by have:=h.2; omega⟩
  ·rename_i hc
   refine ⟨a,b,fun g gu h=>ih g gu ?_⟩
   rcases h with h | h
   ·exact .inl h
   ·refine .inr ⟨h.1,?_⟩
    by_cases e:g=(k:Int)
    ·subst e
     exact absurd ⟨by rw [hT.u]; exact (zac.1 gu).2.2,by rw [hT.dep]; exact h.1⟩ hc
    ·have:=h.2
     omega
theorem z52 {W:Wld} (ha:WA W) {c:Int} (c0:0<=c) (c1:c<(W.cpus.length:Int)):WA (zat W c)/\zgt W (zat W c)/\∀g:Int,zae W.groups g=true->g≠0->onEq (zat W c) c g:=by
 have key:∀j:Nat,j<=3->WA (zdz W c j)/\zgt W (zdz W c j)/\∀g:Int,zae W.groups g=true->3 - (j:Int)<dep 3 W.groups g->onEq (zdz W c j) c g:=by
  intro j
  induction j with
  | zero=>exact fun _=>⟨ha,zgt.refl _,fun g gu h=>by have:=(zqh ha gu).2; omega⟩
  | succ j ih=>
   intro hj
   obtain ⟨a,b,h⟩:=ih (by omega)
   have hT:=b.g
   obtain ⟨a2,b2,h2⟩:=z86 a (c:=c) (d:=3 - (j:Int)) (by omega) c0 (by rw [b.c]; exact c1) (fun g gu hd=>h g (by rwa [hT.usd] at gu) (by rwa [hT.dep] at hd)) 8 (Nat.le_refl _)
   refine ⟨a2,b.trans b2,fun g gu hd=>h2 g (by rw [hT.usd]; exact gu) ?_⟩
   rw [hT.dep]
   have:=(zac.1 gu).2.1
   have:=ha.gl
   by_cases e:dep 3 W.groups g=3 - (j:Int)
   ·exact .inr ⟨e,by omega⟩
   ·exact .inl (by omega)
 obtain ⟨a,b,h⟩:=key 3 (Nat.le_refl _)
 refine ⟨a,b,fun g gu gz=>h g gu ?_⟩
 obtain ⟨_,_,_,n,e1,_⟩:=zd4 ha.tree gu gz
 omega
theorem z6h {W:Wld} (ha:WA W) {c d:Int} (d1:1<=d) (c0:0<=c) (c1:c<(W.cpus.length:Int)):∀k:Nat,k<=8->Oth c W (zcd W c d k)/\WA (zcd W c d k)
 | 0,_=>⟨Oth.refl _ _,ha⟩
 | k+1,hk=>by
  obtain ⟨o,a⟩:=z6h ha d1 c0 c1 k (by omega)
  have hl:=a.gl
  simp only [zcd]
  split
  ·rename_i hc
   have hu:zae (zcd W c d k).groups (k:Int)=true:=zac.2 ⟨by omega,by omega,hc.1⟩
   exact ⟨o.trans (zxt (by omega) (by omega) c0 (by rw [a.sl hu,o.len]; exact c1)),a.setSh (by omega) (by omega)⟩
  ·exact ⟨o,a⟩
theorem zaan {W:Wld} (ha:WA W) {c:Int} (c0:0<=c) (c1:c<(W.cpus.length:Int)):Oth c W (zat W c):=by
 have key:∀j:Nat,j<=3->Oth c W (zdz W c j)/\WA (zdz W c j):=by
  intro j
  induction j with
  | zero=>exact fun _=>⟨Oth.refl _ _,ha⟩
  | succ j ih=>
   intro hj
   obtain ⟨o,a⟩:=ih (by omega)
   obtain ⟨o2,a2⟩:=z6h a (c:=c) (d:=3 - (j:Int)) (by omega) c0 (by rw [o.len]; exact c1) 8 (Nat.le_refl _)
   exact ⟨o.trans o2,a2⟩
 exact (key 3 (Nat.le_refl _)).1
structure Dm (W:Wld) (c:Int):Prop where
 on:∀k:Int,zae W.groups k=true->k≠0->onEq W c k
 cu:0<=(gi W.cpus c).cur->(tkk W (gi W.cpus c).cur).cpu=c/\ze3 W (gi W.cpus c).cur=true
theorem zakt {W:Wld} (wp:WldP W) {c:Int} (c0:0<=c) (c1:c<(W.cpus.length:Int)):Dm W c:=
 ⟨fun k hu hz=>(zyl wp hu c0 c1).on hz,fun h=>⟨((wp.c c c0 c1).yes h).2.2.2.1,((wp.c c c0 c1).yes h).2.2.2.2.1⟩⟩
theorem Dm.oth {K:Int} {c d:Int} {W W':Wld} (h:Dm W d) (sw:SW K W) (o:Oth c W W') (d0:0<=d) (d1:d<(W.cpus.length:Int)) (hd:d≠c):Dm W' d:=by
 refine ⟨fun k hu hz => ?_,fun h0 => ?_⟩
 ·rw [o.g.usd] at hu
  have k0:=(zac.1 hu).1
  have:=h.on k hu hz
  unfold onEq at this ⊢
  rw [o.e k d k0 d0 hd,o.active d0 hd,z5g (o.b k k0)]
  exact this
 ·rw [o.cp d d0 hd] at h0 ⊢
  rw [zd7 o.t]
  obtain ⟨h1,h2⟩:=h.cu h0
  refine ⟨h1,?_⟩
  have hs:(tkk W (gi W.cpus d).cur).state=1:=by
   unfold ze3 at h2
   rw [Bool.and_eq_true] at h2
   exact eq_of_beq h2.1
  have hu:=(sw.t _ h0 (sw.cu d d0 d1).2 (by rw [hs]; decide)).1
  rw [o.line sw.a.tree hu (by rw [h1]; exact d0) (by rw [h1]; exact hd)]
  exact h2
theorem z4r {K:Int} {W:Wld} (sw:SW K W) {c:Int} (c0:0<=c) (c1:c<(W.cpus.length:Int)):Oth c W (zhl W c)/\Dm (zhl W c) c:=by
 obtain ⟨p1,os,hon⟩:=z52 sw.a c0 c1
 have ol:=zaan sw.a c0 c1
 obtain ⟨f,hA,_⟩:=zqq p1 c0 (c:=c) (by rw [os.c]; exact c1) 8 (Nat.le_refl _)
 have f:FC c (zat W c) (za7 (zat W c) c):=f
 have hon:∀g:Int,zae (zat W c).groups g=true->g≠0->onEq (zat W c) c g:=fun g gu gz=>hon g (by rwa [os.g.usd] at gu) gz
 have hdef:zhl W c=if zoq (za7 (zat W c) c) c=true then endW (za7 (zat W c) c) c else za7 (zat W c) c:=rfl
 have hO:Oth c W (za7 (zat W c) c):=ol.trans f.o
 have hFc:(za7 (zat W c) c).cpus.length=W.cpus.length:=hO.len
 have hT:=f.o.g
 have honF:∀k:Int,zae (za7 (zat W c) c).groups k=true->k≠0->onEq (za7 (zat W c) c) c k:=fun k hu hz=>by
  rw [hT.usd] at hu
  have k0:=(zac.1 hu).1
  have:=hon k hu hz
  unfold onEq at this ⊢
  rw [f.on k c k0 c0,zho f.o.t hT fun j _ _ _ _=>f.on _ c (by omega) c0,z5g (f.o.b k k0)]
  exact this
 rw [hdef]
 clear hdef
 generalize za7 (zat W c) c=F at honF hO hFc
 have cF:c<(F.cpus.length:Int):=by rw [hFc]; exact c1
 split
 ·refine ⟨hO.trans (z9c c0 cF),honF,fun h0 => ?_⟩
  rw [show gi (endW F c).cpus c=endC (gi F.cpus c) from (za4 _ _ c0 cF c0).trans (if_pos rfl)] at h0
  have h0:(0:Int)<=-1:=h0
  omega
 ·rename_i hg
  have hg:zoq F c=false:=by simpa using hg
  refine ⟨hO,honF,fun h0 => ?_⟩
  unfold zoq at hg
  rw [decide_eq_true h0,Bool.true_and,Bool.or_eq_false_iff] at hg
  exact ⟨by simpa using hg.1,by simpa using hg.2⟩
theorem z9q {K:Int} {W:Wld} (sw:SW K W) (hK:0<=K):∀c:Nat,c<=W.cpus.length->∀d:Int,0<=d->d<(c:Int)->Dm (zeo W c) d
 | 0,_=>fun d a b=>by omega
 | c+1,hc=>fun d d0 d1=>by
  obtain ⟨s1,f1⟩:=zl7 sw hK c (by omega)
  obtain ⟨o,dm⟩:=z4r s1 (c:=(c:Int)) (by omega) (by rw [f1.c]; omega)
  by_cases h:d=(c:Int)
  ·subst h; exact dm
  ·exact (z9q sw hK c (by omega) d d0 (by omega)).oth s1 o d0 (by rw [f1.c]; omega) h
theorem zadp {K:Int} {W:Wld} (sw:SW K W) (hK:0<=K) {d:Int} (d0:0<=d) (d1:d<(W.cpus.length:Int)):Dm (zah W) d:=by
 obtain ⟨s1,o1⟩:=zhe (F:=K) (K:=K+lagB) (sw.sf.mono (Int.le_refl _) (by simp only [lagB]; omega)) (Int.le_refl _) W.cpus.length (Nat.le_refl _)
 obtain ⟨s2,b2⟩:=zh9 s1 8 (Nat.le_refl _)
 exact z9q s2.w (by simp only [lagB]; omega) W.cpus.length (by show W.cpus.length<=(zdm (zbq W W.cpus.length) 8).cpus.length; rw [b2.c,o1.c]; exact Nat.le_refl _) d d0 d1
structure zaei (W:Wld) (t c:Int):Prop where
 t0:0<=t
 t1:t<12
 st:(tkk W t).state=1
 cpu:(tkk W t).cpu=c
 on:∀x∈zbk W.groups (tkk W t).group,(shf W x c).on=true
theorem zac0 {W:Wld} (ha:WA W) {c:Int} (f:Nat):∀g:Int,zae W.groups g=true->(4 - dep 3 W.groups g).toNat=f->(∀x∈zbk W.groups g,(shf W x c).on=true)->0<=zor W g c->zaei W (zor W g c) c:=by
 induction f with
 | zero=>
  intro g hu hf
  have:=zqh ha hu
  omega
 | succ f ih=>
  intro g hu hf hp h
  rw [zq7 ha hu] at h ⊢
  by_cases h1:zax W g c<0
  ·rw [if_pos h1] at h; omega
  ·rw [if_neg h1] at h ⊢
   by_cases h2:zax W g c<12
   ·rw [if_pos h2] at h ⊢
    have hm:memP W g c (zax W g c).toNat=true:=by
     rcases zbz (memP W g c) (memV W c) 20 with ⟨a,_⟩ | ⟨_,_,a,_⟩
     ·unfold zax at h1; omega
     ·exact a
    rw [zim (by omega)] at hm
    unfold actT at hm
    rw [show (((zax W g c).toNat:Nat):Int)=zax W g c by omega] at hm
    simp only [Bool.and_eq_true,beq_iff_eq] at hm
    refine ⟨h,h2,hm.1.1,hm.2,?_⟩
    rw [show (tkk W (zax W g c)).group=g from hm.1.2]
    exact hp
   ·rw [if_neg h2] at h ⊢
    obtain ⟨k1,k2,k3,k4⟩:=zmz ha hu (g:=g) (c:=c) (by omega)
    have hm:memP W g c (zax W g c).toNat=true:=by
     rcases zbz (memP W g c) (memV W c) 20 with ⟨a,_⟩ | ⟨_,_,a,_⟩
     ·unfold zax at h1; omega
     ·exact a
    rw [show (zax W g c).toNat=12+(zax W g c - 12).toNat by omega,zil] at hm
    unfold actG at hm
    rw [show (((zax W g c - 12).toNat:Nat):Int)=zax W g c - 12 by omega] at hm
    simp only [Bool.and_eq_true,beq_iff_eq] at hm
    refine ih _ k1 (by omega) (fun x hx => ?_) h
    rw [zcf ha.tree k1 k2] at hx
    rcases List.mem_cons.1 hx with e | e
    ·rw [e]; exact hm.2
    ·rw [hm.1.2.2] at e; exact hp x e
theorem zada {W:Wld} (ha:WA W) {c:Int} (h12:(gi W.cpus c).cur<12) (hcu:0<=(gi W.cpus c).cur->(tkk W (gi W.cpus c).cur).cpu=c/\ze3 W (gi W.cpus c).cur=true) (h:¬zaf W c<0):zaei W (zaf W c) c:=by
 unfold zaf at h ⊢
 split
 ·rename_i hc
  obtain ⟨h1,h2⟩:=hcu hc.1
  unfold ze3 zk7 at h2
  rw [Bool.and_eq_true,List.all_eq_true,h1] at h2
  exact ⟨hc.1,h12,eq_of_beq h2.1,h1,h2.2⟩
 ·rename_i hc
  rw [if_neg hc] at h
  exact zac0 ha _ 0 ha.root rfl (fun x hx=>by rw [show zbk W.groups 0=[] from zbm _ _] at hx; cases hx) (by omega)
structure SumC (W W':Wld):Prop where
 n:W'.now=W.now
 t:W'.tasks=W.tasks
 s:∀i d:Int,(shf W' i d).sum=(shf W i d).sum
 g:∀i:Int,(gi W'.groups i).sum=(gi W.groups i).sum
 b:∀i:Int,(gi W'.cpus i).busy=(gi W.cpus i).busy
 i:∀i:Int,(gi W'.cpus i).idle=(gi W.cpus i).idle
 u:∀i:Int,(gi W'.cpus i).up=(gi W.cpus i).up
 r:∀i:Int,(gi W'.cpus i).ran=(gi W.cpus i).ran\/(gi W'.cpus i).ran=0
theorem SumC.refl (W:Wld):SumC W W:=⟨rfl,rfl,fun _ _=>rfl,fun _=>rfl,fun _=>rfl,fun _=>rfl,fun _=>rfl,fun _=>.inl rfl⟩
theorem SumC.trans {A B C:Wld} (h:SumC A B) (k:SumC B C):SumC A C:=
 ⟨k.n.trans h.n,k.t.trans h.t,fun i d=>(k.s i d).trans (h.s i d),fun i=>(k.g i).trans (h.g i),fun i=>(k.b i).trans (h.b i),fun i=>(k.i i).trans (h.i i),fun i=>(k.u i).trans (h.u i),fun i=>by
  rcases k.r i with e | e
  ·rcases h.r i with e2 | e2
   ·exact .inl (e.trans e2)
   ·exact .inr (e.trans e2)
  ·exact .inr e⟩
theorem z9u (W:Wld) {g c:Int} {s:Shf} (h:s.sum=(shf W g c).sum):SumC W (setSh W g c s):=
 ⟨rfl,rfl,fun i d=>zb8 (f:=fun G:Grp=>(gi G.shelves d).sum) W.groups g (x:={ gi W.groups g with shelves:=(gi W.groups g).shelves.set c.toNat s }) (zb8 (f:=Shf.sum) (gi W.groups g).shelves c h d) i,fun i=>zb8 (f:=Grp.sum) W.groups g (x:={ gi W.groups g with shelves:=(gi W.groups g).shelves.set c.toNat s }) rfl i,fun _=>rfl,fun _=>rfl,fun _=>rfl,fun _=>.inl rfl⟩
theorem zaha (W:Wld) (g:Int) (b:Bnd):SumC W (setBd W g b):=
 ⟨rfl,rfl,fun i d=>zb8 (f:=fun G:Grp=>(gi G.shelves d).sum) W.groups g (x:={ gi W.groups g with band:=b }) rfl i,fun i=>zb8 (f:=Grp.sum) W.groups g (x:={ gi W.groups g with band:=b }) rfl i,fun _=>rfl,fun _=>rfl,fun _=>rfl,fun _=>.inl rfl⟩
theorem zab5 {α:Type} [Inhabited α] (l:List α) (k:Int) (x:α) (i:Int):gi (l.set k.toNat x) i=gi l i\/gi (l.set k.toNat x) i=x:=by
 unfold gi
 simp only [List.getD_eq_getElem?_getD,List.getElem?_set]
 split
 ·split
  ·exact .inr rfl
  ·rename_i e hl
   refine .inl ?_
   rw [show l[i.toNat]? = none from List.getElem?_eq_none_iff.2 (by omega)]
 ·exact .inl rfl
theorem z4t (W:Wld) (c:Int):SumC W (endW W c):=
 ⟨rfl,rfl,fun _ _=>rfl,fun _=>rfl,fun i=>zb8 (f:=Cpu.busy) W.cpus c (x:=endC (gi W.cpus c)) rfl i,fun i=>zb8 (f:=Cpu.idle) W.cpus c (x:=endC (gi W.cpus c)) rfl i,fun i=>zb8 (f:=Cpu.up) W.cpus c (x:=endC (gi W.cpus c)) rfl i,fun i=>by
  rcases zab5 W.cpus c (endC (gi W.cpus c)) i with e | e
  ·exact .inl (by show (gi (W.cpus.set c.toNat (endC (gi W.cpus c))) i).ran=_; rw [e])
  ·exact .inr (by show (gi (W.cpus.set c.toNat (endC (gi W.cpus c))) i).ran=0; rw [e]; rfl)⟩
theorem zyr (W:Wld) (c d:Int):∀k:Nat,SumC W (zcd W c d k)
 | 0=>SumC.refl _
 | k+1=>by
  simp only [zcd]
  split
  ·exact (zyr W c d k).trans (z9u _ rfl)
  ·exact zyr W c d k
theorem zs0 (W:Wld) (c:Int):∀j:Nat,SumC W (zdz W c j)
 | 0=>SumC.refl _
 | j+1=>(zs0 W c j).trans (zyr _ _ _ _)
theorem z1p (W:Wld):∀c:Nat,SumC W (zbq W c)
 | 0=>SumC.refl _
 | c+1=>(z1p W c).trans (zs0 (zbq W c) (c:Int) 3)
theorem zyp (W:Wld) (k:Int):∀c:Nat,SumC W (zdk W k c)
 | 0=>SumC.refl _
 | c+1=>by
  simp only [zdk]
  split
  ·exact (zyp W k c).trans (zaha _ _ _)
  ·exact zyp W k c
theorem zyq (W:Wld):∀k:Nat,SumC W (zdm W k)
 | 0=>SumC.refl _
 | k+1=>by
  simp only [zdm]
  split
  ·exact (zyq W k).trans (zyp _ _ _)
  ·exact zyq W k
theorem zsz (W:Wld) (c:Int):∀k:Nat,SumC W (za3 W c k)
 | 0=>SumC.refl _
 | k+1=>by
  simp only [za3]
  split
  ·exact (zsz W c k).trans (z9u _ rfl)
  ·exact zsz W c k
theorem zad1 (W:Wld) (c:Int):SumC W (zhl W c):=by
 have h:=(zs0 W c 3).trans (zsz (zat W c) c 8)
 unfold zhl
 split
 ·exact h.trans (z4t _ _)
 ·exact h
theorem z65 (W:Wld):∀c:Nat,SumC W (zeo W c)
 | 0=>SumC.refl _
 | c+1=>(z65 W c).trans (zad1 (zeo W c) (c:Int))
theorem z1q (W:Wld):SumC W (zah W):=((z1p W W.cpus.length).trans (zyq (zbq W W.cpus.length) 8)).trans (z65 (zop (zbq W W.cpus.length)) W.cpus.length)
structure RB (S:Int) (W:Wld):Prop where
 n:W.now<=50000000000000000
 t:∀t:Int,0<=t->t<12->0<=(tkk W t).sum/\(tkk W t).sum<=S/\0<=(tkk W t).used/\(tkk W t).used<=S
 s:∀k c:Int,zae W.groups k=true->0<=c->c<(W.cpus.length:Int)->0<=(shf W k c).sum/\(shf W k c).sum<=S
 g:∀k:Int,zae W.groups k=true->0<=(gi W.groups k).sum/\(gi W.groups k).sum<=S
 c:∀c:Int,0<=c->c<(W.cpus.length:Int)->0<=(gi W.cpus c).busy/\(gi W.cpus c).busy<=S/\0<=(gi W.cpus c).idle/\(gi W.cpus c).idle<=50000000000000000/\0<=(gi W.cpus c).ran/\(gi W.cpus c).ran<=149
theorem RB.sum {S:Int} {W W':Wld} (h:RB S W) (k:SumC W W') (hT:zb6 W.groups W'.groups) (hl:W'.cpus.length=W.cpus.length):RB S W':=by
 refine ⟨by rw [k.n]; exact h.n,fun t a b=>by rw [zd7 k.t]; exact h.t t a b,fun i c u a b => ?_,fun i u => ?_,fun c a b => ?_⟩
 ·rw [hT.usd] at u
  rw [hl] at b
  rw [k.s]; exact h.s i c u a b
 ·rw [hT.usd] at u
  rw [k.g]; exact h.g i u
 ·rw [hl] at b
  have:=h.c c a b
  rw [k.b,k.i]
  refine ⟨this.1,this.2.1,this.2.2.1,this.2.2.2.1,?_⟩
  rcases k.r c with e | e
  ·rw [e]; exact this.2.2.2.2
  ·rw [e]; exact ⟨by omega,by omega⟩
theorem zak4 {W:Wld} (wp:WldP W) (r:zu3 W):RB zbr W:=by
 have hl:=wp.a.gl
 have ht:=wp.a.t
 refine ⟨r.n,fun t a b => ?_,fun k c u a b => ?_,fun k u => ?_,fun c a b => ?_⟩
 ·have h:=r.t t a (by omega)
  rcases wp.t t a b with hz | ⟨_,hx⟩
  ·rw [hz.2]; decide
  ·exact ⟨(ze9.1 hx.s).1,h.2.1,(ze9.1 hx.u).1,h.2.2⟩
 ·obtain ⟨u0,u1,_⟩:=zac.1 u
  have hs:=wp.a.sl u
  exact ⟨(ze9.1 (zyl wp u a b).s).1,(r.s k c u0 u1 a (by omega)).2.2⟩
 ·obtain ⟨u0,u1,hg⟩:=wp.a.u u
  exact ⟨(ze9.1 hg.s).1,r.g k u0 (by omega)⟩
 ·have hc:=wp.c c a b
  have hr:=r.c c a b
  refine ⟨(ze9.1 hc.b).1,hr.1,(ze9.1 hc.i).1,hr.2,?_⟩
  by_cases h:(gi W.cpus c).cur<0
  ·rw [hc.no h]; decide
  ·have:=hc.yes (by omega); omega
theorem zagi {b:Bnd} (h:BndP b) {c:Int} (c0:0<=c) (c1:c<(b.locals.length:Int)):BndP (zdc b c).1/\(zdc b c).1.locals.length=b.locals.length/\(zdc b c).1.quota=b.quota:=by
 unfold zdc
 split
 ·exact ⟨h,rfl,rfl⟩
 ·rename_i hn
  have hm:=z3z h.p1
  have he:=h.each c c0 c1
  have hs:=zuz b.locals c (minI 20 b.pool) c0 c1 b.locals.length
  rw [if_pos c1] at hs
  have p2:=h.p2
  have su:=h.sum
  have dl:=h.dl
  refine ⟨⟨h.q1,h.q2,?_,?_,?_,?_,?_,h.s1,h.s2,fun d d0 d1 => ?_,?_⟩,by simp,rfl⟩
  ·simp only [List.length_set]; exact h.l1
  ·simp only [List.length_set]; exact h.l2
  ·simp only [List.length_set]; exact h.dl
  ·show 0<=b.pool - minI 20 b.pool; omega
  ·show b.pool - minI 20 b.pool<=b.quota; omega
  ·simp only [List.length_set] at d1
   have hd:=h.each d d0 d1
   show 0<=gi (b.locals.set c.toNat (minI 20 b.pool)) d/\gi (b.locals.set c.toNat (minI 20 b.pool)) d<=b.quota/\(gi (b.dry.set c.toNat (minI 20 b.pool==0)) d=true->gi (b.locals.set c.toNat (minI 20 b.pool)) d=0/\b.pool - minI 20 b.pool=0)
   rw [za4 _ _ c0 c1 d0,za4 _ _ c0 (by omega) d0]
   have hz:minI 20 b.pool=0->b.pool=0:=fun e=>by unfold minI at e; split at e <;> omega
   by_cases e:c=d
   ·subst e
    rw [if_pos rfl,if_pos rfl]
    refine ⟨hm.1,by omega,fun hd0 => ?_⟩
    have e0:minI 20 b.pool=0:=eq_of_beq hd0
    have:=hz e0
    exact ⟨e0,by omega⟩
   ·rw [if_neg e,if_neg e]
    refine ⟨hd.1,hd.2.1,fun hd0 => ?_⟩
    have:=hd.2.2 hd0
    exact ⟨this.1,by omega⟩
  ·show b.pool - minI 20 b.pool+b.spent+sumI (b.locals.set c.toNat (minI 20 b.pool)) (b.locals.set c.toNat (minI 20 b.pool)).length=b.quota
   rw [List.length_set,hs]
   omega
theorem zads {b:Bnd} (h:BndP b) {c n:Int} (c0:0<=c) (c1:c<(b.locals.length:Int)):BndP (zfn b c n).1/\(zfn b c n).1.locals.length=b.locals.length/\(zfn b c n).1.quota=b.quota:=by
 unfold zfn
 split
 ·exact ⟨h,rfl,rfl⟩
 ·rename_i hn
  have hs:=zuz b.locals c (gi b.locals c - n) c0 c1 b.locals.length
  rw [if_pos c1] at hs
  have hnn:=(z8f (fun d d0 d1=>(h.each d d0 d1).1) c0 b.locals.length (Nat.le_refl _)).2 c1
  have p1:=h.p1
  have su:=h.sum
  have s1:=h.s1
  have dl:=h.dl
  have hn1:¬n<1:=fun e=>hn (.inl e)
  have hn2:¬n>gi b.locals c:=fun e=>hn (.inr e)
  refine ⟨⟨h.q1,h.q2,?_,?_,?_,h.p1,h.p2,?_,?_,fun d d0 d1 => ?_,?_⟩,by simp,rfl⟩
  ·simp only [List.length_set]; exact h.l1
  ·simp only [List.length_set]; exact h.l2
  ·simp only [List.length_set]; exact h.dl
  ·show 0<=b.spent+n; omega
  ·show b.spent+n<=b.quota; omega
  ·simp only [List.length_set] at d1
   have hd:=h.each d d0 d1
   show 0<=gi (b.locals.set c.toNat (gi b.locals c - n)) d/\gi (b.locals.set c.toNat (gi b.locals c - n)) d<=b.quota/\(gi b.dry d=true->gi (b.locals.set c.toNat (gi b.locals c - n)) d=0/\b.pool=0)
   rw [za4 _ _ c0 c1 d0]
   by_cases e:c=d
   ·subst e
    rw [if_pos rfl]
    exact ⟨by omega,by omega,fun hd0=>by have:=(hd.2.2 hd0).1; omega⟩
   ·rw [if_neg e]
    exact hd
  ·show b.pool+(b.spent+n)+sumI (b.locals.set c.toNat (gi b.locals c - n)) (b.locals.set c.toNat (gi b.locals c - n)).length=b.quota
   rw [List.length_set,hs]
   omega
def hldN (b:Bnd) (c:Int):Nat->Nat
 | 0=>0
 | d+1=>hldN b c d+if (d:Int)≠c/\gi b.locals (d:Int)>0 then 1 else 0
def wetN (b:Bnd) (c:Int):Nat:=if gi b.dry c=true then 0 else 1
def phiB (b:Bnd) (c:Int):Nat:=9*hldN b c 4+wetN b c
theorem zab8 (b:Bnd) (c:Int):∀n:Nat,hldN b c n<=n
 | 0=>Nat.le_refl _
 | n+1=>by
  have:=zab8 b c n
  simp only [hldN]
  split <;> omega
theorem zair (b:Bnd) (c:Int):phiB b c<=37:=by
 have:=zab8 b c 4
 unfold phiB wetN
 split <;> omega
def phiN (W:Wld) (c:Int):Nat->Nat
 | 0=>0
 | k+1=>phiN W c k+phiB (gi W.groups (k:Int)).band c
def phiW (W:Wld) (c:Int):Nat:=phiN W c 8
theorem zsr {W W':Wld} {c:Int} (h:∀k:Nat,k<8->phiB (gi W'.groups (k:Int)).band c<=phiB (gi W.groups (k:Int)).band c):∀k:Nat,k<=8->phiN W' c k<=phiN W c k
 | 0,_=>Nat.le_refl _
 | k+1,hk=>by
  have:=zsr h k (by omega)
  have:=h k (by omega)
  simp only [phiN]
  omega
theorem zac8 {W W':Wld} {c:Int} (h:∀k:Nat,k<8->phiB (gi W'.groups (k:Int)).band c<=phiB (gi W.groups (k:Int)).band c) {j:Nat} (hj:phiB (gi W'.groups (j:Int)).band c<phiB (gi W.groups (j:Int)).band c):∀k:Nat,j<k->k<=8->phiN W' c k<phiN W c k
 | 0,h0,_=>absurd h0 (Nat.not_lt_zero j)
 | k+1,hjk,hk=>by
  have h1:=zsr h k (by omega)
  have h2:=h k (by omega)
  simp only [phiN]
  by_cases e:j=k
  ·subst e; omega
  ·have:=zac8 h hj k (by omega) (by omega)
   omega
theorem zait (W:Wld) (c:Int):phiW W c<=296:=by
 have key:∀k:Nat,phiN W c k<=37*k:=by
  intro k
  induction k with
  | zero=>exact Nat.le_refl _
  | succ k ih=>
   have:=zair (gi W.groups (k:Int)).band c
   simp only [phiN]
   omega
 exact key 8
theorem zqt {b b':Bnd} {c:Int} (h:∀d:Nat,(d:Int)≠c->gi b'.locals (d:Int)=gi b.locals (d:Int)):∀n:Nat,hldN b' c n=hldN b c n
 | 0=>rfl
 | n+1=>by
  simp only [hldN]
  rw [zqt h n]
  by_cases e:(n:Int)=c
  ·simp [e]
  ·rw [h n e]
theorem z84 {b b':Bnd} {c:Int} {e:Nat} (he:(e:Int)≠c) (h0:gi b'.locals (e:Int)=0) (h1:gi b.locals (e:Int)>0) (h:∀d:Nat,d≠e->gi b'.locals (d:Int)=gi b.locals (d:Int)):∀n:Nat,hldN b' c n+(if e<n then 1 else 0)=hldN b c n
 | 0=>rfl
 | n+1=>by
  have ih:=z84 he h0 h1 h n
  simp only [hldN]
  by_cases hn:n=e
  ·subst hn
   rw [if_neg (Nat.lt_irrefl n)] at ih
   rw [if_pos (Nat.lt_succ_self n),if_neg (by rintro ⟨_,h⟩; omega),if_pos ⟨he,h1⟩]
   omega
  ·rw [h n hn]
   generalize (if (n:Int)≠c/\gi b.locals (n:Int)>0 then 1 else 0)=y
   by_cases hlt:e<n
   ·rw [if_pos hlt] at ih
    rw [if_pos (by omega)]
    omega
   ·rw [if_neg hlt] at ih
    rw [if_neg (by omega)]
    omega
theorem zafz {b:Bnd} (h:BndP b) {c:Int} {e:Nat} (e1:(e:Int)<(b.locals.length:Int)) (hp:gi b.locals (e:Int)>0):phiB (ze1 b (e:Int)) c<=phiB b c:=by
 have hl:=h.l2
 have hset:∀d:Nat,gi (ze1 b (e:Int)).locals (d:Int)=if e=d then 0 else gi b.locals (d:Int):=fun d=>by
  show gi (b.locals.set (e:Int).toNat 0) (d:Int)=_
  rw [za4 _ _ (by omega) e1 (by omega)]
  by_cases h:e=d
  ·subst h; simp
  ·rw [if_neg h,if_neg (by omega)]
 unfold phiB
 by_cases hc:(e:Int)=c
 ·have h1:=zqt (b:=b) (b':=ze1 b (e:Int)) (c:=c) (fun d hd=>by rw [hset d,if_neg (fun h=>hd (by rw [<-h]; exact hc))]) 4
  have hw:gi b.dry c=false:=by
   cases hd:gi b.dry c with
   | false=>rfl
   | true=>
    have:=((h.each c (by omega) (by omega)).2.2 hd).1
    rw [<-hc] at this; omega
  rw [h1]
  unfold wetN
  rw [hw]
  split <;> simp
 ·have h1:=z84 (b:=b) (b':=ze1 b (e:Int)) (c:=c) hc (by rw [hset e,if_pos rfl]) hp (fun d hd=>by rw [hset d,if_neg (fun h=>hd h.symm)]) 4
  rw [if_pos (by omega)] at h1
  have:wetN (ze1 b (e:Int)) c<=1:=by unfold wetN; split <;> omega
  omega
theorem zaf0 {b:Bnd} {c:Int} (c0:0<=c) (c1:c<(b.locals.length:Int)) (hdl:b.dry.length=b.locals.length) (hw:gi b.dry c=false):phiB (zdc b c).1 c<=phiB b c/\((zdc b c).2=2->phiB (zdc b c).1 c<phiB b c)/\((zdc b c).2≠2->gi (zdc b c).1.dry c=false):=by
 unfold zdc
 split
 ·exact ⟨Nat.le_refl _,fun h=>(by cases h),fun _=>hw⟩
 ·have h1:=zqt (b:=b) (b':=⟨b.quota,b.pool - minI 20 b.pool,b.spent,b.locals.set c.toNat (minI 20 b.pool),b.dry.set c.toNat (minI 20 b.pool==0)⟩) (c:=c) (fun d hd=>by
   show gi (b.locals.set c.toNat (minI 20 b.pool)) (d:Int)=_
   rw [za4 _ _ c0 c1 (by omega),if_neg fun h=>hd h.symm]) 4
  have hd:gi (b.dry.set c.toNat (minI 20 b.pool==0)) c=(minI 20 b.pool==0):=by rw [za4 _ _ c0 (by omega) c0,if_pos rfl]
  unfold phiB
  rw [h1]
  unfold wetN
  rw [hw]
  simp only [hd]
  by_cases hm:minI 20 b.pool=0
  ·rw [if_pos (show (minI 20 b.pool==0)=true by rw [hm]; rfl),if_neg (by decide)]
   exact ⟨by omega,fun _=>by omega,fun h=>absurd (if_pos hm) h⟩
  ·have hb:(minI 20 b.pool==0)=false:=by simpa using hm
   rw [hb]
   exact ⟨Nat.le_refl _,fun h=>(by rw [if_neg hm] at h; cases h),fun _=>rfl⟩
theorem zac9 {b:Bnd} {c n:Int} (c0:0<=c) (c1:c<(b.locals.length:Int)):phiB (zfn b c n).1 c=phiB b c:=by
 unfold zfn
 split
 ·rfl
 ·unfold phiB wetN
  rw [zqt (b:=b) (c:=c) (fun d hd=>by
   show gi (b.locals.set c.toNat (gi b.locals c - n)) (d:Int)=_
   rw [za4 _ _ c0 c1 (by omega),if_neg fun h=>hd h.symm]) 4]
theorem z6n {F K:Int} {W:Wld} (h:SF F K W) {k:Int} (hu:zae W.groups k=true) (hq:(gi W.groups k).band.quota≠0) (c:Int):∀d:Nat,d<=W.cpus.length->(∀j:Int,0<=j->phiB (gi (zdk W k d).groups j).band c<=phiB (gi W.groups j).band c)
 | 0,_=>fun _ _=>Nat.le_refl _
 | d+1,hd=>by
  have ih:=z6n h hu hq c d (by omega)
  obtain ⟨a,b,q⟩:=zqs h hu hq d (by omega)
  simp only [zdk]
  split
  ·rename_i hc
   have hu':zae (zdk W k d).groups k=true:=by rw [b.g.usd]; exact hu
   obtain ⟨u0,u1,hg⟩:=a.w.a.u hu'
   have hb:=hg.band q
   have hl:=a.w.a.gl
   intro j hj
   show phiB (gi (setGr _ k _).groups j).band c<=_
   rw [zex u0 (by omega) hj]
   split
   ·rename_i e
    subst e
    exact Nat.le_trans (zafz hb.1 (by rw [hb.2.1,b.c]; omega) hc.1) (ih k hj)
   ·exact ih j hj
  ·exact ih
theorem z6o {F K:Int} {W:Wld} (h:SF F K W) (c:Int):∀k:Nat,k<=8->∀j:Int,0<=j->phiB (gi (zdm W k).groups j).band c<=phiB (gi W.groups j).band c
 | 0,_=>fun _ _=>Nat.le_refl _
 | k+1,hk=>by
  have ih:=z6o h c k (by omega)
  obtain ⟨a,b⟩:=zh9 h k (by omega)
  have hl:=a.w.a.gl
  simp only [zdm]
  split
  ·rename_i hc
   exact fun j hj=>Nat.le_trans (z6n a (zac.2 ⟨by omega,by omega,hc.1⟩) hc.2 c _ (Nat.le_refl _) j hj) (ih j hj)
  ·exact ih
end Go.Proofs.YtclpmgfpjeaibaaGreatDoor
