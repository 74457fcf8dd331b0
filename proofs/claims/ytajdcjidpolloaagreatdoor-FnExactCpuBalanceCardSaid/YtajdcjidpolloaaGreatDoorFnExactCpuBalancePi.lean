/- Part 9 of what the law FnExactCpuBalance needs: the engine, the functions' propositions, the contracts. -/
import Derived.Test.YtajdcjidpolloaaGreatDoorFnExactCpuBalancePh
namespace Go.Proofs.YtajdcjidpolloaaGreatDoor
open Go.RowKit
set_option linter.unusedVariables false
set_option linter.unusedSimpArgs false
set_option maxRecDepth 10000
theorem zadt {a b:List Shf} {aO bO:Option Addr} {aC bC:Nat} {w:World} {bs:List Nat} (ha:RdS bs w aO a) (hb:RdS bs w bO b) (ha9:a.length≤maxLen):zab bs Tryz.prog zi5 #[.slice aO a.length aC,.slice bO b.length bC] w (.bool (decide (a=b))) :=
 z0l aO a.length aC bO b.length bC fun wr hx=>by
  have ha:=(ha.ext hx).less (cs:=[]) (by simp)
  have hb:=(hb.ext hx).less (cs:=[]) (by simp)
  refine ⟨fun h => ?_,fun h => ?_⟩
  ·have h:a.length≠b.length:=by simpa [Int.ofNat_inj] using h
   rw [decide_eq_false fun e=>h (by rw [e])]
  ·have hl:a.length=b.length:=by simpa [Int.ofNat_inj] using h
   refine ze7 a.length 0 rfl (fun k=>k≤a.length∧∀j:Nat,j<k→gi a (j:Int)=gi b (j:Int)) ⟨Nat.zero_le _,fun j hj=>absurd hj (Nat.not_lt_zero j)⟩ fun k ⟨hk,hI⟩=>⟨fun hlt => ?_,fun hge => ?_⟩
   ·have hlt:=of_decide_eq_true hlt
    refine ⟨ha.ix zej (by omega) hlt,_,_,_,_,_,ha k (by omega) hlt,hb.ix zej (by omega) (by omega),_,_,_,_,_,hb k (by omega) (by omega),_,zaft (a:=gi a k) (b:=gi b k),fun hne => ?_,fun heq=>⟨zfv hlt ha9,zai (by omega) ?_⟩⟩
    ·have hne:gi a (k:Int)≠gi b (k:Int):=by simpa using hne
     rw [decide_eq_false fun e=>hne (by rw [e])]
    ·have heq:gi a (k:Int)=gi b (k:Int):=by simpa using heq
     exact ⟨by omega,fun j hj=>by
      by_cases hjk:j<k
      ·exact hI j hjk
      ·have:j=k:=by omega
       subst this; exact heq⟩
   ·have hge:=of_decide_eq_false hge
    have hk:k=a.length:=by omega
    subst hk
    rw [decide_eq_true (zp8 hl hI)]
theorem zad3 {l:List Shf} {o:Option Addr} {c:Nat} {w:World} (h:RdS [] w o l) (hl:l.length≤1048576) :
  Calls Tryz.prog zjd #[.slice o l.length c] w fun e w'=>∃o' c',e = .returned (.slice o' l.length c')∧Own encS 5 za4 w.heap.size w' o' c' l∧ExtX [] w w':=by
 refine (zy9 o l.length c (R:=fun v w'=>∃o' c',v = .slice o' l.length c'∧Own encS 5 za4 w.heap.size w' o' c' l∧ExtX [] w w') ?_).mono fun e w' ⟨v,he,o',c',hv,h1,h2⟩=>⟨o',c',by rw [he,hv],h1,h2⟩
 have hm:=zbh
 refine fun wr hx _=>⟨_,_,_,_,zql zbk zlk l.length (by omega) (by omega) wr,zbc,?_⟩
 refine zd6 l.length 0 rfl (fun k w1=>k≤l.length∧Own encS 5 za4 wr.heap.size w1 (some ⟨wr.heap.size,0,none⟩) l.length (l.take k++List.replicate (l.length - k) (⟨0,false,0,0,0⟩:Shf))∧ExtX [] wr w1) (fun w1 hx1 _=>⟨Nat.zero_le _,by simpa using (ziu (enc:=encS) zbk.len za4 l.length (⟨0,false,0,0,0⟩:Shf) wr).ext0 hx1,(zbw wr _).trans hx1⟩) fun k w1 _ ⟨hk,hO,hX⟩=>⟨fun hlt => ?_,fun hge => ?_⟩
 ·have hlt:=of_decide_eq_true hlt
  have hr:=(h.ext hx).ext hX
  have hlen:(l.take k++List.replicate (l.length - k) (⟨0,false,0,0,0⟩:Shf)).length=l.length:=by simp; omega
  have hi:((k:Int))<((l.take k++List.replicate (l.length - k) (⟨0,false,0,0,0⟩:Shf)).length:Int):=by rw [hlen]; exact hlt
  refine ⟨hr.ix zej (by omega) hlt,_,_,_,_,_,hr k (by omega) hlt,_,_,_,_,_,(zaf5 (a:=gi l k)),by have:=hO.ix (i:=(k:Int)) (by omega) hi; rwa [hlen] at this,hO.wr zbk.len (by simp) (by omega) hi (j:=0) (by omega),zfv hlt (by omega),fun w2 hx2 _=>zae (by omega) ⟨by omega,?_,?_⟩⟩
  ·have:=(hO.sto zbk.len (i:=(k:Int)) (by omega) hi (j:=0) (vs:=encS (gi l k)) (x:=gi l k) (by rw [List.take_zero,List.nil_append,List.drop_eq_nil_iff.2 (by rw [Nat.zero_add,zbk.len,zbk.len]; exact Nat.le_refl _),List.append_nil]) (by rw [Nat.zero_add,zbk.len]; exact Nat.le_refl _)).ext0 hx2
   rwa [Int.toNat_natCast,zoo l k (by omega)] at this
  ·exact (hO.stoB _ _ hX (Nat.le_refl _)).trans hx2
 ·have hge:=of_decide_eq_false hge
  have hk:k=l.length:=by omega
  subst hk
  simp only [List.take_length,Nat.sub_self,List.replicate_zero,List.append_nil] at hO
  exact fun w2 hx2=>⟨_,_,rfl,(hO.ext0 hx2).mono hx.size,(hx.trans hX).trans hx2⟩
end Go.Proofs.YtajdcjidpolloaaGreatDoor
namespace Go.Proofs.YtajdcjidpolloaaGreatDoor
open Go.RowKit
set_option linter.unusedVariables false
set_option linter.unusedSimpArgs false
set_option maxRecDepth 10000
def zcx (b:Bnd) (m:MG):List Value:=[.int .i64 b.quota,.int .i64 b.pool,.int .i64 b.spent,.slice m.lO b.locals.length m.lC,.slice m.dO b.dry.length m.dC]
structure SmG (g:Grp):Prop where
 nm:g.name.size≤1048576
 lo:g.band.locals.length≤1048576
 dr:g.band.dry.length≤1048576
 sh:g.shelves.length≤1048576
def szBd (b:Bnd) (left:Int):Int:=if szN b.locals.length left<0 then -1 else if szN b.dry.length (szN b.locals.length left)<0 then -1 else szN b.dry.length (szN b.locals.length left)
theorem zam4 {n:Nat} {left:Int} (h:0≤left):szN n left≤left:=by unfold szN; split <;> omega
theorem zaiw {b:Bnd} {m:MG} {left:Int} {w:World} {bs:List Nat} (h1:b.locals.length≤maxLen) (h2:b.dry.length≤maxLen) (hl:0≤left) (hl2:left≤1048576):zab bs Tryz.prog zl9 #[.agg (zcx b m).toArray,.int .i64 left] w (.int .i64 (szBd b left)) :=
 z7h b.quota b.pool b.spent m.lO b.locals.length m.lC m.dO b.dry.length m.dC left fun wr hx=>by
  intro _ _
  have hn:=zam4 (n:=b.locals.length) hl
  refine ⟨_,zaiy h1 hl hl2,fun h => ?_,fun h => ?_⟩
  ·have h:=of_decide_eq_true h
   rw [szBd,if_pos h]
  ·have h:=of_decide_eq_false h
   refine ⟨_,zafz h2 (by omega) (by omega),fun h' => ?_,fun h' => ?_⟩
   ·rw [szBd,if_neg h,if_pos (of_decide_eq_true h')]
   ·rw [szBd,if_neg h,if_neg (of_decide_eq_false h')]
theorem zahe {b:Bnd} {left:Int} (hl:0≤left) (h:0≤szBd b left):szBd b left≤left∧(b.locals.length:Int)≤left∧(b.dry.length:Int)≤left:=by
 unfold szBd at h ⊢
 split at h
 ·omega
 ·split at h
  ·omega
  ·rename_i h1 h2
   rw [if_neg h1,if_neg h2]
   have a:=z05 (n:=b.locals.length) (left:=left) (by omega)
   have c:=z05 (n:=b.dry.length) h
   omega
def szGp (g:Grp) (left:Int):Int :=
 if left - (g.name.size:Int)<0 then -1 else if szBd g.band (left - (g.name.size:Int))<0 then -1 else if szN g.shelves.length (szBd g.band (left - (g.name.size:Int)))<0 then -1 else szN g.shelves.length (szBd g.band (left - (g.name.size:Int)))
theorem zahf {g:Grp} {left:Int} (hl2:left≤1048576) (h:0≤szGp g left):szGp g left≤left∧SmG g:=by
 unfold szGp at h ⊢
 split at h
 ·omega
 ·split at h
  ·omega
  ·split at h
   ·omega
   ·rename_i h1 h2 h3
    rw [if_neg h1,if_neg h2,if_neg h3]
    have hb:=zahe (b:=g.band) (left:=left - (g.name.size:Int)) (by omega) (by omega)
    have hs:=z05 h
    exact ⟨by omega,by omega,by omega,by omega,by omega⟩
theorem zaf0 {g:Grp} {m:MG} {left:Int} {w:World} {bs:List Nat} (hf:FitG g) (hl:0≤left) (hl2:left≤1048576) :
  zab bs Tryz.prog zkt #[.agg (encG g m).toArray,.int .i64 left] w (.int .i64 (szGp g left)) :=
 z28 g.used g.parent g.name g.weight g.cpus g.period g.next g.sum g.band.quota g.band.pool g.band.spent m.lO g.band.locals.length m.lC m.dO g.band.dry.length m.dC m.sO g.shelves.length m.sC left fun wr hx=>by
  have hm:=zdk
  have hnm:=hf.nm
  intro _ _
  refine ⟨⟨by omega,by omega⟩,fun h=>by rw [szGp,if_pos (of_decide_eq_true h)],fun h => ?_⟩
  have h:=of_decide_eq_false h
  refine ⟨_,zaiw (m:=m) hf.lo hf.dr (by omega) (by omega),fun h2=>by rw [szGp,if_neg h,if_pos (of_decide_eq_true h2)],fun h2 => ?_⟩
  have h2:=of_decide_eq_false h2
  have hb:=zahe (b:=g.band) (left:=left - (g.name.size:Int)) (by omega) (by omega)
  exact ⟨_,zad1 hf.sh (by omega) (by omega),fun h3=>by rw [szGp,if_neg h,if_neg h2,if_pos (of_decide_eq_true h3)],fun h3=>by rw [szGp,if_neg h,if_neg h2,if_neg (of_decide_eq_false h3)]⟩
def szGs:List Grp→Int→Int
 | [],x=>x
 | g::r,x=>if szGp g x<0 then -1 else szGs r (szGp g x)
theorem zahg:∀{gs:List Grp} {x:Int},x≤1048576→0≤szGs gs x→szGs gs x≤x∧∀g∈gs,SmG g
 | [],x,_,h=>⟨Int.le_refl _,fun g hg=>by cases hg⟩
 | g::r,x,hx,h=>by
  simp only [szGs] at h ⊢
  split at h
  ·omega
  ·rename_i h1
   rw [if_neg h1]
   obtain ⟨a,b⟩:=zahf (g:=g) hx (by omega)
   obtain ⟨c,d⟩:=zahg (gs:=r) (x:=szGp g x) (by omega) h
   exact ⟨by omega,fun y hy=>by
    rcases List.mem_cons.1 hy with rfl | hy
    ·exact b
    ·exact d y hy⟩
def szGS (gs:List Grp) (left:Int):Int:=if left - (gs.length:Int)<0 then -1 else szGs gs (left - (gs.length:Int))
theorem zalw {gs:List Grp} {left:Int} (hl2:left≤1048576) (h:0≤szGS gs left):szGS gs left≤left∧gs.length≤1048576∧∀i:Int,0≤i→i<(gs.length:Int)→SmG (gi gs i):=by
 unfold szGS at h ⊢
 split at h
 ·omega
 ·rename_i h1
  rw [if_neg h1]
  obtain ⟨a,b⟩:=zahg (gs:=gs) (x:=left - (gs.length:Int)) (by omega) h
  exact ⟨by omega,by omega,fun i h0 hi=>b _ (zvd h0 hi)⟩
theorem zad0 {gs:List Grp} {ms:Nat→MG} {o:Option Addr} {c:Nat} {left:Int} {w:World} (h:RdG [] w o gs ms) (hf:∀i:Int,0≤i→i<(gs.length:Int)→FitG (gi gs i)) (hl:0≤left) (hl2:left≤1048576) (hm:gs.length≤maxLen) :
  zab [] Tryz.prog zja #[.slice o gs.length c,.int .i64 left] w (.int .i64 (szGS gs left)) :=
 z0o o gs.length c left fun wr hx=>by
  have hml:=zdk
  have h:=h.ext hx
  refine ⟨⟨by omega,by omega⟩,fun h1=>by rw [szGS,if_pos (of_decide_eq_true h1)],fun h1 => ?_⟩
  have h1:=of_decide_eq_false h1
  refine zmr gs.length 0 rfl (fun x k=>k≤gs.length∧0≤x∧x≤left∧szGs (gs.drop k) x=szGS gs left) ⟨Nat.zero_le _,by omega,by omega,by rw [szGS,if_neg h1]; rfl⟩ fun x k ⟨hk,hx0,hx1,he⟩=>⟨fun hlt => ?_,fun hge => ?_⟩
  ·have hlt:=of_decide_eq_true hlt
   have hd:gs.drop k=gi gs (k:Int)::gs.drop (k+1):=by rw [List.drop_eq_getElem_cons (by omega),zd9 (by omega)]
   rw [hd] at he
   simp only [szGs] at he
   refine ⟨h.ix (by omega) hlt,_,_,_,_,_,_,_,_,_,_,_,_,_,_,_,_,_,_,_,_,h.cells k (by omega) hlt,_,zaf0 (m:=ms k) (hf k (by omega) hlt) hx0 (by omega),fun h2 => ?_,fun h2 => ?_⟩
   ·rw [if_pos (of_decide_eq_true h2)] at he
    rw [←he]
   ·have h2:=of_decide_eq_false h2
    rw [if_neg h2] at he
    have:=(zahf (g:=gi gs (k:Int)) (left:=x) (by omega) (by omega)).1
    exact ⟨zfv hlt hm,zap (by omega) ⟨by omega,by omega,by omega,he⟩⟩
  ·have hge:=of_decide_eq_false hge
   have hk:k=gs.length:=by omega
   subst hk
   rw [List.drop_length] at he
   rw [←he]; rfl
theorem zi1 {a b:ByteArray}:zcf a b=true↔a=b:=by
 unfold zcf
 rw [beq_iff_eq]
 constructor
 ·intro h
  have h1:∀x:ByteArray,x.toList=x.data.toList:=fun x=>by
   have key:∀(n i:Nat) (r:List UInt8),n=x.size - i→ByteArray.toList.loop x i r=r.reverse++x.data.toList.drop i:=by
    intro n
    induction n with
    | zero =>
     intro i r hn
     unfold ByteArray.toList.loop
     rw [if_neg (by omega),List.drop_eq_nil_iff.2 (by simp only [Array.length_toList]; show x.size≤i; omega),List.append_nil]
    | succ n ih =>
     intro i r hn
     unfold ByteArray.toList.loop
     have hi:i<x.data.toList.length:=by simp only [Array.length_toList]; show i<x.size; omega
     rw [if_pos (by omega),ih (i+1) _ (by omega),List.reverse_cons,List.append_assoc,List.singleton_append,List.drop_eq_getElem_cons hi]
     have:x.get! i=x.data.toList[i]:=by
      have hi':i<x.data.size:=by simpa using hi
      simp [ByteArray.get!,getElem!_pos x.data i hi']
     rw [this]
   have:=key _ 0 [] rfl
   simpa [ByteArray.toList] using this
  rw [h1,h1] at h
  cases a; cases b
  simp only at h
  congr 1
  exact Array.ext' h
 ·rintro rfl; rfl
theorem ztc (a b:ByteArray):zcf a b=decide (a=b):=by
 cases h:zcf a b with
 | true=>rw [decide_eq_true (zi1.1 h)]
 | false=>rw [decide_eq_false fun e=>by rw [zi1.2 e] at h; cases h]
theorem zais {a b:Bnd} {m n:MG} {w:World} {bs:List Nat} (h1:RdI bs w m.lO a.locals) (h2:RdB bs w m.dO a.dry) (k1:RdI bs w n.lO b.locals) (k2:RdB bs w n.dO b.dry) (l1:a.locals.length≤maxLen) (l2:a.dry.length≤maxLen) :
  zab bs Tryz.prog zl5 #[.agg (zcx a m).toArray,.agg (zcx b n).toArray] w (.bool (decide (a=b))) :=
 z7d a.quota a.pool a.spent m.lO a.locals.length m.lC m.dO a.dry.length m.dC b.quota b.pool b.spent n.lO b.locals.length n.lC n.dO b.dry.length n.dC fun wr hx=>by
  have h1:=(h1.ext hx).less (cs:=[]) (by simp)
  have h2:=(h2.ext hx).less (cs:=[]) (by simp)
  have k1:=(k1.ext hx).less (cs:=[]) (by simp)
  have k2:=(k2.ext hx).less (cs:=[]) (by simp)
  cases a; cases b
  intro _ _ _ _
  refine ⟨fun q => ?_,fun q1=>⟨fun q => ?_,fun q2=>⟨fun q => ?_,fun q3=>⟨_,zaiu h1 k1 l1,fun q => ?_,fun q4=>⟨_,zafr h2 k2 l2,fun q => ?_,fun q5 => ?_⟩⟩⟩⟩⟩ <;> (congr 1; simp_all)
theorem zafs {a b:Grp} {m n:MG} {w:World} {bs:List Nat} (h1:RdI bs w m.lO a.band.locals) (h2:RdB bs w m.dO a.band.dry) (h3:RdS bs w m.sO a.shelves) (k1:RdI bs w n.lO b.band.locals) (k2:RdB bs w n.dO b.band.dry) (k3:RdS bs w n.sO b.shelves)
  (l1:a.band.locals.length≤maxLen) (l2:a.band.dry.length≤maxLen) (l3:a.shelves.length≤maxLen) :
  zab bs Tryz.prog zkp #[.agg (encG a m).toArray,.agg (encG b n).toArray] w (.bool (decide (a=b))) :=
 z23 a.used a.parent a.name a.weight a.cpus a.period a.next a.sum a.band.quota a.band.pool a.band.spent m.lO a.band.locals.length m.lC m.dO a.band.dry.length m.dC m.sO a.shelves.length m.sC
  b.used b.parent b.name b.weight b.cpus b.period b.next b.sum b.band.quota b.band.pool b.band.spent n.lO b.band.locals.length n.lC n.dO b.band.dry.length n.dC n.sO b.shelves.length n.sC fun wr hx=>by
  have h1:=(h1.ext hx).less (cs:=[]) (by simp)
  have h2:=(h2.ext hx).less (cs:=[]) (by simp)
  have h3:=(h3.ext hx).less (cs:=[]) (by simp)
  have k1:=(k1.ext hx).less (cs:=[]) (by simp)
  have k2:=(k2.ext hx).less (cs:=[]) (by simp)
  have k3:=(k3.ext hx).less (cs:=[]) (by simp)
  cases a; cases b
  intro _ _ _ _
  simp only [ztc]
  refine ⟨fun q => ?_,fun q1=>⟨fun q => ?_,fun q2=>⟨fun q => ?_,fun q3=>⟨fun q => ?_,fun q4=>⟨fun q => ?_,fun q5=>⟨fun q => ?_,fun q6=>⟨fun q => ?_,fun q7=>⟨fun q => ?_,fun q8=>⟨_,zais h1 h2 k1 k2 l1 l2,fun q => ?_,fun q9=>⟨_,zadt h3 k3 l3,fun q => ?_,fun q10 => ?_⟩⟩⟩⟩⟩⟩⟩⟩⟩⟩ <;> (congr 1; simp_all)
theorem zads {a b:List Grp} {am bm:Nat→MG} {aO bO:Option Addr} {aC bC:Nat} {w:World} {bs:List Nat} (ha:RdG bs w aO a am) (hb:RdG bs w bO b bm) (hs:∀i:Int,0≤i→i<(a.length:Int)→SmG (gi a i)) (ha9:a.length≤maxLen) :
  zab bs Tryz.prog zi4 #[.slice aO a.length aC,.slice bO b.length bC] w (.bool (decide (a=b))) :=
 z0k aO a.length aC bO b.length bC fun wr hx=>by
  have ha:=(ha.ext hx).less (cs:=[]) (by simp)
  have hb:=(hb.ext hx).less (cs:=[]) (by simp)
  have hm:=zbh
  refine ⟨fun h => ?_,fun h => ?_⟩
  ·have h:a.length≠b.length:=by simpa [Int.ofNat_inj] using h
   rw [decide_eq_false fun e=>h (by rw [e])]
  ·have hl:a.length=b.length:=by simpa [Int.ofNat_inj] using h
   refine ze7 a.length 0 rfl (fun k=>k≤a.length∧∀j:Nat,j<k→gi a (j:Int)=gi b (j:Int)) ⟨Nat.zero_le _,fun j hj=>absurd hj (Nat.not_lt_zero j)⟩ fun k ⟨hk,hI⟩=>⟨fun hlt => ?_,fun hge => ?_⟩
   ·have hlt:=of_decide_eq_true hlt
    have h9:=hs k (by omega) hlt
    have hlt':(k:Int)<(b.length:Int):=by omega
    refine ⟨ha.ix (by omega) hlt,_,_,_,_,_,_,_,_,_,_,_,_,_,_,_,_,_,_,_,_,ha.cells k (by omega) hlt,hb.ix (by omega) hlt',_,_,_,_,_,_,_,_,_,_,_,_,_,_,_,_,_,_,_,_,hb.cells k (by omega) hlt',_,
     zafs (a:=gi a k) (b:=gi b k) (ha.locals k (by omega) hlt) (ha.dry k (by omega) hlt) (ha.shelves k (by omega) hlt) (hb.locals k (by omega) hlt') (hb.dry k (by omega) hlt') (hb.shelves k (by omega) hlt') (by have:=h9.lo; omega) (by have:=h9.dr; omega) (by have:=h9.sh; omega),fun hne => ?_,fun heq=>⟨zfv hlt ha9,zai (by omega) ?_⟩⟩
    ·have hne:gi a (k:Int)≠gi b (k:Int):=by simpa using hne
     rw [decide_eq_false fun e=>hne (by rw [e])]
    ·have heq:gi a (k:Int)=gi b (k:Int):=by simpa using heq
     exact ⟨by omega,fun j hj=>by
      by_cases hjk:j<k
      ·exact hI j hjk
      ·have:j=k:=by omega
       subst this; exact heq⟩
   ·have hge:=of_decide_eq_false hge
    have hk:k=a.length:=by omega
    subst hk
    rw [decide_eq_true (zp8 hl hI)]
def encP (p:Grp×MG):List Value:=encG p.1 p.2
def zab2:Grp×MG:=(⟨false,0,ByteArray.empty,0,0,0,0,0,⟨0,0,0,[],[]⟩,[]⟩,⟨none,0,none,0,none,0⟩)
theorem zcg:Elt Tryz.prog encP 14 za8 168 zab2:=zzg (by kernel_rfl) fun _=>rfl
theorem zlj:Tryz.prog.underlying zas=some (.slice za8):=by kernel_rfl
def zah (m:MG):List Nat:=zau m.lO++zau m.dO++zau m.sO
structure OwnM (base:Nat) (w:World) (p:Grp×MG):Prop where
 loc:Own encI 1 ty_int base w p.2.lO p.2.lC p.1.band.locals
 dry:Own encB 1 zbi base w p.2.dO p.2.dC p.1.band.dry
 shl:Own encS 5 za4 base w p.2.sO p.2.sC p.1.shelves
theorem OwnM.ext {base:Nat} {w w':World} {p:Grp×MG} {bs:List Nat} (h:OwnM base w p) (hx:ExtX bs w w') (hd:∀b∈zah p.2,b∉bs):OwnM base w' p :=
 ⟨h.loc.ext hx fun b hb=>hd b (by simp [zah,hb]),h.dry.ext hx fun b hb=>hd b (by simp [zah,hb]),h.shl.ext hx fun b hb=>hd b (by simp [zah,hb])⟩
theorem OwnM.ext0 {base:Nat} {w w':World} {p:Grp×MG} (h:OwnM base w p) (hx:ExtX [] w w'):OwnM base w' p:=h.ext hx (by simp)
theorem OwnM.mono {base base':Nat} {w:World} {p:Grp×MG} (h:OwnM base w p) (hb:base'≤base):OwnM base' w p:=⟨h.loc.mono hb,h.dry.mono hb,h.shl.mono hb⟩
theorem OwnM.lt {base:Nat} {w:World} {p:Grp×MG} (h:OwnM base w p):∀b∈zah p.2,base≤b∧b<w.heap.size:=by
 intro b hb
 simp only [zah,List.mem_append] at hb
 rcases hb with (hb | hb) | hb
 ·exact h.loc.lt b hb
 ·exact h.dry.lt b hb
 ·exact h.shl.lt b hb
theorem OwnM.zero (base:Nat) (w:World):OwnM base w zab2:=⟨.inl ⟨rfl,rfl,rfl⟩,.inl ⟨rfl,rfl,rfl⟩,.inl ⟨rfl,rfl,rfl⟩⟩
structure OwnG (base:Nat) (w:World) (o:Option Addr) (cap:Nat) (ps:List (Grp×MG)):Prop where
 row:Own encP 14 za8 base w o cap ps
 each:∀i:Int,0≤i→i<(ps.length:Int)→OwnM base w (gi ps i)
 dj:∀i j:Int,0≤i→i<(ps.length:Int)→0≤j→j<(ps.length:Int)→i≠j→∀b∈zah (gi ps i).2,b∉zah (gi ps j).2
theorem OwnG.ext0 {base:Nat} {w w':World} {o:Option Addr} {cap:Nat} {ps:List (Grp×MG)} (h:OwnG base w o cap ps) (hx:ExtX [] w w'):OwnG base w' o cap ps :=
 ⟨h.row.ext0 hx,fun i a b=>(h.each i a b).ext0 hx,h.dj⟩
theorem OwnG.mono {base base':Nat} {w:World} {o:Option Addr} {cap:Nat} {ps:List (Grp×MG)} (h:OwnG base w o cap ps) (hb:base'≤base):OwnG base' w o cap ps :=
 ⟨h.row.mono hb,fun i a b=>(h.each i a b).mono hb,h.dj⟩
theorem zfa {base:Nat} {w:World} {o:Option Addr} {cap:Nat} {ps:List (Grp×MG)} (h:Own encP 14 za8 base w o cap ps) {base':Nat} {p:Grp×MG} (hp:OwnM base' w p):∀b∈zah p.2,b∉zau o:=by
 intro b hb hx
 simp only [zah,List.mem_append] at hb
 rcases hb with (hb | hb) | hb
 ·exact hp.loc.ty_ne h (by decide) b hb hx
 ·exact hp.dry.ty_ne h (by decide) b hb hx
 ·exact hp.shl.ty_ne h (by decide) b hb hx
theorem OwnG.put {base:Nat} {w:World} {o:Option Addr} {cap:Nat} {ps:List (Grp×MG)} (h:OwnG base w o cap ps) {i:Int} (h0:0≤i) (hi:i<(ps.length:Int)) {p:Grp×MG} (hp:OwnM base w p)
  (hd:∀j:Int,0≤j→j<(ps.length:Int)→i≠j→∀b∈zah (gi ps j).2,b∉zah p.2):OwnG base (sto w o (Int.toNat i*14) (encP p)) o cap (ps.set i.toNat p):=by
 have hx:=h.row.stoX (Int.toNat i*14) (encP p)
 have hlen:(ps.set i.toNat p).length=ps.length:=List.length_set
 refine ⟨?_,fun j hj hjl => ?_,fun j k hj hjl hk hkl hjk b hb hb' => ?_⟩
 ·have:=h.row.sto zcg.len h0 hi (j:=0) (vs:=encP p) (x:=p) (by rw [List.take_zero,List.nil_append,List.drop_eq_nil_iff.2 (by rw [Nat.zero_add,zcg.len,zcg.len]; exact Nat.le_refl _),List.append_nil]) (by rw [Nat.zero_add,zcg.len]; exact Nat.le_refl _)
  exact this
 ·rw [hlen] at hjl
  rw [zci _ _ h0 hi hj]
  split
  ·exact hp.ext hx (zfa h.row hp)
  ·exact (h.each j hj hjl).ext hx (zfa h.row (h.each j hj hjl))
 ·rw [hlen] at hjl hkl
  rw [zci _ _ h0 hi hj] at hb
  rw [zci _ _ h0 hi hk] at hb'
  by_cases e1:i=j
  ·rw [if_pos e1] at hb
   by_cases e2:i=k
   ·omega
   ·rw [if_neg e2] at hb'
    exact hd k hk hkl e2 b hb' hb
  ·rw [if_neg e1] at hb
   by_cases e2:i=k
   ·rw [if_pos e2] at hb'
    exact hd j hj hjl e1 b hb hb'
   ·rw [if_neg e2] at hb'
    exact h.dj j k hj hjl hk hkl hjk b hb hb'
theorem zaiz {b:Bnd} {m:MG} {w:World} (h1:RdI [] w m.lO b.locals) (h2:RdB [] w m.dO b.dry) (l1:b.locals.length≤1048576) (l2:b.dry.length≤1048576) :
  Calls Tryz.prog zmc #[.agg (zcx b m).toArray] w fun e w'=>∃lO lC dO dC,e = .returned (.agg (zcx b ⟨lO,lC,dO,dC,none,0⟩).toArray)∧Own encI 1 ty_int w.heap.size w' lO lC b.locals∧Own encB 1 zbi w.heap.size w' dO dC b.dry∧(∀x∈zau lO,x∉zau dO)∧ExtX [] w w':=by
 refine (z56 b.quota b.pool b.spent m.lO b.locals.length m.lC m.dO b.dry.length m.dC (R:=fun v w'=>∃lO lC dO dC,v = .agg (zcx b ⟨lO,lC,dO,dC,none,0⟩).toArray∧Own encI 1 ty_int w.heap.size w' lO lC b.locals∧Own encB 1 zbi w.heap.size w' dO dC b.dry∧(∀x∈zau lO,x∉zau dO)∧ExtX [] w w') ?_).mono fun e w' ⟨v,he,lO,lC,dO,dC,hv,h⟩=>⟨lO,lC,dO,dC,by rw [he,hv],h⟩
 intro b0 hb0 b1 hb1 b2 hb2 wr hx hs
 refine (zai1 (h1.ext hx) l1).mono fun e w1 ⟨lO,lC,he,hO1,hx1⟩=>⟨_,_,_,he,za9 hx1 hs,fun wr1 hy1 hs1 => ?_⟩
 have hbs:∀x∈[b0,b1,b2],w.heap.size≤x∨x∈([]:List Nat):=fun x hm=>by
  simp only [List.mem_cons,List.not_mem_nil,or_false] at hm
  rcases hm with rfl | rfl | rfl <;> exact .inl (by assumption)
 have g1:ExtX [] w wr1:=(hx.trans hx1).fresh hy1 hbs
 refine (zaf3 (h2.ext g1) l2).mono fun e w2 ⟨dO,dC,he2,hO2,hx2⟩=>⟨_,_,_,he2,za9 hx2 hs1,fun wr2 hy2=>⟨lO,lC,dO,dC,rfl,?_,?_,?_,(g1.trans hx2).fresh hy2 hbs⟩⟩
 ·have hw:∀x∈zau lO,x∉[b0,b1,b2]:=fun x hm hm'=>by
   have:=(hO1.lt x hm).1
   have:=hs x hm'
   omega
  exact (((hO1.ext hy1 hw).ext0 hx2).ext hy2 hw).mono hx.size
 ·have hw:∀x∈zau dO,x∉[b0,b1,b2]:=fun x hm hm'=>by
   have:=(hO2.lt x hm).1
   have:=hs1 x hm'
   omega
  exact (hO2.ext hy2 hw).mono g1.size
 ·intro x hm hm'
  have:=(hO1.lt x hm).2
  have:=hy1.size
  have:=(hO2.lt x hm').1
  omega
theorem zaf4 {g:Grp} {m:MG} {w:World} (h1:RdI [] w m.lO g.band.locals) (h2:RdB [] w m.dO g.band.dry) (h3:RdS [] w m.sO g.shelves) (hs:SmG g) :
  Calls Tryz.prog zkx #[.agg (encG g m).toArray] w fun e w'=>∃m',e = .returned (.agg (encG g m').toArray)∧OwnM w.heap.size w' (g,m')∧ExtX [] w w':=by
 refine (z2c g.used g.parent g.name g.weight g.cpus g.period g.next g.sum g.band.quota g.band.pool g.band.spent m.lO g.band.locals.length m.lC m.dO g.band.dry.length m.dC m.sO g.shelves.length m.sC (R:=fun v w'=>∃m',v = .agg (encG g m').toArray∧OwnM w.heap.size w' (g,m')∧ExtX [] w w') ?_).mono fun e w' ⟨v,he,m',hv,h⟩=>⟨m',by rw [he,hv],h⟩
 intro b0 hb0 b1 hb1 b2 hb2 wr hx hs0
 refine (zaiz (m:=m) (h1.ext hx) (h2.ext hx) hs.lo hs.dr).mono fun e w1 ⟨lO,lC,dO,dC,he,hO1,hO2,_,hx1⟩=>⟨_,_,_,_,_,_,_,_,_,he,za9 hx1 hs0,fun wr1 hy1 hs1 => ?_⟩
 have hbs:∀x∈[b0,b1,b2],w.heap.size≤x∨x∈([]:List Nat):=fun x hm=>by
  simp only [List.mem_cons,List.not_mem_nil,or_false] at hm
  rcases hm with rfl | rfl | rfl <;> exact .inl (by assumption)
 have g1:ExtX [] w wr1:=(hx.trans hx1).fresh hy1 hbs
 refine (zad3 (h3.ext g1) hs.sh).mono fun e w2 ⟨sO,sC,he2,hO3,hx2⟩=>⟨_,_,_,he2,za9 hx2 hs1,fun wr2 hy2=>⟨⟨lO,lC,dO,dC,sO,sC⟩,rfl,⟨?_,?_,?_⟩,(g1.trans hx2).fresh hy2 hbs⟩⟩
 ·have hw:∀x∈zau lO,x∉[b0,b1,b2]:=fun x hm hm'=>by
   have:=(hO1.lt x hm).1
   have:=hs0 x hm'
   omega
  exact (((hO1.ext hy1 hw).ext0 hx2).ext hy2 hw).mono hx.size
 ·have hw:∀x∈zau dO,x∉[b0,b1,b2]:=fun x hm hm'=>by
   have:=(hO2.lt x hm).1
   have:=hs0 x hm'
   omega
  exact (((hO2.ext hy1 hw).ext0 hx2).ext hy2 hw).mono hx.size
 ·have hw:∀x∈zau sO,x∉[b0,b1,b2]:=fun x hm hm'=>by
   have:=(hO3.lt x hm).1
   have:=hs1 x hm'
   omega
  exact (hO3.ext hy2 hw).mono g1.size
theorem zad2 {gs:List Grp} {ms:Nat→MG} {o:Option Addr} {c:Nat} {w:World} (h:RdG [] w o gs ms) (hs:∀i:Int,0≤i→i<(gs.length:Int)→SmG (gi gs i)) (hl:gs.length≤1048576) :
  Calls Tryz.prog zjc #[.slice o gs.length c] w fun e w'=>∃o' c' ps,e = .returned (.slice o' gs.length c')∧ps.map (·.1)=gs∧OwnG w.heap.size w' o' c' ps∧ExtX [] w w':=by
 refine (zy8 o gs.length c (R:=fun v w'=>∃o' c' ps,v = .slice o' gs.length c'∧ps.map (·.1)=gs∧OwnG w.heap.size w' o' c' ps∧ExtX [] w w') ?_).mono fun e w' ⟨v,he,o',c',ps,hv,h⟩=>⟨o',c',ps,by rw [he,hv],h⟩
 have hm:=zbh
 refine fun wr hx _=>⟨_,_,_,_,zql zcg zlj gs.length (by omega) (by omega) wr,zbc,?_⟩
 refine zd6 gs.length 0 rfl (fun k w1=>k≤gs.length∧ExtX [] wr w1∧∃ps:List (Grp×MG),ps.length=gs.length∧(∀j:Nat,j<k→(gi ps (j:Int)).1=gi gs (j:Int))∧OwnG wr.heap.size w1 (some ⟨wr.heap.size,0,none⟩) gs.length ps) (fun w1 hx1 _=>⟨Nat.zero_le _,(zbw wr _).trans hx1,List.replicate gs.length zab2,by simp,fun j hj=>absurd hj (Nat.not_lt_zero j),?_⟩) fun k w1 _ ⟨hk,hX,ps,hpl,hpe,hO⟩=>⟨fun hlt => ?_,fun hge => ?_⟩
 ·have hz:∀i:Int,0≤i→i<((List.replicate gs.length zab2).length:Int)→gi (List.replicate gs.length zab2) i=zab2:=fun i h0 hi=>by
   have:=zvd h0 hi
   exact List.eq_of_mem_replicate this
  refine ⟨(ziu (enc:=encP) zcg.len za8 gs.length zab2 wr).ext0 hx1,fun i h0 hi=>by rw [hz i h0 hi]; exact OwnM.zero _ _,fun i j h0 hi hj hjl _ b hb => ?_⟩
  rw [hz i h0 hi] at hb
  cases hb
 ·have hlt:=of_decide_eq_true hlt
  have hr:=(h.ext hx).ext hX
  have hi:(k:Int)<(ps.length:Int):=by omega
  refine ⟨hr.ix (by omega) hlt,_,_,_,_,_,_,_,_,_,_,_,_,_,_,_,_,_,_,_,_,hr.cells k (by omega) hlt,fun w2 hx2 _ => ?_⟩
  have hr2:=hr.ext hx2
  refine (zaf4 (hr2.locals k (by omega) hlt) (hr2.dry k (by omega) hlt) (hr2.shelves k (by omega) hlt) (hs k (by omega) hlt)).mono fun e w3 ⟨m',he,hM,hx3⟩ => ?_
  have hO3:=hO.ext0 (hx2.trans hx3)
  have hb:wr.heap.size≤w2.heap.size:=(hX.trans hx2).size
  have hdj:∀j:Int,0≤j→j<(ps.length:Int)→(k:Int)≠j→∀b∈zah (gi ps j).2,b∉zah m':=fun j hj hjl _ b hb hb'=>by
   have h1:=((hO.each j hj hjl).ext0 hx2).lt b hb
   have h2:=hM.lt b hb'
   omega
  have hput:=hO3.put (i:=(k:Int)) (by omega) hi (p:=(gi gs (k:Int),m')) (hM.mono hb) hdj
  refine ⟨_,_,_,_,_,_,_,_,_,_,_,_,_,_,_,_,_,_,_,_,he,zbc,by have:=hO.row.ix (i:=(k:Int)) (by omega) hi; rwa [hpl] at this,hO3.row.wr zcg.len (by simp) (by omega) hi (j:=0) (n:=14) (by omega),zfv hlt (by omega),fun w4 hx4 _=>zae (by omega) ⟨by omega,?_,ps.set k (gi gs (k:Int),m'),by rw [List.length_set]; exact hpl,fun j hj => ?_,hput.ext0 hx4⟩⟩
  ·exact (hO3.row.stoB _ _ ((hX.trans hx2).trans hx3) (Nat.le_refl _)).trans hx4
  ·have:=zci ps (gi gs (k:Int),m') (i:=(k:Int)) (by omega) hi (j:=(j:Int)) (by omega)
   rw [Int.toNat_natCast] at this
   rw [this]
   by_cases hjk:(k:Int)=(j:Int)
   ·have:k=j:=by omega
    subst this; rw [if_pos rfl]
   ·rw [if_neg hjk]; exact hpe j (by omega)
 ·have hge:=of_decide_eq_false hge
  have hk:k=gs.length:=by omega
  subst hk
  refine fun w2 hx2=>⟨_,_,ps,rfl,zp8 (by simpa using hpl) fun j hj => ?_,(hO.ext0 hx2).mono hx.size,(hx.trans hX).trans hx2⟩
  rw [List.length_map] at hj
  rw [zaj9 _ _ (by omega) (by omega)]
  exact hpe j (by omega)
end Go.Proofs.YtajdcjidpolloaaGreatDoor
namespace Go.Proofs.YtajdcjidpolloaaGreatDoor
open Go.RowKit
set_option linter.unusedVariables false
set_option linter.unusedSimpArgs false
set_option maxRecDepth 10000
theorem zadn {z:Int} (h1 : -9223372036854775808≤z) (h2:z≤9223372036854775807):InR .i64 z:=⟨h1,h2⟩
def stp (w:Int):Int:=Int.tdiv 232792560 w
def inB (n a b:Int):Bool:=decide (n≥a)&&decide (n≤b)
theorem za0 {n a b:Int}:inB n a b=true↔a≤n∧n≤b:=by simp [inB]
theorem zamk {n a b:Int}:inB n a b=false↔¬(a≤n∧n≤b):=by rw [←za0]; simp
def zmz (n w:Int):Int:=if inB n 0 100000000&&inB w 1 20 then n*stp w else 0
def zd5 (w:Int):Int:=zmz 149 w
theorem zalu:∀k:Fin 20,stp ((k.val:Int)+1)*((k.val:Int)+1)=232792560:=by decide
theorem zalv {w:Int} (h1:1≤w) (h2:w≤20):stp w*w=232792560:=by
 have:=zalu ⟨(w - 1).toNat,by omega⟩
 have e:(((w - 1).toNat:Nat):Int)+1=w:=by omega
 simp only [e] at this
 exact this
theorem zac0 {w:Int} (h1:1≤w) (h2:w≤20):11639628≤stp w∧stp w≤232792560:=by
 have h:=zalv h1 h2
 have hp:0≤stp w:=by
  rcases Int.lt_or_le (stp w) 0 with hn | hn
  ·have:=Int.mul_neg_of_neg_of_pos hn (show 0<w by omega)
   omega
  ·exact hn
 constructor
 ·have:=Int.mul_le_mul_of_nonneg_left h2 hp
  omega
 ·have:=Int.mul_le_mul_of_nonneg_left h1 hp
  omega
theorem z76 {n w:Int} (h1:0≤n) (h2:n≤100000000) (h3:1≤w) (h4:w≤20):zmz n w=n*stp w:=by
 unfold zmz
 rw [if_pos]
 rw [Bool.and_eq_true,za0,za0]; exact ⟨⟨h1,h2⟩,h3,h4⟩
theorem zaas {n w:Int} (h:¬(0≤n∧n≤100000000∧1≤w∧w≤20)):zmz n w=0:=by
 unfold zmz
 rw [if_neg]
 rw [Bool.and_eq_true,za0,za0]; omega
theorem zagk {n w:Int} (h1:0≤n) (h2:n≤100000000) (h3:1≤w) (h4:w≤20):0≤n*stp w∧n*stp w≤23279256000000000:=by
 have hs:=zac0 h3 h4
 refine ⟨Int.mul_nonneg h1 (by omega),?_⟩
 calc n*stp w≤100000000*stp w:=Int.mul_le_mul_of_nonneg_right h2 (by omega)
  _≤100000000*232792560:=Int.mul_le_mul_of_nonneg_left hs.2 (by decide)
  _=23279256000000000:=rfl
theorem zaj {n a b:Int} {w:World} {bs:List Nat}:zab bs Tryz.prog zaf #[.int .i64 n,.int .i64 a,.int .i64 b] w (.bool (inB n a b)) :=
 z20 n a b fun wr hx=>by unfold zp7; rfl
theorem zar {n a b:Int} {w:World} {bs:List Nat}:zab bs Tryz.prog zal #[.int .i64 n,.int .i64 a,.int .i64 b] w (.bool (inB n a b)) :=
 zabr n a b fun wr hx=>by unfold zyg; rfl
theorem zk7 {n:Int} {w:World} {bs:List Nat}:zab bs Tryz.prog zem #[.int .i64 n] w (.bool (inB n 1 20)) :=
 z0j n fun wr hx=>⟨_,zaj,rfl⟩
theorem zhv {n:Int} {w:World} {bs:List Nat}:zab bs Tryz.prog zdb #[.int .i64 n] w (.bool (inB n 1 20)) :=
 z0s n fun wr hx=>⟨_,zar,rfl⟩
theorem zsk {n:Int} {w:World} {bs:List Nat}:zab bs Tryz.prog zio #[.int .i64 n] w (.bool (inB n (-10) 9)) :=
 z7a n fun wr hx=>⟨_,zaj,rfl⟩
def wsC (k j:Nat):Int:=if j≤k then stp (j:Int) else 0
def wsT (k:Nat):List Value:=[.int .i64 ((k:Int)+1),.int .i64 0,.int .i64 (wsC k 1),.int .i64 (wsC k 2),.int .i64 (wsC k 3),.int .i64 (wsC k 4),.int .i64 (wsC k 5),.int .i64 (wsC k 6),.int .i64 (wsC k 7),
 .int .i64 (wsC k 8),.int .i64 (wsC k 9),.int .i64 (wsC k 10),.int .i64 (wsC k 11),.int .i64 (wsC k 12),.int .i64 (wsC k 13),.int .i64 (wsC k 14),.int .i64 (wsC k 15),.int .i64 (wsC k 16),.int .i64 (wsC k 17),.int .i64 (wsC k 18),.int .i64 (wsC k 19),.int .i64 (wsC k 20)]
theorem zsn {w:World} {bs:List Nat}:zab bs Tryz.prog zgp #[] w (.agg #[.int .i64 0,.int .i64 (wsC 20 1),.int .i64 (wsC 20 2),.int .i64 (wsC 20 3),.int .i64 (wsC 20 4),.int .i64 (wsC 20 5),.int .i64 (wsC 20 6),.int .i64 (wsC 20 7),
 .int .i64 (wsC 20 8),.int .i64 (wsC 20 9),.int .i64 (wsC 20 10),.int .i64 (wsC 20 11),.int .i64 (wsC 20 12),.int .i64 (wsC 20 13),.int .i64 (wsC 20 14),.int .i64 (wsC 20 15),.int .i64 (wsC 20 16),.int .i64 (wsC 20 17),.int .i64 (wsC 20 18),.int .i64 (wsC 20 19),.int .i64 (wsC 20 20)]) :=
 zs3 fun wr hx=>by
  intro _ _ _ _
  refine ⟨fun vs=>∃k:Nat,k≤20∧vs=wsT k,fun vs=>match vs with
   | .int _ i::_=>(21 - i).toNat
   | _=>0,⟨0,by omega,rfl⟩,?_⟩
  rintro i l l1 l2 l3 l4 l5 l6 l7 l8 l9 l10 l11 l12 l13 l14 l15 l16 l17 l18 l19 l20 ⟨k,hk,he⟩
  simp only [wsT,List.cons.injEq,Value.int.injEq,true_and,and_true] at he
  obtain ⟨rfl,rfl,rfl,rfl,rfl,rfl,rfl,rfl,rfl,rfl,rfl,rfl,rfl,rfl,rfl,rfl,rfl,rfl,rfl,rfl,rfl,rfl⟩:=he
  constructor
  ·intro h
   have h:=of_decide_eq_true h
   refine ⟨⟨by omega,?_⟩,⟨by omega,by omega⟩,by omega,?_⟩
   ·have:=zac0 (w:=(k:Int)+1) (by omega) (by omega)
    exact zadn (by unfold stp at this; omega) (by unfold stp at this; omega)
   ·refine ⟨_,_,_,_,_,_,_,_,_,_,_,_,_,_,_,_,_,_,_,_,_,?_,zadn (by omega) (by omega),⟨k+1,by omega,rfl⟩,?_⟩
    ·have:k=0∨k=1∨k=2∨k=3∨k=4∨k=5∨k=6∨k=7∨k=8∨k=9∨k=10∨k=11∨k=12∨k=13∨k=14∨k=15∨k=16∨k=17∨k=18∨k=19:=by omega
     rcases this with rfl | rfl | rfl | rfl | rfl | rfl | rfl | rfl | rfl | rfl | rfl | rfl | rfl | rfl | rfl | rfl | rfl | rfl | rfl | rfl <;> rfl
    ·show (21 - (((k:Int)+1)+1)).toNat<(21 - ((k:Int)+1)).toNat
     omega
  ·intro h
   have h:=of_decide_eq_false h
   have hk:k=20:=by omega
   subst hk
   rfl
theorem zanc {k:Int} (h1:1≤k) (h2:k≤20):(#[.int .i64 0,.int .i64 (wsC 20 1),.int .i64 (wsC 20 2),.int .i64 (wsC 20 3),.int .i64 (wsC 20 4),.int .i64 (wsC 20 5),.int .i64 (wsC 20 6),.int .i64 (wsC 20 7),
 .int .i64 (wsC 20 8),.int .i64 (wsC 20 9),.int .i64 (wsC 20 10),.int .i64 (wsC 20 11),.int .i64 (wsC 20 12),.int .i64 (wsC 20 13),.int .i64 (wsC 20 14),.int .i64 (wsC 20 15),.int .i64 (wsC 20 16),.int .i64 (wsC 20 17),.int .i64 (wsC 20 18),.int .i64 (wsC 20 19),.int .i64 (wsC 20 20)]:Array Value)[Int.toNat k]? = some (.int .i64 (stp k)):=by
 have:k=1∨k=2∨k=3∨k=4∨k=5∨k=6∨k=7∨k=8∨k=9∨k=10∨k=11∨k=12∨k=13∨k=14∨k=15∨k=16∨k=17∨k=18∨k=19∨k=20:=by omega
 rcases this with rfl | rfl | rfl | rfl | rfl | rfl | rfl | rfl | rfl | rfl | rfl | rfl | rfl | rfl | rfl | rfl | rfl | rfl | rfl | rfl <;> rfl
theorem zhs {n k:Int} {w:World} {bs:List Nat}:zab bs Tryz.prog zcy #[.int .i64 n,.int .i64 k] w (.int .i64 (zmz n k)) :=
 zsx n k fun wr hx=>by
  refine ⟨_,zaj,_,fun _=>zk7,fun h => ?_,fun h => ?_⟩
  ·congr 1; unfold zmz; rw [if_neg]; intro h2; simp only [Bool.and_eq_true] at h2; simp [h2] at h
  ·have h2:inB n 0 100000000=true∧inB k 1 20=true:=by simpa using h
   rw [za0,za0] at h2
   have hm:=zagk h2.1.1 h2.1.2 h2.2.1 h2.2.2
   refine ⟨_,_,_,_,_,_,_,_,_,_,_,_,_,_,_,_,_,_,_,_,_,zsn,stp k,⟨by omega,by omega,zanc h2.2.1 h2.2.2⟩,zadn (by omega) (by omega),?_⟩
   rw [z76 h2.1.1 h2.1.2 h2.2.1 h2.2.2]
theorem zqa {k:Int} {w:World} {bs:List Nat}:zab bs Tryz.prog zg3 #[.int .i64 k] w (.int .i64 (zd5 k)) :=
 z2x k fun wr hx=>⟨_,zhs,rfl⟩
end Go.Proofs.YtajdcjidpolloaaGreatDoor
namespace Go.Proofs.YtajdcjidpolloaaGreatDoor
open Go.RowKit
set_option linter.unusedVariables false
set_option linter.unusedSimpArgs false
set_option maxRecDepth 10000
def zsg (s:ByteArray):Bool:=(((((zcf s (⟨[119,101,105,103,104,116].toArray⟩))||(zcf s (⟨[109,97,120].toArray⟩)))||(zcf s (⟨[99,112,117,115].toArray⟩)))||(zcf s (⟨[112,114,111,99,115].toArray⟩)))||(zcf s (⟨[115,116,97,116].toArray⟩)))
def okc (x:Int):Bool:=(((decide (x≥97))&&(decide (x≤122)))||((decide (x≥48))&&(decide (x≤57))))
def znb (s:ByteArray):Bool:=inB (s.size:Int) 1 8 && !zsg s&&(List.range s.size).all fun i=>okc (zj2 s (i:Int))
theorem zuj {s:ByteArray}:znb s=true↔(1≤s.size∧s.size≤8)∧zsg s=false∧∀i:Nat,i<s.size→okc (zj2 s (i:Int))=true:=by
 unfold znb
 simp only [Bool.and_eq_true,za0,Bool.not_eq_true',List.all_eq_true,List.mem_range]
 constructor
 ·rintro ⟨⟨h1,h2⟩,h3⟩; exact ⟨⟨by omega,by omega⟩,h2,h3⟩
 ·rintro ⟨⟨h0,h1⟩,h2,h3⟩; exact ⟨⟨⟨by omega,by omega⟩,h2⟩,h3⟩
theorem zo3 {s:ByteArray} (h:¬((1≤s.size∧s.size≤8)∧zsg s=false∧∀i:Nat,i<s.size→okc (zj2 s (i:Int))=true)):znb s=false:=by
 cases hn:znb s with
 | false=>rfl
 | true=>exact absurd (zuj.1 hn) h
theorem z6x {s:ByteArray} {w:World} {bs:List Nat}:zab bs Tryz.prog zmk #[.string s] w (.bool (zsg s)) :=
 z7s s fun wr hx=>rfl
theorem z6t {s:ByteArray} {w:World} {bs:List Nat}:zab bs Tryz.prog zmh #[.string s] w (.bool (znb s)) :=
 z7o s fun wr hx=>by
  refine ⟨_,zar,zsg s,fun _=>z6x,fun h => ?_,fun h => ?_⟩
  ·rw [zo3]
   rintro ⟨h1,h2,_⟩
   rw [h2,za0.2 (by omega)] at h
   cases h
  ·have h:inB (s.size:Int) 1 8=true∧zsg s=false:=by simpa using h
   have h1:=za0.1 h.1
   refine ze7 s.size 0 rfl (fun k=>k≤s.size∧∀j:Nat,j<k→okc (zj2 s (j:Int))=true) ⟨Nat.zero_le _,fun j hj=>absurd hj (Nat.not_lt_zero j)⟩ fun k ⟨hk,hI⟩=>⟨fun hlt => ?_,fun hge => ?_⟩
   ·have hlt:=of_decide_eq_true hlt
    have hr:0≤(k:Int)∧(k:Int)<(s.size:Int):=⟨by omega,hlt⟩
    refine ⟨hr,fun _=>hr,fun _=>hr,fun _ _=>hr,fun hno => ?_,fun hyes=>⟨⟨by omega,by omega⟩,zai (by omega) ⟨by omega,fun j hj => ?_⟩⟩⟩
    ·rw [zo3]
     rintro ⟨_,_,h3⟩
     have:=h3 k (by omega)
     unfold okc at this
     rw [this] at hno
     cases hno
    ·by_cases hjk:j<k
     ·exact hI j hjk
     ·have:j=k:=by omega
      subst this
      unfold okc
      rw [Bool.not_eq_false'] at hyes
      exact hyes
   ·have hge:=of_decide_eq_false hge
    have hk:k=s.size:=by omega
    subst hk
    rw [zuj.2 ⟨⟨by omega,by omega⟩,h.2,hI⟩]
def zad (gs:List Grp) (g:Int):Bool:=(decide (g≥0)&&decide (g<(gs.length:Int)))&&(gi gs g).used
theorem zac {gs:List Grp} {g:Int}:zad gs g=true↔0≤g∧g<(gs.length:Int)∧(gi gs g).used=true:=by
 unfold zad
 simp [and_assoc]
def dep:Nat→List Grp→Int→Int
 | 0,_,g=>if g=0 then 0 else -1
 | f+1,gs,g=>if g=0 then 0 else if dep f gs (gi gs g).parent<0 then -1 else dep f gs (gi gs g).parent+1
def zoz:Nat→List Grp→Int→Int→Int
 | 0,_,_,_ => -1
 | f+1,gs,g,n=>if zad gs g=false then -1 else if g=0 then n else zoz f gs (gi gs g).parent (n+1)
theorem zkl (gs:List Grp):∀(f:Nat) (g:Int),-1≤dep f gs g∧dep f gs g≤f
 | 0,g=>by simp only [dep]; split <;> omega
 | f+1,g=>by
  have:=zkl gs f (gi gs g).parent
  simp only [dep]
  split
  ·omega
  ·split <;> omega
theorem zsc (gs:List Grp):∀(f f':Nat) (g:Int),0≤dep f gs g→dep f gs g≤f'→dep f' gs g=dep f gs g
 | 0,f',g,h,_=>by
  simp only [dep] at h ⊢
  split at h
  ·rename_i hg
   cases f' <;> simp [dep,hg]
  ·omega
 | f+1,f',g,h,hle=>by
  simp only [dep] at h hle ⊢
  by_cases hg:g=0
  ·rw [if_pos hg]
   cases f' <;> simp [dep,hg]
  ·rw [if_neg hg] at h hle ⊢
   by_cases hd:dep f gs (gi gs g).parent<0
   ·rw [if_pos hd] at h; omega
   ·rw [if_neg hd] at hle ⊢
    cases f' with
    | zero=>omega
    | succ f' =>
     have:=zsc gs f f' (gi gs g).parent (by omega) (by omega)
     simp only [dep]
     rw [if_neg hg,this,if_neg hd]
theorem zgz (gs:List Grp) (f:Nat):dep f gs 0=0:=by cases f <;> simp [dep]
theorem zaif {gs:List Grp} {f:Nat} {g:Int} (h:dep f gs g=0):g=0:=by
 cases f with
 | zero=>simp only [dep] at h; split at h <;> first | assumption | omega
 | succ f =>
  simp only [dep] at h
  split at h
  ·assumption
  ·split at h <;> omega
structure zei (gs:List Grp):Prop where
 len:gs.length=8
 ru:(gi gs 0).used=true
 rp:(gi gs 0).parent = -1
 rn:(gi gs 0).name=⟨[].toArray⟩
 nm:∀g:Int,1≤g→g<8→(gi gs g).used=true→znb (gi gs g).name=true
 par:∀g:Int,1≤g→g<8→(gi gs g).used=true→zad gs (gi gs g).parent=true
 dp:∀g:Int,1≤g→g<8→(gi gs g).used=true→0≤dep 3 gs g
 uniq:∀g h:Int,1≤h→h<g→g<8→(gi gs g).used=true→(gi gs h).used=true→¬((gi gs h).parent=(gi gs g).parent∧(gi gs h).name=(gi gs g).name)
noncomputable def zte (gs:List Grp):Bool := @decide (zei gs) (Classical.propDecidable _)
theorem zi2 {gs:List Grp}:zte gs=true↔zei gs := @decide_eq_true_iff _ (Classical.propDecidable _)
theorem zxo {gs:List Grp} (h:¬zei gs):zte gs=false:=by
 cases hb:zte gs with
 | false=>rfl
 | true=>exact absurd (zi2.1 hb) h
theorem zxf {gs:List Grp} (hp:∀g:Int,g≠0→zad gs g=true→zad gs (gi gs g).parent=true):∀(f:Nat) (g n:Int),zad gs g=true→zoz (f+1) gs g n=if dep f gs g<0 then -1 else n+dep f gs g
 | 0,g,n,hu=>by
  simp only [zoz,dep,hu]
  by_cases hg:g=0 <;> simp [hg]
 | f+1,g,n,hu=>by
  rw [zoz]
  simp only [hu]
  by_cases hg:g=0
  ·simp [hg,dep]
  ·have ih:=zxf hp f (gi gs g).parent (n+1) (hp g hg hu)
   have hr:=zkl gs f (gi gs g).parent
   simp only [dep,if_neg hg]
   rw [ih]
   by_cases hd:dep f gs (gi gs g).parent<0
   ·simp [hd]
   ·have h2:¬(dep f gs (gi gs g).parent+1<0):=by omega
    simp [hd,h2]; omega
theorem zaf9 {gs:List Grp} {f:Nat} {g n:Int} (hg:g≠0) (h:zoz (f+1) gs g n≠-1):f≠0∧zad gs (gi gs g).parent=true:=by
 rw [zoz] at h
 by_cases hu:zad gs g=false
 ·rw [if_pos hu] at h; exact absurd rfl h
 ·rw [if_neg hu,if_neg hg] at h
  cases f with
  | zero=>exact absurd rfl h
  | succ f =>
   rw [zoz] at h
   by_cases hp:zad gs (gi gs g).parent=false
   ·rw [if_pos hp] at h; exact absurd rfl h
   ·exact ⟨by omega,by simpa using hp⟩
structure zaht (gs:List Grp) (k:Int):Prop where
 each:∀g:Int,1≤g→g<k→(gi gs g).used=true→znb (gi gs g).name=true∧inB (zoz 9 gs g 0) 1 3=true∧∀h:Int,1≤h→h<g→(gi gs h).used=true→¬((gi gs h).parent=(gi gs g).parent∧(gi gs h).name=(gi gs g).name)
theorem zahi {gs:List Grp} (hl:gs.length=8) (ru:(gi gs 0).used=true) (rp:(gi gs 0).parent = -1) (rn:(gi gs 0).name=⟨[].toArray⟩) (h:zaht gs 8):zei gs:=by
 have par:∀g:Int,1≤g→g<8→(gi gs g).used=true→zad gs (gi gs g).parent=true:=fun g h1 h2 hu=>by
  have:=za0.1 (h.each g h1 h2 hu).2.1
  exact (zaf9 (f:=8) (n:=0) (by omega) (by show zoz 9 gs g 0≠-1; omega)).2
 have hp:∀g:Int,g≠0→zad gs g=true→zad gs (gi gs g).parent=true:=fun g hg hu=>by
  obtain ⟨a,b,c⟩:=zac.1 hu
  exact par g (by omega) (by omega) c
 refine ⟨hl,ru,rp,rn,fun g h1 h2 hu=>(h.each g h1 h2 hu).1,par,fun g h1 h2 hu => ?_,fun g k h1 h2 h3 hu hk=>(h.each g (by omega) h3 hu).2.2 k h1 h2 hk⟩
 have h9:=za0.1 (h.each g h1 h2 hu).2.1
 rw [zxf hp 8 g 0 (zac.2 ⟨by omega,by omega,hu⟩)] at h9
 split at h9
 ·omega
 ·rename_i hd
  have:=zsc gs 8 3 g (by omega) (by omega)
  omega
theorem zaep {gs:List Grp} (h:zei gs):zaht gs 8:=by
 have hp:∀g:Int,g≠0→zad gs g=true→zad gs (gi gs g).parent=true:=fun g hg hu=>by
  obtain ⟨a,b,c⟩:=zac.1 hu
  have:=h.len
  exact h.par g (by omega) (by omega) c
 refine ⟨fun g h1 h2 hu=>⟨h.nm g h1 h2 hu,?_,fun k h3 h4 hk=>h.uniq g k h3 h4 h2 hu hk⟩⟩
 have hl:=h.len
 rw [zxf hp 8 g 0 (zac.2 ⟨by omega,by omega,hu⟩)]
 have h3:=h.dp g h1 h2 hu
 have hr:=zkl gs 3 g
 have:=zsc gs 3 8 g h3 (by omega)
 rw [this,if_neg (by omega)]
 have hz:dep 3 gs g≠0:=fun e=>by have:=zaif e; omega
 exact za0.2 (by omega)
section
variable {gs:List Grp} {ms:Nat→MG} {o:Option Addr} {c:Nat} {w:World} {bs:List Nat}
theorem RdG.used (h:RdG bs w o gs ms) {i:Int} (h0:0≤i) (h1:i<(gs.length:Int)):zaa bs w o (Int.toNat i*14+0) [.bool (gi gs i).used]:=(h.cells i h0 h1).get 0 _ rfl
theorem RdG.parent (h:RdG bs w o gs ms) {i:Int} (h0:0≤i) (h1:i<(gs.length:Int)):zaa bs w o (Int.toNat i*14+1) [.int .i64 (gi gs i).parent]:=(h.cells i h0 h1).get 1 _ rfl
theorem RdG.name (h:RdG bs w o gs ms) {i:Int} (h0:0≤i) (h1:i<(gs.length:Int)):zaa bs w o (Int.toNat i*14+2) [.string (gi gs i).name]:=(h.cells i h0 h1).get 2 _ rfl
theorem zjy {g:Int} (h:RdG bs w o gs ms):zab bs Tryz.prog zeu #[.slice o gs.length c,.int .i64 g] w (.bool (zad gs g)) :=
 z7t o gs.length c g fun wr hx=>by
  have h:=(h.ext hx).less (cs:=[]) (by simp)
  refine ⟨fun q => ?_,(gi gs g).used,fun q => ?_,rfl⟩
  ·have q:0≤g∧g<(gs.length:Int):=by simpa using q
   exact h.ix q.1 q.2
  ·have q:0≤g∧g<(gs.length:Int):=by simpa using q
   exact h.used q.1 q.2
theorem zqg {g:Int} (h:RdG bs w o gs ms) (hl:gs.length<maxLen):zab bs Tryz.prog zhn #[.slice o gs.length c,.int .i64 g] w (.int .i64 (zoz (gs.length+1) gs g 0)) :=
 z3j o gs.length c g fun wr hx=>by
  have h:=(h.ext hx).less (cs:=[]) (by simp)
  refine zmr (gs.length+1) 0 rfl (fun x k=>k≤gs.length+1∧zoz (gs.length+1 - k) gs x k=zoz (gs.length+1) gs g 0) ⟨by omega,rfl⟩ fun x k ⟨hk,he⟩=>⟨fun hlt => ?_,fun hge => ?_⟩
  ·have hlt:=of_decide_eq_true hlt
   have hf:gs.length+1 - k=(gs.length - k)+1:=by omega
   rw [hf,zoz] at he
   refine ⟨_,zjy h,fun hu => ?_,fun hu => ?_⟩
   ·have hu:zad gs x=false:=by simpa using hu
    rw [if_pos hu] at he
    rw [←he]
   ·have hu:zad gs x=true:=by simpa using hu
    rw [if_neg (by simp [hu])] at he
    obtain ⟨u1,u2,u3⟩:=zac.1 hu
    refine ⟨fun hz => ?_,fun hz => ?_⟩
    ·rw [if_pos (by simpa using hz)] at he
     rw [←he]
    ·rw [if_neg (by simpa using hz)] at he
     have hm:=zdk
     refine ⟨h.ix u1 u2,_,h.parent u1 u2,⟨by omega,by omega⟩,zap (by omega) ⟨by omega,?_⟩⟩
     rw [←he,show gs.length+1 - (k+1)=gs.length - k by omega]
     rfl
  ·have hge:=of_decide_eq_false hge
   have:gs.length+1 - k=0:=by omega
   rw [this] at he
   rw [←he]; rfl
theorem zsp (h:RdG bs w o gs ms) (hl:gs.length≤maxLen):zab bs Tryz.prog zis #[.slice o gs.length c] w (.bool (zte gs)) :=
 z7p o gs.length c fun wr hx=>by
  have h:=(h.ext hx).less (cs:=[]) (by simp)
  have l8:((((gs.length:Nat):Int) != 8)=false)→gs.length=8:=fun q=>by have:=(bne_eq_false_iff_eq).1 q; omega
  have i0:∀q:(((gs.length:Nat):Int) != 8)=false,(0:Int)<(gs.length:Int):=fun q=>by have:=l8 q; omega
  refine ⟨fun q=>h.ix (Int.le_refl _) (i0 q),(gi gs 0).used,fun q=>h.used (Int.le_refl _) (i0 q),fun q => ?_,(gi gs 0).parent,fun q => ?_,fun q => ?_,(gi gs 0).name,fun q => ?_,fun q => ?_,fun q => ?_⟩
  ·simp only [Bool.or_eq_false_iff] at q; exact h.ix (Int.le_refl _) (i0 q.1)
  ·simp only [Bool.or_eq_false_iff] at q; exact h.parent (Int.le_refl _) (i0 q.1)
  ·simp only [Bool.or_eq_false_iff] at q; exact h.ix (Int.le_refl _) (i0 q.1.1)
  ·simp only [Bool.or_eq_false_iff] at q; exact h.name (Int.le_refl _) (i0 q.1.1)
  ·rw [zxo]
   intro ht
   have e:((gs.length:Nat):Int)=8:=by have:=ht.len; omega
   rw [e,ht.ru,ht.rp,ht.rn,ztc] at q
   simp at q
  ·simp only [Bool.or_eq_false_iff,Bool.not_eq_false',bne_eq_false_iff_eq,zi1] at q
   obtain ⟨⟨⟨q1,ru⟩,rp⟩,rn⟩:=q
   have hl8:gs.length=8:=by omega
   refine ze7 8 1 rfl (fun k=>1≤k∧k≤8∧zaht gs k) ⟨Nat.le_refl _,by omega,⟨fun g h1 h2=>by omega⟩⟩ fun k ⟨hk1,hk,hS⟩=>⟨fun hlt => ?_,fun hge => ?_⟩
   ·have hlt:=of_decide_eq_true hlt
    have hk0:(0:Int)≤(k:Int):=by omega
    have step:((gi gs (k:Int)).used=true→znb (gi gs (k:Int)).name=true∧inB (zoz 9 gs (k:Int) 0) 1 3=true∧∀h:Int,1≤h→h<(k:Int)→(gi gs h).used=true→¬((gi gs h).parent=(gi gs (k:Int)).parent∧(gi gs h).name=(gi gs (k:Int)).name))→zaht gs ((k+1:Nat):Int):=fun hst=>⟨fun g h1 h2 hu=>by
     by_cases hgk:g<(k:Int)
     ·exact hS.each g h1 hgk hu
     ·have:g=(k:Int):=by omega
      subst this; exact hst hu⟩
    refine ⟨h.ix hk0 hlt,_,h.used hk0 hlt,fun hu=>⟨⟨by omega,by omega⟩,zai (by omega) ⟨by omega,by omega,step fun hu'=>by rw [hu'] at hu; cases hu⟩⟩,fun hu => ?_⟩
    have hu:(gi gs (k:Int)).used=true:=by simpa using hu
    refine ⟨h.ix hk0 hlt,_,h.name hk0 hlt,_,z6t,zoz 9 gs (k:Int) 0,fun _ => ?_,inB (zoz 9 gs (k:Int) 0) 1 3,fun _=>zar,fun q => ?_,fun q => ?_⟩
    ·have:=zqg (c:=c) (g:=(k:Int)) h (by rw [hl8]; simp [maxLen])
     rwa [hl8] at this ⊢
    ·rw [zxo]
     intro ht
     have:=(zaep ht).each (k:Int) (by omega) (by omega) hu
     rw [this.1,this.2.1] at q
     cases q
    ·simp only [Bool.or_eq_false_iff,Bool.not_eq_false'] at q
     refine ze7 k 1 rfl (fun j=>1≤j∧j≤k∧∀h:Int,1≤h→h<(j:Int)→(gi gs h).used=true→¬((gi gs h).parent=(gi gs (k:Int)).parent∧(gi gs h).name=(gi gs (k:Int)).name)) ⟨Nat.le_refl _,hk1,fun g h1 h2=>by omega⟩ fun j ⟨hj1,hjk,hJ⟩=>⟨fun hlt2 => ?_,fun hge2 => ?_⟩
     ·have hlt2:=of_decide_eq_true hlt2
      have hj0:(0:Int)≤(j:Int):=by omega
      have hjl:(j:Int)<(gs.length:Int):=by omega
      refine ⟨h.ix hj0 hjl,_,h.used hj0 hjl,fun _=>h.ix hj0 hjl,_,fun _=>h.parent hj0 hjl,fun _=>h.ix hk0 hlt,_,fun _=>h.parent hk0 hlt,fun _=>h.ix hj0 hjl,_,fun _=>h.name hj0 hjl,fun _=>h.ix hk0 hlt,_,fun _=>h.name hk0 hlt,fun hs => ?_,fun hs=>⟨⟨by omega,by omega⟩,zai (by omega) ⟨by omega,by omega,fun g h1 h2 hg => ?_⟩⟩⟩
      ·rw [zxo]
       intro ht
       simp only [Bool.and_eq_true,beq_iff_eq,zi1] at hs
       exact ht.uniq (k:Int) (j:Int) (by omega) hlt2 (by omega) hu hs.1.1 ⟨hs.1.2,hs.2⟩
      ·by_cases hgj:g<(j:Int)
       ·exact hJ g h1 hgj hg
       ·have:g=(j:Int):=by omega
        subst this
        rintro ⟨e1,e2⟩
        rw [hg,e1,e2,ztc] at hs
        simp at hs
     ·have hge2:=of_decide_eq_false hge2
      have:j=k:=by omega
      subst this
      exact ⟨⟨by omega,by omega⟩,zai (by omega) ⟨by omega,by omega,step fun _=>⟨q.1,q.2,hJ⟩⟩⟩
   ·have hge:=of_decide_eq_false hge
    have:k=8:=by omega
    subst this
    rw [zi2.2 (zahi hl8 ru rp rn hS)]
def insD:Nat→List Grp→Int→Int→Bool
 | 0,_,g,h=>h==g
 | f+1,gs,g,h=>h==g||(h != 0&&insD f gs g (gi gs h).parent)
noncomputable def zn5 (gs:List Grp) (g h:Int):Bool:=zte gs&&zad gs g&&zad gs h&&insD 3 gs g h
theorem zgy {gs:List Grp} (ht:zei gs) {h:Int} (hu:zad gs h=true) (hz:h≠0):zad gs (gi gs h).parent=true∧0≤h∧h<(gs.length:Int)∧∃d:Nat,dep 3 gs h=(d:Int)+1∧dep 3 gs (gi gs h).parent=(d:Int)∧d<3:=by
 obtain ⟨a,b,u⟩:=zac.1 hu
 have hl:=ht.len
 have h1:1≤h:=by omega
 have hd:=ht.dp h h1 (by omega) u
 refine ⟨ht.par h h1 (by omega) u,a,b,?_⟩
 have hr:=zkl gs 2 (gi gs h).parent
 have e:dep 3 gs h=if dep 2 gs (gi gs h).parent<0 then -1 else dep 2 gs (gi gs h).parent+1:=by simp only [dep,if_neg hz]
 rw [e] at hd ⊢
 split at hd
 ·omega
 ·rename_i hn
  rw [if_neg hn]
  have:=zsc gs 2 3 (gi gs h).parent (by omega) (by omega)
  exact ⟨(dep 2 gs (gi gs h).parent).toNat,by omega,by omega,by omega⟩
theorem zafn {gs:List Grp} (ht:zei gs) (g:Int):∀(f f':Nat) (h:Int),zad gs h=true→dep 3 gs h≤f→dep 3 gs h≤f'→insD f gs g h=insD f' gs g h:=by
 intro f
 induction f with
 | zero =>
  intro f' h hu h1 h2
  have hz:h=0:=Decidable.byContradiction fun hz=>by
   obtain ⟨_,_,_,d,e,_⟩:=zgy ht hu hz
   omega
  subst hz
  cases f' <;> simp [insD]
 | succ f ih =>
  intro f' h hu h1 h2
  by_cases hz:h=0
  ·subst hz
   cases f' <;> simp [insD]
  ·obtain ⟨hp,_,_,d,e,e2,_⟩:=zgy ht hu hz
   cases f' with
   | zero=>omega
   | succ f' =>
    simp only [insD]
    rw [ih f' (gi gs h).parent hp (by omega) (by omega)]
theorem zzo {gs:List Grp} (ht:zei gs) {g h:Int} (hu:zad gs h=true) (hz:h≠0) (hg:h≠g):insD 3 gs g h=insD 3 gs g (gi gs h).parent:=by
 obtain ⟨hp,_,_,d,e,e2,hd⟩:=zgy ht hu hz
 rw [←zafn ht g 2 3 (gi gs h).parent hp (by omega) (by omega)]
 have e3:insD 3 gs g h=(h==g||(h != 0&&insD 2 gs g (gi gs h).parent)):=rfl
 rw [e3]
 have e4:(h==g)=false:=by simpa using hg
 have e5:(h != 0)=true:=by simpa using hz
 rw [e4,e5,Bool.false_or,Bool.true_and]
theorem zjk {g h:Int} (hr:RdG bs w o gs ms) (hl:gs.length≤maxLen):zab bs Tryz.prog zd2 #[.slice o gs.length c,.int .i64 g,.int .i64 h] w (.bool (zn5 gs g h)) :=
 zw4 o gs.length c g h fun wr hx=>by
  have hr:=(hr.ext hx).less (cs:=[]) (by simp)
  refine ⟨_,zsp hr hl,_,fun _=>zjy hr,_,fun _=>zjy hr,fun q => ?_,fun q => ?_⟩
  ·have:zn5 gs g h=false:=by
    unfold zn5
    cases h1:zte gs <;> cases h2:zad gs g <;> cases h3:zad gs h <;> simp_all
   rw [this]
  ·simp only [Bool.or_eq_false_iff,Bool.not_eq_false'] at q
   obtain ⟨⟨q1,q2⟩,q3⟩:=q
   have ht:=zi2.1 q1
   have hU:zn5 gs g h=insD 3 gs g h:=by unfold zn5; rw [q1,q2,q3]; rfl
   refine ⟨fun vs=>∃x:Int,vs=[.int .i64 x]∧zad gs x=true∧insD 3 gs g x=insD 3 gs g h,fun vs=>(dep 3 gs (zcw 0 vs)).toNat,⟨h,rfl,q3,rfl⟩,?_⟩
   rintro x ⟨x',he,hu,hI⟩
   simp only [List.cons.injEq,Value.int.injEq,true_and,and_true] at he
   subst he
   refine ⟨fun hne=>⟨fun hz => ?_,fun hz => ?_⟩,fun heq => ?_⟩
   ·have hz:x=0:=by simpa using hz
    subst hz
    have:insD 3 gs g 0=false:=by
     have:¬(0=g):=by simpa using hne
     simp [insD,this]
    rw [hU,←hI,this]
   ·have hz:x≠0:=by simpa using hz
    have hne:x≠g:=by simpa using hne
    obtain ⟨hp,a,b,d,e,e2,hd⟩:=zgy ht hu hz
    refine ⟨hr.ix a b,_,hr.parent a b,⟨_,rfl,hp,by rw [←zzo ht hu hz hne]; exact hI⟩,?_⟩
    show (dep 3 gs (gi gs x).parent).toNat<(dep 3 gs x).toNat
    omega
   ·have heq:x=g:=by simpa using heq
    subst heq
    rw [hU,←hI]
    simp [insD]
end
end Go.Proofs.YtajdcjidpolloaaGreatDoor
namespace Go.Proofs.YtajdcjidpolloaaGreatDoor
open Go.RowKit
set_option linter.unusedVariables false
set_option linter.unusedSimpArgs false
set_option maxRecDepth 10000
theorem zafh {s:ByteArray} {i:Nat} (h:i<s.size):((s.get! i).toNat:Int)=zj2 s (i:Int):=by
 have hi:i<s.data.size:=h
 unfold zj2
 rw [Int.toNat_natCast]
 simp [ByteArray.get!,getElem!_pos s.data i hi,Array.getD,h]
theorem z8w {s:ByteArray} {i:Nat} (h:(s.get! i).toNat<128):Utf8.decode s i=((s.get! i).toNat,1):=by
 simp only [Utf8.decode,Nat.add_zero]
 rw [if_pos h]
theorem zae3 {s:ByteArray} {i:Nat} (h:¬(s.get! i).toNat<128):128≤(Utf8.decode s i).1∧1≤(Utf8.decode s i).2:=by
 simp only [Utf8.decode,Nat.add_zero,Utf8.runeError]
 rw [if_neg h]
 split
 ·split
  ·rename_i h1; exact ⟨h1,by show 1≤2; omega⟩
  ·exact ⟨by decide,by decide⟩
 ·split
  ·split
   ·rename_i h1
    simp only [ge_iff_le,Bool.and_eq_true,decide_eq_true_eq] at h1
    exact ⟨by show 128≤_; omega,by show 1≤3; omega⟩
   ·exact ⟨by decide,by decide⟩
  ·split
   ·split
    ·rename_i h1
     simp only [ge_iff_le,Bool.and_eq_true,decide_eq_true_eq] at h1
     exact ⟨by show 128≤_; omega,by show 1≤4; omega⟩
    ·exact ⟨by decide,by decide⟩
   ·exact ⟨by decide,by decide⟩
theorem zafo (w:World) (b:Nat) (s:ByteArray) (p:Nat):ExtX [b] w (zrc w b s p) :=
 ⟨rfl,rfl,rfl,by simp [zrc],fun k _ hk=>by
  have:b≠k:=fun e=>hk (by simp [e])
  simp only [zrc]
  rw [Array.getElem?_setIfInBounds_ne this]⟩
theorem zaip {w:World} {b:Nat} {s:ByteArray} {p:Nat} (h:b<w.heap.size):(zrc w b s p).heap[b]? = some (.stringIter s p):=by
 simp [zrc,h]
def zamv (b:Nat) (w:World):Nat:=match w.heap[b]? with
 | some (.stringIter s p)=>s.size+1 - p
 | _=>0
theorem zabb {s:ByteArray} (h1:zcf s (⟨[119,101,105,103,104,116].toArray⟩)=false) (h2:zcf s (⟨[109,97,120].toArray⟩)=false) (h3:zcf s (⟨[99,112,117,115].toArray⟩)=false) (h4:zcf s (⟨[112,114,111,99,115].toArray⟩)=false) (h5:zcf s (⟨[115,116,97,116].toArray⟩)=false):zsg s=false:=by
 unfold zsg; rw [h1,h2,h3,h4,h5]; rfl
theorem zld {s:ByteArray} (h:zsg s=true):znb s=false:=zo3 fun ⟨_,h2,_⟩=>by rw [h] at h2; cases h2
theorem z6l {s:ByteArray} {w:World} {bs:List Nat}:zab bs Tryz.prog zl2 #[.string s] w (.bool (znb s)):=by
 refine zj1 fun wr hx=>z54 s (R:=fun v w'=>v = .bool (znb s)∧ExtX [] wr w') ?_
 refine ⟨fun h => ?_,fun h1=>⟨fun h => ?_,fun h2=>⟨fun h => ?_,fun h3=>⟨fun h => ?_,fun h4=>⟨fun h => ?_,fun h5 => ?_⟩⟩⟩⟩⟩
 ·intro w1 hx1; rw [zld (by unfold zsg; rw [h]; rfl)]; exact ⟨rfl,hx1⟩
 ·intro w1 hx1; rw [zld (by unfold zsg; rw [h]; simp)]; exact ⟨rfl,hx1⟩
 ·intro w1 hx1; rw [zld (by unfold zsg; rw [h]; simp)]; exact ⟨rfl,hx1⟩
 ·intro w1 hx1; rw [zld (by unfold zsg; rw [h]; simp)]; exact ⟨rfl,hx1⟩
 ·intro w1 hx1; rw [zld (by unfold zsg; rw [h]; simp)]; exact ⟨rfl,hx1⟩
 ·have hf:=zabb h1 h2 h3 h4 h5
  refine ⟨_,zaj,fun h => ?_,fun h => ?_⟩
  ·intro w1 hx1
   have h:inB (s.size:Int) 1 8=false:=by simpa using h
   have h:=zamk.1 h
   rw [zo3 fun ⟨h6,_⟩=>h (by omega)]
   exact ⟨rfl,hx1⟩
  ·have h:inB (s.size:Int) 1 8=true:=by simpa using h
   have h:=za0.1 h
   intro w1 hx1 _
   refine ⟨some ⟨w1.heap.size,0,none⟩,w1.alloc (.stringIter s 0),by simp [Instr.range,run_underlying zxq],zbc,?_⟩
   have hb0:(w1.alloc (.stringIter s 0)).heap[w1.heap.size]? = some (.stringIter s 0):=Array.getElem?_push_size ..
   have hX0:ExtX [] wr (w1.alloc (.stringIter s 0)):=hx1.trans (zbw w1 _)
   have hbr:wr.heap.size≤w1.heap.size:=hx1.size
   generalize w1.heap.size=b at hb0 hbr
   generalize w1.alloc (.stringIter s 0)=w2 at hb0 hX0
   refine ⟨fun vs w'=>vs=[]∧ExtX [] wr w'∧∃p:Nat,p≤s.size∧w'.heap[b]? = some (.stringIter s p)∧∀j:Nat,j<p→okc (zj2 s (j:Int))=true,fun _ w'=>zamv b w',fun w3 hx3 _=>⟨rfl,hX0.trans hx3,0,Nat.zero_le _,zan hb0 hx3 (by simp),fun j hj=>absurd hj (Nat.not_lt_zero j)⟩,?_⟩
   intro w3 _ ⟨_,hX,p,hp,hb,hI⟩ w4 hx4 _
   have hb4:=zan hb hx4 (by simp)
   refine ⟨b,s,p,rfl,by simp,hb4,fun hge=>⟨(by intro q; cases q),fun _ w5 hx5 => ?_⟩,fun hlt=>⟨fun _ => ?_,by intro q; cases q⟩⟩
   ·have:p=s.size:=by omega
    subst this
    rw [zuj.2 ⟨⟨by omega,by omega⟩,hf,hI⟩]
    exact ⟨rfl,(hX.trans hx4).trans hx5⟩
   ·have hX5:ExtX [] wr (zrc w4 b s (p+(Utf8.decode s p).2)):=(hX.trans hx4).fresh (zafo w4 b s _) fun x hm=>.inl (by rw [List.mem_singleton.1 hm]; exact hbr)
    have hg:=zafh hlt
    refine ⟨fun hno => ?_,fun hyes => ?_⟩
    ·intro w5 hx5
     have hno':znb s=false:=zo3 fun ⟨_,_,h3⟩=>by
      have h3:=h3 p hlt
      by_cases hlo:(s.get! p).toNat<128
      ·rw [z8w hlo] at hno
       simp only [hg] at hno
       unfold okc at h3
       rw [h3] at hno
       cases hno
      ·unfold okc at h3
       simp only [Bool.or_eq_true,Bool.and_eq_true,decide_eq_true_eq] at h3
       omega
     rw [hno']
     exact ⟨rfl,hX5.trans hx5⟩
    ·intro w5 hx5 _
     by_cases hlo:(s.get! p).toNat<128
     ·rw [z8w hlo] at hyes hX5 hx5
      simp only [hg] at hyes
      have hat:=zan (zaip (s:=s) (p:=p+1) (zjn hb4)) hx5 (by simp)
      refine ⟨⟨rfl,hX5.trans hx5,p+1,by omega,hat,fun j hj => ?_⟩,?_⟩
      ·by_cases hjp:j<p
       ·exact hI j hjp
       ·have:j=p:=by omega
        subst this
        unfold okc
        rw [Bool.not_eq_false'] at hyes
        exact hyes
      ·simp only [zamv,hat,hb]
       omega
     ·exfalso
      have:=zae3 hlo
      rw [Bool.not_eq_false'] at hyes
      simp only [Bool.or_eq_true,Bool.and_eq_true,decide_eq_true_eq] at hyes
      omega
end Go.Proofs.YtajdcjidpolloaaGreatDoor
