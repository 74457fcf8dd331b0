/- Part 9 of what the law FnExactWorldRun needs: the engine, the functions' propositions, the contracts. -/
import Derived.Test.YthhmnlcimojhlaaGreatDoorFnExactWorldRunPh
namespace Go.Proofs.YthhmnlcimojhlaaGreatDoor
open Go.RowKit
set_option linter.unusedVariables false
set_option linter.unusedSimpArgs false
set_option maxRecDepth 10000
theorem z7s {w:Int} (h1:1≤w) (h2:w≤20):11639628≤stp w∧stp w≤232792560:=by
 have h:=zajo h1 h2
 have hp:0≤stp w:=by
  rcases Int.lt_or_le (stp w) 0 with hn | hn
  ·have:=Int.mul_neg_of_neg_of_pos hn (show 0<w by omega)
   omega
  ·exact hn
 constructor
 ·have:=Int.mul_le_mul_of_nonneg_left h2 hp
  omega
 ·have:=Int.mul_le_mul_of_nonneg_left h1 hp
  omega
theorem zu6 {n w:Int} (h1:0≤n) (h2:n≤100000000) (h3:1≤w) (h4:w≤20):zc2 n w=n*stp w:=by
 unfold zc2
 rw [if_pos]
 rw [Bool.and_eq_true,zaz,zaz]; exact ⟨⟨h1,h2⟩,h3,h4⟩
theorem zy4 {n w:Int} (h:¬(0≤n∧n≤100000000∧1≤w∧w≤20)):zc2 n w=0:=by
 unfold zc2
 rw [if_neg]
 rw [Bool.and_eq_true,zaz,zaz]; omega
theorem zadx {n w:Int} (h1:0≤n) (h2:n≤100000000) (h3:1≤w) (h4:w≤20):0≤n*stp w∧n*stp w≤23279256000000000:=by
 have hs:=z7s h3 h4
 refine ⟨Int.mul_nonneg h1 (by omega),?_⟩
 calc n*stp w≤100000000*stp w:=Int.mul_le_mul_of_nonneg_right h2 (by omega)
  _≤100000000*232792560:=Int.mul_le_mul_of_nonneg_left hs.2 (by decide)
  _=23279256000000000:=rfl
theorem zaj {n a b:Int} {w:World} {bs:List Nat}:zab bs Tryz.prog zaf #[.int .i64 n,.int .i64 a,.int .i64 b] w (.bool (inB n a b)) :=
 z0s n a b fun wr hx=>by unfold zpc; rfl
theorem zaw {n a b:Int} {w:World} {bs:List Nat}:zab bs Tryz.prog zan #[.int .i64 n,.int .i64 a,.int .i64 b] w (.bool (inB n a b)) :=
 z8u n a b fun wr hx=>by unfold zvy; rfl
theorem zj6 {n:Int} {w:World} {bs:List Nat}:zab bs Tryz.prog zeb #[.int .i64 n] w (.bool (inB n 1 20)) :=
 zx7 n fun wr hx=>⟨_,zaj,rfl⟩
theorem zg9 {n:Int} {w:World} {bs:List Nat}:zab bs Tryz.prog zdd #[.int .i64 n] w (.bool (inB n 1 20)) :=
 zyf n fun wr hx=>⟨_,zaw,rfl⟩
theorem zq1 {n:Int} {w:World} {bs:List Nat}:zab bs Tryz.prog zh2 #[.int .i64 n] w (.bool (inB n (-10) 9)) :=
 z4r n fun wr hx=>⟨_,zaj,rfl⟩
def wsC (k j:Nat):Int:=if j≤k then stp (j:Int) else 0
def wsT (k:Nat):List Value:=[.int .i64 ((k:Int)+1),.int .i64 0,.int .i64 (wsC k 1),.int .i64 (wsC k 2),.int .i64 (wsC k 3),.int .i64 (wsC k 4),.int .i64 (wsC k 5),.int .i64 (wsC k 6),.int .i64 (wsC k 7),
 .int .i64 (wsC k 8),.int .i64 (wsC k 9),.int .i64 (wsC k 10),.int .i64 (wsC k 11),.int .i64 (wsC k 12),.int .i64 (wsC k 13),.int .i64 (wsC k 14),.int .i64 (wsC k 15),.int .i64 (wsC k 16),.int .i64 (wsC k 17),.int .i64 (wsC k 18),.int .i64 (wsC k 19),.int .i64 (wsC k 20)]
theorem zq2 {w:World} {bs:List Nat}:zab bs Tryz.prog zgb #[] w (.agg #[.int .i64 0,.int .i64 (wsC 20 1),.int .i64 (wsC 20 2),.int .i64 (wsC 20 3),.int .i64 (wsC 20 4),.int .i64 (wsC 20 5),.int .i64 (wsC 20 6),.int .i64 (wsC 20 7),
 .int .i64 (wsC 20 8),.int .i64 (wsC 20 9),.int .i64 (wsC 20 10),.int .i64 (wsC 20 11),.int .i64 (wsC 20 12),.int .i64 (wsC 20 13),.int .i64 (wsC 20 14),.int .i64 (wsC 20 15),.int .i64 (wsC 20 16),.int .i64 (wsC 20 17),.int .i64 (wsC 20 18),.int .i64 (wsC 20 19),.int .i64 (wsC 20 20)]) :=
 zrj fun wr hx=>by
  intro _ _ _ _
  refine ⟨fun vs=>∃k:Nat,k≤20∧vs=wsT k,fun vs=>match vs with
   | .int _ i::_=>(21 - i).toNat
   | _=>0,⟨0,by omega,rfl⟩,?_⟩
  rintro i l l1 l2 l3 l4 l5 l6 l7 l8 l9 l10 l11 l12 l13 l14 l15 l16 l17 l18 l19 l20 ⟨k,hk,he⟩
  simp only [wsT,List.cons.injEq,Value.int.injEq,true_and,and_true] at he
  obtain ⟨rfl,rfl,rfl,rfl,rfl,rfl,rfl,rfl,rfl,rfl,rfl,rfl,rfl,rfl,rfl,rfl,rfl,rfl,rfl,rfl,rfl,rfl⟩:=he
  constructor
  ·intro h
   have h:=of_decide_eq_true h
   refine ⟨⟨by omega,?_⟩,⟨by omega,by omega⟩,by omega,?_⟩
   ·have:=z7s (w:=(k:Int)+1) (by omega) (by omega)
    exact zaas (by unfold stp at this; omega) (by unfold stp at this; omega)
   ·refine ⟨_,_,_,_,_,_,_,_,_,_,_,_,_,_,_,_,_,_,_,_,_,?_,zaas (by omega) (by omega),⟨k+1,by omega,rfl⟩,?_⟩
    ·have:k=0∨k=1∨k=2∨k=3∨k=4∨k=5∨k=6∨k=7∨k=8∨k=9∨k=10∨k=11∨k=12∨k=13∨k=14∨k=15∨k=16∨k=17∨k=18∨k=19:=by omega
     rcases this with rfl | rfl | rfl | rfl | rfl | rfl | rfl | rfl | rfl | rfl | rfl | rfl | rfl | rfl | rfl | rfl | rfl | rfl | rfl | rfl <;> rfl
    ·show (21 - (((k:Int)+1)+1)).toNat<(21 - ((k:Int)+1)).toNat
     omega
  ·intro h
   have h:=of_decide_eq_false h
   have hk:k=20:=by omega
   subst hk
   rfl
theorem zakx {k:Int} (h1:1≤k) (h2:k≤20):(#[.int .i64 0,.int .i64 (wsC 20 1),.int .i64 (wsC 20 2),.int .i64 (wsC 20 3),.int .i64 (wsC 20 4),.int .i64 (wsC 20 5),.int .i64 (wsC 20 6),.int .i64 (wsC 20 7),
 .int .i64 (wsC 20 8),.int .i64 (wsC 20 9),.int .i64 (wsC 20 10),.int .i64 (wsC 20 11),.int .i64 (wsC 20 12),.int .i64 (wsC 20 13),.int .i64 (wsC 20 14),.int .i64 (wsC 20 15),.int .i64 (wsC 20 16),.int .i64 (wsC 20 17),.int .i64 (wsC 20 18),.int .i64 (wsC 20 19),.int .i64 (wsC 20 20)]:Array Value)[Int.toNat k]? = some (.int .i64 (stp k)):=by
 have:k=1∨k=2∨k=3∨k=4∨k=5∨k=6∨k=7∨k=8∨k=9∨k=10∨k=11∨k=12∨k=13∨k=14∨k=15∨k=16∨k=17∨k=18∨k=19∨k=20:=by omega
 rcases this with rfl | rfl | rfl | rfl | rfl | rfl | rfl | rfl | rfl | rfl | rfl | rfl | rfl | rfl | rfl | rfl | rfl | rfl | rfl | rfl <;> rfl
theorem zdn {n k:Int} {w:World} {bs:List Nat}:zab bs Tryz.prog zbv #[.int .i64 n,.int .i64 k] w (.int .i64 (zc2 n k)) :=
 zre n k fun wr hx=>by
  refine ⟨_,zaj,_,fun _=>zj6,fun h => ?_,fun h => ?_⟩
  ·congr 1; unfold zc2; rw [if_neg]; intro h2; simp only [Bool.and_eq_true] at h2; simp [h2] at h
  ·have h2:inB n 0 100000000=true∧inB k 1 20=true:=by simpa using h
   rw [zaz,zaz] at h2
   have hm:=zadx h2.1.1 h2.1.2 h2.2.1 h2.2.2
   refine ⟨_,_,_,_,_,_,_,_,_,_,_,_,_,_,_,_,_,_,_,_,_,zq2,stp k,⟨by omega,by omega,zakx h2.2.1 h2.2.2⟩,zaas (by omega) (by omega),?_⟩
   rw [zu6 h2.1.1 h2.1.2 h2.2.1 h2.2.2]
theorem zpg {k:Int} {w:World} {bs:List Nat}:zab bs Tryz.prog zgn #[.int .i64 k] w (.int .i64 (zd6 k)) :=
 z0p k fun wr hx=>⟨_,zdn,rfl⟩
end Go.Proofs.YthhmnlcimojhlaaGreatDoor
namespace Go.Proofs.YthhmnlcimojhlaaGreatDoor
open Go.RowKit
set_option linter.unusedVariables false
set_option linter.unusedSimpArgs false
set_option maxRecDepth 10000
def zqu (s:ByteArray):Bool:=(((((zck s (⟨[119,101,105,103,104,116].toArray⟩))||(zck s (⟨[109,97,120].toArray⟩)))||(zck s (⟨[99,112,117,115].toArray⟩)))||(zck s (⟨[112,114,111,99,115].toArray⟩)))||(zck s (⟨[115,116,97,116].toArray⟩)))
def okc (x:Int):Bool:=(((decide (x≥97))&&(decide (x≤122)))||((decide (x≥48))&&(decide (x≤57))))
def zl1 (s:ByteArray):Bool:=inB (s.size:Int) 1 8 && !zqu s&&(List.range s.size).all fun i=>okc (zjf s (i:Int))
theorem zsj {s:ByteArray}:zl1 s=true↔(1≤s.size∧s.size≤8)∧zqu s=false∧∀i:Nat,i<s.size→okc (zjf s (i:Int))=true:=by
 unfold zl1
 simp only [Bool.and_eq_true,zaz,Bool.not_eq_true',List.all_eq_true,List.mem_range]
 constructor
 ·rintro ⟨⟨h1,h2⟩,h3⟩; exact ⟨⟨by omega,by omega⟩,h2,h3⟩
 ·rintro ⟨⟨h0,h1⟩,h2,h3⟩; exact ⟨⟨⟨by omega,by omega⟩,h2⟩,h3⟩
theorem zn9 {s:ByteArray} (h:¬((1≤s.size∧s.size≤8)∧zqu s=false∧∀i:Nat,i<s.size→okc (zjf s (i:Int))=true)):zl1 s=false:=by
 cases hn:zl1 s with
 | false=>rfl
 | true=>exact absurd (zsj.1 hn) h
theorem z4b {s:ByteArray} {w:World} {bs:List Nat}:zab bs Tryz.prog zlh #[.string s] w (.bool (zqu s)) :=
 z48 s fun wr hx=>rfl
theorem z39 {s:ByteArray} {w:World} {bs:List Nat}:zab bs Tryz.prog zlf #[.string s] w (.bool (zl1 s)) :=
 z45 s fun wr hx=>by
  refine ⟨_,zaw,zqu s,fun _=>z4b,fun h => ?_,fun h => ?_⟩
  ·rw [zn9]
   rintro ⟨h1,h2,_⟩
   rw [h2,zaz.2 (by omega)] at h
   cases h
  ·have h:inB (s.size:Int) 1 8=true∧zqu s=false:=by simpa using h
   have h1:=zaz.1 h.1
   refine zgd s.size 0 rfl (fun k=>k≤s.size∧∀j:Nat,j<k→okc (zjf s (j:Int))=true) ⟨Nat.zero_le _,fun j hj=>absurd hj (Nat.not_lt_zero j)⟩ fun k ⟨hk,hI⟩=>⟨fun hlt => ?_,fun hge => ?_⟩
   ·have hlt:=of_decide_eq_true hlt
    have hr:0≤(k:Int)∧(k:Int)<(s.size:Int):=⟨by omega,hlt⟩
    refine ⟨hr,fun _=>hr,fun _=>hr,fun _ _=>hr,fun hno => ?_,fun hyes=>⟨⟨by omega,by omega⟩,zal (by omega) ⟨by omega,fun j hj => ?_⟩⟩⟩
    ·rw [zn9]
     rintro ⟨_,_,h3⟩
     have:=h3 k (by omega)
     unfold okc at this
     rw [this] at hno
     cases hno
    ·by_cases hjk:j<k
     ·exact hI j hjk
     ·have:j=k:=by omega
      subst this
      unfold okc
      rw [Bool.not_eq_false'] at hyes
      exact hyes
   ·have hge:=of_decide_eq_false hge
    have hk:k=s.size:=by omega
    subst hk
    rw [zsj.2 ⟨⟨by omega,by omega⟩,h.2,hI⟩]
def zad (gs:List Grp) (g:Int):Bool:=(decide (g≥0)&&decide (g<(gs.length:Int)))&&(gi gs g).used
theorem zac {gs:List Grp} {g:Int}:zad gs g=true↔0≤g∧g<(gs.length:Int)∧(gi gs g).used=true:=by
 unfold zad
 simp [and_assoc]
def dep:Nat→List Grp→Int→Int
 | 0,_,g=>if g=0 then 0 else -1
 | f+1,gs,g=>if g=0 then 0 else if dep f gs (gi gs g).parent<0 then -1 else dep f gs (gi gs g).parent+1
def zn5:Nat→List Grp→Int→Int→Int
 | 0,_,_,_ => -1
 | f+1,gs,g,n=>if zad gs g=false then -1 else if g=0 then n else zn5 f gs (gi gs g).parent (n+1)
theorem zjm (gs:List Grp):∀(f:Nat) (g:Int),-1≤dep f gs g∧dep f gs g≤f
 | 0,g=>by simp only [dep]; split <;> omega
 | f+1,g=>by
  have:=zjm gs f (gi gs g).parent
  simp only [dep]
  split
  ·omega
  ·split <;> omega
theorem zqq (gs:List Grp):∀(f f':Nat) (g:Int),0≤dep f gs g→dep f gs g≤f'→dep f' gs g=dep f gs g
 | 0,f',g,h,_=>by
  simp only [dep] at h ⊢
  split at h
  ·rename_i hg
   cases f' <;> simp [dep,hg]
  ·omega
 | f+1,f',g,h,hle=>by
  simp only [dep] at h hle ⊢
  by_cases hg:g=0
  ·rw [if_pos hg]
   cases f' <;> simp [dep,hg]
  ·rw [if_neg hg] at h hle ⊢
   by_cases hd:dep f gs (gi gs g).parent<0
   ·rw [if_pos hd] at h; omega
   ·rw [if_neg hd] at hle ⊢
    cases f' with
    | zero=>omega
    | succ f' =>
     have:=zqq gs f f' (gi gs g).parent (by omega) (by omega)
     simp only [dep]
     rw [if_neg hg,this,if_neg hd]
theorem zfc (gs:List Grp) (f:Nat):dep f gs 0=0:=by cases f <;> simp [dep]
theorem zaf2 {gs:List Grp} {f:Nat} {g:Int} (h:dep f gs g=0):g=0:=by
 cases f with
 | zero=>simp only [dep] at h; split at h <;> first | assumption | omega
 | succ f =>
  simp only [dep] at h
  split at h
  ·assumption
  ·split at h <;> omega
structure zfu (gs:List Grp):Prop where
 len:gs.length=8
 ru:(gi gs 0).used=true
 rp:(gi gs 0).parent = -1
 rn:(gi gs 0).name=⟨[].toArray⟩
 nm:∀g:Int,1≤g→g<8→(gi gs g).used=true→zl1 (gi gs g).name=true
 par:∀g:Int,1≤g→g<8→(gi gs g).used=true→zad gs (gi gs g).parent=true
 dp:∀g:Int,1≤g→g<8→(gi gs g).used=true→0≤dep 3 gs g
 uniq:∀g h:Int,1≤h→h<g→g<8→(gi gs g).used=true→(gi gs h).used=true→¬((gi gs h).parent=(gi gs g).parent∧(gi gs h).name=(gi gs g).name)
noncomputable def zyz (gs:List Grp):Bool := @decide (zfu gs) (Classical.propDecidable _)
theorem zl8 {gs:List Grp}:zyz gs=true↔zfu gs := @decide_eq_true_iff _ (Classical.propDecidable _)
theorem zu3 {gs:List Grp} (h:¬zfu gs):zyz gs=false:=by
 cases hb:zyz gs with
 | false=>rfl
 | true=>exact absurd (zl8.1 hb) h
theorem zuv {gs:List Grp} (hp:∀g:Int,g≠0→zad gs g=true→zad gs (gi gs g).parent=true):∀(f:Nat) (g n:Int),zad gs g=true→zn5 (f+1) gs g n=if dep f gs g<0 then -1 else n+dep f gs g
 | 0,g,n,hu=>by
  simp only [zn5,dep,hu]
  by_cases hg:g=0 <;> simp [hg]
 | f+1,g,n,hu=>by
  rw [zn5]
  simp only [hu]
  by_cases hg:g=0
  ·simp [hg,dep]
  ·have ih:=zuv hp f (gi gs g).parent (n+1) (hp g hg hu)
   have hr:=zjm gs f (gi gs g).parent
   simp only [dep,if_neg hg]
   rw [ih]
   by_cases hd:dep f gs (gi gs g).parent<0
   ·simp [hd]
   ·have h2:¬(dep f gs (gi gs g).parent+1<0):=by omega
    simp [hd,h2]; omega
theorem zadk {gs:List Grp} {f:Nat} {g n:Int} (hg:g≠0) (h:zn5 (f+1) gs g n≠-1):f≠0∧zad gs (gi gs g).parent=true:=by
 rw [zn5] at h
 by_cases hu:zad gs g=false
 ·rw [if_pos hu] at h; exact absurd rfl h
 ·rw [if_neg hu,if_neg hg] at h
  cases f with
  | zero=>exact absurd rfl h
  | succ f =>
   rw [zn5] at h
   by_cases hp:zad gs (gi gs g).parent=false
   ·rw [if_pos hp] at h; exact absurd rfl h
   ·exact ⟨by omega,by simpa using hp⟩
structure zafd (gs:List Grp) (k:Int):Prop where
 each:∀g:Int,1≤g→g<k→(gi gs g).used=true→zl1 (gi gs g).name=true∧inB (zn5 9 gs g 0) 1 3=true∧∀h:Int,1≤h→h<g→(gi gs h).used=true→¬((gi gs h).parent=(gi gs g).parent∧(gi gs h).name=(gi gs g).name)
theorem zae2 {gs:List Grp} (hl:gs.length=8) (ru:(gi gs 0).used=true) (rp:(gi gs 0).parent = -1) (rn:(gi gs 0).name=⟨[].toArray⟩) (h:zafd gs 8):zfu gs:=by
 have par:∀g:Int,1≤g→g<8→(gi gs g).used=true→zad gs (gi gs g).parent=true:=fun g h1 h2 hu=>by
  have:=zaz.1 (h.each g h1 h2 hu).2.1
  exact (zadk (f:=8) (n:=0) (by omega) (by show zn5 9 gs g 0≠-1; omega)).2
 have hp:∀g:Int,g≠0→zad gs g=true→zad gs (gi gs g).parent=true:=fun g hg hu=>by
  obtain ⟨a,b,c⟩:=zac.1 hu
  exact par g (by omega) (by omega) c
 refine ⟨hl,ru,rp,rn,fun g h1 h2 hu=>(h.each g h1 h2 hu).1,par,fun g h1 h2 hu => ?_,fun g k h1 h2 h3 hu hk=>(h.each g (by omega) h3 hu).2.2 k h1 h2 hk⟩
 have h9:=zaz.1 (h.each g h1 h2 hu).2.1
 rw [zuv hp 8 g 0 (zac.2 ⟨by omega,by omega,hu⟩)] at h9
 split at h9
 ·omega
 ·rename_i hd
  have:=zqq gs 8 3 g (by omega) (by omega)
  omega
theorem zabs {gs:List Grp} (h:zfu gs):zafd gs 8:=by
 have hp:∀g:Int,g≠0→zad gs g=true→zad gs (gi gs g).parent=true:=fun g hg hu=>by
  obtain ⟨a,b,c⟩:=zac.1 hu
  have:=h.len
  exact h.par g (by omega) (by omega) c
 refine ⟨fun g h1 h2 hu=>⟨h.nm g h1 h2 hu,?_,fun k h3 h4 hk=>h.uniq g k h3 h4 h2 hu hk⟩⟩
 have hl:=h.len
 rw [zuv hp 8 g 0 (zac.2 ⟨by omega,by omega,hu⟩)]
 have h3:=h.dp g h1 h2 hu
 have hr:=zjm gs 3 g
 have:=zqq gs 3 8 g h3 (by omega)
 rw [this,if_neg (by omega)]
 have hz:dep 3 gs g≠0:=fun e=>by have:=zaf2 e; omega
 exact zaz.2 (by omega)
section
variable {gs:List Grp} {ms:Nat→MG} {o:Option Addr} {c:Nat} {w:World} {bs:List Nat}
theorem RdG.used (h:RdG bs w o gs ms) {i:Int} (h0:0≤i) (h1:i<(gs.length:Int)):zaa bs w o (Int.toNat i*14+0) [.bool (gi gs i).used]:=(h.cells i h0 h1).get 0 _ rfl
theorem RdG.parent (h:RdG bs w o gs ms) {i:Int} (h0:0≤i) (h1:i<(gs.length:Int)):zaa bs w o (Int.toNat i*14+1) [.int .i64 (gi gs i).parent]:=(h.cells i h0 h1).get 1 _ rfl
theorem RdG.name (h:RdG bs w o gs ms) {i:Int} (h0:0≤i) (h1:i<(gs.length:Int)):zaa bs w o (Int.toNat i*14+2) [.string (gi gs i).name]:=(h.cells i h0 h1).get 2 _ rfl
theorem zq4 {g:Int} (h:RdG bs w o gs ms):zab bs Tryz.prog zh5 #[.slice o gs.length c,.int .i64 g] w (.bool (zad gs g)) :=
 z49 o gs.length c g fun wr hx=>by
  have h:=(h.ext hx).less (cs:=[]) (by simp)
  refine ⟨fun q => ?_,(gi gs g).used,fun q => ?_,rfl⟩
  ·have q:0≤g∧g<(gs.length:Int):=by simpa using q
   exact h.ix q.1 q.2
  ·have q:0≤g∧g<(gs.length:Int):=by simpa using q
   exact h.used q.1 q.2
theorem zpk {g:Int} (h:RdG bs w o gs ms) (hl:gs.length<maxLen):zab bs Tryz.prog zg2 #[.slice o gs.length c,.int .i64 g] w (.int .i64 (zn5 (gs.length+1) gs g 0)) :=
 z07 o gs.length c g fun wr hx=>by
  have h:=(h.ext hx).less (cs:=[]) (by simp)
  refine zq8 (gs.length+1) 0 rfl (fun x k=>k≤gs.length+1∧zn5 (gs.length+1 - k) gs x k=zn5 (gs.length+1) gs g 0) ⟨by omega,rfl⟩ fun x k ⟨hk,he⟩=>⟨fun hlt => ?_,fun hge => ?_⟩
  ·have hlt:=of_decide_eq_true hlt
   have hf:gs.length+1 - k=(gs.length - k)+1:=by omega
   rw [hf,zn5] at he
   refine ⟨_,zq4 h,fun hu => ?_,fun hu => ?_⟩
   ·have hu:zad gs x=false:=by simpa using hu
    rw [if_pos hu] at he
    rw [←he]
   ·have hu:zad gs x=true:=by simpa using hu
    rw [if_neg (by simp [hu])] at he
    obtain ⟨u1,u2,u3⟩:=zac.1 hu
    refine ⟨fun hz => ?_,fun hz => ?_⟩
    ·rw [if_pos (by simpa using hz)] at he
     rw [←he]
    ·rw [if_neg (by simpa using hz)] at he
     have hm:=zdp
     refine ⟨h.ix u1 u2,_,h.parent u1 u2,⟨by omega,by omega⟩,zbp (by omega) ⟨by omega,?_⟩⟩
     rw [←he,show gs.length+1 - (k+1)=gs.length - k by omega]
     rfl
  ·have hge:=of_decide_eq_false hge
   have:gs.length+1 - k=0:=by omega
   rw [this] at he
   rw [←he]; rfl
theorem z4a (h:RdG bs w o gs ms) (hl:gs.length≤maxLen):zab bs Tryz.prog zlg #[.slice o gs.length c] w (.bool (zyz gs)) :=
 z46 o gs.length c fun wr hx=>by
  have h:=(h.ext hx).less (cs:=[]) (by simp)
  have l8:((((gs.length:Nat):Int) != 8)=false)→gs.length=8:=fun q=>by have:=(bne_eq_false_iff_eq).1 q; omega
  have i0:∀q:(((gs.length:Nat):Int) != 8)=false,(0:Int)<(gs.length:Int):=fun q=>by have:=l8 q; omega
  refine ⟨fun q=>h.ix (Int.le_refl _) (i0 q),(gi gs 0).used,fun q=>h.used (Int.le_refl _) (i0 q),fun q => ?_,(gi gs 0).parent,fun q => ?_,fun q => ?_,(gi gs 0).name,fun q => ?_,fun q => ?_,fun q => ?_⟩
  ·simp only [Bool.or_eq_false_iff] at q; exact h.ix (Int.le_refl _) (i0 q.1)
  ·simp only [Bool.or_eq_false_iff] at q; exact h.parent (Int.le_refl _) (i0 q.1)
  ·simp only [Bool.or_eq_false_iff] at q; exact h.ix (Int.le_refl _) (i0 q.1.1)
  ·simp only [Bool.or_eq_false_iff] at q; exact h.name (Int.le_refl _) (i0 q.1.1)
  ·rw [zu3]
   intro ht
   have e:((gs.length:Nat):Int)=8:=by have:=ht.len; omega
   rw [e,ht.ru,ht.rp,ht.rn,zrr] at q
   simp at q
  ·simp only [Bool.or_eq_false_iff,Bool.not_eq_false',bne_eq_false_iff_eq,zik] at q
   obtain ⟨⟨⟨q1,ru⟩,rp⟩,rn⟩:=q
   have hl8:gs.length=8:=by omega
   refine zgd 8 1 rfl (fun k=>1≤k∧k≤8∧zafd gs k) ⟨Nat.le_refl _,by omega,⟨fun g h1 h2=>by omega⟩⟩ fun k ⟨hk1,hk,hS⟩=>⟨fun hlt => ?_,fun hge => ?_⟩
   ·have hlt:=of_decide_eq_true hlt
    have hk0:(0:Int)≤(k:Int):=by omega
    have step:((gi gs (k:Int)).used=true→zl1 (gi gs (k:Int)).name=true∧inB (zn5 9 gs (k:Int) 0) 1 3=true∧∀h:Int,1≤h→h<(k:Int)→(gi gs h).used=true→¬((gi gs h).parent=(gi gs (k:Int)).parent∧(gi gs h).name=(gi gs (k:Int)).name))→zafd gs ((k+1:Nat):Int):=fun hst=>⟨fun g h1 h2 hu=>by
     by_cases hgk:g<(k:Int)
     ·exact hS.each g h1 hgk hu
     ·have:g=(k:Int):=by omega
      subst this; exact hst hu⟩
    refine ⟨h.ix hk0 hlt,_,h.used hk0 hlt,fun hu=>⟨⟨by omega,by omega⟩,zal (by omega) ⟨by omega,by omega,step fun hu'=>by rw [hu'] at hu; cases hu⟩⟩,fun hu => ?_⟩
    have hu:(gi gs (k:Int)).used=true:=by simpa using hu
    refine ⟨h.ix hk0 hlt,_,h.name hk0 hlt,_,z39,zn5 9 gs (k:Int) 0,fun _ => ?_,inB (zn5 9 gs (k:Int) 0) 1 3,fun _=>zaw,fun q => ?_,fun q => ?_⟩
    ·have:=zpk (c:=c) (g:=(k:Int)) h (by rw [hl8]; simp [maxLen])
     rwa [hl8] at this ⊢
    ·rw [zu3]
     intro ht
     have:=(zabs ht).each (k:Int) (by omega) (by omega) hu
     rw [this.1,this.2.1] at q
     cases q
    ·simp only [Bool.or_eq_false_iff,Bool.not_eq_false'] at q
     refine zgd k 1 rfl (fun j=>1≤j∧j≤k∧∀h:Int,1≤h→h<(j:Int)→(gi gs h).used=true→¬((gi gs h).parent=(gi gs (k:Int)).parent∧(gi gs h).name=(gi gs (k:Int)).name)) ⟨Nat.le_refl _,hk1,fun g h1 h2=>by omega⟩ fun j ⟨hj1,hjk,hJ⟩=>⟨fun hlt2 => ?_,fun hge2 => ?_⟩
     ·have hlt2:=of_decide_eq_true hlt2
      have hj0:(0:Int)≤(j:Int):=by omega
      have hjl:(j:Int)<(gs.length:Int):=by omega
      refine ⟨h.ix hj0 hjl,_,h.used hj0 hjl,fun _=>h.ix hj0 hjl,_,fun _=>h.parent hj0 hjl,fun _=>h.ix hk0 hlt,_,fun _=>h.parent hk0 hlt,fun _=>h.ix hj0 hjl,_,fun _=>h.name hj0 hjl,fun _=>h.ix hk0 hlt,_,fun _=>h.name hk0 hlt,fun hs => ?_,fun hs=>⟨⟨by omega,by omega⟩,zal (by omega) ⟨by omega,by omega,fun g h1 h2 hg => ?_⟩⟩⟩
      ·rw [zu3]
       intro ht
       simp only [Bool.and_eq_true,beq_iff_eq,zik] at hs
       exact ht.uniq (k:Int) (j:Int) (by omega) hlt2 (by omega) hu hs.1.1 ⟨hs.1.2,hs.2⟩
      ·by_cases hgj:g<(j:Int)
       ·exact hJ g h1 hgj hg
       ·have:g=(j:Int):=by omega
        subst this
        rintro ⟨e1,e2⟩
        rw [hg,e1,e2,zrr] at hs
        simp at hs
     ·have hge2:=of_decide_eq_false hge2
      have:j=k:=by omega
      subst this
      exact ⟨⟨by omega,by omega⟩,zal (by omega) ⟨by omega,by omega,step fun _=>⟨q.1,q.2,hJ⟩⟩⟩
   ·have hge:=of_decide_eq_false hge
    have:k=8:=by omega
    subst this
    rw [zl8.2 (zae2 hl8 ru rp rn hS)]
theorem zgj {gs:List Grp} (ht:zfu gs) {h:Int} (hu:zad gs h=true) (hz:h≠0):zad gs (gi gs h).parent=true∧0≤h∧h<(gs.length:Int)∧∃d:Nat,dep 3 gs h=(d:Int)+1∧dep 3 gs (gi gs h).parent=(d:Int)∧d<3:=by
 obtain ⟨a,b,u⟩:=zac.1 hu
 have hl:=ht.len
 have h1:1≤h:=by omega
 have hd:=ht.dp h h1 (by omega) u
 refine ⟨ht.par h h1 (by omega) u,a,b,?_⟩
 have hr:=zjm gs 2 (gi gs h).parent
 have e:dep 3 gs h=if dep 2 gs (gi gs h).parent<0 then -1 else dep 2 gs (gi gs h).parent+1:=by simp only [dep,if_neg hz]
 rw [e] at hd ⊢
 split at hd
 ·omega
 ·rename_i hn
  rw [if_neg hn]
  have:=zqq gs 2 3 (gi gs h).parent (by omega) (by omega)
  exact ⟨(dep 2 gs (gi gs h).parent).toNat,by omega,by omega,by omega⟩
end
end Go.Proofs.YthhmnlcimojhlaaGreatDoor
namespace Go.Proofs.YthhmnlcimojhlaaGreatDoor
open Go.RowKit
set_option linter.unusedVariables false
set_option linter.unusedSimpArgs false
set_option maxRecDepth 10000
theorem zacr {s:ByteArray} {i:Nat} (h:i<s.size):((s.get! i).toNat:Int)=zjf s (i:Int):=by
 have hi:i<s.data.size:=h
 unfold zjf
 rw [Int.toNat_natCast]
 simp [ByteArray.get!,getElem!_pos s.data i hi,Array.getD,h]
theorem z6b {s:ByteArray} {i:Nat} (h:(s.get! i).toNat<128):Utf8.decode s i=((s.get! i).toNat,1):=by
 simp only [Utf8.decode,Nat.add_zero]
 rw [if_pos h]
theorem zacc {s:ByteArray} {i:Nat} (h:¬(s.get! i).toNat<128):128≤(Utf8.decode s i).1∧1≤(Utf8.decode s i).2:=by
 simp only [Utf8.decode,Nat.add_zero,Utf8.runeError]
 rw [if_neg h]
 split
 ·split
  ·rename_i h1; exact ⟨h1,by show 1≤2; omega⟩
  ·exact ⟨by decide,by decide⟩
 ·split
  ·split
   ·rename_i h1
    simp only [ge_iff_le,Bool.and_eq_true,decide_eq_true_eq] at h1
    exact ⟨by show 128≤_; omega,by show 1≤3; omega⟩
   ·exact ⟨by decide,by decide⟩
  ·split
   ·split
    ·rename_i h1
     simp only [ge_iff_le,Bool.and_eq_true,decide_eq_true_eq] at h1
     exact ⟨by show 128≤_; omega,by show 1≤4; omega⟩
    ·exact ⟨by decide,by decide⟩
   ·exact ⟨by decide,by decide⟩
theorem zac1 (w:World) (b:Nat) (s:ByteArray) (p:Nat):ExtX [b] w (zp4 w b s p) :=
 ⟨rfl,rfl,rfl,by simp [zp4],fun k _ hk=>by
  have:b≠k:=fun e=>hk (by simp [e])
  simp only [zp4]
  rw [Array.getElem?_setIfInBounds_ne this]⟩
theorem zagb {w:World} {b:Nat} {s:ByteArray} {p:Nat} (h:b<w.heap.size):(zp4 w b s p).heap[b]? = some (.stringIter s p):=by
 simp [zp4,h]
def zakl (b:Nat) (w:World):Nat:=match w.heap[b]? with
 | some (.stringIter s p)=>s.size+1 - p
 | _=>0
theorem z8d {s:ByteArray} (h1:zck s (⟨[119,101,105,103,104,116].toArray⟩)=false) (h2:zck s (⟨[109,97,120].toArray⟩)=false) (h3:zck s (⟨[99,112,117,115].toArray⟩)=false) (h4:zck s (⟨[112,114,111,99,115].toArray⟩)=false) (h5:zck s (⟨[115,116,97,116].toArray⟩)=false):zqu s=false:=by
 unfold zqu; rw [h1,h2,h3,h4,h5]; rfl
theorem zkb {s:ByteArray} (h:zqu s=true):zl1 s=false:=zn9 fun ⟨_,h2,_⟩=>by rw [h] at h2; cases h2
theorem z32 {s:ByteArray} {w:World} {bs:List Nat}:zab bs Tryz.prog zk0 #[.string s] w (.bool (zl1 s)):=by
 refine zos fun wr hx=>z3k s (R:=fun v w'=>v = .bool (zl1 s)∧ExtX [] wr w') ?_
 refine ⟨fun h => ?_,fun h1=>⟨fun h => ?_,fun h2=>⟨fun h => ?_,fun h3=>⟨fun h => ?_,fun h4=>⟨fun h => ?_,fun h5 => ?_⟩⟩⟩⟩⟩
 ·intro w1 hx1; rw [zkb (by unfold zqu; rw [h]; rfl)]; exact ⟨rfl,hx1⟩
 ·intro w1 hx1; rw [zkb (by unfold zqu; rw [h]; simp)]; exact ⟨rfl,hx1⟩
 ·intro w1 hx1; rw [zkb (by unfold zqu; rw [h]; simp)]; exact ⟨rfl,hx1⟩
 ·intro w1 hx1; rw [zkb (by unfold zqu; rw [h]; simp)]; exact ⟨rfl,hx1⟩
 ·intro w1 hx1; rw [zkb (by unfold zqu; rw [h]; simp)]; exact ⟨rfl,hx1⟩
 ·have hf:=z8d h1 h2 h3 h4 h5
  refine ⟨_,zaj,fun h => ?_,fun h => ?_⟩
  ·intro w1 hx1
   have h:inB (s.size:Int) 1 8=false:=by simpa using h
   have h:=zakb.1 h
   rw [zn9 fun ⟨h6,_⟩=>h (by omega)]
   exact ⟨rfl,hx1⟩
  ·have h:inB (s.size:Int) 1 8=true:=by simpa using h
   have h:=zaz.1 h
   intro w1 hx1 _
   refine ⟨some ⟨w1.heap.size,0,none⟩,w1.alloc (.stringIter s 0),by simp [Instr.range,run_underlying zu5],zby,?_⟩
   have hb0:(w1.alloc (.stringIter s 0)).heap[w1.heap.size]? = some (.stringIter s 0):=Array.getElem?_push_size ..
   have hX0:ExtX [] wr (w1.alloc (.stringIter s 0)):=hx1.trans (zb1 w1 _)
   have hbr:wr.heap.size≤w1.heap.size:=hx1.size
   generalize w1.heap.size=b at hb0 hbr
   generalize w1.alloc (.stringIter s 0)=w2 at hb0 hX0
   refine ⟨fun vs w'=>vs=[]∧ExtX [] wr w'∧∃p:Nat,p≤s.size∧w'.heap[b]? = some (.stringIter s p)∧∀j:Nat,j<p→okc (zjf s (j:Int))=true,fun _ w'=>zakl b w',fun w3 hx3 _=>⟨rfl,hX0.trans hx3,0,Nat.zero_le _,zat hb0 hx3 (by simp),fun j hj=>absurd hj (Nat.not_lt_zero j)⟩,?_⟩
   intro w3 _ ⟨_,hX,p,hp,hb,hI⟩ w4 hx4 _
   have hb4:=zat hb hx4 (by simp)
   refine ⟨b,s,p,rfl,by simp,hb4,fun hge=>⟨(by intro q; cases q),fun _ w5 hx5 => ?_⟩,fun hlt=>⟨fun _ => ?_,by intro q; cases q⟩⟩
   ·have:p=s.size:=by omega
    subst this
    rw [zsj.2 ⟨⟨by omega,by omega⟩,hf,hI⟩]
    exact ⟨rfl,(hX.trans hx4).trans hx5⟩
   ·have hX5:ExtX [] wr (zp4 w4 b s (p+(Utf8.decode s p).2)):=(hX.trans hx4).fresh (zac1 w4 b s _) fun x hm=>.inl (by rw [List.mem_singleton.1 hm]; exact hbr)
    have hg:=zacr hlt
    refine ⟨fun hno => ?_,fun hyes => ?_⟩
    ·intro w5 hx5
     have hno':zl1 s=false:=zn9 fun ⟨_,_,h3⟩=>by
      have h3:=h3 p hlt
      by_cases hlo:(s.get! p).toNat<128
      ·rw [z6b hlo] at hno
       simp only [hg] at hno
       unfold okc at h3
       rw [h3] at hno
       cases hno
      ·unfold okc at h3
       simp only [Bool.or_eq_true,Bool.and_eq_true,decide_eq_true_eq] at h3
       omega
     rw [hno']
     exact ⟨rfl,hX5.trans hx5⟩
    ·intro w5 hx5 _
     by_cases hlo:(s.get! p).toNat<128
     ·rw [z6b hlo] at hyes hX5 hx5
      simp only [hg] at hyes
      have hat:=zat (zagb (s:=s) (p:=p+1) (zkn hb4)) hx5 (by simp)
      refine ⟨⟨rfl,hX5.trans hx5,p+1,by omega,hat,fun j hj => ?_⟩,?_⟩
      ·by_cases hjp:j<p
       ·exact hI j hjp
       ·have:j=p:=by omega
        subst this
        unfold okc
        rw [Bool.not_eq_false'] at hyes
        exact hyes
      ·simp only [zakl,hat,hb]
       omega
     ·exfalso
      have:=zacc hlo
      rw [Bool.not_eq_false'] at hyes
      simp only [Bool.or_eq_true,Bool.and_eq_true,decide_eq_true_eq] at hyes
      omega
end Go.Proofs.YthhmnlcimojhlaaGreatDoor
