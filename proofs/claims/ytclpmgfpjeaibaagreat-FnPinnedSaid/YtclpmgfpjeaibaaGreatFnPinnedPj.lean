/- Part 10 of what the law FnPinned needs: the engine, the functions' propositions, the contracts. -/
import Derived.Test.YtclpmgfpjeaibaaGreatFnPinnedPi
namespace Go.Proofs.YtclpmgfpjeaibaaGreat
open Go.RowKit
set_option linter.unusedVariables false
set_option linter.unusedSimpArgs false
set_option maxRecDepth 10000
theorem LE {w:World} {bs:List Nat}:PX bs JL #[] w (.agg #[.int .i64 0,.int .i64 (UG 20 1),.int .i64 (UG 20 2),.int .i64 (UG 20 3),.int .i64 (UG 20 4),.int .i64 (UG 20 5),.int .i64 (UG 20 6),.int .i64 (UG 20 7),
 .int .i64 (UG 20 8),.int .i64 (UG 20 9),.int .i64 (UG 20 10),.int .i64 (UG 20 11),.int .i64 (UG 20 12),.int .i64 (UG 20 13),.int .i64 (UG 20 14),.int .i64 (UG 20 15),.int .i64 (UG 20 16),.int .i64 (UG 20 17),.int .i64 (UG 20 18),.int .i64 (UG 20 19),.int .i64 (UG 20 20)]):=
 LP fun wr hx=>by
  intro _ _ _ _
  refine ⟨fun vs=>∃k:Nat,k<=20/\vs=ztf k,fun vs=>match vs with
   | .int _ i::_=>(21 - i).toNat
   | _=>0,⟨0,by omega,rfl⟩,?_⟩
  rintro i l l1 l2 l3 l4 l5 l6 l7 l8 l9 l10 l11 l12 l13 l14 l15 l16 l17 l18 l19 l20 ⟨k,hk,he⟩;simp only [ztf,List.cons.injEq,Value.int.injEq,true_and,and_true] at he;obtain ⟨rfl,rfl,rfl,rfl,rfl,rfl,rfl,rfl,rfl,rfl,rfl,rfl,rfl,rfl,rfl,rfl,rfl,rfl,rfl,rfl,rfl,rfl⟩:=he;constructor
  ·intro h;have h:=of_decide_eq_true h;refine ⟨⟨by omega,?_⟩,⟨by omega,by omega⟩,by omega,?_⟩
   ·have:=A3 (w:=(k:Int)+1) (by omega) (by omega);exact J7 (by unfold zaf at this; omega) (by unfold zaf at this; omega)
   ·refine ⟨_,_,_,_,_,_,_,_,_,_,_,_,_,_,_,_,_,_,_,_,_,?_,J7 (by omega) (by omega),⟨k+1,by omega,rfl⟩,?_⟩
    ·have:k=0\/k=1\/k=2\/k=3\/k=4\/k=5\/k=6\/k=7\/k=8\/k=9\/k=10\/k=11\/k=12\/k=13\/k=14\/k=15\/k=16\/k=17\/k=18\/k=19:=by omega
     rcases this with rfl | rfl | rfl | rfl | rfl | rfl | rfl | rfl | rfl | rfl | rfl | rfl | rfl | rfl | rfl | rfl | rfl | rfl | rfl | rfl <;> rfl
    ·show (21 - (((k:Int)+1)+1)).toNat<(21 - ((k:Int)+1)).toNat;omega
  ·intro h;have h:=of_decide_eq_false h;have hk:k=20:=by omega
   subst hk;rfl
theorem zrk {k:Int} (h1:1<=k) (h2:k<=20):(#[.int .i64 0,.int .i64 (UG 20 1),.int .i64 (UG 20 2),.int .i64 (UG 20 3),.int .i64 (UG 20 4),.int .i64 (UG 20 5),.int .i64 (UG 20 6),.int .i64 (UG 20 7),
 .int .i64 (UG 20 8),.int .i64 (UG 20 9),.int .i64 (UG 20 10),.int .i64 (UG 20 11),.int .i64 (UG 20 12),.int .i64 (UG 20 13),.int .i64 (UG 20 14),.int .i64 (UG 20 15),.int .i64 (UG 20 16),.int .i64 (UG 20 17),.int .i64 (UG 20 18),.int .i64 (UG 20 19),.int .i64 (UG 20 20)]:Array Value)[Int.toNat k]? = some (.int .i64 (zaf k)):=by
 have:k=1\/k=2\/k=3\/k=4\/k=5\/k=6\/k=7\/k=8\/k=9\/k=10\/k=11\/k=12\/k=13\/k=14\/k=15\/k=16\/k=17\/k=18\/k=19\/k=20:=by omega
 rcases this with rfl | rfl | rfl | rfl | rfl | rfl | rfl | rfl | rfl | rfl | rfl | rfl | rfl | rfl | rfl | rfl | rfl | rfl | rfl | rfl <;> rfl
theorem Ur {n k:Int} {w:World} {bs:List Nat}:PX bs YA #[.int .i64 n,.int .i64 k] w (.int .i64 (QZ n k)):=
 LL n k fun wr hx=>by
  refine ⟨_,QG,_,fun _=>Tq,fun h => ?_,fun h => ?_⟩
  ·congr 1; unfold QZ; rw [if_neg]; intro h2; simp only [Bool.and_eq_true] at h2; simp [h2] at h
  ·have h2:Yn n 0 100000000=true/\Yn k 1 20=true:=by simpa using h
   rw [Qm,Qm] at h2;have hm:=zb7 h2.1.1 h2.1.2 h2.2.1 h2.2.2;refine ⟨_,_,_,_,_,_,_,_,_,_,_,_,_,_,_,_,_,_,_,_,_,LE,zaf k,⟨by omega,by omega,zrk h2.2.1 h2.2.2⟩,J7 (by omega) (by omega),?_⟩;rw [Ta h2.1.1 h2.1.2 h2.2.1 h2.2.2]
theorem N4 {k:Int} {w:World} {bs:List Nat}:PX bs Tg #[.int .i64 k] w (.int .i64 (Zk k)):=
 Nw k fun wr hx=>⟨_,Ur,rfl⟩
def Oz (s:ByteArray):Bool:=(((((Zl s (⟨[119,101,105,103,104,116].toArray⟩))||(Zl s (⟨[109,97,120].toArray⟩)))||(Zl s (⟨[99,112,117,115].toArray⟩)))||(Zl s (⟨[112,114,111,99,115].toArray⟩)))||(Zl s (⟨[115,116,97,116].toArray⟩)))
def zni (x:Int):Bool:=(((decide (x>=97))&&(decide (x<=122)))||((decide (x>=48))&&(decide (x<=57))))
def Jm (s:ByteArray):Bool:=Yn (s.size:Int) 1 8 && !Oz s&&(List.range s.size).all fun i=>zni (J9 s (i:Int))
theorem PJ {s:ByteArray}:Jm s=true↔(1<=s.size/\s.size<=8)/\Oz s=false/\∀i:Nat,i<s.size->zni (J9 s (i:Int))=true:=by
 unfold Jm;simp only [Bool.and_eq_true,Qm,Bool.not_eq_true',List.all_eq_true,List.mem_range];constructor
 ·rintro ⟨⟨h1,h2⟩,h3⟩; exact ⟨⟨by omega,by omega⟩,h2,h3⟩
 ·rintro ⟨⟨h0,h1⟩,h2,h3⟩; exact ⟨⟨⟨by omega,by omega⟩,h2⟩,h3⟩
theorem Pi {s:ByteArray} (h:¬((1<=s.size/\s.size<=8)/\Oz s=false/\∀i:Nat,i<s.size->zni (J9 s (i:Int))=true)):Jm s=false:=by
 cases hn:Jm s with
 | false=>rfl
 | true=>exact absurd (PJ.1 hn) h
theorem C4 {s:ByteArray} {w:World} {bs:List Nat}:PX bs TY #[.string s] w (.bool (Oz s)):=
 Ct s fun wr hx=>rfl
theorem KZ {s:ByteArray} {w:World} {bs:List Nat}:PX bs US #[.string s] w (.bool (Jm s)):=
 Cp s fun wr hx=>by
  refine ⟨_,Qj,Oz s,fun _=>C4,fun h => ?_,fun h => ?_⟩
  ·rw [Pi];rintro ⟨h1,h2,_⟩;rw [h2,Qm.2 (by omega)] at h;cases h
  ·have h:Yn (s.size:Int) 1 8=true/\Oz s=false:=by simpa using h
   have h1:=Qm.1 h.1;refine Xa s.size 0 rfl (fun k=>k<=s.size/\∀j:Nat,j<k->zni (J9 s (j:Int))=true) ⟨Nat.zero_le _,fun j hj=>absurd hj (Nat.not_lt_zero j)⟩ fun k ⟨hk,hI⟩=>⟨fun hlt => ?_,fun hge => ?_⟩
   ·have hlt:=of_decide_eq_true hlt;have hr:0<=(k:Int)/\(k:Int)<(s.size:Int):=⟨by omega,hlt⟩;refine ⟨hr,fun _=>hr,fun _=>hr,fun _ _=>hr,fun hno => ?_,fun hyes=>⟨⟨by omega,by omega⟩,Qu (by omega) ⟨by omega,fun j hj => ?_⟩⟩⟩
    ·rw [Pi];rintro ⟨_,_,h3⟩;have:=h3 k (by omega);unfold zni at this;rw [this] at hno;cases hno
    ·by_cases hjk:j<k
     ·exact hI j hjk
     ·have:j=k:=by omega
      subst this;unfold zni;rw [Bool.not_eq_false'] at hyes;exact hyes
   ·have hge:=of_decide_eq_false hge;have hk:k=s.size:=by omega
    subst hk;rw [PJ.2 ⟨⟨by omega,by omega⟩,h.2,hI⟩]
def Q6 (gs:List Zv) (g:Int):Bool:=(decide (g>=0)&&decide (g<(gs.length:Int)))&&(gi gs g).used
theorem Q5 {gs:List Zv} {g:Int}:Q6 gs g=true↔0<=g/\g<(gs.length:Int)/\(gi gs g).used=true:=by
 unfold Q6;simp [and_assoc]
def dep:Nat->List Zv->Int->Int
 | 0,_,g=>if g=0 then 0 else -1
 | f+1,gs,g=>if g=0 then 0 else if dep f gs (gi gs g).parent<0 then -1 else dep f gs (gi gs g).parent+1
def T5:Nat->List Zv->Int->Int->Int
 | 0,_,_,_ => -1
 | f+1,gs,g,n=>if Q6 gs g=false then -1 else if g=0 then n else T5 f gs (gi gs g).parent (n+1)
theorem Vp (gs:List Zv):∀(f:Nat) (g:Int),-1<=dep f gs g/\dep f gs g<=f
 | 0,g=>by simp only [dep]; split <;> omega
 | f+1,g=>by
  have:=Vp gs f (gi gs g).parent;simp only [dep];split
  ·omega
  ·split <;> omega
theorem Mu (gs:List Zv):∀(f f':Nat) (g:Int),0<=dep f gs g->dep f gs g<=f'->dep f' gs g=dep f gs g
 | 0,f',g,h,_=>by
  simp only [dep] at h ⊢
  split at h
  ·rename_i hg
   cases f' <;> simp [dep,hg]
  ·omega
 | f+1,f',g,h,hle=>by
  simp only [dep] at h hle ⊢
  by_cases hg:g=0
  ·rw [if_pos hg]
   cases f' <;> simp [dep,hg]
  ·rw [if_neg hg] at h hle ⊢
   by_cases hd:dep f gs (gi gs g).parent<0
   ·rw [if_pos hd] at h; omega
   ·rw [if_neg hd] at hle ⊢
    cases f' with
    | zero=>omega
    | succ f'=>
     have:=Mu gs f f' (gi gs g).parent (by omega) (by omega);simp only [dep];rw [if_neg hg,this,if_neg hd]
theorem Y4 (gs:List Zv) (f:Nat):dep f gs 0=0:=by cases f <;> simp [dep]
theorem zk0 {gs:List Zv} {f:Nat} {g:Int} (h:dep f gs g=0):g=0:=by
 cases f with
 | zero=>simp only [dep] at h; split at h <;> first | assumption | omega
 | succ f=>
  simp only [dep] at h
  split at h
  ·assumption
  ·split at h <;> omega
structure ZP (gs:List Zv):Prop where
 len:gs.length=8
 ru:(gi gs 0).used=true
 rp:(gi gs 0).parent = -1
 rn:(gi gs 0).name=⟨[].toArray⟩
 nm:∀g:Int,1<=g->g<8->(gi gs g).used=true->Jm (gi gs g).name=true
 par:∀g:Int,1<=g->g<8->(gi gs g).used=true->Q6 gs (gi gs g).parent=true
 dp:∀g:Int,1<=g->g<8->(gi gs g).used=true->0<=dep 3 gs g
 uniq:∀g h:Int,1<=h->h<g->g<8->(gi gs g).used=true->(gi gs h).used=true->¬((gi gs h).parent=(gi gs g).parent/\(gi gs h).name=(gi gs g).name)
noncomputable def OE (gs:List Zv):Bool := @decide (ZP gs) (Classical.propDecidable _)
theorem UC {gs:List Zv}:OE gs=true↔ZP gs := @decide_eq_true_iff _ (Classical.propDecidable _)
theorem Hm {gs:List Zv} (h:¬ZP gs):OE gs=false:=by
 cases hb:OE gs with
 | false=>rfl
 | true=>exact absurd (UC.1 hb) h
theorem GX {gs:List Zv} (hp:∀g:Int,g≠0->Q6 gs g=true->Q6 gs (gi gs g).parent=true):∀(f:Nat) (g n:Int),Q6 gs g=true->T5 (f+1) gs g n=if dep f gs g<0 then -1 else n+dep f gs g
 | 0,g,n,hu=>by
  simp only [T5,dep,hu]
  by_cases hg:g=0 <;> simp [hg]
 | f+1,g,n,hu=>by
  rw [T5];simp only [hu]
  by_cases hg:g=0
  ·simp [hg,dep]
  ·have ih:=GX hp f (gi gs g).parent (n+1) (hp g hg hu);have hr:=Vp gs f (gi gs g).parent;simp only [dep,if_neg hg];rw [ih]
   by_cases hd:dep f gs (gi gs g).parent<0
   ·simp [hd]
   ·have h2:¬(dep f gs (gi gs g).parent+1<0):=by omega
    simp [hd,h2]; omega
theorem zja {gs:List Zv} {f:Nat} {g n:Int} (hg:g≠0) (h:T5 (f+1) gs g n≠-1):f≠0/\Q6 gs (gi gs g).parent=true:=by
 rw [T5] at h
 by_cases hu:Q6 gs g=false
 ·rw [if_pos hu] at h; exact absurd rfl h
 ·rw [if_neg hu,if_neg hg] at h
  cases f with
  | zero=>exact absurd rfl h
  | succ f=>
   rw [T5] at h
   by_cases hp:Q6 gs (gi gs g).parent=false
   ·rw [if_pos hp] at h; exact absurd rfl h
   ·exact ⟨by omega,by simpa using hp⟩
structure zgy (gs:List Zv) (k:Int):Prop where
 each:∀g:Int,1<=g->g<k->(gi gs g).used=true->Jm (gi gs g).name=true/\Yn (T5 9 gs g 0) 1 3=true/\∀h:Int,1<=h->h<g->(gi gs h).used=true->¬((gi gs h).parent=(gi gs g).parent/\(gi gs h).name=(gi gs g).name)
theorem zj4 {gs:List Zv} (hl:gs.length=8) (ru:(gi gs 0).used=true) (rp:(gi gs 0).parent = -1) (rn:(gi gs 0).name=⟨[].toArray⟩) (h:zgy gs 8):ZP gs:=by
 have par:∀g:Int,1<=g->g<8->(gi gs g).used=true->Q6 gs (gi gs g).parent=true:=fun g h1 h2 hu=>by
  have:=Qm.1 (h.each g h1 h2 hu).2.1;exact (zja (f:=8) (n:=0) (by omega) (by show T5 9 gs g 0≠-1; omega)).2
 have hp:∀g:Int,g≠0->Q6 gs g=true->Q6 gs (gi gs g).parent=true:=fun g hg hu=>by
  obtain ⟨a,b,c⟩:=Q5.1 hu;exact par g (by omega) (by omega) c
 refine ⟨hl,ru,rp,rn,fun g h1 h2 hu=>(h.each g h1 h2 hu).1,par,fun g h1 h2 hu => ?_,fun g k h1 h2 h3 hu hk=>(h.each g (by omega) h3 hu).2.2 k h1 h2 hk⟩;have h9:=Qm.1 (h.each g h1 h2 hu).2.1;rw [GX hp 8 g 0 (Q5.2 ⟨by omega,by omega,hu⟩)] at h9
 split at h9
 ·omega
 ·rename_i hd;have:=Mu gs 8 3 g (by omega) (by omega);omega
theorem zil {gs:List Zv} (h:ZP gs):zgy gs 8:=by
 have hp:∀g:Int,g≠0->Q6 gs g=true->Q6 gs (gi gs g).parent=true:=fun g hg hu=>by
  obtain ⟨a,b,c⟩:=Q5.1 hu;have:=h.len;exact h.par g (by omega) (by omega) c
 refine ⟨fun g h1 h2 hu=>⟨h.nm g h1 h2 hu,?_,fun k h3 h4 hk=>h.uniq g k h3 h4 h2 hu hk⟩⟩;have hl:=h.len;rw [GX hp 8 g 0 (Q5.2 ⟨by omega,by omega,hu⟩)];have h3:=h.dp g h1 h2 hu;have hr:=Vp gs 3 g;have:=Mu gs 3 8 g h3 (by omega);rw [this,if_neg (by omega)];have hz:dep 3 gs g≠0:=fun e=>by have:=zk0 e; omega
 exact Qm.2 (by omega)
section
variable {gs:List Zv} {ms:Nat->MG} {o:OA} {c:Nat} {w:World} {bs:List Nat}
theorem M9.used (h:M9 bs w o gs ms) {i:Int} (h0:0<=i) (h1:i<(gs.length:Int)):Q2 bs w o (Int.toNat i*14+0) [.bool (gi gs i).used]:=(h.cells i h0 h1).get 0 _ rfl
theorem M9.parent (h:M9 bs w o gs ms) {i:Int} (h0:0<=i) (h1:i<(gs.length:Int)):Q2 bs w o (Int.toNat i*14+1) [.int .i64 (gi gs i).parent]:=(h.cells i h0 h1).get 1 _ rfl
theorem M9.name (h:M9 bs w o gs ms) {i:Int} (h0:0<=i) (h1:i<(gs.length:Int)):Q2 bs w o (Int.toNat i*14+2) [.string (gi gs i).name]:=(h.cells i h0 h1).get 2 _ rfl
theorem YH {g:Int} (h:M9 bs w o gs ms):PX bs ZH #[.slice o gs.length c,.int .i64 g] w (.bool (Q6 gs g)):=
 Cu o gs.length c g fun wr hx=>by
  have h:=(h.ext hx).less (cs:=[]) (by simp);refine ⟨fun q => ?_,(gi gs g).used,fun q => ?_,rfl⟩
  ·have q:0<=g/\g<(gs.length:Int):=by simpa using q
   exact h.ix q.1 q.2
  ·have q:0<=g/\g<(gs.length:Int):=by simpa using q
   exact h.used q.1 q.2
theorem Oc {g:Int} (h:M9 bs w o gs ms) (hl:gs.length<maxLen):PX bs XQ #[.slice o gs.length c,.int .i64 g] w (.int .i64 (T5 (gs.length+1) gs g 0)):=
 NH o gs.length c g fun wr hx=>by
  have h:=(h.ext hx).less (cs:=[]) (by simp);refine T6 (gs.length+1) 0 rfl (fun x k=>k<=gs.length+1/\T5 (gs.length+1 - k) gs x k=T5 (gs.length+1) gs g 0) ⟨by omega,rfl⟩ fun x k ⟨hk,he⟩=>⟨fun hlt => ?_,fun hge => ?_⟩
  ·have hlt:=of_decide_eq_true hlt;have hf:gs.length+1 - k=(gs.length - k)+1:=by omega
   rw [hf,T5] at he;refine ⟨_,YH h,fun hu => ?_,fun hu => ?_⟩
   ·have hu:Q6 gs x=false:=by simpa using hu
    rw [if_pos hu] at he;rw [<-he]
   ·have hu:Q6 gs x=true:=by simpa using hu
    rw [if_neg (by simp [hu])] at he;obtain ⟨u1,u2,u3⟩:=Q5.1 hu;refine ⟨fun hz => ?_,fun hz => ?_⟩
    ·rw [if_pos (by simpa using hz)] at he;rw [<-he]
    ·rw [if_neg (by simpa using hz)] at he;have hm:=Xt;refine ⟨h.ix u1 u2,_,h.parent u1 u2,⟨by omega,by omega⟩,Qx (by omega) ⟨by omega,?_⟩⟩;rw [<-he,show gs.length+1 - (k+1)=gs.length - k by omega];rfl
  ·have hge:=of_decide_eq_false hge;have:gs.length+1 - k=0:=by omega
   rw [this] at he;rw [<-he]; rfl
theorem L1 (h:M9 bs w o gs ms) (hl:gs.length<=maxLen):PX bs UU #[.slice o gs.length c] w (.bool (OE gs)):=
 Cq o gs.length c fun wr hx=>by
  have h:=(h.ext hx).less (cs:=[]) (by simp);have l8:((((gs.length:Nat):Int) != 8)=false)->gs.length=8:=fun q=>by have:=(bne_eq_false_iff_eq).1 q; omega
  have i0:∀q:(((gs.length:Nat):Int) != 8)=false,(0:Int)<(gs.length:Int):=fun q=>by have:=l8 q; omega
  refine ⟨fun q=>h.ix (Int.le_refl _) (i0 q),(gi gs 0).used,fun q=>h.used (Int.le_refl _) (i0 q),fun q => ?_,(gi gs 0).parent,fun q => ?_,fun q => ?_,(gi gs 0).name,fun q => ?_,fun q => ?_,fun q => ?_⟩
  ·simp only [Bool.or_eq_false_iff] at q; exact h.ix (Int.le_refl _) (i0 q.1)
  ·simp only [Bool.or_eq_false_iff] at q; exact h.parent (Int.le_refl _) (i0 q.1)
  ·simp only [Bool.or_eq_false_iff] at q; exact h.ix (Int.le_refl _) (i0 q.1.1)
  ·simp only [Bool.or_eq_false_iff] at q; exact h.name (Int.le_refl _) (i0 q.1.1)
  ·rw [Hm];intro ht;have e:((gs.length:Nat):Int)=8:=by have:=ht.len; omega
   rw [e,ht.ru,ht.rp,ht.rn,Hj] at q;simp at q
  ·simp only [Bool.or_eq_false_iff,Bool.not_eq_false',bne_eq_false_iff_eq,JA] at q;obtain ⟨⟨⟨q1,ru⟩,rp⟩,rn⟩:=q;have hl8:gs.length=8:=by omega
   refine Xa 8 1 rfl (fun k=>1<=k/\k<=8/\zgy gs k) ⟨Nat.le_refl _,by omega,⟨fun g h1 h2=>by omega⟩⟩ fun k ⟨hk1,hk,hS⟩=>⟨fun hlt => ?_,fun hge => ?_⟩
   ·have hlt:=of_decide_eq_true hlt;have hk0:(0:Int)<=(k:Int):=by omega
    have step:((gi gs (k:Int)).used=true->Jm (gi gs (k:Int)).name=true/\Yn (T5 9 gs (k:Int) 0) 1 3=true/\∀h:Int,1<=h->h<(k:Int)->(gi gs h).used=true->¬((gi gs h).parent=(gi gs (k:Int)).parent/\(gi gs h).name=(gi gs (k:Int)).name))->zgy gs ((k+1:Nat):Int):=fun hst=>⟨fun g h1 h2 hu=>by
     by_cases hgk:g<(k:Int)
     ·exact hS.each g h1 hgk hu
     ·have:g=(k:Int):=by omega
      subst this; exact hst hu⟩
    refine ⟨h.ix hk0 hlt,_,h.used hk0 hlt,fun hu=>⟨⟨by omega,by omega⟩,Qu (by omega) ⟨by omega,by omega,step fun hu'=>by rw [hu'] at hu; cases hu⟩⟩,fun hu => ?_⟩;have hu:(gi gs (k:Int)).used=true:=by simpa using hu
    refine ⟨h.ix hk0 hlt,_,h.name hk0 hlt,_,KZ,T5 9 gs (k:Int) 0,fun _ => ?_,Yn (T5 9 gs (k:Int) 0) 1 3,fun _=>Qj,fun q => ?_,fun q => ?_⟩
    ·have:=Oc (c:=c) (g:=(k:Int)) h (by rw [hl8]; simp [maxLen])
     rwa [hl8] at this ⊢
    ·rw [Hm];intro ht;have:=(zil ht).each (k:Int) (by omega) (by omega) hu;rw [this.1,this.2.1] at q;cases q
    ·simp only [Bool.or_eq_false_iff,Bool.not_eq_false'] at q;refine Xa k 1 rfl (fun j=>1<=j/\j<=k/\∀h:Int,1<=h->h<(j:Int)->(gi gs h).used=true->¬((gi gs h).parent=(gi gs (k:Int)).parent/\(gi gs h).name=(gi gs (k:Int)).name)) ⟨Nat.le_refl _,hk1,fun g h1 h2=>by omega⟩ fun j ⟨hj1,hjk,hJ⟩=>⟨fun hlt2 => ?_,fun hge2 => ?_⟩
     ·have hlt2:=of_decide_eq_true hlt2;have hj0:(0:Int)<=(j:Int):=by omega
      have hjl:(j:Int)<(gs.length:Int):=by omega
      refine ⟨h.ix hj0 hjl,_,h.used hj0 hjl,fun _=>h.ix hj0 hjl,_,fun _=>h.parent hj0 hjl,fun _=>h.ix hk0 hlt,_,fun _=>h.parent hk0 hlt,fun _=>h.ix hj0 hjl,_,fun _=>h.name hj0 hjl,fun _=>h.ix hk0 hlt,_,fun _=>h.name hk0 hlt,fun hs => ?_,fun hs=>⟨⟨by omega,by omega⟩,Qu (by omega) ⟨by omega,by omega,fun g h1 h2 hg => ?_⟩⟩⟩
      ·rw [Hm];intro ht;simp only [Bool.and_eq_true,beq_iff_eq,JA] at hs;exact ht.uniq (k:Int) (j:Int) (by omega) hlt2 (by omega) hu hs.1.1 ⟨hs.1.2,hs.2⟩
      ·by_cases hgj:g<(j:Int)
       ·exact hJ g h1 hgj hg
       ·have:g=(j:Int):=by omega
        subst this;rintro ⟨e1,e2⟩;rw [hg,e1,e2,Hj] at hs;simp at hs
     ·have hge2:=of_decide_eq_false hge2;have:j=k:=by omega
      subst this;exact ⟨⟨by omega,by omega⟩,Qu (by omega) ⟨by omega,by omega,step fun _=>⟨q.1,q.2,hJ⟩⟩⟩
   ·have hge:=of_decide_eq_false hge;have:k=8:=by omega
    subst this;rw [UC.2 (zj4 hl8 ru rp rn hS)]
def Vi:Nat->List Zv->Int->Int->Bool
 | 0,_,g,h=>h==g
 | f+1,gs,g,h=>h==g||(h != 0&&Vi f gs g (gi gs h).parent)
noncomputable def Tu (gs:List Zv) (g h:Int):Bool:=OE gs&&Q6 gs g&&Q6 gs h&&Vi 3 gs g h
theorem ZQ {gs:List Zv} (ht:ZP gs) {h:Int} (hu:Q6 gs h=true) (hz:h≠0):Q6 gs (gi gs h).parent=true/\0<=h/\h<(gs.length:Int)/\∃d:Nat,dep 3 gs h=(d:Int)+1/\dep 3 gs (gi gs h).parent=(d:Int)/\d<3:=by
 obtain ⟨a,b,u⟩:=Q5.1 hu;have hl:=ht.len;have h1:1<=h:=by omega
 have hd:=ht.dp h h1 (by omega) u;refine ⟨ht.par h h1 (by omega) u,a,b,?_⟩;have hr:=Vp gs 2 (gi gs h).parent;have e:dep 3 gs h=if dep 2 gs (gi gs h).parent<0 then -1 else dep 2 gs (gi gs h).parent+1:=by simp only [dep,if_neg hz]
 rw [e] at hd ⊢
 split at hd
 ·omega
 ·rename_i hn;rw [if_neg hn];have:=Mu gs 2 3 (gi gs h).parent (by omega) (by omega);exact ⟨(dep 2 gs (gi gs h).parent).toNat,by omega,by omega,by omega⟩
theorem zi5 {gs:List Zv} (ht:ZP gs) (g:Int):∀(f f':Nat) (h:Int),Q6 gs h=true->dep 3 gs h<=f->dep 3 gs h<=f'->Vi f gs g h=Vi f' gs g h:=by
 intro f
 induction f with
 | zero=>
  intro f' h hu h1 h2
  have hz:h=0:=Decidable.byContradiction fun hz=>by
   obtain ⟨_,_,_,d,e,_⟩:=ZQ ht hu hz;omega
  subst hz
  cases f' <;> simp [Vi]
 | succ f ih=>
  intro f' h hu h1 h2
  by_cases hz:h=0
  ·subst hz
   cases f' <;> simp [Vi]
  ·obtain ⟨hp,_,_,d,e,e2,_⟩:=ZQ ht hu hz
   cases f' with
   | zero=>omega
   | succ f'=>
    simp only [Vi];rw [ih f' (gi gs h).parent hp (by omega) (by omega)]
theorem CT {gs:List Zv} (ht:ZP gs) {g h:Int} (hu:Q6 gs h=true) (hz:h≠0) (hg:h≠g):Vi 3 gs g h=Vi 3 gs g (gi gs h).parent:=by
 obtain ⟨hp,_,_,d,e,e2,hd⟩:=ZQ ht hu hz;rw [<-zi5 ht g 2 3 (gi gs h).parent hp (by omega) (by omega)];have e3:Vi 3 gs g h=(h==g||(h != 0&&Vi 2 gs g (gi gs h).parent)):=rfl;rw [e3];have e4:(h==g)=false:=by simpa using hg
 have e5:(h != 0)=true:=by simpa using hz
 rw [e4,e5,Bool.false_or,Bool.true_and]
theorem VJ {g h:Int} (hr:M9 bs w o gs ms) (hl:gs.length<=maxLen):PX bs X8 #[.slice o gs.length c,.int .i64 g,.int .i64 h] w (.bool (Tu gs g h)):=
 DC o gs.length c g h fun wr hx=>by
  have hr:=(hr.ext hx).less (cs:=[]) (by simp);refine ⟨_,L1 hr hl,_,fun _=>YH hr,_,fun _=>YH hr,fun q => ?_,fun q => ?_⟩
  ·have:Tu gs g h=false:=by
    unfold Tu
    cases h1:OE gs <;> cases h2:Q6 gs g <;> cases h3:Q6 gs h <;> simp_all
   rw [this]
  ·simp only [Bool.or_eq_false_iff,Bool.not_eq_false'] at q;obtain ⟨⟨q1,q2⟩,q3⟩:=q;have ht:=UC.1 q1;have hU:Tu gs g h=Vi 3 gs g h:=by unfold Tu; rw [q1,q2,q3]; rfl
   refine ⟨fun vs=>∃x:Int,vs=[.int .i64 x]/\Q6 gs x=true/\Vi 3 gs g x=Vi 3 gs g h,fun vs=>(dep 3 gs (ZW 0 vs)).toNat,⟨h,rfl,q3,rfl⟩,?_⟩;rintro x ⟨x',he,hu,hI⟩;simp only [List.cons.injEq,Value.int.injEq,true_and,and_true] at he;subst he;refine ⟨fun hne=>⟨fun hz => ?_,fun hz => ?_⟩,fun heq => ?_⟩
   ·have hz:x=0:=by simpa using hz
    subst hz
    have:Vi 3 gs g 0=false:=by
     have:¬(0=g):=by simpa using hne
     simp [Vi,this]
    rw [hU,<-hI,this]
   ·have hz:x≠0:=by simpa using hz
    have hne:x≠g:=by simpa using hne
    obtain ⟨hp,a,b,d,e,e2,hd⟩:=ZQ ht hu hz;refine ⟨hr.ix a b,_,hr.parent a b,⟨_,rfl,hp,by rw [<-CT ht hu hz hne]; exact hI⟩,?_⟩;show (dep 3 gs (gi gs x).parent).toNat<(dep 3 gs x).toNat;omega
   ·have heq:x=g:=by simpa using heq
    subst heq;rw [hU,<-hI];simp [Vi]
end
theorem zi2 {s:ByteArray} {i:Nat} (h:i<s.size):((s.get! i).toNat:Int)=J9 s (i:Int):=by
 have hi:i<s.data.size:=h;unfold J9;rw [Int.toNat_natCast];simp [ByteArray.get!,getElem!_pos s.data i hi,Array.getD,h]
theorem CO {s:ByteArray} {i:Nat} (h:(s.get! i).toNat<128):Utf8.decode s i=((s.get! i).toNat,1):=by
 simp only [Utf8.decode,Nat.add_zero];rw [if_pos h]
theorem ziu {s:ByteArray} {i:Nat} (h:¬(s.get! i).toNat<128):128<=(Utf8.decode s i).1/\1<=(Utf8.decode s i).2:=by
 simp only [Utf8.decode,Nat.add_zero,Utf8.runeError];rw [if_neg h];split
 ·split
  ·rename_i h1; exact ⟨h1,by show 1<=2; omega⟩
  ·exact ⟨by decide,by decide⟩
 ·split
  ·split
   ·rename_i h1;simp only [ge_iff_le,Bool.and_eq_true,decide_eq_true_eq] at h1;exact ⟨by show 128<=_; omega,by show 1<=3; omega⟩
   ·exact ⟨by decide,by decide⟩
  ·split
   ·split
    ·rename_i h1;simp only [ge_iff_le,Bool.and_eq_true,decide_eq_true_eq] at h1;exact ⟨by show 128<=_; omega,by show 1<=4; omega⟩
    ·exact ⟨by decide,by decide⟩
   ·exact ⟨by decide,by decide⟩
theorem zi8 (w:World) (b:Nat) (s:ByteArray) (p:Nat):Q0 [b] w (O7 w b s p):=
 ⟨rfl,rfl,rfl,by simp [O7],fun k _ hk=>by
  have:b≠k:=fun e=>hk (by simp [e])
  simp only [O7];rw [Array.getElem?_setIfInBounds_ne this]⟩
theorem zlo {w:World} {b:Nat} {s:ByteArray} {p:Nat} (h:b<w.heap.size):(O7 w b s p).heap[b]? = some (.stringIter s p):=by
 simp [O7,h]
def zp3 (b:Nat) (w:World):Nat:=match w.heap[b]? with
 | some (.stringIter s p)=>s.size+1 - p
 | _=>0
theorem zdg {s:ByteArray} (h1:Zl s (⟨[119,101,105,103,104,116].toArray⟩)=false) (h2:Zl s (⟨[109,97,120].toArray⟩)=false) (h3:Zl s (⟨[99,112,117,115].toArray⟩)=false) (h4:Zl s (⟨[112,114,111,99,115].toArray⟩)=false) (h5:Zl s (⟨[115,116,97,116].toArray⟩)=false):Oz s=false:=by
 unfold Oz; rw [h1,h2,h3,h4,h5]; rfl
theorem T7 {s:ByteArray} (h:Oz s=true):Jm s=false:=Pi fun ⟨_,h2,_⟩=>by rw [h] at h2; cases h2
theorem AT {s:ByteArray} {w:World} {bs:List Nat}:PX bs TT #[.string s] w (.bool (Jm s)):=by
 refine MX fun wr hx=>AJ s (R:=fun v w'=>v = .bool (Jm s)/\Q0 [] wr w') ?_
 refine ⟨fun h => ?_,fun h1=>⟨fun h => ?_,fun h2=>⟨fun h => ?_,fun h3=>⟨fun h => ?_,fun h4=>⟨fun h => ?_,fun h5 => ?_⟩⟩⟩⟩⟩
 ·intro w1 hx1; rw [T7 (by unfold Oz; rw [h]; rfl)]; exact ⟨rfl,hx1⟩
 ·intro w1 hx1; rw [T7 (by unfold Oz; rw [h]; simp)]; exact ⟨rfl,hx1⟩
 ·intro w1 hx1; rw [T7 (by unfold Oz; rw [h]; simp)]; exact ⟨rfl,hx1⟩
 ·intro w1 hx1; rw [T7 (by unfold Oz; rw [h]; simp)]; exact ⟨rfl,hx1⟩
 ·intro w1 hx1; rw [T7 (by unfold Oz; rw [h]; simp)]; exact ⟨rfl,hx1⟩
 ·have hf:=zdg h1 h2 h3 h4 h5;refine ⟨_,QG,fun h => ?_,fun h => ?_⟩
  ·intro w1 hx1;have h:Yn (s.size:Int) 1 8=false:=by simpa using h
   have h:=zpz.1 h;rw [Pi fun ⟨h6,_⟩=>h (by omega)];exact ⟨rfl,hx1⟩
  ·have h:Yn (s.size:Int) 1 8=true:=by simpa using h
   have h:=Qm.1 h;intro w1 hx1 _;refine ⟨some ⟨w1.heap.size,0,none⟩,w1.alloc (.stringIter s 0),by simp [Instr.range,run_underlying A6],Oe,?_⟩;have hb0:(w1.alloc (.stringIter s 0)).heap[w1.heap.size]? = some (.stringIter s 0):=Array.getElem?_push_size ..;have hX0:Q0 [] wr (w1.alloc (.stringIter s 0)):=hx1.trans (Z9 w1 _);have hbr:wr.heap.size<=w1.heap.size:=hx1.size;generalize w1.heap.size=b at hb0 hbr;generalize w1.alloc (.stringIter s 0)=w2 at hb0 hX0;refine ⟨fun vs w'=>vs=[]/\Q0 [] wr w'/\∃p:Nat,p<=s.size/\w'.heap[b]? = some (.stringIter s p)/\∀j:Nat,j<p->zni (J9 s (j:Int))=true,fun _ w'=>zp3 b w',fun w3 hx3 _=>⟨rfl,hX0.trans hx3,0,Nat.zero_le _,VS hb0 hx3 (by simp),fun j hj=>absurd hj (Nat.not_lt_zero j)⟩,?_⟩;intro w3 _ ⟨_,hX,p,hp,hb,hI⟩ w4 hx4 _;have hb4:=VS hb hx4 (by simp);refine ⟨b,s,p,rfl,by simp,hb4,fun hge=>⟨(by intro q; cases q),fun _ w5 hx5 => ?_⟩,fun hlt=>⟨fun _ => ?_,by intro q; cases q⟩⟩
   ·have:p=s.size:=by omega
    subst this;rw [PJ.2 ⟨⟨by omega,by omega⟩,hf,hI⟩];exact ⟨rfl,(hX.trans hx4).trans hx5⟩
   ·have hX5:Q0 [] wr (O7 w4 b s (p+(Utf8.decode s p).2)):=(hX.trans hx4).fresh (zi8 w4 b s _) fun x hm=>.inl (by rw [List.mem_singleton.1 hm]; exact hbr)
    have hg:=zi2 hlt;refine ⟨fun hno => ?_,fun hyes => ?_⟩
    ·intro w5 hx5
     have hno':Jm s=false:=Pi fun ⟨_,_,h3⟩=>by
      have h3:=h3 p hlt
      by_cases hlo:(s.get! p).toNat<128
      ·rw [CO hlo] at hno;simp only [hg] at hno;unfold zni at h3;rw [h3] at hno;cases hno
      ·unfold zni at h3;simp only [Bool.or_eq_true,Bool.and_eq_true,decide_eq_true_eq] at h3;omega
     rw [hno'];exact ⟨rfl,hX5.trans hx5⟩
    ·intro w5 hx5 _
     by_cases hlo:(s.get! p).toNat<128
     ·rw [CO hlo] at hyes hX5 hx5;simp only [hg] at hyes;have hat:=VS (zlo (s:=s) (p:=p+1) (Vn hb4)) hx5 (by simp);refine ⟨⟨rfl,hX5.trans hx5,p+1,by omega,hat,fun j hj => ?_⟩,?_⟩
      ·by_cases hjp:j<p
       ·exact hI j hjp
       ·have:j=p:=by omega
        subst this;unfold zni;rw [Bool.not_eq_false'] at hyes;exact hyes
      ·simp only [zp3,hat,hb];omega
     ·exfalso
      have:=ziu hlo;rw [Bool.not_eq_false'] at hyes;simp only [Bool.or_eq_true,Bool.and_eq_true,decide_eq_true_eq] at hyes;omega
end Go.Proofs.YtclpmgfpjeaibaaGreat
