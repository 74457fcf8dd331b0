/- Part 9 of what the law FnStay needs: the engine, the functions' propositions, the contracts. -/
import Derived.Test.YtclpmgfpjeaibaaGreatDoorFnStayPh
namespace Go.Proofs.YtclpmgfpjeaibaaGreatDoor
open Go.RowKit
set_option linter.unusedVariables false
set_option linter.unusedSimpArgs false
set_option maxRecDepth 10000
theorem zab3 {s:ByteArray} {i:Nat} (h:i<s.size):((s.get! i).toNat:Int)=zje s (i:Int):=by
 have hi:i<s.data.size:=h
 unfold zje
 rw [Int.toNat_natCast]
 simp [ByteArray.get!,getElem!_pos s.data i hi,Array.getD,h]
theorem z5f {s:ByteArray} {i:Nat} (h:(s.get! i).toNat<128):Utf8.decode s i=((s.get! i).toNat,1):=by
 simp only [Utf8.decode,Nat.add_zero]
 rw [if_pos h]
theorem zabm {s:ByteArray} {i:Nat} (h:¬(s.get! i).toNat<128):128<=(Utf8.decode s i).1/\1<=(Utf8.decode s i).2:=by
 simp only [Utf8.decode,Nat.add_zero,Utf8.runeError]
 rw [if_neg h]
 split
 ·split
  ·rename_i h1; exact ⟨h1,by show 1<=2; omega⟩
  ·exact ⟨by decide,by decide⟩
 ·split
  ·split
   ·rename_i h1
    simp only [ge_iff_le,Bool.and_eq_true,decide_eq_true_eq] at h1
    exact ⟨by show 128<=_; omega,by show 1<=3; omega⟩
   ·exact ⟨by decide,by decide⟩
  ·split
   ·split
    ·rename_i h1
     simp only [ge_iff_le,Bool.and_eq_true,decide_eq_true_eq] at h1
     exact ⟨by show 128<=_; omega,by show 1<=4; omega⟩
    ·exact ⟨by decide,by decide⟩
   ·exact ⟨by decide,by decide⟩
theorem zacd (w:World) (b:Nat) (s:ByteArray) (p:Nat):ExtX [b] w (zps w b s p):=
 ⟨rfl,rfl,rfl,by simp [zps],fun k _ hk=>by
  have:b≠k:=fun e=>hk (by simp [e])
  simp only [zps]
  rw [Array.getElem?_setIfInBounds_ne this]⟩
theorem zaff {w:World} {b:Nat} {s:ByteArray} {p:Nat} (h:b<w.heap.size):(zps w b s p).heap[b]? = some (.stringIter s p):=by
 simp [zps,h]
def zake (b:Nat) (w:World):Nat:=match w.heap[b]? with
 | some (.stringIter s p)=>s.size+1 - p
 | _=>0
theorem z7r {s:ByteArray} (h1:zcs s (⟨[119,101,105,103,104,116].toArray⟩)=false) (h2:zcs s (⟨[109,97,120].toArray⟩)=false) (h3:zcs s (⟨[99,112,117,115].toArray⟩)=false) (h4:zcs s (⟨[112,114,111,99,115].toArray⟩)=false) (h5:zcs s (⟨[115,116,97,116].toArray⟩)=false):zqn s=false:=by
 unfold zqn; rw [h1,h2,h3,h4,h5]; rfl
theorem zj5 {s:ByteArray} (h:zqn s=true):zin s=false:=znk fun ⟨_,h2,_⟩=>by rw [h] at h2; cases h2
theorem z3g {s:ByteArray} {w:World} {bs:List Nat}:zad bs Tryz.prog zks #[.string s] w (.bool (zin s)):=by
 refine zri fun wr hx=>z2y s (R:=fun v w'=>v = .bool (zin s)/\ExtX [] wr w') ?_
 refine ⟨fun h => ?_,fun h1=>⟨fun h => ?_,fun h2=>⟨fun h => ?_,fun h3=>⟨fun h => ?_,fun h4=>⟨fun h => ?_,fun h5 => ?_⟩⟩⟩⟩⟩
 ·intro w1 hx1; rw [zj5 (by unfold zqn; rw [h]; rfl)]; exact ⟨rfl,hx1⟩
 ·intro w1 hx1; rw [zj5 (by unfold zqn; rw [h]; simp)]; exact ⟨rfl,hx1⟩
 ·intro w1 hx1; rw [zj5 (by unfold zqn; rw [h]; simp)]; exact ⟨rfl,hx1⟩
 ·intro w1 hx1; rw [zj5 (by unfold zqn; rw [h]; simp)]; exact ⟨rfl,hx1⟩
 ·intro w1 hx1; rw [zj5 (by unfold zqn; rw [h]; simp)]; exact ⟨rfl,hx1⟩
 ·have hf:=z7r h1 h2 h3 h4 h5
  refine ⟨_,zap,fun h => ?_,fun h => ?_⟩
  ·intro w1 hx1
   have h:inB (s.size:Int) 1 8=false:=by simpa using h
   have h:=zajw.1 h
   rw [znk fun ⟨h6,_⟩=>h (by omega)]
   exact ⟨rfl,hx1⟩
  ·have h:inB (s.size:Int) 1 8=true:=by simpa using h
   have h:=za6.1 h
   intro w1 hx1 _
   refine ⟨some ⟨w1.heap.size,0,none⟩,w1.alloc (.stringIter s 0),by simp [Instr.range,run_underlying z4w],ze8,?_⟩
   have hb0:(w1.alloc (.stringIter s 0)).heap[w1.heap.size]? = some (.stringIter s 0):=Array.getElem?_push_size ..
   have hX0:ExtX [] wr (w1.alloc (.stringIter s 0)):=hx1.trans (zcp w1 _)
   have hbr:wr.heap.size<=w1.heap.size:=hx1.size
   generalize w1.heap.size=b at hb0 hbr
   generalize w1.alloc (.stringIter s 0)=w2 at hb0 hX0
   refine ⟨fun vs w'=>vs=[]/\ExtX [] wr w'/\∃p:Nat,p<=s.size/\w'.heap[b]? = some (.stringIter s p)/\∀j:Nat,j<p->okc (zje s (j:Int))=true,fun _ w'=>zake b w',fun w3 hx3 _=>⟨rfl,hX0.trans hx3,0,Nat.zero_le _,za0 hb0 hx3 (by simp),fun j hj=>absurd hj (Nat.not_lt_zero j)⟩,?_⟩
   intro w3 _ ⟨_,hX,p,hp,hb,hI⟩ w4 hx4 _
   have hb4:=za0 hb hx4 (by simp)
   refine ⟨b,s,p,rfl,by simp,hb4,fun hge=>⟨(by intro q; cases q),fun _ w5 hx5 => ?_⟩,fun hlt=>⟨fun _ => ?_,by intro q; cases q⟩⟩
   ·have:p=s.size:=by omega
    subst this
    rw [zn9.2 ⟨⟨by omega,by omega⟩,hf,hI⟩]
    exact ⟨rfl,(hX.trans hx4).trans hx5⟩
   ·have hX5:ExtX [] wr (zps w4 b s (p+(Utf8.decode s p).2)):=(hX.trans hx4).fresh (zacd w4 b s _) fun x hm=>.inl (by rw [List.mem_singleton.1 hm]; exact hbr)
    have hg:=zab3 hlt
    refine ⟨fun hno => ?_,fun hyes => ?_⟩
    ·intro w5 hx5
     have hno':zin s=false:=znk fun ⟨_,_,h3⟩=>by
      have h3:=h3 p hlt
      by_cases hlo:(s.get! p).toNat<128
      ·rw [z5f hlo] at hno
       simp only [hg] at hno
       unfold okc at h3
       rw [h3] at hno
       cases hno
      ·unfold okc at h3
       simp only [Bool.or_eq_true,Bool.and_eq_true,decide_eq_true_eq] at h3
       omega
     rw [hno']
     exact ⟨rfl,hX5.trans hx5⟩
    ·intro w5 hx5 _
     by_cases hlo:(s.get! p).toNat<128
     ·rw [z5f hlo] at hyes hX5 hx5
      simp only [hg] at hyes
      have hat:=za0 (zaff (s:=s) (p:=p+1) (zjm hb4)) hx5 (by simp)
      refine ⟨⟨rfl,hX5.trans hx5,p+1,by omega,hat,fun j hj => ?_⟩,?_⟩
      ·by_cases hjp:j<p
       ·exact hI j hjp
       ·have:j=p:=by omega
        subst this
        unfold okc
        rw [Bool.not_eq_false'] at hyes
        exact hyes
      ·simp only [zake,hat,hb]
       omega
     ·exfalso
      have:=zabm hlo
      rw [Bool.not_eq_false'] at hyes
      simp only [Bool.or_eq_true,Bool.and_eq_true,decide_eq_true_eq] at hyes
      omega
end Go.Proofs.YtclpmgfpjeaibaaGreatDoor
