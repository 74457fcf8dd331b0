/- Part 9 of what the law FnNext needs: the engine, the functions' propositions, the contracts. -/
import Derived.Test.YtclpmgfpjeaibaaGreatDoorFnNextPh
namespace Go.Proofs.YtclpmgfpjeaibaaGreatDoor
open Go.RowKit
set_option linter.unusedVariables false
set_option linter.unusedSimpArgs false
set_option maxRecDepth 10000
theorem z3g {s:ByteArray} {w:World} {bs:List Nat}:zad bs Tryz.prog zku #[.string s] w (.bool (zir s)):=by
 refine zoe fun wr hx=>z2y s (R:=fun v w'=>v = .bool (zir s)/\ExtX [] wr w') ?_
 refine ⟨fun h => ?_,fun h1=>⟨fun h => ?_,fun h2=>⟨fun h => ?_,fun h3=>⟨fun h => ?_,fun h4=>⟨fun h => ?_,fun h5 => ?_⟩⟩⟩⟩⟩
 ·intro w1 hx1; rw [zj6 (by unfold zqn; rw [h]; rfl)]; exact ⟨rfl,hx1⟩
 ·intro w1 hx1; rw [zj6 (by unfold zqn; rw [h]; simp)]; exact ⟨rfl,hx1⟩
 ·intro w1 hx1; rw [zj6 (by unfold zqn; rw [h]; simp)]; exact ⟨rfl,hx1⟩
 ·intro w1 hx1; rw [zj6 (by unfold zqn; rw [h]; simp)]; exact ⟨rfl,hx1⟩
 ·intro w1 hx1; rw [zj6 (by unfold zqn; rw [h]; simp)]; exact ⟨rfl,hx1⟩
 ·have hf:=z7m h1 h2 h3 h4 h5
  refine ⟨_,zaq,fun h => ?_,fun h => ?_⟩
  ·intro w1 hx1
   have h:inB (s.size:Int) 1 8=false:=by simpa using h
   have h:=zajs.1 h
   rw [znl fun ⟨h6,_⟩=>h (by omega)]
   exact ⟨rfl,hx1⟩
  ·have h:inB (s.size:Int) 1 8=true:=by simpa using h
   have h:=za4.1 h
   intro w1 hx1 _
   refine ⟨some ⟨w1.heap.size,0,none⟩,w1.alloc (.stringIter s 0),by simp [Instr.range,run_underlying z4r],ze7,?_⟩
   have hb0:(w1.alloc (.stringIter s 0)).heap[w1.heap.size]? = some (.stringIter s 0):=Array.getElem?_push_size ..
   have hX0:ExtX [] wr (w1.alloc (.stringIter s 0)):=hx1.trans (zcn w1 _)
   have hbr:wr.heap.size<=w1.heap.size:=hx1.size
   generalize w1.heap.size=b at hb0 hbr
   generalize w1.alloc (.stringIter s 0)=w2 at hb0 hX0
   refine ⟨fun vs w'=>vs=[]/\ExtX [] wr w'/\∃p:Nat,p<=s.size/\w'.heap[b]? = some (.stringIter s p)/\∀j:Nat,j<p->okc (zjk s (j:Int))=true,fun _ w'=>zaka b w',fun w3 hx3 _=>⟨rfl,hX0.trans hx3,0,Nat.zero_le _,zay hb0 hx3 (by simp),fun j hj=>absurd hj (Nat.not_lt_zero j)⟩,?_⟩
   intro w3 _ ⟨_,hX,p,hp,hb,hI⟩ w4 hx4 _
   have hb4:=zay hb hx4 (by simp)
   refine ⟨b,s,p,rfl,by simp,hb4,fun hge=>⟨(by intro q; cases q),fun _ w5 hx5 => ?_⟩,fun hlt=>⟨fun _ => ?_,by intro q; cases q⟩⟩
   ·have:p=s.size:=by omega
    subst this
    rw [zoa.2 ⟨⟨by omega,by omega⟩,hf,hI⟩]
    exact ⟨rfl,(hX.trans hx4).trans hx5⟩
   ·have hX5:ExtX [] wr (zpw w4 b s (p+(Utf8.decode s p).2)):=(hX.trans hx4).fresh (zacb w4 b s _) fun x hm=>.inl (by rw [List.mem_singleton.1 hm]; exact hbr)
    have hg:=zab0 hlt
    refine ⟨fun hno => ?_,fun hyes => ?_⟩
    ·intro w5 hx5
     have hno':zir s=false:=znl fun ⟨_,_,h3⟩=>by
      have h3:=h3 p hlt
      by_cases hlo:(s.get! p).toNat<128
      ·rw [z5a hlo] at hno
       simp only [hg] at hno
       unfold okc at h3
       rw [h3] at hno
       cases hno
      ·unfold okc at h3
       simp only [Bool.or_eq_true,Bool.and_eq_true,decide_eq_true_eq] at h3
       omega
     rw [hno']
     exact ⟨rfl,hX5.trans hx5⟩
    ·intro w5 hx5 _
     by_cases hlo:(s.get! p).toNat<128
     ·rw [z5a hlo] at hyes hX5 hx5
      simp only [hg] at hyes
      have hat:=zay (zafd (s:=s) (p:=p+1) (zjb hb4)) hx5 (by simp)
      refine ⟨⟨rfl,hX5.trans hx5,p+1,by omega,hat,fun j hj => ?_⟩,?_⟩
      ·by_cases hjp:j<p
       ·exact hI j hjp
       ·have:j=p:=by omega
        subst this
        unfold okc
        rw [Bool.not_eq_false'] at hyes
        exact hyes
      ·simp only [zaka,hat,hb]
       omega
     ·exfalso
      have:=zabi hlo
      rw [Bool.not_eq_false'] at hyes
      simp only [Bool.or_eq_true,Bool.and_eq_true,decide_eq_true_eq] at hyes
      omega
end Go.Proofs.YtclpmgfpjeaibaaGreatDoor
