/- Part 1 of what the law FnParts needs. -/
import Derived.WalkKit
import Derived.Deep.Quiet
set_option linter.all false
set_option maxRecDepth 100000
set_option maxHeartbeats 8000000
namespace Go.Proofs.YtjinkcmkgnofjaaGreatDoor
open Go.RowKit
abbrev I (x:Int):Value:=.int .i64 x
abbrev S:=Value.slice
abbrev OA:=Option Addr
abbrev RT:=Value->World->Prop
abbrev Wo:=World
abbrev Va:=Value
theorem Ot{p:Prop}[Decidable p](h:decide p=true):p:=of_decide_eq_true h
theorem Ou{p:Prop}[Decidable p](h:decide p=false):¬p:=of_decide_eq_false h
theorem Qo{p:Prop}(h:p:=by omega):p:=h
theorem Qd{p:Prop}(h:p:=by decide):p:=h
theorem Qs{p:Prop}(h:p:=by simp):p:=h
theorem Qk{p:Prop}(h:p:=by kernel_rfl):p:=h
abbrev A':=@Bool.and_eq_true
abbrev B':=@if_neg
abbrev C':=@if_pos
abbrev E':=@List.length_set
abbrev H':=@Bool.or_eq_false_iff
abbrev I0:=@Option.some.injEq
abbrev I1:=@List.mem_cons_of_mem
abbrev I2:=@Int.le_refl
abbrev I3:=@Calls.mono
abbrev I4:=@List.cons.injEq
abbrev I5:=@Value.int.injEq
abbrev I6:=@Bool.not_eq_false'
abbrev I7:=@Nat.le_refl
abbrev I8:=@List.getElem?_eq_some_iff
abbrev I9:=@List.mem_cons_self
abbrev Ia:=@List.mem_append_left
abbrev Ib:=@Nat.eq_of_beq_eq_true
abbrev Ic:=@Nat.zero_le
abbrev Ie:=@List.getElem?_cons_zero
abbrev Ig:=@Int.toNat_natCast
abbrev Ih:=@decide_eq_true
abbrev Ii:=@List.mem_cons
abbrev Ij:=@decide_eq_true_eq
abbrev Ik:=@Nat.le_of_ble_eq_true
abbrev Il:=@List.getElem?_eq_getElem
abbrev Im:=@List.mem_append
abbrev Io:=@List.length_append
abbrev Ip:=@List.getElem?_append_left
abbrev Iq:=@Decidable.byContradiction
abbrev Ir:=@absurd
abbrev Is:=@beq_iff_eq
abbrev It:=@bne_iff_ne
abbrev Iu:=@Bool.or_eq_true
abbrev Iv:=@Value.slice.injEq
abbrev Iw:=@List.getElem?_eq_none
abbrev Iy:=@List.mem_append_right
abbrev Iz:=@eq_of_beq
abbrev IA:=@List.mem_singleton
abbrev IB:=@Nat.le_trans
abbrev IC:=@Int.le_trans
abbrev ID:=@Bool.not_eq_true'
inductive PT (α:Type) where
 |leaf
 |node (l:PT α) (v:Option α) (r:PT α)
def PT.get{α:Type}:PT α->Nat->Option α
 |.leaf,_=>none
 |.node l v r,i=>bif Nat.beq i 0 then v else bif Nat.beq (i % 2) 1 then l.get (i / 2) else r.get (i / 2-1)
def PT.lt{α:Type}:PT α->PT α
 |.leaf=>.leaf
 |.node l _ _=>l
def PT.rt{α:Type}:PT α->PT α
 |.leaf=>.leaf
 |.node _ _ r=>r
def PT.vl{α:Type}:PT α->Option α
 |.leaf=>none
 |.node _ v _=>v
def PT.set{α:Type}:Nat->PT α->Nat->α->PT α
 |0,t,_,_=>t
 |d+1,t,i,x=>
  bif Nat.beq i 0 then .node t.lt (some x) t.rt
  else bif Nat.beq (i % 2) 1 then .node (PT.set d t.lt (i / 2) x) t.vl t.rt
  else .node t.lt t.vl (PT.set d t.rt (i / 2-1) x)
def Ed{a b:Nat}(h:a≠b):Nat.beq a b=false:=by
 cases hb:Nat.beq a b with
 |false=>rfl
 |true=>exact Ir (Ib hb) h
def zks{a b:Nat}(h:a=b):Nat.beq a b:=by subst h;exact Nat.beq_refl a
def PT.Bb8{α:Type}(t:PT α)(i:Nat) :
  t.get i=bif Nat.beq i 0 then t.vl else bif Nat.beq (i % 2) 1 then t.lt.get (i / 2) else t.rt.get (i / 2-1):=by
 cases t with
 |leaf=>simp[PT.get,PT.vl,PT.lt,PT.rt]
 |node l v r=>simp[PT.get,PT.vl,PT.lt,PT.rt]
def PT.kM{α:Type}(x:α):∀(d:Nat) (t:PT α) (i j:Nat),i+1<2 ^ d->(PT.set d t i x).get j=if i=j then some x else t.get j
 |0,_,i,_,h=>by simp at h
 |d+1,t,i,j,h=>by
  have hp:2 ^ (d+1)=2*2 ^ d:=by rw[Nat.pow_succ];omega
  rw[PT.Bb8 t j];unfold PT.set
  by_cases hi:i=0
  ·subst hi
   by_cases hj:j=0
   ·subst hj;simp[PT.get]
   ·have:¬(0=j):=Qo;simp[PT.get,Ed hj,this]
  ·have e1:Nat.beq i 0=false:=Ed hi;rw[e1]
   by_cases ho:i % 2=1
   ·have e2:Nat.beq (i % 2) 1:=zks ho;rw[e2];simp only[cond_true,cond_false]
    by_cases hj:j=0
    ·subst hj;simp[PT.get,hi]
    ·have e3:Nat.beq j 0=false:=Ed hj;simp only[PT.get,e3,cond_false]
     by_cases hoj:j % 2=1
     ·have e4:Nat.beq (j % 2) 1:=zks hoj;rw[e4];simp only[cond_true];rw[PT.kM x d t.lt (i / 2) (j / 2) Qo]
      by_cases hij:i=j
      ·subst hij;simp
      ·rw[B' hij,B' Qo]
     ·have e4:Nat.beq (j % 2) 1=false:=Ed hoj;rw[e4];simp only[cond_false];rw[B' (by rintro rfl;exact hoj ho)]
   ·have e2:Nat.beq (i % 2) 1=false:=Ed ho;rw[e2];simp only[cond_false]
    by_cases hj:j=0
    ·subst hj;simp[PT.get,hi]
    ·have e3:Nat.beq j 0=false:=Ed hj;simp only[PT.get,e3,cond_false]
     by_cases hoj:j % 2=1
     ·have e4:Nat.beq (j % 2) 1:=zks hoj;rw[e4];simp only[cond_true];rw[B' (by rintro rfl;exact ho hoj)]
     ·have e4:Nat.beq (j % 2) 1=false:=Ed hoj;rw[e4];simp only[cond_false];rw[PT.kM x d t.rt (i / 2-1) (j / 2-1) Qo]
      by_cases hij:i=j
      ·subst hij;simp
      ·rw[B' hij,B' Qo]
inductive EV where
 |v (x:Va)
 |loc (id off:Nat)
 |el (o:OA) (n:Nat)
 |ls (id len:Nat)
 |le (id:Nat) (i:Int) (k:Nat)
 |no
 |kb (x:Bool)
inductive SV where
 |un (x:EV)
 |gd (r:Nat) (pc:List (Nat×Bool)) (x:EV)
structure St where
 F:PT SV
 L:List (TypeId×List Va)
 B:List Nat
 old:Nat
 lk:List Nat
 r:Nat
structure Q0 (bs:List Nat) (w w':Wo):Prop where
 os:w'.os=w.os
 tape:w'.tape=w.tape
 output:w'.output=w.output
 size:w.heap.size<=w'.heap.size
 block:∀k,k<w.heap.size->k∉bs->w'.heap[k]? = w.heap[k]?
def Q0.refl(bs:List Nat)(w:Wo):Q0 bs w w:=⟨rfl,rfl,rfl,I7 _,λ_ _ _=>rfl⟩
def Q0.trans{bs:List Nat}{a b c:Wo}(h:Q0 bs a b)(k:Q0 bs b c):Q0 bs a c:=
 ⟨k.os.trans h.os,k.tape.trans h.tape,k.output.trans h.output,IB h.size k.size,λi hi hb=>(k.block i (Nat.lt_of_lt_of_le hi h.size) hb).trans (h.block i hi hb)⟩
def Q0.mono{bs cs:List Nat}{a b:Wo}(h:Q0 bs a b)(hs:∀x∈bs,x∈cs):Q0 cs a b:=
 ⟨h.os,h.tape,h.output,h.size,λi hi hb=>h.block i hi (λhx=>hb (hs i hx))⟩
def Q0.of_nil{bs:List Nat}{a b:Wo}(h:Q0 [] a b):Q0 bs a b:=h.mono Qs
def Q0.drew{bs:List Nat}{a b:Wo}(h:Q0 bs a b):Q0 bs a b.drew:=⟨h.os,h.tape,h.output,h.size,h.block⟩
def Q0.drawn{bs:List Nat}{a b:Wo}(h:Q0 bs a b)(n:Nat):Q0 bs a { b with drawn:=n }:=⟨h.os,h.tape,h.output,h.size,h.block⟩
def Q0.alloc{bs:List Nat}{a b:Wo}(h:Q0 bs a b)(o:Obj):Q0 bs a (b.alloc o):=
 ⟨h.os,h.tape,h.output,by have:=h.size;simp;omega,λi hi hb=>(Below.heap_alloc b o i (Nat.lt_of_lt_of_le hi h.size)).trans (h.block i hi hb)⟩
def Q0.setCell{bs:List Nat}{a b:Wo}(h:Q0 bs a b){p:Addr}(hp:a.heap.size<=p.block\/p.block∈bs)(u:Va):Q0 bs a (b.setCell p u):=
 ⟨h.os,h.tape,h.output,by have:=h.size;simp;omega,λi hi hb=>(Below.heap_setCell b p u i (by
  rintro rfl;rcases hp with hp|hp
  ·omega
  ·exact hb hp)).trans (h.block i hi hb)⟩
def Q0.below{a b:Wo}(h:Q0 [] a b):Below a.heap.size a b:=⟨h.os,h.tape,h.output,h.size,λk hk=>h.block k hk Qs⟩
def JH(bs:List Nat)(w:Wo)(o:OA)(n:Nat)(v:Va):Prop:=∃a,o=some a/\a.block∉bs/\w.cell? (a.add n)=some v
def Q1(bs:List Nat)(w:Wo)(o:OA):Nat->List Va->Prop
 |_,[]=>True
 |n,[v]=>JH bs w o n v
 |n,v::r=>JH bs w o n v/\Q1 bs w o (n+1) r
def ZW(a:Addr)(n:Nat):(a.add n).block=a.block:=by unfold Addr.add;split <;> rfl
def JJ(a:Addr)(i j:Nat):(a.add i).add j=a.add (i+j):=by
 unfold Addr.add
 by_cases hi:i=0 <;> by_cases hj:j=0 <;> simp[hi,hj,Nat.add_assoc]
def JH.ext{bs:List Nat}{w w':Wo}{o:OA}{n:Nat}{v:Va}(h:JH bs w o n v)(hx:Q0 bs w w'):JH bs w' o n v:=by
 obtain⟨a,ho,hb,hc⟩:=h;refine⟨a,ho,hb,?_⟩;have IW:=World.block_lt_of_cell? w _ hc;rw[ZW] at IW;rw[<-hc];exact World.cell?_of_block (w:=w) (hx.block _ (by rw[ZW];exact IW) (by rw[ZW];exact hb))
def JH.less{bs cs:List Nat}{w:Wo}{o:OA}{n:Nat}{v:Va}(h:JH bs w o n v)(hs:∀x∈cs,x∈bs):JH cs w o n v:=by
 obtain⟨a,ho,hb,hc⟩:=h;exact⟨a,ho,λhx=>hb (hs _ hx),hc⟩
def JH.inj{bs cs:List Nat}{w:Wo}{o:OA}{n:Nat}{u v:Va}(h:JH bs w o n u)(k:JH cs w o n v):u=v:=by
 obtain⟨a,rfl,_,hc⟩:=h;obtain⟨b,hb,_,hd⟩:=k;cases hb;rw[hc] at hd;exact Option.some.inj hd
def Q1.get{bs:List Nat}{w:Wo}{o:OA}:∀{n:Nat} {vs:List Va},Q1 bs w o n vs->∀(j:Nat) (v:Va),vs[j]? = some v->JH bs w o (n+j) v
 |_,[],_,_,_,hj=>by simp at hj
 |n,[u],h,j,v,hj=>by
  cases j with
  |zero=>simp at hj;subst hj;exact h
  |succ j=>simp at hj
 |n,u::u'::r,h,j,v,hj=>by
  cases j with
  |zero=>simp at hj;subst hj;exact h.1
  |succ j=>
   have:=Q1.get h.2 j v (by simpa using hj)
   rwa[Nat.add_assoc,Nat.add_comm 1 j] at this
def Q3(bs:List Nat)(P:Program)(f:FuncId)(args:Array Va)(w:Wo)(v:Va):Prop:=
 ∀wr,Q0 bs w wr->Calls P f args wr λe w'=>e=.returned v/\Q0 [] wr w'
abbrev AX (bs B:List Nat) (w:Wo) (p:Wo->Prop):Prop:=∀wr,Q0 bs w wr->(∀bq∈B,bq<wr.heap.size)->p wr
abbrev AY (bs:List Nat) (w:Wo) (p:Wo->Prop):Prop:=∀wr,Q0 bs w wr->(∀bq∈bs,bq<wr.heap.size)->p wr
abbrev AR (bs:List Nat) (w:Wo) (R:Va->Wo->Prop) (v:Va):Prop:=∀wr,Q0 bs w wr->R v wr
def Q3.ext{bs:List Nat}{P:Program}{f:FuncId}{args:Array Va}{w w':Wo}{v:Va}(h:Q3 bs P f args w v)(hx:Q0 bs w w'):Q3 bs P f args w' v:=
 λwr h'=>h wr (hx.trans h')
inductive CK where
 |int (k:IntKind)|bool|str|slice|ptr|fn|iface|map|other
 deriving DecidableEq
inductive TD where
 |slice (e:TypeId) (esz:Nat)
 |struct (fs:List (Nat×Bool×Nat))
 |arr (n esz:Nat) (DP2:Bool)
 |str
 |int (k:IntKind)
 |bool
 |ptr
 |other
 deriving DecidableEq
structure Ty where
 agg:Bool
 ks:List CK
 d:TD
 deriving DecidableEq
def K2:Va->CK
 |.int k n=>if n=0 then .int k else .other
 |.bool b=>if b=false then .bool else .other
 |.string s=>if s.size=0 then .str else .other
 |.slice o l c=>if o=none/\l=0/\c=0 then .slice else .other
 |.pointer o=>if o=none then .ptr else .other
 |.nilFunc=>.fn
 |.nilIface=>.iface
 |.map o=>if o=none then .map else .other
 |_=>.other
def zv:CK->Va
 |.int k=>.int k 0
 |.bool=>.bool false
 |.str=>.string ByteArray.empty
 |.slice=>.slice none 0 0
 |.ptr=>.pointer none
 |.fn=>.nilFunc
 |.iface=>.nilIface
 |.map=>.map none
 |.other=>.nilFunc
def zkw{v:Va}(h:K2 v≠.other):v=zv (K2 v):=by
 cases v with
 |int k n=>by_cases hc:n=0 <;> simp_all [K2,zv]
 |bool b=>by_cases hc:b=false <;> simp_all [K2,zv]
 |string s=>
  by_cases hc:s.size=0
  ·have:s=ByteArray.empty:=ByteArray.size_eq_zero_iff.1 hc;subst this;simp[K2,zv]
  ·simp[K2,hc] at h
 |slice o l c=>
  by_cases hc:o=none/\l=0/\c=0
  ·obtain⟨rfl,rfl,rfl⟩:=hc;simp[K2,zv]
  ·simp only[K2,B' hc] at h;exact Ir rfl h
 |pointer o=>by_cases hc:o=none <;> simp_all [K2,zv]
 |map o=>by_cases hc:o=none <;> simp_all [K2,zv]
 |nilFunc=>rfl
 |nilIface=>rfl
 |_=>simp[K2] at h
def Kx:TypeDesc->Bool
 |.struct _|.array _ _=>true
 |_=>false
def fieldsOf(P:Program):List Field->Option (List (Nat×Bool×Nat))
 |[]=>some []
 |f::r=>
  match P.info? f.type,P.underlying f.type,fieldsOf P r with
  |some i,some d,some l=>if i.size=0 then none else some ((f.offset,Kx d,i.size)::l)
  |_,_,_=>none
def Hz(P:Program):TypeDesc->TD
 |.slice e=>match P.info? e with|some i=>.slice e i.size|none=>.other
 |.struct fs=>match fieldsOf P fs.toList with|some l=>.struct l|none=>.other
 |.array n e=>match P.info? e,P.underlying e with|some i,some d=>.arr n i.size (Kx d)|_,_=>.other
 |.string=>.str
 |.int k=>.int k
 |.bool=>.bool
 |.pointer _=>.ptr
 |_=>.other
def z5g(P:Program)(t:TypeId):Option Ty:=
 match P.underlying t,P.info? t with
 |some d,some i=>
  match i.zero with
  |some z=>if i.size=z.cells.toList.length then some { agg:=Kx d,ks:=z.cells.toList.map K2,d:=Hz P d } else none
  |none=>none
 |_,_=>none
def zv9(P:Program)(T:TypeId->Option Ty):Prop:=∀t ty,T t=some ty->z5g P t=some ty
def zz1(P:Program)(l:List (TypeId×Ty)):Bool:=l.all λp=>decide (z5g P p.1=some p.2)
def TT:List (TypeId×Ty)->TypeId->Option Ty
 |[],_=>none
 |p::r,t=>bif Nat.beq p.1 t then some p.2 else TT r t
def zzx{P:Program}:∀{l:List (TypeId×Ty)},zz1 P l->zv9 P (TT l)
 |[],_,t,ty,h=>by simp[TT] at h
 |p::r,hl,t,ty,h=>by
  simp only[zz1,List.all_cons,A',Ij] at hl;simp only[TT] at h
  cases hb:Nat.beq p.1 t with
  |true=>
   rw[hb] at h;simp only[cond_true,I0] at h;have:p.1=t:=Ib hb;subst this;subst h;exact hl.1
  |false=>
   rw[hb] at h;exact zzx (l:=r) hl.2 t ty h
structure z0p (P:Program) (t:TypeId) (ty:Ty):Prop where
 desc:∃d,P.underlying t=some d/\ty.agg=Kx d/\ty.d=Hz P d
 info:∃i z,P.info? t=some i/\i.zero=some z/\i.size=ty.ks.length/\z.cells.toList.map K2=ty.ks
def zv9.facts{P:Program}{T:TypeId->Option Ty}(hT:zv9 P T){t:TypeId}{ty:Ty}(h:T t=some ty):z0p P t ty:=by
 have:=hT t ty h;unfold z5g at this
 split at this
 ·rename_i d i hd hi
  split at this
  ·rename_i z hz
   split at this
   ·rename_i hs;simp only[I0] at this;subst this;exact⟨⟨d,hd,rfl,rfl⟩,i,z,hi,hz,by simpa using hs,rfl⟩
   ·cases this
  ·cases this
 ·cases this
inductive RK where
 |cell (k:CK)
 |agg (ks:List CK)
structure V1 where
 P:Program
 T:TypeId->Option Ty
 pf:List (Nat×List RK)
 ef:List (Nat×List RK)
 tt:List (Nat×List RK)
 vis:List Nat
 n:Nat
 pm:Bool
 wr:Bool:=false
 rd:Option Nat:=none
def zpx{β:Type}:List (Nat×β)->Nat->Option β
 |[],_=>none
 |p::r,t=>bif Nat.beq p.1 t then some p.2 else zpx r t
def z4e:CK->(Va->Prop)->Prop
 |.int k,K=>∃n:Int,K (.int k n)
 |.bool,K=>∃b:Bool,K (.bool b)
 |.str,K=>∃s:ByteArray,K (.string s)
 |.slice,K=>∃(o:OA) (l c:Nat),K (.slice o l c)
 |.ptr,K=>∃o:OA,K (.pointer o)
 |.fn,K=>∃(f:Fn) (a c:Array Va),K (.func f a c)
 |_,K=>∃v:Va,K v
def z7r:Va->CK
 |.int k _=>.int k
 |.bool _=>.bool
 |.string _=>.str
 |.slice _ _ _=>.slice
 |.pointer _=>.ptr
 |.func _ _ _=>.fn
 |_=>.other
def znj:List CK->(List Va->Prop)->Prop
 |[],K=>K []
 |k::r,K=>z4e k λv=>znj r λl=>K (v::l)
def z7h:RK->(Va->Prop)->Prop
 |.cell k,K=>z4e k K
 |.agg ks,K=>znj ks λl=>K (.agg l.toArray)
def z4f:List RK->(List Va->Prop)->Prop
 |[],K=>K []
 |k::r,K=>z7h k λv=>z4f r λl=>K (v::l)
def DF:List RK->(Va->Prop)->Prop
 |[k],K=>z7h k K
 |ks,K=>z4f ks λl=>K (.tuple l.toArray)
def Ka{k:CK}{K:Va->Prop}(h:z4e k K):∃v,K v:=by
 cases k <;> simp only[z4e] at h
 case slice=>obtain⟨o,l,c,h⟩:=h;exact⟨_,h⟩
 case fn=>obtain⟨f,a,c,h⟩:=h;exact⟨_,h⟩
 all_goals (obtain⟨x,h⟩:=h;exact⟨_,h⟩)
def P7:∀{ks:List CK} {K:List Va->Prop},znj ks K->∃l,l.length=ks.length/\K l
 |[],_,h=>⟨[],rfl,h⟩
 |k::r,K,h=>by
  obtain⟨v,hv⟩:=Ka h;obtain⟨l,hl,hk⟩:=P7 hv;exact⟨v::l,by simp[hl],hk⟩
def zsd{k:RK}{K:Va->Prop}(h:z7h k K):∃v,K v:=by
 cases k with
 |cell k=>exact Ka h
 |agg ks=>obtain⟨l,_,h⟩:=P7 h;exact⟨_,h⟩
def znk:∀{ks:List RK} {K:List Va->Prop},z4f ks K->∃l,K l
 |[],_,h=>⟨[],h⟩
 |k::r,K,h=>by
  obtain⟨v,hv⟩:=zsd h;obtain⟨l,hk⟩:=znk hv;exact⟨v::l,hk⟩
def UG{ks:List RK}{K:Va->Prop}(h:DF ks K):∃v,K v:=by
 unfold DF at h
 split at h
 ·exact zsd h
 ·obtain⟨l,h⟩:=znk h;exact⟨_,h⟩
def St.bs(S:St):List Nat:=S.B.take S.old
def zfb(p q:List (Nat×Bool)):Bool:=p.all λx=>q.any λy=>Nat.beq x.1 y.1&&(x.2==y.2)
def zf0(S:St)(pc:List (Nat×Bool)):Operand->Option EV
 |.tmp t=>match S.F.get t with
  |some (.un x)=>some x
  |some (.gd r vG x)=>bif Nat.beq r S.r&&zfb vG pc then some x else none
  |none=>none
 |.const v=>some (.v v)
 |.global g=>some (.v (.pointer (some ⟨g,0,none⟩)))
 |.func f=>some (.v (.func (.func f) #[] #[]))
def zt6(S:St)(ops:Array Oper)(j:Nat):Option Bool:=
 match (ops[j]?).bind (·.dst) with
 |some d=>match S.F.get d with
  |some (.un (.v (.bool b)))=>some b
  |some (.gd r _ (.v (.bool b)))=>bif Nat.beq r S.r then some b else none
  |_=>none
 |none=>none
def Ds(S:St)(ops:Array Oper):List (Nat×Bool)->Prop->Prop
 |[],A=>A
 |(j,want)::r,A=>match zt6 S ops j with
  |some b=>b=want->Ds S ops r A
  |none=>Ds S ops r A
def zqy(S:St)(ops:Array Oper)(o:Oper):Option (List (Nat×Bool)):=
 match o.guard with
 |none=>some []
 |some (j,want)=>match (ops[j]?).bind (·.dst) with
  |some d=>match S.F.get d with
   |some (.un (.v (.bool _)))=>some [(j,want)]
   |some (.gd r pc (.v (.bool _)))=>bif Nat.beq r S.r then some ((j,want)::pc) else none
   |some (.gd r pc .no)=>bif Nat.beq r S.r then some ((j,want)::pc) else none
   |_=>none
  |none=>none
def EV.den(S:St):EV->Va->Prop
 |.v x,u=>u=x
 |.loc id off,u=>∃b,S.B[id]? = some b/\u=.pointer (some ⟨b,off,none⟩)
 |.el o n,u=>∃a,o=some a/\u=.pointer (some (a.add n))
 |.ls id len,u=>∃b,S.B[id]? = some b/\u=.slice (some ⟨b,0,none⟩) len len
 |.le id i k,u=>∃b,S.B[id]? = some b/\0<=i/\u=.pointer (some ⟨b,i.toNat+k,none⟩)
 |.no,_=>False
 |.kb x,u=>u=.bool x
def EF(ops:Array Oper)(a:Act)(pc:List (Nat×Bool)):Prop:=∀p∈pc,yielded ops a.tmps p.1=some p.2
def SV.den(S:St)(ops:Array Oper)(a:Act):SV->Va->Prop
 |.un x,u=>EV.den S x u
 |.gd r pc x,u=>r=S.r->(EF ops a pc->EV.den S x u)/\(¬EF ops a pc->u=undef)
structure AJ (n:Nat) (S:St) (ops:Array Oper) (a:Act):Prop where
 size:a.tmps.size=n
 fits:∀i s,S.F.get i=some s->SV.den S ops a s (a.tmps.getD i undef)
def P0{b:Bool}:undef≠.bool b:=by simp[undef]
def ES{ops:Array Oper}{a:Act}{j d:Nat}{b:Bool}(hd:(ops[j]?).bind (·.dst)=some d)(h:yielded ops a.tmps j=some b):a.tmps.getD d undef=.bool b:=by
 unfold yielded at h;rw[hd] at h;simp only[Option.bind_some] at h
 split at h
 ·rename_i b' hb;simp only[I0] at h;subst h;rw[Array.getD_eq_getD_getElem?,hb];rfl
 ·cases h
def z58{n:Nat}{S:St}{ops:Array Oper}{a:Act}(hf:AJ n S ops a){j:Nat}{b want:Bool}(hb:zt6 S ops j=some b)(hy:yielded ops a.tmps j=some want):b=want:=by
 unfold zt6 at hb
 split at hb
 ·rename_i d hd;have hv:=ES hd hy
  split at hb
  ·rename_i b' hg;have:=hf.fits d _ hg;simp only[SV.den,EV.den] at this;rw[hv] at this;simp only[I0] at hb
   injection this with this
   rw[<-hb];exact this.symm
  ·rename_i r pc b' hg;have:=hf.fits d _ hg
   cases hr:Nat.beq r S.r with
   |false=>rw[hr] at hb;simp at hb
   |true=>
    rw[hr] at hb;simp only[cond_true,I0] at hb;have h1:=this (Ib hr)
    by_cases hp:EF ops a pc
    ·have h2:=h1.1 hp;simp only[EV.den] at h2;rw[hv] at h2
     injection h2 with h2
     rw[<-hb];exact h2.symm
    ·have h2:=h1.2 hp;rw[hv] at h2;exact Ir h2.symm P0
  ·cases hb
 ·cases hb
def za6{n:Nat}{S:St}{ops:Array Oper}{a:Act}(hf:AJ n S ops a):∀{pc:List (Nat×Bool)} {A:Prop},EF ops a pc->Ds S ops pc A->A
 |[],_,_,h=>h
 |(j,want)::r,A,hp,h=>by
  have hr:EF ops a r:=λp hm=>hp p (I1 _ hm)
  have hj:yielded ops a.tmps j=some want:=hp (j,want) (I9 ..);simp only[Ds] at h
  split at h
  ·rename_i b hb;exact za6 hf hr (h (z58 hf hb hj))
  ·exact za6 hf hr h
def zfc{p q:List (Nat×Bool)}(h:zfb p q):∀x∈p,x∈q:=by
 intro x hx;simp only[zfb,List.all_eq_true,List.any_eq_true,A'] at h;obtain⟨y,hy,h1,h2⟩:=h x hx;have e1:x.1=y.1:=Ib h1;have e2:x.2=y.2:=by simpa using h2
 have:x=y:=Prod.ext e1 e2;rw[this];exact hy
def Yo{n:Nat}{S:St}{ops:Array Oper}{a:Act}(hf:AJ n S ops a){pc:List (Nat×Bool)}(hp:EF ops a pc){x:Operand}{e:EV}(h:zf0 S pc x=some e):EV.den S e (a.eval x):=by
 cases x with
 |const v=>simp only[zf0,I0] at h;subst h;rfl
 |global g=>simp only[zf0,I0] at h;subst h;rfl
 |func f=>simp only[zf0,I0] at h;subst h;rfl
 |tmp t=>
  simp only[zf0] at h
  split at h
  ·rename_i y hg;simp only[I0] at h;subst h;exact hf.fits t _ hg
  ·rename_i r vG y hg
   cases hb:Nat.beq r S.r&&zfb vG pc with
   |false=>rw[hb] at h;simp at h
   |true=>
    rw[hb] at h;simp only[cond_true,I0] at h;subst h;simp only[A'] at hb;exact(hf.fits t _ hg (Ib hb.1)).1 λp hm=>hp p (zfc hb.2 p hm)
  ·cases h
def zvg(S:St)(ops:Array Oper):List (Nat×Bool)->Bool
 |[]=>true
 |(j,_)::r=>(match (ops[j]?).bind (·.dst) with
  |some d=>match S.F.get d with
   |some (.un (.v (.bool _)))=>true
   |some (.gd r' vG (.v (.bool _)))=>Nat.beq r' S.r&&zfb vG r
   |_=>false
  |none=>false)&&zvg S ops r
def zfx{ops:Array Oper}{a:Act}{j d:Nat}{b:Bool}(hd:(ops[j]?).bind (·.dst)=some d)(h:a.tmps.getD d undef=.bool b):yielded ops a.tmps j=some b:=by
 unfold yielded;rw[hd];simp only[Option.bind_some];rw[Array.getD_eq_getD_getElem?] at h
 cases hg:a.tmps[d]? with
 |none=>rw[hg] at h;exact Ir h P0
 |some v=>rw[hg] at h;simp only[Option.getD_some] at h;subst h;rfl
def zld{n:Nat}{S:St}{ops:Array Oper}{a:Act}(hf:AJ n S ops a):∀{pc:List (Nat×Bool)},zvg S ops pc->¬EF ops a pc->Ds S ops pc False
 |[],_,hp=>hp (λp hm=>by cases hm)
 |(j,want)::r,h,hp=>by
  simp only[zvg,A'] at h;obtain⟨h1,h2⟩:=h
  by_cases hr:EF ops a r
  ·have cU:yielded ops a.tmps j≠some want:=λe=>hp λp hm=>by
    rcases Ii.1 hm with rfl|hm
    ·exact e
    ·exact hr p hm
   have go:∀b,zt6 S ops j=some b->yielded ops a.tmps j=some b->Ds S ops ((j,want)::r) False:=λb hb hy=>by
    simp only[Ds,hb];intro e;exact Ir (e▸hy) cU
   split at h1
   ·rename_i d hd
    split at h1
    ·rename_i b hg;have hv:=hf.fits d _ hg;refine go b (by unfold zt6;rw[hd];simp only[hg]) (zfx hd hv)
    ·rename_i r' vG b hg;simp only[A'] at h1;have hv:=(hf.fits d _ hg (Ib h1.1)).1 λp hm=>hr p (zfc h1.2 p hm)
     refine go b (by unfold zt6;rw[hd];simp only[hg,h1.1,cond_true]) (zfx hd hv)
    ·cases h1
   ·cases h1
  ·have:=zld hf h2 hr;simp only[Ds];split
   ·exact λ_=>this
   ·exact this
def Hn{n:Nat}{S:St}{ops:Array Oper}{a:Act}(hf:AJ n S ops a){o:Oper}{pc:List (Nat×Bool)}(h:zqy S ops o=some pc) :
  Region.wanted o (yielded ops a.tmps)=true↔EF ops a pc:=by
 unfold zqy at h;unfold Region.wanted
 split at h
 ·rename_i hg;simp only[I0] at h;subst h;rw[hg];simp[EF]
 ·rename_i j want hg;rw[hg];simp only[Is]
  split at h
  ·rename_i d hd
   split at h
   ·rename_i b hv;simp only[I0] at h;subst h;simp[EF]
   ·rename_i r vG b hv
    cases hr:Nat.beq r S.r with
    |false=>rw[hr] at h;simp at h
    |true=>
     rw[hr] at h;simp only[cond_true,I0] at h;subst h;constructor
     ·intro hy p hm;rcases Ii.1 hm with rfl|hm
      ·exact hy
      ·have h1:=hf.fits d _ hv (Ib hr)
       by_cases hp:EF ops a vG
       ·exact hp p hm
       ·have h2:=h1.2 hp;have h3:=ES hd hy;rw[h3] at h2;exact Ir h2.symm P0
     ·intro hp;exact hp (j,want) (I9 ..)
   ·rename_i r vG hv
    cases hr:Nat.beq r S.r with
    |false=>rw[hr] at h;simp at h
    |true=>
     rw[hr] at h;simp only[cond_true,I0] at h;subst h;constructor
     ·intro hy p hm;rcases Ii.1 hm with rfl|hm
      ·exact hy
      ·have h1:=hf.fits d _ hv (Ib hr)
       by_cases hp:EF ops a vG
       ·exact hp p hm
       ·have h2:=h1.2 hp;have h3:=ES hd hy;rw[h3] at h2;exact Ir h2.symm P0
     ·intro hp;exact hp (j,want) (I9 ..)
   ·cases h
  ·cases h
def Qp:IntKind->Int->Prop
 |.i64,z => -9223372036854775808<=z/\z<=9223372036854775807
 |.u8,z=>0<=z/\z<=255
 |.u64,z=>0<=z/\z<=18446744073709551615
 |.i32,z => -2147483648<=z/\z<=2147483647
 |k,z=>k.wrap z=z
def Qp.wrap{k:IntKind}{z:Int}(h:Qp k z):k.wrap z=z:=by
 cases k <;> simp only[Qp] at h
 case i64=>exact IntWalk.i64_in z h
 case u8=>exact IntWalk.u8_in z h
 case u64=>exact IntWalk.u64_in z h
 case i32=>exact IntWalk.i32_in z h
 all_goals exact h
def Uf(s:ByteArray)(i:Int):Int:=((s.data.getD i.toNat 0).toNat:Int)
def Ix(o:OA)(len:Nat)(i:Int):Prop:=0<=i/\i<len/\o.isSome=true
def TY(op:BinOp)(k:IntKind)(x y:Int):Int:=
 match op with
 |.and=>k.wrap ((BitVec.ofInt k.bits x &&& BitVec.ofInt k.bits y).toNat:Int)
 |.or=>k.wrap ((BitVec.ofInt k.bits x ||| BitVec.ofInt k.bits y).toNat:Int)
 |_=>k.wrap ((BitVec.ofInt k.bits x ^^^ BitVec.ofInt k.bits y).toNat:Int)
def ZC(x y:ByteArray):Bool:=x.toList==y.toList
def zng(G:Prop->Prop)(d:TD):BinOp->Va->Va->(Va->Prop)->Prop
 |.add,.int k x,.int k' y,K=>bif decide (k=k') then G (Qp k (x+y))/\K (.int k (x+y)) else False
 |.sub,.int k x,.int k' y,K=>bif decide (k=k') then G (Qp k (x-y))/\K (.int k (x-y)) else False
 |.mul,.int k x,.int k' y,K=>bif decide (k=k') then G (Qp k (x*y))/\K (.int k (x*y)) else False
 |.quo,.int k x,.int k' y,K=>bif decide (k=k') then G (y≠0/\Qp k (x.tdiv y))/\K (.int k (x.tdiv y)) else False
 |.rem,.int k x,.int k' y,K=>bif decide (k=k') then G (y≠0)/\K (.int k (x.tmod y)) else False
 |.and,.int k x,.int k' y,K=>bif decide (k=k') then K (.int k (TY .and k x y)) else False
 |.or,.int k x,.int k' y,K=>bif decide (k=k') then K (.int k (TY .or k x y)) else False
 |.xor,.int k x,.int k' y,K=>bif decide (k=k') then K (.int k (TY .xor k x y)) else False
 |.shl,.int k x,.int _ y,K=>G (0<=y/\Qp k (x*2 ^ (min y.toNat k.bits)))/\K (.int k (x*2 ^ (min y.toNat k.bits)))
 |.shr,.int k x,.int _ y,K=>G (0<=y)/\K (.int k (x.fdiv (2 ^ (min y.toNat k.bits))))
 |.eql,.int k x,.int k' y,K=>bif decide (k=k') then K (.bool (x==y)) else False
 |.neq,.int k x,.int k' y,K=>bif decide (k=k') then K (.bool (x != y)) else False
 |.lss,.int k x,.int k' y,K=>bif decide (k=k') then K (.bool (decide (x<y))) else False
 |.leq,.int k x,.int k' y,K=>bif decide (k=k') then K (.bool (decide (x<=y))) else False
 |.gtr,.int k x,.int k' y,K=>bif decide (k=k') then K (.bool (decide (x>y))) else False
 |.geq,.int k x,.int k' y,K=>bif decide (k=k') then K (.bool (decide (x>=y))) else False
 |.eql,.string x,.string y,K=>K (.bool (ZC x y))
 |.neq,.string x,.string y,K=>K (.bool (!ZC x y))
 |.add,.string x,.string y,K=>G (x.size+y.size<=9223372036854775807)/\K (.string (x++y))
 |.eql,.bool x,.bool y,K=>bif decide (d=.bool) then K (.bool (x==y)) else False
 |.neq,.bool x,.bool y,K=>bif decide (d=.bool) then K (.bool (!(x==y))) else False
 |.eql,.pointer o,.pointer none,K=>bif decide (d=.ptr) then K (.bool o.isNone) else False
 |.neq,.pointer o,.pointer none,K=>bif decide (d=.ptr) then K (.bool (!o.isNone)) else False
 |_,_,_,_=>False
def zj9{P:Program}{d:TypeDesc}(h:Hz P d=.bool):d=.bool:=by
 cases d <;> simp only[Hz] at h <;> first|rfl|(split at h <;> cases h)|cases h
def zpa{P:Program}{d:TypeDesc}(h:Hz P d=.ptr):∃e,d=.pointer e:=by
 cases d <;> simp only[Hz] at h <;> first|exact⟨_,rfl⟩|(split at h <;> cases h)|cases h
def zfu{P:Program}{d:TypeDesc}(h:Hz P d=.str):d=.string:=by
 cases d <;> simp only[Hz] at h <;> first|rfl|(split at h <;> cases h)|cases h
def zz3{P:Program}{d:TypeDesc}{k:IntKind}(h:Hz P d=.int k):d=.int k:=by
 cases d <;> simp only[Hz] at h <;> first|(simp only[TD.int.injEq] at h;subst h;rfl)|(split at h <;> cases h)|cases h
def MT{P:Program}{d:TypeDesc}{e:TypeId}{n:Nat}(h:Hz P d=.slice e n):∃i,d=.slice e/\P.info? e=some i/\i.size=n:=by
 cases d <;> simp only[Hz] at h
 case slice e=>
  split at h
  ·rename_i i hi;simp only[TD.slice.injEq] at h;obtain⟨rfl,h⟩:=h;exact⟨i,rfl,hi,h⟩
  ·cases h
 all_goals first|cases h|(split at h <;> cases h)
def Bw{P:Program}{d:TypeDesc}{n z:Nat}{b:Bool}(h:Hz P d=.arr n z b):∃e i de,d=.array n e/\P.info? e=some i/\i.size=z/\P.underlying e=some de/\Kx de=b:=by
 cases d <;> simp only[Hz] at h
 case array m e=>
  split at h
  ·rename_i i de hi hd;simp only[TD.arr.injEq] at h;obtain⟨rfl,rfl,rfl⟩:=h;exact⟨e,i,de,rfl,hi,rfl,hd,rfl⟩
  ·cases h
 all_goals first|cases h|(split at h <;> cases h)
def PY{P:Program}:∀{fs:List Field} {l:List (Nat×Bool×Nat)},fieldsOf P fs=some l->∀(j:Nat) (x:Nat×Bool×Nat),l[j]? = some x->
  ∃f i d,fs[j]? = some f/\P.info? f.type=some i/\P.underlying f.type=some d/\i.size≠0/\x=(f.offset,Kx d,i.size)
 |[],l,h,j,x,hx=>by simp only[fieldsOf,I0] at h;subst h;simp at hx
 |f::r,l,h,j,x,hx=>by
  simp only[fieldsOf] at h
  split at h
  ·rename_i i d l' hi hd hl
   split at h
   ·cases h
   ·rename_i hz;simp only[I0] at h;subst h
    cases j with
    |zero=>simp only[Ie,I0] at hx;subst hx;exact⟨f,i,d,rfl,hi,hd,hz,rfl⟩
    |succ j=>exact PY hl j x (by simpa using hx)
  ·cases h
def HA{P:Program}{d:TypeDesc}{l:List (Nat×Bool×Nat)}(h:Hz P d=.struct l):∃fs,d=.struct fs/\fieldsOf P fs.toList=some l:=by
 cases d <;> simp only[Hz] at h
 case struct fs=>
  split at h
  ·rename_i l' hl;simp only[TD.struct.injEq] at h;subst h;exact⟨fs,rfl,hl⟩
  ·cases h
 all_goals first|cases h|(split at h <;> cases h)
def JW{P:Program}{t:TypeId}{i:TypeInfo}(h:P.info? t=some i)(w:Wo):(typeInfo t).run P w=.ok i w:=by
 simp[typeInfo,h]
def Yy{P:Program}{t:TypeId}{i:TypeInfo}(h:P.info? t=some i)(w:Wo):(sizeOf t).run P w=.ok i.size w:=by
 simp[sizeOf,JW h]
def VX{P:Program}{t:TypeId}{d:TypeDesc}(h:P.underlying t=some d)(w:Wo):(isAgg t).run P w=.ok (Kx d) w:=by
 unfold isAgg;simp only[Sem.run_bind,run_underlying h,Result.andThen_ok]
 cases d <;> rfl
def Ht{P:Program}{t:TypeId}(hu:P.underlying t=some .bool)(x y:Bool)(w:Wo):(Op.equal t (.bool x) (.bool y)).run P w=.ok (x==y) w:=by
 have h:∀d:Nat,(Op.equalIn (d+1) t (.bool x) (.bool y)).run P w=.ok (x==y) w:=λd=>by simp[Op.equalIn,run_underlying hu]
 exact h 9999
def DV{P:Program}{t e:TypeId}(hu:P.underlying t=some (.pointer e))(o:OA)(w:Wo):(Op.equal t (.pointer o) (.pointer none)).run P w=.ok o.isNone w:=by
 have h:∀d:Nat,(Op.equalIn (d+1) t (.pointer o) (.pointer none)).run P w=.ok o.isNone w:=λd=>by cases o <;> simp[Op.equalIn,run_underlying hu]
 exact h 9999
def zuh{P:Program}{T:TypeId->Option Ty}(hT:zv9 P T){t:TypeId}{ty:Ty}(ht:T t=some ty){G:Prop->Prop}(hG:∀A,G A->A){op:BinOp}{x y:Operand}{a b:Va}{K:Va->Prop}(h:zng G ty.d op a b K):∃v,K v/\∀w,((do eqGuard op t x y a b;binOp op t a b):Sem Va).run P w=.ok v w:=by
 have kk:∀{k k':IntKind} {A:Prop},(bif decide (k=k') then A else False)->k=k'/\A:=λ{k k' A} h=>by
  by_cases hk:k=k'
  ·simp only[hk,decide_true,cond_true] at h;exact⟨hk,h⟩
  ·simp only[hk,decide_false,cond_false] at h
 have dd:∀{d d':TD} {A:Prop},(bif decide (d=d') then A else False)->d=d'/\A:=λ{d d' A} h=>by
  by_cases hk:d=d'
  ·simp only[hk,decide_true,cond_true] at h;exact⟨hk,h⟩
  ·simp only[hk,decide_false,cond_false] at h
 unfold zng at h
 split at h
 case h_1=>obtain⟨rfl,h1,h2⟩:=kk h;exact⟨_,h2,λw=>by simp[eqGuard,binOp,Op.intArith,(hG _ h1).wrap]⟩
 case h_2=>obtain⟨rfl,h1,h2⟩:=kk h;exact⟨_,h2,λw=>by simp[eqGuard,binOp,Op.intArith,(hG _ h1).wrap]⟩
 case h_3=>obtain⟨rfl,h1,h2⟩:=kk h;exact⟨_,h2,λw=>by simp[eqGuard,binOp,Op.intArith,(hG _ h1).wrap]⟩
 case h_4=>
  obtain⟨rfl,h1,h2⟩:=kk h;obtain⟨h3,h4⟩:=hG _ h1;exact⟨_,h2,λw=>by simp[eqGuard,binOp,Op.intDiv,h3,h4.wrap]⟩
 case h_5=>
  obtain⟨rfl,h1,h2⟩:=kk h;have h3:=hG _ h1;exact⟨_,h2,λw=>by simp[eqGuard,binOp,Op.intDiv,h3]⟩
 case h_6=>obtain⟨rfl,h2⟩:=kk h;exact⟨_,h2,λw=>by simp[eqGuard,binOp,Op.intBits,TY]⟩
 case h_7=>obtain⟨rfl,h2⟩:=kk h;exact⟨_,h2,λw=>by simp[eqGuard,binOp,Op.intBits,TY]⟩
 case h_8=>obtain⟨rfl,h2⟩:=kk h;exact⟨_,h2,λw=>by simp[eqGuard,binOp,Op.intBits,TY]⟩
 case h_9=>
  obtain⟨h1,h2⟩:=h;obtain⟨h3,h4⟩:=hG _ h1;exact⟨_,h2,λw=>by simp[eqGuard,binOp,Op.shift,Int.not_lt.2 h3,h4.wrap]⟩
 case h_10=>
  obtain⟨h1,h2⟩:=h;have h3:=hG _ h1;exact⟨_,h2,λw=>by simp[eqGuard,binOp,Op.shift,Int.not_lt.2 h3]⟩
 case h_11=>obtain⟨rfl,h2⟩:=kk h;exact⟨_,h2,λw=>by simp[eqGuard,binOp,Op.intCmp]⟩
 case h_12=>obtain⟨rfl,h2⟩:=kk h;exact⟨_,h2,λw=>by simp[eqGuard,binOp,Op.intCmp]⟩
 case h_13=>obtain⟨rfl,h2⟩:=kk h;exact⟨_,h2,λw=>by simp[eqGuard,binOp,Op.intCmp]⟩
 case h_14=>obtain⟨rfl,h2⟩:=kk h;exact⟨_,h2,λw=>by simp[eqGuard,binOp,Op.intCmp]⟩
 case h_15=>obtain⟨rfl,h2⟩:=kk h;exact⟨_,h2,λw=>by simp[eqGuard,binOp,Op.intCmp]⟩
 case h_16=>obtain⟨rfl,h2⟩:=kk h;exact⟨_,h2,λw=>by simp[eqGuard,binOp,Op.intCmp]⟩
 case h_17=>exact⟨_,h,λw=>by simp[eqGuard,binOp,Op.stringOp,ZC]⟩
 case h_18=>exact⟨_,h,λw=>by simp[eqGuard,binOp,Op.stringOp,ZC]⟩
 case h_19 s u=>
  obtain⟨h1,h2⟩:=h;have h3:=hG _ h1;refine⟨_,h2,λw=>?_⟩;have h4:¬((s.size+u.size:Nat):Int)>IntKind.i64.max:=by rw[IntKind.max_i64];omega
  simp only[eqGuard,binOp,Op.stringOp,B' h4];rfl
 case h_20=>
  obtain⟨hd,h2⟩:=dd h;obtain⟨d,hu,_,pI⟩:=(hT.facts ht).desc;have:=zj9 (pI.symm.trans hd);subst this;exact⟨_,h2,λw=>by simp only[eqGuard_at_bool,binOp,Sem.run_bind,Sem.run_pure,Result.andThen_ok,Ht hu]⟩
 case h_21=>
  obtain⟨hd,h2⟩:=dd h;obtain⟨d,hu,_,pI⟩:=(hT.facts ht).desc;have:=zj9 (pI.symm.trans hd);subst this;exact⟨_,h2,λw=>by simp only[eqGuard_at_bool,binOp,Sem.run_bind,Sem.run_pure,Result.andThen_ok,Ht hu]⟩
 case h_22 o=>
  obtain⟨hd,h2⟩:=dd h;obtain⟨d,hu,_,pI⟩:=(hT.facts ht).desc;obtain⟨e,rfl⟩:=zpa (pI.symm.trans hd);exact⟨_,h2,λw=>by simp only[eqGuard_at_pointer,binOp,Sem.run_bind,Sem.run_pure,Result.andThen_ok,DV hu]⟩
 case h_23 o=>
  obtain⟨hd,h2⟩:=dd h;obtain⟨d,hu,_,pI⟩:=(hT.facts ht).desc;obtain⟨e,rfl⟩:=zpa (pI.symm.trans hd);exact⟨_,h2,λw=>by simp only[eqGuard_at_pointer,binOp,Sem.run_bind,Sem.run_pure,Result.andThen_ok,DV hu]⟩
 case h_24=>exact h.elim
structure Zs (S:St) (w wr:Wo):Prop where
 ext:Q0 S.bs w wr
 loc:∀(id:Nat) (t:TypeId) (cs:List Va),S.L[id]? = some (t,cs)->∃b,S.B[id]? = some b/\wr.heap[b]? = some (Obj.cells cs.toArray t (0,0))
 len:S.L.length=S.B.length
 oN:S.B.Nodup
 fresh:∀(id b:Nat),S.old<=id->S.B[id]? = some b->w.heap.size<=b
def za8{w:Wo}{b:Nat}{o:Obj}(h:w.heap[b]? = some o):b<w.heap.size:=by
 rcases Nat.lt_or_ge b w.heap.size with IW|RM
 ·exact IW
 ·rw[Array.getElem?_eq_none RM] at h;cases h
def Zs.step{S:St}{w wr Wp:Wo}(h:Zs S w wr)(hx:Q0 [] wr Wp):Zs S w Wp:=
 ⟨h.ext.trans hx.of_nil,λid t cs hl=>by
  obtain⟨b,hb,hh⟩:=h.loc id t cs hl;exact⟨b,hb,(hx.block b (za8 hh) Qs).trans hh⟩,h.len,h.oN,h.fresh⟩
abbrev zf1:=St->Wo->Prop
abbrev K7:=Option zf1
def Lv:K7:=none
def zqf:K7->St->Wo->Prop
 |none,_,_=>True
 |some f,S,w=>f S w
def z3e(S:St):EV->Option Va
 |.v x=>some x
 |.kb x=>some (.bool x)
 |.el o n=>some (.pointer (o.map (·.add n)))
 |.ls id len=>match S.B[id]? with
  |some b=>some (.slice (some ⟨b,0,none⟩) len len)
  |none=>none
 |_=>none
def za1{S:St}{e:EV}{x u:Va}(h:z3e S e=some x)(hd:EV.den S e u):u=x:=by
 cases e with
 |v y=>simp only[z3e,I0] at h;subst h;exact hd
 |el o n=>simp only[z3e,I0] at h;subst h;obtain⟨a,rfl,rfl⟩:=hd;rfl
 |ls id len=>
  obtain⟨b,hb,rfl⟩:=hd;simp only[z3e,hb,I0] at h;exact h
 |loc id off=>cases h
 |le id i k=>cases h
 |no=>cases h
 |kb x=>simp only[z3e,I0] at h;subst h;exact hd
def Ho(S:St)(pc:List (Nat×Bool))(x:Operand):Option Va:=
 match zf0 S pc x with
 |some e=>z3e S e
 |none=>none
def QY{n:Nat}{S:St}{ops:Array Oper}{a:Act}(hf:AJ n S ops a){pc:List (Nat×Bool)}(hp:EF ops a pc){x:Operand}{v:Va}(h:Ho S pc x=some v):a.eval x=v:=by
 unfold Ho at h
 split at h
 ·rename_i e he;exact za1 h (Yo hf hp he)
 ·cases h
def Lh(S:St)(pc:List (Nat×Bool)):List Operand->Option (List Va)
 |[]=>some []
 |x::r=>match Ho S pc x,Lh S pc r with
  |some v,some l=>some (v::l)
  |_,_=>none
def XY{n:Nat}{S:St}{ops:Array Oper}{a:Act}(hf:AJ n S ops a){pc:List (Nat×Bool)}(hp:EF ops a pc):∀{xs:List Operand} {vs:List Va},Lh S pc xs=some vs->xs.map a.eval=vs
 |[],vs,h=>by simp only[Lh,I0] at h;subst h;rfl
 |x::r,vs,h=>by
  simp only[Lh] at h
  split at h
  ·rename_i v l hv hl;simp only[I0] at h;subst h;simp[QY hf hp hv,XY hf hp hl]
  ·cases h
def zoe(S:St)(pc:List (Nat×Bool)):List Operand->List Nat
 |[]=>[]
 |x::r=>match zf0 S pc x with
  |some (.ls id _)=>id::zoe S pc r
  |_=>zoe S pc r
def Jx(S:St)(w:Wo):List Nat->Prop->Prop
 |[],A=>A
 |id::r,A=>match S.L[id]?,S.B[id]? with
  |some (t,cs),some b=>w.heap[b]? = some (Obj.cells cs.toArray t (0,0))->Jx S w r A
  |_,_=>False
def Jx.out{S:St}{w wr:Wo}(h:Zs S w wr):∀{ids:List Nat} {A:Prop},Jx S wr ids A->A
 |[],_,h'=>h'
 |id::r,A,h'=>by
  simp only[Jx] at h'
  split at h'
  ·rename_i t cs b hl hb;obtain⟨b',gV,hh⟩:=h.loc id t cs hl;rw[hb] at gV;cases gV;exact Jx.out h (h' hh)
  ·exact h'.elim
def zco(C:V1)(ids:List Nat)(f:Nat)(args:List Va)(r:Va)(G:Prop->Prop):zf1:=λS w=>
 match ids with
 |[]=>G (Q3 S.bs C.P f args.toArray w r)
 |ids=>G (∀w2,Q0 S.bs w w2->Jx S w2 ids (Q3 S.bs C.P f args.toArray w2 r))
structure P3 (P:Program) (f:Nat):Prop where
 is : ∃ fn, P.funcs[f]? = some fn ∧ fn.body.isNone = false ∧ (fn.name == "runtime.NumGoroutine") = false
def HJ (P:Program) (f:Nat):Bool:=
 match P.funcs[f]? with
 |some fn => !fn.body.isNone && !(fn.name == "runtime.NumGoroutine")
 |none=>false
def Ap{P:Program}{f:Nat}(h:HJ P f):P3 P f:=by
 unfold HJ at h
 split at h
 ·rename_i fn hf;simp only[A',ID] at h;exact⟨fn,hf,h.1,h.2⟩
 ·cases h
def zox {P:Program} {f:Nat} (h:P3 P f) (args:Array Operand) (argTypes:Array TypeId) (a:Act) {o:Oper} (ho:o.op=.call { callee:=.value (.func f),args,argTypes }) (w:Wo) :
  (execOp a.eval o).run P w=.ok (.enter f (args.map a.eval)) w:=by
 obtain⟨fn,hf,hb,hn⟩:=h.is
 unfold execOp
 rw[ho]
 have hn' : ¬ fn.name = "runtime.NumGoroutine" := by simpa using hn
 have gV:¬fn.body=none:=by intro e;rw[e] at hb;cases hb
 simp[resolve,Deferred.ofValue,invoke,callFunc,hf,gV,hn',Act.eval]
def D7:List Oper->Nat->Nat->Option Nat
 |[],_,_=>none
 |o::r,t,k=>match o.dst with
  |some d=>bif Nat.beq d t then some k else D7 r t (k+1)
  |none=>D7 r t (k+1)
def BE:∀{l:List Oper} {t k j:Nat},D7 l t k=some j->k<=j/\∃o,l[j-k]? = some o/\o.dst=some t
 |[],_,_,_,h=>by cases h
 |o::r,t,k,j,h=>by
  simp only[D7] at h
  have Ce9:∀{j},D7 r t (k+1)=some j->k<=j/\∃o',(o::r)[j-k]? = some o'/\o'.dst=some t:=λ{j} h=>by
   obtain⟨h1,o',h2,h3⟩:=BE h;refine⟨Qo,o',?_,h3⟩;have:j-k=(j-(k+1))+1:=Qo;rw[this];simpa using h2
  split at h
  ·rename_i d hd
   cases hb:Nat.beq d t with
   |true=>
    rw[hb] at h;simp only[cond_true,I0] at h;subst h;exact⟨I7 _,o,Qs,by rw[hd,Ib hb]⟩
   |false=>rw[hb] at h;exact Ce9 h
  ·exact Ce9 h
def GX(ops:Array Oper)(pc:List (Nat×Bool))(c:Operand)(b:Bool):List (Nat×Bool):=
 match c with
 |.tmp t=>match D7 ops.toList t 0 with
  |some j=>(j,b)::pc
  |none=>pc
 |_=>pc
def KS{n:Nat}{S:St}{ops:Array Oper}{a:Act}(hf:AJ n S ops a){pc:List (Nat×Bool)}(hp:EF ops a pc){c:Operand}{b:Bool}(hc:a.eval c=.bool b):EF ops a (GX ops pc c b):=by
 unfold GX;split
 ·rename_i t;split
  ·rename_i j hj;obtain⟨_,o,ho,hd⟩:=BE hj;intro p hm;rcases Ii.1 hm with rfl|hm
   ·have hj':ops[j]? = some o:=by simpa using ho
    simp only[Act.eval] at hc;unfold yielded;rw[hj'];simp only[Option.bind_some,hd]
    cases ht:a.tmps[t]? with
    |none=>rw[Array.getD_eq_getD_getElem?,ht] at hc;simp[undef] at hc
    |some x=>
     rw[Array.getD_eq_getD_getElem?,ht] at hc;simp only[Option.getD_some] at hc;subst hc;rfl
   ·exact hp p hm
  ·exact hp
 ·exact hp
def Ty.val(ty:Ty)(vs:List Va):Option Va:=bif ty.agg then some (.agg vs.toArray) else match vs with | [v]=>some v|_=>none
def VV{P:Program}{T:TypeId->Option Ty}(hT:zv9 P T){t:TypeId}{ty:Ty}(ht:T t=some ty){a:Addr}{vs:List Va}{v:Va}(hv:ty.val vs=some v)(hl:vs.length=ty.ks.length){w:Wo}(hc:∀(j:Nat) (x:Va),vs[j]? = some x->w.cell? (a.add j)=some x):(loadVar t a).run P w=.ok v w:=by
 obtain⟨d,hu,hag,_⟩:=(hT.facts ht).desc;obtain⟨i,z,hi,_,sI,_⟩:=(hT.facts ht).info;unfold loadVar;simp only[Sem.run_bind,VX hu,Result.andThen_ok];unfold Ty.val at hv
 cases hg:ty.agg with
 |true=>
  rw[hg] at hv;simp only[cond_true,I0] at hv;subst hv;rw[<-hag,hg];simp only[if_true];have:=run_loadCells_list (P:=P) (w:=w) a vs hc;simp only[Sem.run_bind,Yy hi,Result.andThen_ok,sI,<-hl,this,Sem.run_pure]
 |false=>
  rw[hg] at hv;simp only[cond_false] at hv
  split at hv
  ·rename_i x;simp only[I0] at hv;subst hv;rw[<-hag,hg];simp only[Bool.false_eq_true,if_false];have:=hc 0 x rfl;rw[Addr.add_zero'] at this;simp[this]
  ·cases hv
def Bk(a b:Operand)(cb:Bool)(x y:Va)(K:Va->Prop):Prop:=
 match a,b,x,y with
 |.const (.bool true),_,_,.bool y=>K (.bool (cb||y))
 |_,.const (.bool false),.bool x,_=>K (.bool (cb&&x))
 |_,_,.bool x,.bool y=>K (.bool (bif cb then x else y))
 |_,_,_,_=>False
def zoi{a b:Operand}{cb:Bool}{x y:Va}{K:Va->Prop}{ax bx:Va}(ha:cb->ax=x)(hb:cb=false->bx=y)(hca:∀v,a=.const v->ax=v)(hcb:∀v,b=.const v->bx=v)(h:Bk a b cb x y K):∃v,K v/\v=(if cb=true then ax else bx):=by
 unfold Bk at h
 split at h
 ·refine⟨_,h,?_⟩;cases cb
  ·simp[hb rfl]
  ·simp[hca _ rfl]
 ·refine⟨_,h,?_⟩;cases cb
  ·simp[hcb _ rfl]
  ·simp[ha rfl]
 ·refine⟨_,h,?_⟩;cases cb
  ·simp[hb rfl]
  ·simp[ha rfl]
 ·exact h.elim
def zss(x:Option Va)(K:Int->Prop):Prop:=
 match x with
 |none=>K 0
 |some (.int _ i)=>K i
 |_=>False
def zlh(len:Nat)(x:Option Va)(K:Int->Prop):Prop:=
 match x with
 |none=>K len
 |some (.int _ i)=>K i
 |_=>False
def zy5(S:St)(pc:List (Nat×Bool)):Option Operand->Option (Option Va)
 |none=>some none
 |some x=>match Ho S pc x with
  |some v=>some (some v)
  |none=>none
def HU{n:Nat}{S:St}{ops:Array Oper}{a:Act}(hf:AJ n S ops a){pc:List (Nat×Bool)}(hp:EF ops a pc){x:Option Operand}{v:Option Va}(h:zy5 S pc x=some v):x.map a.eval=v:=by
 cases x with
 |none=>simp only[zy5,I0] at h;subst h;rfl
 |some x=>
  simp only[zy5] at h
  split at h
  ·rename_i u hu;simp only[I0] at h;subst h;simp[QY hf hp hu]
  ·cases h
def TD.CQ5:TD->Bool
 |.struct _=>true
 |.other=>true
 |_=>false
def z7f(d:TD)(op:BinOp)(wr:Bool):Bool:=d.CQ5||(wr&&match op with
 |.sub=>true
 |_=>false)
def z76(d:TD):CK:=match d with
 |.int k=>.int k
 |_=>.bool
def TD.AO9:TD->Bool
 |.other=>true
 |_=>false
def z6v(C:V1)(t:TypeId):Option (List RK):=match zpx C.tt t with
 |some l=>some l
 |none=>match C.T t with
  |some ty=>bif ty.agg then some [.agg ty.ks] else match ty.ks with
   |[k]=>some [.cell k]
   |_=>none
  |none=>none
def z79(C:V1)(u:TypeId)(ok:Bool):Option (List RK):=match z6v C u with
 |some [k]=>bif ok then some [k,.cell .bool] else some [k]
 |_=>none
def z6g(C:V1)(S:St)(w:Wo)(ops:Array Oper)(o:Oper)(pc:List (Nat×Bool))(K:EV->K7->Prop):Prop:=
 match o.op with
 |.move x|.assign x=>match zf0 S pc x with
  |some e=>K e Lv
  |none=>False
 |.pick c a b=>match Ho S pc c with
  |some (.bool cb)=>match zf0 S (GX ops pc c true) a,zf0 S (GX ops pc c false) b with
   |some .no,_=>(match Ho S (GX ops pc c false) b with
    |some y=>K (.v y) Lv
    |none=>False)
   |_,some .no=>(match Ho S (GX ops pc c true) a with
    |some x=>K (.v x) Lv
    |none=>False)
   |_,_=>match Ho S (GX ops pc c true) a,Ho S (GX ops pc c false) b with
    |some x,some y=>Bk a b cb x y λv=>K (.v v) Lv
    |_,_=>False
  |_=>False
 |.nilCheck x=>match zf0 S pc x with
  |some (.el o n)=>K (.el o n) Lv
  |some (.loc id off)=>K (.loc id off) Lv
  |some (.le id i k)=>K (.le id i k) Lv
  |some (.v (.pointer o))=>Ds S ops pc (o.isSome)/\K (.el o 0) Lv
  |some (.v (.func (.func f) fs cs))=>K (.v (.func (.func f) fs cs)) Lv
  |_=>False
 |.binOp op t x y _=>match C.T t,Ho S pc x,Ho S pc y with
  |some ty,some a,some b=>bif z7f ty.d op C.wr then z4e (z76 ty.d) λv=>Ds S ops pc (∀wr,((do eqGuard op t x y a b;binOp op t a b):Sem Va).run C.P wr=.ok v wr)/\K (.v v) Lv else zng (Ds S ops pc) ty.d op a b λv=>K (.v v) Lv
  |_,_,_=>False
 |.unOp .not _ x=>match Ho S pc x with
  |some (.bool b)=>K (.v (.bool (!b))) Lv
  |_=>False
 |.unOp .neg _ x=>match Ho S pc x with
  |some (.int k n)=>Ds S ops pc (Qp k (0-n))/\K (.v (.int k (0-n))) Lv
  |_=>False
 |.fieldAddr s x f=>match C.T s,zf0 S pc x with
  |some { agg:=_,ks:=_,d:=.struct fs },some e=>match fs[f]? with
   |some (off,_,_)=>match e with
    |.loc id m=>K (.loc id (m+off)) Lv
    |.el o m=>K (.el o (m+off)) Lv
    |.le id i m=>K (.le id i (m+off)) Lv
    |.v (.pointer o)=>Ds S ops pc (o.isSome)/\K (.el o off) Lv
    |_=>False
   |none=>False
  |_,_=>False
 |.field t x f=>match C.T t,Ho S pc x with
  |some { agg:=_,ks:=_,d:=.struct fs },some (.agg cs)=>match fs[f]? with
   |some (off,true,z)=>K (.v (.agg (cs.extract off (off+z)))) Lv
   |some (off,false,_)=>match cs[off]? with
    |some v=>K (.v v) Lv
    |none=>False
   |none=>False
  |_,_=>False
 |.indexAddr t x i=>match C.T t,zf0 S pc x,Ho S pc i with
  |some { agg:=_,ks:=_,d:=.slice _ z },some (.v (.slice o len _)),some (.int _ i)=>Ds S ops pc (Ix o len i)/\K (.el o (i.toNat*z)) Lv
  |some { agg:=_,ks:=_,d:=.slice _ 1 },some (.ls id len),some (.int _ i)=>Ds S ops pc (0<=i/\i<len)/\K (.le id i 0) Lv
  |some { agg:=_,ks:=_,d:=.arr n z _ },some (.el o m),some (.int _ i)=>Ds S ops pc (0<=i/\i<n)/\K (.el o (m+i.toNat*z)) Lv
  |some { agg:=_,ks:=_,d:=.arr n 1 _ },some (.loc id 0),some (.int _ i)=>Ds S ops pc (0<=i/\i<n)/\K (.le id i 0) Lv
  |_,_,_=>False
 |.index t x i=>match C.T t,Ho S pc x,Ho S pc i with
  |some { agg:=_,ks:=k::_,d:=.arr n 1 false },some (.agg cs),some (.int _ i)=>z4e k λv=>Ds S ops pc (0<=i/\i<n/\cs[i.toNat]? = some v)/\K (.v v) Lv
  |some { agg:=_,ks:=_,d:=.str },some (.string s),some (.int _ i)=>Ds S ops pc (0<=i/\i<s.size)/\K (.v (.int .u8 (Uf s i))) Lv
  |_,_,_=>False
 |.convert s t x=>match C.T s,C.T t,Ho S pc x with
  |some _,some { agg:=_,ks:=_,d:=.int k },some (.int _ n)=>Ds S ops pc (Qp k n)/\K (.v (.int k n)) Lv
  |_,_,_=>False
 |.extract x i=>match Ho S pc x with
  |some (.tuple vs)=>match vs[i]? with
   |some v=>K (.v v) Lv
   |none=>False
  |_=>False
 |.slice t x lo hi none=>match C.T t,Ho S pc x,zy5 S pc lo,zy5 S pc hi with
  |some { agg:=_,ks:=_,d:=.slice _ z },some (.slice o len cap),some l,some h=>
   zss l λl=>zlh len h λh=>Ds S ops pc (0<=l/\l<=h/\h<=cap)/\
    K (.v (.slice (if cap=l.toNat then o else o.map (·.add (l.toNat*z))) (h.toNat-l.toNat) (cap-l.toNat))) Lv
  |some { agg:=_,ks:=_,d:=.str },some (.string s),some l,some h=>
   zss l λl=>zlh s.size h λh=>Ds S ops pc (0<=l/\l<=h/\h<=s.size)/\K (.v (.string (s.extract l.toNat h.toNat))) Lv
  |_,_,_,_=>False
 |.makeFunc fn first cap=>match Lh S pc first.toList,Lh S pc cap.toList with
  |some a,some b=>K (.v (.func fn a.toArray b.toArray)) Lv
  |_,_=>False
 |.makeInterface t x=>match C.T t,Ho S pc x with
  |some ty,some v=>bif ty.d.AO9 then False else K (.v (.iface t v)) Lv
  |_,_=>False
 |.typeAssert x t u ok=>match Ho S pc x,z79 C u ok with
  |some a,some rk=>DF rk λr=>Ds S ops pc (∀wr,(Instr.typeAssert a t u ok).run C.P wr=.ok r wr)/\K (.v r) Lv
  |_,_=>False
 |.build t parts=>match C.T t with
  |some { agg:=_,ks:=ks,d:=.struct fs }=>match Lh S pc (parts.toList.map (·.2)),ks.contains .other with
   |some vs,false=>match Instr.fill (λi=>(fs[i]?).map λf=>(f.1,f.2.2)) (ks.map zv).toArray ((parts.toList.map (·.1)).zip vs) with
    |some cells=>K (.v (.agg cells)) Lv
    |none=>False
   |_,_=>False
  |some { agg:=_,ks:=ks,d:=.arr _ z _ }=>match Lh S pc (parts.toList.map (·.2)),ks.contains .other with
   |some vs,false=>match Instr.fill (λi=>some (i*z,z)) (ks.map zv).toArray ((parts.toList.map (·.1)).zip vs) with
    |some cells=>K (.v (.agg cells)) Lv
    |none=>False
   |_,_=>False
  |_=>False
 |.load t x=>match C.T t,zf0 S pc x with
  |some ty,some (.el o n)=>znj ty.ks λvs=>match ty.val vs with
   |some v=>Ds S ops pc (Q1 S.bs w o n vs)/\K (.v v) (some λS' w'=>Ds S ops pc (Q1 S'.bs w' o n vs))
   |none=>False
  |some ty,some (.v (.pointer o))=>bif ty.ks.isEmpty then False else znj ty.ks λvs=>match ty.val vs with
   |some v=>Ds S ops pc (Q1 S.bs w o 0 vs)/\K (.v v) (some λS' w'=>Ds S ops pc (Q1 S'.bs w' o 0 vs))
   |none=>False
  |some ty,some (.loc id off)=>match S.L[id]? with
   |some (t',cs)=>match bif Nat.beq ((cs.drop off).take ty.ks.length).length ty.ks.length then ty.val ((cs.drop off).take ty.ks.length) else none with
    |some v=>K (.v v) (some λS' _=>S'.L[id]? = some (t',cs))
    |none=>False
   |none=>False
  |some { agg:=false,ks:=[k],d:=_ },some (.le id i m)=>match S.L[id]? with
   |some (t',cs)=>z4e k λv=>Ds S ops pc (0<=i/\cs[i.toNat+m]? = some v)/\K (.v v) (some λS' _=>S'.L[id]? = some (t',cs))
   |none=>False
  |_,_=>False
 |.call { callee:=.builtin b,args:=args,argTypes:=ts }=>match b,args.toList,ts.toList with
  |.len,[x],[t]=>match C.T t,Ho S pc x with
   |some { agg:=_,ks:=_,d:=.slice _ _ },some (.slice _ n _)=>K (.v (.int .i64 n)) Lv
   |some { agg:=_,ks:=_,d:=.str },some (.string s)=>K (.v (.int .i64 s.size)) Lv
   |_,_=>False
  |.min,[x,y],_=>match Ho S pc x,Ho S pc y with
   |some (.int k a),some (.int _ b)=>K (.v (.int k (if b<a then b else a))) Lv
   |_,_=>False
  |.max,[x,y],_=>match Ho S pc x,Ho S pc y with
   |some (.int k a),some (.int _ b)=>K (.v (.int k (if b>a then b else a))) Lv
   |_,_=>False
  |_,_,_=>False
 |.call { callee:=.value (.func f),args:=args,argTypes:=_ }=>match zpx C.pf f,Lh S pc args.toList with
  |some rks,some vs=>DF rks λr=>zco C (zoe S pc args.toList) f vs r (Ds S ops pc) S w/\K (.v r) (some (zco C (zoe S pc args.toList) f vs r (Ds S ops pc)))
  |_,_=>False
 |_=>False
def zay(S S':St):Prop:=∀(id b:Nat),S.B[id]? = some b->S'.B[id]? = some b
def Zb(C:V1)(S:St)(w:Wo)(o:Oper)(a:Act)(K:EV->K7->Prop):Prop:=
 ∃e fact v,K e fact/\EV.den S e v/\zqf fact S w/\
  ∀(S':St) (w':Wo) (a':Act),execOp a'.eval o=execOp a.eval o->zay S S'->zqf fact S' w'->∀wr,Zs S' w' wr->o.quietAt C.P a' (Zs S' w') wr v
def Zb.SB{C:V1}{S:St}{w:Wo}{o:Oper}{a:Act}{K:EV->K7->Prop}{e:EV}{v:Va}(hK:K e Lv)(hd:EV.den S e v)(hr:∀wr,(execOp a.eval o).run C.P wr=.ok (.value v) wr):Zb C S w o a K:=
 ⟨e,Lv,v,hK,hd,trivial,λS' w' a' he _ _ wr _=>by
  unfold Oper.quietAt;rw[he,hr wr];exact⟨rfl,rfl⟩⟩
def Zb.AP3{C:V1}{S:St}{w:Wo}{o:Oper}{a:Act}{K:EV->K7->Prop}{e:EV}{v:Va}{fact:zf1}(hK:K e (some fact))(hd:EV.den S e v)(hs:fact S w)(hr:∀(S':St) (w':Wo),zay S S'->fact S' w'->∀wr,Zs S' w' wr->(execOp a.eval o).run C.P wr=.ok (.value v) wr):Zb C S w o a K:=
 ⟨e,some fact,v,hK,hd,hs,λS' w' a' he hl hf wr hw=>by
  unfold Oper.quietAt;rw[he,hr S' w' hl hf wr hw];exact⟨rfl,rfl⟩⟩
def NK{l:Option Va}{K:Int->Prop}(h:zss l K):∃li:Int,(l=none/\li=0\/∃k,l=some (.int k li))/\K li:=by
 unfold zss at h
 split at h
 ·exact⟨0,.inl ⟨rfl,rfl⟩,h⟩
 ·exact⟨_,.inr ⟨_,rfl⟩,h⟩
 ·exact h.elim
def Es{n:Nat}{l:Option Va}{K:Int->Prop}(h:zlh n l K):∃li:Int,(l=none/\li=n\/∃k,l=some (.int k li))/\K li:=by
 unfold zlh at h
 split at h
 ·exact⟨n,.inl ⟨rfl,rfl⟩,h⟩
 ·exact⟨_,.inr ⟨_,rfl⟩,h⟩
 ·exact h.elim
def zfg{P:Program}{b:Bool}{len cap:Nat}{l hh:Option Va}{li hi:Int}(h:0<=li/\li<=hi/\hi<=cap)(hl:l=none/\li=0\/∃k,l=some (.int k li))(hh0:hh=none/\hi=len\/∃k,hh=some (.int k hi))(wr:Wo) :
  (Instr.sliceBounds b len cap l hh none).run P wr=.ok (li.toNat,hi.toNat,cap) wr:=by
 obtain⟨h0,h1,h2⟩:=h;have h4:0<=hi:=IC h0 h1;rcases hl with ⟨rfl,rfl⟩|⟨k,rfl⟩ <;> rcases hh0 with ⟨rfl,rfl⟩|⟨k',rfl⟩
 ·simp[Instr.sliceBounds]
 ·simp[Instr.sliceBounds,Instr.sliceBound,asIntOf,h1,h2]
 ·simp[Instr.sliceBounds,Instr.sliceBound,asIntOf,h0,h1]
 ·have h3:li<=((hi.toNat:Nat):Int):=Qo;simp only[Instr.sliceBounds,Instr.sliceBound,asIntOf,Sem.run_bind,Sem.run_pure,Result.andThen_ok,Sem.run_ite,C' (And.intro h4 h2),C' (And.intro h0 h3)]
def Q1.cells{bs:List Nat}{w wr:Wo}{o:OA}{n:Nat}{vs:List Va}(h:Q1 bs w o n vs)(hx:Q0 bs w wr){a:Addr}(ho:o=some a)(j:Nat)(x:Va)(hj:vs[j]? = some x):wr.cell? ((a.add n).add j)=some x:=by
 obtain⟨b,hb,_,hc⟩:=(h.get j x hj).ext hx;rw[ho] at hb;cases hb;rw[JJ];exact hc
def z4g{bs:List Nat}{w:Wo}{o:OA}{n:Nat}{ty:Ty}{vs:List Va}{v:Va}(hv:ty.val vs=some v)(hl:vs.length=ty.ks.length)(hk:0<ty.ks.length)(h:Q1 bs w o n vs):∃u,JH bs w o n u:=by
 cases vs with
 |nil=>simp at hl;omega
 |cons x r=>exact⟨x,h.get 0 x rfl⟩
def Hf{S:St}{w wr:Wo}(h:Zs S w wr){id:Nat}{t:TypeId}{cs:List Va}(hl:S.L[id]? = some (t,cs)){b:Nat}(hb:S.B[id]? = some b)(i:Nat):wr.cell? ⟨b,i,none⟩=cs[i]? := by
 obtain⟨b',gV,hh⟩:=h.loc id t cs hl;rw[hb] at gV;cases gV;simp[World.cell?,hh]
def ziw{C:V1}(hT:zv9 C.P C.T)(RA:∀f ks,zpx C.pf f=some ks->P3 C.P f){S:St}{w:Wo}{ops:Array Oper}{o:Oper}{pc:List (Nat×Bool)}{K:EV->K7->Prop}{a:Act}(hf:AJ C.n S ops a)(hp:EF ops a pc)(h:z6g C S w ops o pc K):Zb C S w o a K:=by
 have G:∀A,Ds S ops pc A->A:=λA=>za6 hf hp
 unfold z6g at h
 split at h
 case h_1 x ho=>
  split at h
  ·rename_i e he;exact Zb.SB h (Yo hf hp he) λwr=>by simp[execOp,ho]
  ·exact h.elim
 case h_2 x ho=>
  split at h
  ·rename_i e he;exact Zb.SB h (Yo hf hp he) λwr=>by simp[execOp,ho]
  ·exact h.elim
 case h_3 c x y ho=>
  split at h
  ·rename_i cb hc;have hcv:=QY hf hp hc
   split at h
   ·rename_i kD
    split at h
    ·rename_i v hv
     have hcb:cb=false:=by
      cases hq:cb with
      |false=>rfl
      |true=>
       rw[hq] at hcv;exact(Yo hf (KS hf hp hcv) kD).elim
     rw[hcb] at hcv;have hv':=QY hf (KS hf hp hcv) hv;exact Zb.SB h rfl λwr=>by simp[execOp,ho,hcv,asBool,hv']
    ·exact h.elim
   ·rename_i kD _
    split at h
    ·rename_i v hv
     have hcb:cb:=by
      cases hq:cb with
      |true=>rfl
      |false=>
       rw[hq] at hcv;exact(Yo hf (KS hf hp hcv) kD).elim
     rw[hcb] at hcv;have hv':=QY hf (KS hf hp hcv) hv;exact Zb.SB h rfl λwr=>by simp[execOp,ho,hcv,asBool,hv']
    ·exact h.elim
   ·split at h
    ·rename_i u v hu hv
     obtain⟨r,hK,hr⟩:=zoi (ax:=a.eval x) (bx:=a.eval y) (λe=>by
       subst e;exact QY hf (KS hf hp hcv) hu) (λe=>by
       subst e;exact QY hf (KS hf hp hcv) hv) (λv e=>by subst e;rfl) (λv e=>by subst e;rfl) h
     refine Zb.SB hK (v:=r) rfl λwr=>?_
     simp only[execOp,ho,hcv,asBool];rw[hr]
     cases cb <;> rfl
    ·exact h.elim
  ·exact h.elim
 case h_4 x ho=>
  split at h
  ·rename_i b n he;have hd:=Yo hf hp he;refine Zb.SB h hd λwr=>?_
   obtain⟨b,_,hb⟩:=hd;simp[execOp,ho,hb]
  ·rename_i id off he;have hd:=Yo hf hp he;refine Zb.SB h hd λwr=>?_
   obtain⟨b,_,hb⟩:=hd;simp[execOp,ho,hb]
  ·rename_i id i k he;have hd:=Yo hf hp he;refine Zb.SB h hd λwr=>?_
   obtain⟨b,_,_,hb⟩:=hd;simp[execOp,ho,hb]
  ·rename_i b he;have hd:=Yo hf hp he;obtain⟨h1,h2⟩:=h;have h3:=G _ h1;obtain⟨ad,rfl⟩:=Option.isSome_iff_exists.1 h3;simp only[EV.den] at hd;exact Zb.SB h2 (v:=.pointer (some ad)) ⟨ad,rfl,by rw[Addr.add_zero']⟩ λwr=>by simp[execOp,ho,hd]
  ·rename_i f fs cs he;have hd:=Yo hf hp he;refine Zb.SB h hd λwr=>?_
   simp only[EV.den] at hd;simp[execOp,ho,hd]
  ·exact h.elim
 case h_5 op t x y yt ho=>
  split at h
  ·rename_i ty u v ht hu hv;have hu':=QY hf hp hu;have hv':=QY hf hp hv
   cases hb:z7f ty.d op C.wr with
   |true=>
    rw[hb] at h;simp only[cond_true] at h;obtain⟨r,h1,h2⟩:=Ka h;refine Zb.SB h2 (v:=r) rfl λwr=>?_
    have:=G _ h1 wr;simp only[execOp,ho,hu',hv',Sem.run_bind] at this ⊢;rw[this];rfl
   |false=>
    rw[hb] at h;simp only[cond_false] at h;obtain⟨r,hK,hr⟩:=zuh hT ht (x:=x) (y:=y) G h;refine Zb.SB hK (v:=r) rfl λwr=>?_
    have:=hr wr;simp only[execOp,ho,hu',hv',Sem.run_bind] at this ⊢;rw[this];rfl
  ·exact h.elim
 case h_6 t x ho=>
  split at h
  ·rename_i b hb;exact Zb.SB h rfl λwr=>by simp[execOp,ho,QY hf hp hb,Op.unary]
  ·exact h.elim
 case h_7 t x ho=>
  split at h
  ·rename_i k n hb;obtain⟨h1,h2⟩:=h;have h3:=(G _ h1).wrap;rw[Int.zero_sub] at h3;exact Zb.SB h2 rfl λwr=>by simp[execOp,ho,QY hf hp hb,Op.unary,Op.intArith,h3]
  ·exact h.elim
 case h_8 s x f ho=>
  split at h
  ·rename_i ag ks fs e ht he;have hd:=Yo hf hp he;obtain⟨d,hu,_,pI⟩:=(hT.facts ht).desc;obtain⟨fl,rfl,qV⟩:=HA pI.symm
   split at h
   ·rename_i off b z hfs;obtain⟨fd,i,dd,hfd,hi,_,hz,hx⟩:=PY qV f _ hfs;simp only[Prod.mk.injEq] at hx;obtain⟨rfl,_,rfl⟩:=hx;have Bo7:fl[f]? = some fd:=by simpa using hfd
    have We:∀(ad:Addr) wr,(Instr.fieldAt s (.pointer (some ad)) f).run C.P wr=.ok (.pointer (some (ad.add fd.offset))) wr:=λad wr=>by
     simp[Instr.fieldAt,run_underlying hu,Bo7,Instr.sureAddr,fieldPlace,Yy hi,hz]
    split at h
    ·rename_i id m;obtain⟨b,hb,hv⟩:=hd;refine Zb.SB h (v:=.pointer (some ⟨b,m+fd.offset,none⟩)) ⟨b,hb,rfl⟩ λwr=>?_
     simp[execOp,ho,hv,We,Addr.add_lit]
    ·rename_i ob m;obtain⟨ad,hb,hv⟩:=hd;refine Zb.SB h (v:=.pointer (some (ad.add (m+fd.offset)))) ⟨ad,hb,rfl⟩ λwr=>?_
     simp[execOp,ho,hv,We,JJ]
    ·rename_i id ix m;obtain⟨b,hb,h0,hv⟩:=hd;refine Zb.SB h (v:=.pointer (some ⟨b,ix.toNat+(m+fd.offset),none⟩)) ⟨b,hb,h0,rfl⟩ λwr=>?_
     simp[execOp,ho,hv,We,Addr.add_lit,Nat.add_assoc]
    ·rename_i ob;obtain⟨h1,h2⟩:=h;obtain⟨ad,rfl⟩:=Option.isSome_iff_exists.1 (G _ h1);simp only[EV.den] at hd;refine Zb.SB h2 (v:=.pointer (some (ad.add fd.offset))) ⟨ad,rfl,rfl⟩ λwr=>?_
     simp[execOp,ho,hd,We]
    ·exact h.elim
   ·exact h.elim
  ·exact h.elim
 case h_9 t x f ho=>
  split at h
  ·rename_i ag ks fs cs ht hx;have eJ:=QY hf hp hx;obtain⟨d,hu,_,pI⟩:=(hT.facts ht).desc;obtain⟨fl,rfl,qV⟩:=HA pI.symm
   split at h
   ·rename_i off z hfs;obtain⟨fd,i,dd,hfd,hi,hdd,hz,hx⟩:=PY qV f _ hfs;simp only[Prod.mk.injEq] at hx;obtain⟨rfl,hag,rfl⟩:=hx;have Bo7:fl[f]? = some fd:=by simpa using hfd
    refine Zb.SB h rfl λwr=>?_
    simp[execOp,ho,eJ,Instr.field,run_underlying hu,Bo7,asAgg,part,VX hdd,<-hag,Yy hi]
   ·rename_i off z hfs;obtain⟨fd,i,dd,hfd,hi,hdd,hz,hx⟩:=PY qV f _ hfs;simp only[Prod.mk.injEq] at hx;obtain⟨rfl,hag,rfl⟩:=hx;have Bo7:fl[f]? = some fd:=by simpa using hfd
    split at h
    ·rename_i v hv;refine Zb.SB h rfl λwr=>?_
     simp[execOp,ho,eJ,Instr.field,run_underlying hu,Bo7,asAgg,part,VX hdd,<-hag,hv]
    ·exact h.elim
   ·exact h.elim
  ·exact h.elim
 case h_10 t x i ho=>
  split at h
  ·rename_i ag ks e z ob len cap ki ix ht hx hi;have eJ:=Yo hf hp hx;simp only[EV.den] at eJ;have hi':=QY hf hp hi;obtain⟨d,hu,_,pI⟩:=(hT.facts ht).desc;obtain⟨inf,rfl,pH,rfl⟩:=MT pI.symm;obtain⟨h1,h2⟩:=h;obtain⟨h3,h4,h5⟩:=G _ h1;obtain⟨ad,rfl⟩:=Option.isSome_iff_exists.1 h5;refine Zb.SB h2 (v:=.pointer (some (ad.add (ix.toNat*inf.size)))) ⟨ad,rfl,rfl⟩ λwr=>?_
   simp[execOp,ho,eJ,hi',Instr.indexAt,asIntOf,run_underlying hu,h3,h4,Yy pH]
  ·rename_i ag ks e id len ki ix ht hx hi;have eJ:=Yo hf hp hx;obtain⟨b,hb,eJ⟩:=eJ;have hi':=QY hf hp hi;obtain⟨d,hu,_,pI⟩:=(hT.facts ht).desc;obtain⟨inf,rfl,pH,sI⟩:=MT pI.symm;obtain⟨h1,h2⟩:=h;obtain⟨h3,h4⟩:=G _ h1;refine Zb.SB h2 (v:=.pointer (some ⟨b,ix.toNat+0,none⟩)) ⟨b,hb,h3,rfl⟩ λwr=>?_
   simp[execOp,ho,eJ,hi',Instr.indexAt,asIntOf,run_underlying hu,h3,h4,Yy pH,sI,Addr.add_lit]
  ·rename_i ag ks n z ea ob m ki ix ht hx hi;have eJ:=Yo hf hp hx;obtain⟨ad,hb,eJ⟩:=eJ;have hi':=QY hf hp hi;obtain⟨d,hu,_,pI⟩:=(hT.facts ht).desc;obtain⟨e,inf,de,rfl,pH,rfl,_,_⟩:=Bw pI.symm;obtain⟨h1,h2⟩:=h;obtain⟨h3,h4⟩:=G _ h1;refine Zb.SB h2 (v:=.pointer (some (ad.add (m+ix.toNat*inf.size)))) ⟨ad,hb,rfl⟩ λwr=>?_
   simp[execOp,ho,eJ,hi',Instr.indexAt,Instr.sureAddr,asIntOf,run_underlying hu,h3,h4,Yy pH,JJ]
  ·rename_i ag ks n ea id ki ix ht hx hi;have eJ:=Yo hf hp hx;obtain⟨b,hb,eJ⟩:=eJ;have hi':=QY hf hp hi;obtain⟨d,hu,_,pI⟩:=(hT.facts ht).desc;obtain⟨e,inf,de,rfl,pH,sI,_,_⟩:=Bw pI.symm;obtain⟨h1,h2⟩:=h;obtain⟨h3,h4⟩:=G _ h1;refine Zb.SB h2 (v:=.pointer (some ⟨b,ix.toNat+0,none⟩)) ⟨b,hb,h3,rfl⟩ λwr=>?_
   simp[execOp,ho,eJ,hi',Instr.indexAt,Instr.sureAddr,asIntOf,run_underlying hu,h3,h4,Yy pH,sI,Addr.add_lit]
  ·exact h.elim
 case h_11 t x i ho=>
  split at h
  ·rename_i ag k ks n cs ki ix ht hx hi;have eJ:=QY hf hp hx;have hi':=QY hf hp hi;obtain⟨d,hu,_,pI⟩:=(hT.facts ht).desc;obtain⟨e,inf,de,rfl,pH,sI,hde,hag⟩:=Bw pI.symm;obtain⟨v,h1,h2⟩:=Ka h;obtain⟨h3,h4,h5⟩:=G _ h1;refine Zb.SB h2 rfl λwr=>?_
   simp[execOp,ho,eJ,hi',Instr.index,asIntOf,run_underlying hu,h3,h4,Yy pH,sI,part,VX hde,hag,h5]
  ·rename_i ag ks s ki ix ht hx hi;have eJ:=QY hf hp hx;have hi':=QY hf hp hi;obtain⟨d,hu,_,pI⟩:=(hT.facts ht).desc;have:=zfu pI.symm;subst this;obtain⟨h1,h2⟩:=h;obtain⟨h3,h4⟩:=G _ h1;refine Zb.SB h2 rfl λwr=>?_
   have h5:ix.toNat<s.size:=Qo;have h6:s[ix.toNat]? = some (s[ix.toNat]):=by simp[h5]
   simp only[execOp,ho,eJ,hi',Instr.index,asIntOf,Sem.run_bind,Sem.run_pure,run_underlying hu,Result.andThen_ok,h3,if_true,h6]
   have h7:Uf s ix=(s[ix.toNat].toNat:Int):=by
    unfold Uf
    congr 2
    simp[Array.getD,h5];rfl
   rw[h7]
  ·exact h.elim
 case h_12 sT t x ho=>
  split at h
  ·rename_i ty0 ag ks k k0 n hs ht hx;have eJ:=QY hf hp hx;obtain⟨d0,hu0,_,_⟩:=(hT.facts hs).desc;obtain⟨d,hu,_,pI⟩:=(hT.facts ht).desc;have:=zz3 pI.symm;subst this;obtain⟨h1,h2⟩:=h;have h3:=(G _ h1).wrap;refine Zb.SB h2 rfl λwr=>?_
   cases d0 <;> simp[execOp,ho,eJ,convert,run_underlying hu0,run_underlying hu,Conv.intToInt,h3]
  ·exact h.elim
 case h_13 x i ho=>
  split at h
  ·rename_i vs hx;have eJ:=QY hf hp hx
   split at h
   ·rename_i v hv;exact Zb.SB h rfl λwr=>by simp[execOp,ho,eJ,Instr.extract,hv]
   ·exact h.elim
  ·exact h.elim
 case h_14 t x lo hi ho=>
  split at h
  ·rename_i ag ks e z ob len cap l hh ht hx hl hhi;have eJ:=QY hf hp hx;have hl':=HU hf hp hl;have hh':=HU hf hp hhi;obtain⟨d,hu,_,pI⟩:=(hT.facts ht).desc;obtain⟨inf,rfl,pH,rfl⟩:=MT pI.symm;obtain⟨li,uG,h⟩:=NK h;obtain⟨hi',hh1,h1,h2⟩:=Es h;have hsb:=zfg (P:=C.P) (b:=true) (G _ h1) uG hh1;exact Zb.SB h2 rfl λwr=>by simp[execOp,ho,eJ,hl',hh',Instr.sliceAt,Instr.slice,run_underlying hu,hsb,Yy pH]
  ·rename_i ag ks sv l hh ht hx hl hhi;have eJ:=QY hf hp hx;have hl':=HU hf hp hl;have hh':=HU hf hp hhi;obtain⟨d,hu,_,pI⟩:=(hT.facts ht).desc;have:=zfu pI.symm;subst this;obtain⟨li,uG,h⟩:=NK h;obtain⟨hi',hh1,h1,h2⟩:=Es h;have hsb:=zfg (P:=C.P) (b:=false) (G _ h1) uG hh1;exact Zb.SB h2 rfl λwr=>by simp[execOp,ho,eJ,hl',hh',Instr.sliceAt,Instr.slice,run_underlying hu,hsb]
  ·exact h.elim
 case h_15 fn first cap ho=>
  split at h
  ·rename_i va vb hva hvb;have h1:=XY hf hp hva;have h2:=XY hf hp hvb;have e1:first.map a.eval=va.toArray:=by rw[<-h1,<-Array.toList_map,Array.toArray_toList]
   have e2:cap.map a.eval=vb.toArray:=by rw[<-h2,<-Array.toList_map,Array.toArray_toList]
   exact Zb.SB h rfl λwr=>by simp[execOp,ho,Instr.makeFunc,e1,e2]
  ·exact h.elim
 case h_16 t x ho=>
  split at h
  ·rename_i ty v ht hx;have eJ:=QY hf hp hx;obtain⟨d,hu,_,pI⟩:=(hT.facts ht).desc
   cases ho':ty.d.AO9 with
   |true=>rw[ho'] at h;exact h.elim
   |false=>
    rw[ho'] at h;simp only[cond_false] at h;refine Zb.SB h rfl λwr=>?_
    cases d with
    |interface ms=>rw[pI] at ho';simp[Hz,TD.AO9] at ho'
    |_=>simp[execOp,ho,eJ,Instr.makeInterface,run_underlying hu]
  ·exact h.elim
 case h_17 x t u ok ho=>
  split at h
  ·rename_i v rk hx hrk;have eJ:=QY hf hp hx;obtain⟨r,h1,h2⟩:=UG h;exact Zb.SB h2 rfl λwr=>by simp[execOp,ho,eJ,G _ h1 wr]
  ·exact h.elim
 case h_18 t parts ho=>
  split at h
  ·rename_i ag ks fs ht;obtain⟨d,hu,_,pI⟩:=(hT.facts ht).desc;obtain⟨inf,z,pH,hz,sI,hks⟩:=(hT.facts ht).info;obtain⟨fl,rfl,qV⟩:=HA pI.symm
   split at h
   ·rename_i vs hvs kD;have hv:=XY hf hp hvs
    split at h
    ·rename_i cells AR2;refine Zb.SB h rfl λwr=>?_
     have hzc:z.cells=(ks.map zv).toArray:=by
      have h0:∀(l:List Va),(l.map K2).contains .other=false->(l.map K2).map zv=l:=by
       intro l
       induction l with
       |nil=>intro _;rfl
       |cons x r ih=>
        intro hc;simp only[List.map_cons,List.contains_cons,H'] at hc;have hx:K2 x≠.other:=by intro e;rw[e] at hc;simp at hc
        simp only[List.map_cons,ih hc.2,<-zkw hx]
      have h1:=h0 z.cells.toList (by rw[hks];exact kD);rw[hks] at h1;rw[h1,Array.toArray_toList]
     have hpl:∀(l:List Field) (r:List (Nat×Bool×Nat)),fieldsOf C.P l=some r->
       (l.mapM (λf=>do pure (f.offset,<-sizeOf f.type)):Sem (List (Nat×Nat))).run C.P wr=.ok (r.map λf=>(f.1,f.2.2)) wr:=by
      intro l
      induction l with
      |nil=>intro r hr;simp only[fieldsOf,I0] at hr;subst hr;simp
      |cons f l ih=>
       intro r hr;simp only[fieldsOf] at hr
       split at hr
       ·rename_i i d l' hi hd hl'
        split at hr
        ·cases hr
        ·simp only[I0] at hr;subst hr;have ih':=ih l' hl';simp only[List.mapM_cons,Sem.run_bind,Yy hi,Result.andThen_ok,Sem.run_pure,ih',List.map_cons]
       ·cases hr
     have AG8:(parts.map λ(i,x)=>(i,a.eval x)).toList=(parts.toList.map (·.1)).zip vs:=by
      rw[<-hv];generalize hq:parts.toList=q;have:(parts.map λ(i,x)=>(i,a.eval x)).toList=q.map λ(i,x)=>(i,a.eval x):=by rw[<-hq];simp
      rw[this];clear hq this hvs AR2
      induction q with
      |nil=>rfl
      |cons y q ih=>simp[ih]
     have BJ7:Instr.fill (λi=>((fs.map λf=>(f.1,f.2.2)).toArray)[i]?) z.cells ((parts.map λ(i,x)=>(i,a.eval x)).toList)=some cells:=by
      rw[AG8,hzc,<-AR2]
      congr 1
      funext i
      simp
     simp only[execOp,ho,Instr.build,Sem.run_bind,zeroValue,JW pH,Result.andThen_ok,hz,Sem.run_pure,run_underlying hu,Array.mapM_eq_mapM_toList,Sem.run_map,hpl fl.toList fs qV,BJ7]
    ·exact h.elim
   ·exact h.elim
  ·rename_i ag ks n z0 eb ht;obtain⟨d,hu,_,pI⟩:=(hT.facts ht).desc;obtain⟨inf,z,pH,hz,sI,hks⟩:=(hT.facts ht).info;obtain⟨e,Cb7,de,rfl,CW7,hez,_,_⟩:=Bw pI.symm
   split at h
   ·rename_i vs hvs kD;have hv:=XY hf hp hvs
    split at h
    ·rename_i cells AR2;refine Zb.SB h rfl λwr=>?_
     have hzc:z.cells=(ks.map zv).toArray:=by
      have h0:∀(l:List Va),(l.map K2).contains .other=false->(l.map K2).map zv=l:=by
       intro l
       induction l with
       |nil=>intro _;rfl
       |cons x r ih=>
        intro hc;simp only[List.map_cons,List.contains_cons,H'] at hc;have hx:K2 x≠.other:=by intro e;rw[e] at hc;simp at hc
        simp only[List.map_cons,ih hc.2,<-zkw hx]
      have h1:=h0 z.cells.toList (by rw[hks];exact kD);rw[hks] at h1;rw[h1,Array.toArray_toList]
     have AG8:(parts.map λ(i,x)=>(i,a.eval x)).toList=(parts.toList.map (·.1)).zip vs:=by
      rw[<-hv];generalize hq:parts.toList=q;have:(parts.map λ(i,x)=>(i,a.eval x)).toList=q.map λ(i,x)=>(i,a.eval x):=by rw[<-hq];simp
      rw[this];clear hq this hvs AR2
      induction q with
      |nil=>rfl
      |cons y q ih=>simp[ih]
     have BJ7:Instr.fill (λi=>some (i*Cb7.size,Cb7.size)) z.cells ((parts.map λ(i,x)=>(i,a.eval x)).toList)=some cells:=by
      rw[AG8,hzc,<-AR2,hez]
     simp only[execOp,ho,Instr.build,Sem.run_bind,zeroValue,JW pH,Result.andThen_ok,hz,Sem.run_pure,run_underlying hu,Yy CW7,BJ7]
    ·exact h.elim
   ·exact h.elim
  ·exact h.elim
 case h_19 t x ho=>
  split at h
  ·rename_i ty ob n ht hx;obtain⟨ad,hb,eJ⟩:=Yo hf hp hx;obtain⟨vs,hlen,h⟩:=P7 h
   split at h
   ·rename_i v hv;obtain⟨h1,h2⟩:=h;refine Zb.AP3 (v:=v) h2 rfl h1 λS' w' hl kI wr hw=>?_
    have h3:=G _ kI;have:=VV hT ht hv hlen (a:=ad.add n) (h3.cells hw.ext hb);simp[execOp,ho,eJ,Instr.loadAt,Instr.sureAddr,this]
   ·exact h.elim
  ·rename_i ty ob ht hx;have eJ:=Yo hf hp hx;simp only[EV.den] at eJ
   have hk:0<ty.ks.length:=by
    cases hks:ty.ks with
    |nil=>rw[hks] at h;exact h.elim
    |cons=>simp
   have hke:ty.ks.isEmpty=false:=by
    cases hks:ty.ks with
    |nil=>rw[hks] at hk;cases hk
    |cons=>rfl
   rw[hke] at h;obtain⟨vs,hlen,h⟩:=P7 h
   split at h
   ·rename_i v hv;obtain⟨h1,h2⟩:=h;refine Zb.AP3 (v:=v) h2 rfl h1 λS' w' hl kI wr hw=>?_
    have h3:=G _ kI;obtain⟨u,hu⟩:=z4g hv hlen hk h3;obtain⟨ad,hb,_,_⟩:=hu;have:=VV hT ht hv hlen (a:=ad.add 0) (h3.cells hw.ext hb);rw[Addr.add_zero'] at this;simp[execOp,ho,eJ,hb,Instr.loadAt,Instr.sureAddr,this]
   ·exact h.elim
  ·rename_i ty id off ht hx;obtain⟨b,hb,eJ⟩:=Yo hf hp hx
   split at h
   ·rename_i t' cs hL
    split at h
    ·rename_i v hv
     cases hl:Nat.beq ((cs.drop off).take ty.ks.length).length ty.ks.length with
     |false=>rw[hl] at hv;cases hv
     |true=>
      rw[hl] at hv;simp only[cond_true] at hv;refine Zb.AP3 (v:=v) h rfl hL λS' w' lU kI wr hw=>?_
      have:=VV hT ht hv (Ib hl) (a:=⟨b,off,none⟩) (w:=wr) (λj y hy=>by
       rw[Addr.add_lit,Hf hw kI (lU _ _ hb)];have:=List.getElem?_take (l:=cs.drop off) (i:=ty.ks.length) (j:=j);rw[hy] at this
       split at this
       ·rw[List.getElem?_drop] at this;exact this.symm
       ·cases this)
      simp[execOp,ho,eJ,Instr.loadAt,Instr.sureAddr,this]
    ·exact h.elim
   ·exact h.elim
  ·rename_i k td id i m ht hx;obtain⟨b,hb,h0,eJ⟩:=Yo hf hp hx
   split at h
   ·rename_i t' cs hL;obtain⟨v,h1,h2⟩:=Ka h;obtain⟨_,h4⟩:=G _ h1;refine Zb.AP3 (v:=v) h2 rfl hL λS' w' lU kI wr hw=>?_
    have:=VV hT ht (vs:=[v]) (v:=v) rfl rfl (a:=⟨b,i.toNat+m,none⟩) (w:=wr) (λj y hy=>by
     cases j with
     |zero=>simp at hy;subst hy;rw[Addr.add_zero',Hf hw kI (lU _ _ hb)];exact h4
     |succ j=>simp at hy)
    simp[execOp,ho,eJ,Instr.loadAt,Instr.sureAddr,this]
   ·exact h.elim
  ·exact h.elim
 case h_20 b args ts ho=>
  split at h
  ·rename_i x t hargs hts;have ea:args=#[x]:=by rw[<-Array.toArray_toList (xs:=args),hargs]
   have et:ts=#[t]:=by rw[<-Array.toArray_toList (xs:=ts),hts]
   subst ea;subst et
   split at h
   ·rename_i ag ks e z o n c ht hx;have eJ:=QY hf hp hx;obtain⟨d,hu,_,pI⟩:=(hT.facts ht).desc;obtain⟨inf,rfl,pH,_⟩:=MT pI.symm;exact Zb.SB h rfl λwr=>by simp[execOp,ho,resolve,invoke,builtin,Builtin.len_,run_underlying hu,eJ,goInt]
   ·rename_i ag ks sv ht hx;have eJ:=QY hf hp hx;obtain⟨d,hu,_,pI⟩:=(hT.facts ht).desc;have:=zfu pI.symm;subst this;exact Zb.SB h rfl λwr=>by simp[execOp,ho,resolve,invoke,builtin,Builtin.len_,run_underlying hu,eJ,goInt]
   ·exact h.elim
  ·rename_i x y hargs;have ea:args=#[x,y]:=by rw[<-Array.toArray_toList (xs:=args),hargs]
   subst ea
   split at h
   ·rename_i k u k' v hx hy;have eJ:=QY hf hp hx;have hy':=QY hf hp hy;exact Zb.SB h rfl λwr=>by simp[execOp,ho,resolve,invoke,builtin,Builtin.min_,Builtin.min2,eJ,hy']
   ·exact h.elim
  ·rename_i x y hargs;have ea:args=#[x,y]:=by rw[<-Array.toArray_toList (xs:=args),hargs]
   subst ea
   split at h
   ·rename_i k u k' v hx hy;have eJ:=QY hf hp hx;have hy':=QY hf hp hy;exact Zb.SB h rfl λwr=>by simp[execOp,ho,resolve,invoke,builtin,Builtin.max_,Builtin.max2,eJ,hy']
   ·exact h.elim
  ·exact h.elim
 case h_21 f args ts ho=>
  split at h
  ·rename_i rks vs hpf hvs;have hv:=XY hf hp hvs;obtain⟨r,h1,h2⟩:=UG h;refine⟨.v r,_,r,h2,rfl,h1,λS' w' a' he lU kI wr hw=>?_⟩;unfold Oper.quietAt;rw[he,zox (RA f rks hpf) args ts a ho];refine⟨rfl,?_⟩;have ea:args.map a.eval=vs.toArray:=by rw[<-hv,<-Array.toList_map,Array.toArray_toList]
   rw[ea]
   have Ca0:Q3 S'.bs C.P f vs.toArray wr r:=by
    unfold zco at kI
    split at kI
    ·exact(G _ kI).ext hw.ext
    ·exact(Jx.out hw (G _ kI wr hw.ext))
   exact(Ca0 wr (Q0.refl _ _)).mono λe kA ⟨h1,h2⟩=>⟨h1,hw.step h2⟩
  ·exact h.elim
 case h_22=>exact h.elim
structure Kl (n:Nat) (S:St) (ops:Array Oper) (D:Nat->Prop) (a:Act):Prop where
 fit:AJ n S ops a
 dn:∀(i:Nat) (pc:List (Nat×Bool)) (x:EV),S.F.get i=some (.gd S.r pc x)->∀p∈pc,D p.1
 st:∀(i r:Nat) (pc:List (Nat×Bool)) (x:EV),S.F.get i=some (.gd r pc x)->r<=S.r
def NO:List Oper->Nat->Nat->Nat->Bool
 |[],_,_,_=>true
 |o::r,d,j,k=>(match o.dst with
  |some d'=>bif Nat.beq d' d then Nat.beq k j else true
  |none=>true)&&NO r d j (k+1)
def AB:∀{l:List Oper} {d j k:Nat},NO l d j k->∀(i:Nat) (o:Oper),l[i]? = some o->o.dst=some d->k+i=j
 |[],_,_,_,_,i,o,h,_=>by simp at h
 |o::r,d,j,k,h,i,o',h1,h2=>by
  simp only[NO,A'] at h
  cases i with
  |zero=>
   simp only[Ie,I0] at h1;subst h1;rw[h2] at h;simp only[Nat.beq_refl,cond_true] at h;exact Ib h.1
  |succ i=>
   have:=AB h.2 i o' (by simpa using h1) h2;omega
def zwa(ops:Array Oper)(j:Nat):Prop:=∃o∈ops.toList,∃b,o.guard=some (j,b)
def zpc(ops:List Oper):List Oper->Option Nat->Bool
 |[],_=>true
 |o::r,last=>match o.guard with
  |none=>zpc ops r last
  |some (j,_)=>(match last with
    |some j'=>bif Nat.beq j' j then true else (match (ops[j]?).bind (·.dst) with|some d=>NO ops d j 0|none=>true)
    |none=>(match (ops[j]?).bind (·.dst) with|some d=>NO ops d j 0|none=>true))&&zpc ops r (some j)
def BA(ops:Array Oper):Bool:=zpc ops.toList ops.toList none
def zwk(ops:List Oper)(j:Nat):Prop:=∀d,(ops[j]?).bind (·.dst)=some d->∀(i:Nat) (o:Oper),ops[i]? = some o->o.dst=some d->i=j
def EP{ops:List Oper}:∀{l:List Oper} {last:Option Nat},zpc ops l last->(∀j,last=some j->zwk ops j)->∀o∈l,∀j b,o.guard=some (j,b)->zwk ops j
 |[],_,_,_,o,ho,_,_,_=>by cases ho
 |o::r,last,h,B92,o',ho,j,b,hg=>by
  simp only[zpc] at h
  split at h
  ·rename_i hn;rcases Ii.1 ho with rfl|ho
   ·rw[hn] at hg;cases hg
   ·exact EP h B92 o' ho j b hg
  ·rename_i j' b' hs;simp only[A'] at h
   have hu:zwk ops j':=by
    have h1:=h.1
    have base:(match (ops[j']?).bind (·.dst) with|some d=>NO ops d j' 0|none=>true)=true->zwk ops j':=λhb d hd i o hi hod=>by
     rw[hd] at hb;have:=AB hb i o hi hod;omega
    split at h1
    ·rename_i j''
     cases hb:Nat.beq j'' j' with
     |true=>exact Ib hb▸B92 j'' rfl
     |false=>rw[hb] at h1;exact base h1
    ·exact base h1
   rcases Ii.1 ho with rfl|ho
   ·rw[hs] at hg;cases hg;exact hu
   ·exact EP h.2 (λj'' hj=>by cases hj;exact hu) o' ho j b hg
def zrr{ops:Array Oper}(h:BA ops){j:Nat}(hj:zwa ops j):zwk ops.toList j:=by
 obtain⟨o,ho,b,hg⟩:=hj;exact EP h (λj hj=>by cases hj) o ho j b hg
def zik(S:St)(pc:List (Nat×Bool))(e:EV):SV:=
 match pc with
 |[]=>.un e
 |pc=>.gd S.r pc e
def EG(C:V1)(S:St)(d:Option Tmp)(sv:SV)(K:St->Prop):Prop:=
 match d with
 |none=>K S
 |some d=>bif Nat.blt d C.n&&Nat.blt d 4000 then K { S with F:=PT.set 12 S.F d sv } else False
def St.bQ(S:St)(d:Option Tmp)(sv:SV):St:=
 match d with
 |none=>S
 |some d=>{ S with F:=PT.set 12 S.F d sv }
def YO{C:V1}{S:St}{d:Option Tmp}{sv:SV}{K:St->Prop}(h:EG C S d sv K):K (S.bQ d sv)/\∀x,d=some x->x<C.n/\x<4000:=by
 cases d with
 |none=>exact⟨h,λx hx=>by cases hx⟩
 |some d=>
  simp only[EG] at h
  cases hb:(Nat.blt d C.n&&Nat.blt d 4000) with
  |false=>rw[hb] at h;exact h.elim
  |true=>
   rw[hb] at h;simp only[A'] at hb;exact⟨h,λx hx=>by cases hx;exact⟨Ik hb.1,Ik hb.2⟩⟩
def zxy{a:Act}{d:Option Tmp}{v:Va}(t:Nat)(h:∀x,d=some x->x<a.tmps.size):(a.put d v).tmps.getD t undef=if d=some t then v else a.tmps.getD t undef:=by
 cases d with
 |none=>simp[Act.put]
 |some d=>
  have hd:=h d rfl;simp only[Act.put,Array.getD_eq_getD_getElem?]
  by_cases hdt:d=t
  ·subst hdt;simp[hd]
  ·have:¬(some d=some t):=by simpa using hdt
   rw[B' this,Array.getElem?_setIfInBounds_ne hdt]
def zzk{a:Act}{d:Option Tmp}{v:Va}:(a.put d v).tmps.size=a.tmps.size:=by
 cases d <;> simp[Act.put]
def zpi{ops:Array Oper}{a:Act}{d:Option Tmp}{v:Va}{j:Nat}(h:∀x,d=some x->(ops[j]?).bind (·.dst)≠some x):yielded ops (a.put d v).tmps j=yielded ops a.tmps j:=by
 cases d with
 |none=>rfl
 |some d=>
  unfold yielded;simp only[Act.put]
  cases hj:(ops[j]?).bind (·.dst) with
  |none=>rfl
  |some x=>
   have cU:d≠x:=λe=>h d rfl (by rw[hj,e])
   simp only[Option.bind_some];rw[Array.getElem?_setIfInBounds_ne cU]
def EV.AB4{S:St}{d:Option Tmp}{sv:SV}{e:EV}{u:Va}:EV.den (S.bQ d sv) e u↔EV.den S e u:=by
 cases d <;> cases e <;> exact Iff.rfl
def Kl.put{n:Nat}{S:St}{ops:Array Oper}{D D':Nat->Prop}{a:Act}(hf:Kl n S ops D a){i:Nat}{o:Oper}{pc:List (Nat×Bool)}{e:EV}{v:Va}(hu:BA ops)(ho:ops[i]? = some o)(hi:¬D i)(hD:∀j,D j->zwa ops j)(hDD:∀j,D j->D' j)(pG:∀p∈pc,D p.1)(hd:∀x,o.dst=some x->x<n/\x<4000)(hv:(EF ops a pc->EV.den S e v)/\(¬EF ops a pc->v=undef)):Kl n (S.bQ o.dst (zik S pc e)) ops D' (a.put o.dst v):=by
 have hyk:∀j,D j->yielded ops (a.put o.dst v).tmps j=yielded ops a.tmps j:=λj hj=>zpi λx hx hjx=>by
  have:=zrr hu (hD j hj) x (by simpa using hjx) i o (by simpa using ho) hx;subst this;exact hi hj
 have hpk:∀vG,(∀p∈vG,D p.1)->(EF ops (a.put o.dst v) vG↔EF ops a vG):=λvG h'=>by
  unfold EF;constructor
  ·intro h p hp;rw[<-hyk p.1 (h' p hp)];exact h p hp
  ·intro h p hp;rw[hyk p.1 (h' p hp)];exact h p hp
 have sI:∀x,o.dst=some x->x<a.tmps.size:=λx hx=>by rw[hf.fit.size];exact(hd x hx).1
 have hr:(S.bQ o.dst (zik S pc e)).r=S.r:=by cases o.dst <;> rfl
 have AM5:∀t,(S.bQ o.dst (zik S pc e)).F.get t=if o.dst=some t then some (zik S pc e) else S.F.get t:=λt=>by
  cases hdd:o.dst with
  |none=>simp[St.bQ]
  |some d=>
   simp only[St.bQ];rw[PT.kM _ 12 S.F d t (by have h1 : @LT.lt Nat _ d 4000:=(hd d hdd).2;show @LT.lt Nat _ (d+1) (2 ^ 12);omega)];simp
 refine⟨⟨by rw[zzk];exact hf.fit.size,λt s hs=>?_⟩,λt vG x hx p hp=>?_,λt r vG x hx=>?_⟩
 ·rw[zxy t sI];rw[AM5 t] at hs
  by_cases hdt:o.dst=some t
  ·rw[C' hdt] at hs ⊢;simp only[I0] at hs;subst hs;unfold zik;split
   ·show EV.den _ e v;rw[EV.AB4];exact hv.1 (λp hp=>by cases hp)
   ·intro _;rw[EV.AB4,hpk pc pG];exact hv
  ·rw[B' hdt] at hs ⊢;have h1:=hf.fit.fits t s hs
   cases s with
   |un x=>
    show EV.den _ x _;rw[EV.AB4];exact h1
   |gd r vG x=>
    intro hrr;rw[hr] at hrr;subst hrr;rw[EV.AB4,hpk vG (hf.dn t vG x hs)];exact h1 rfl
 ·rw[AM5 t] at hx;rw[hr] at hx
  by_cases hdt:o.dst=some t
  ·rw[C' hdt] at hx;simp only[I0] at hx;unfold zik at hx
   split at hx
   ·cases hx
   ·simp only[SV.gd.injEq] at hx;obtain⟨_,rfl,_⟩:=hx;exact hDD _ (pG p hp)
  ·rw[B' hdt] at hx;exact hDD _ (hf.dn t vG x hx p hp)
 ·rw[AM5 t] at hx;rw[hr]
  by_cases hdt:o.dst=some t
  ·rw[C' hdt] at hx;simp only[I0] at hx;unfold zik at hx
   split at hx
   ·cases hx
   ·simp only[SV.gd.injEq] at hx;exact Nat.le_of_eq hx.1.symm
  ·rw[B' hdt] at hx;exact hf.st t r vG x hx
def dV(w:Wo)(a:Addr):Nat->List Va->Wo
 |_,[]=>w
 |n,v::r=>dV (w.setCell (a.add n) v) a (n+1) r
def Rw(w:Wo)(o:OA)(n:Nat)(vs:List Va):Wo:=
 match o with
 |some a=>dV w a n vs
 |none=>w
def Xh(bs:List Nat)(w:Wo)(o:OA)(n k:Nat):Prop:=
 ∃a,o=some a/\a.block∉bs/\∀j,n<=j->j<n+k->(∃u,w.cell? (a.add j)=some u)/\w.frozen? (a.add j)=false
def Zk:List Va->Bool
 |[]=>true
 |.agg _::_=>false
 |.tuple _::_=>false
 |_::r=>Zk r
def JV:∀{l:List Va},Zk l->∀v∈l,v.oneCell'=true
 |[],_,v,hv=>by cases hv
 |x::r,h,v,hv=>by
  cases x <;> simp only[Zk] at h <;> first
   |(cases h;done)
   | (rcases Ii.1 hv with rfl | hv
      ·rfl
      ·exact JV h v hv)
def M9:∀(vs:List Va) (w:Wo) (a:Addr) (n:Nat),(dV w a n vs).heap.size=w.heap.size
 |[],_,_,_=>rfl
 |v::r,w,a,n=>by simp only[dV];rw[M9 r];simp
def OR:∀(vs:List Va) (w:Wo) (a:Addr) (n k:Nat),k≠a.block->(dV w a n vs).heap[k]? = w.heap[k]?
 |[],_,_,_,_,_=>rfl
 |v::r,w,a,n,k,h=>by
  simp only[dV];rw[OR r _ a (n+1) k h,Below.heap_setCell _ _ _ _ (by rw[ZW];exact h)]
def D2:∀(vs:List Va) (w:Wo) (a:Addr) (n:Nat),(dV w a n vs).os=w.os/\(dV w a n vs).tape=w.tape/\(dV w a n vs).output=w.output
 |[],_,_,_=>⟨rfl,rfl,rfl⟩
 |v::r,w,a,n=>by
  simp only[dV];obtain⟨h1,h2,h3⟩:=D2 r (w.setCell (a.add n) v) a (n+1);exact⟨h1,h2,h3⟩
def zj2:∀(vs:List Va) (w w':Wo) (a:Addr) (n:Nat),w.heap[a.block]? = w'.heap[a.block]?->(dV w a n vs).heap[a.block]? = (dV w' a n vs).heap[a.block]?
 |[],_,_,_,_,h=>h
 |v::r,w,w',a,n,h=>by
  simp only[dV];refine zj2 r _ _ a (n+1) ?_;simp only[World.setCell,Array.getElem?_modify,ZW,if_true,h]
def frozen?_of_block {w w':Wo} {p:Addr} (h:w'.heap[p.block]? = w.heap[p.block]?):w'.frozen? p=w.frozen? p:=by
 unfold World.frozen?;rw[h]
def VA{P:Program}:∀(vs:List Va) (w:Wo) (a:Addr) (n:Nat),(∀v∈vs,v.oneCell')->
  (∀j,n<=j->j<n+vs.length->(∃u,w.cell? (a.add j)=some u)/\w.frozen? (a.add j)=false)->(storeCells a vs n).run P w=.ok () (dV w a n vs)
 |[],_,_,_,_,_=>rfl
 |v::r,w,a,n,h1,h2=>by
  obtain⟨⟨u,hu⟩,hfz⟩:=h2 n (I7 _) Qs;have hs:=run_store P w (a.add n) v .plain (h1 v (I9 ..));rw[hu] at hs;simp only[hfz] at hs;simp only[storeCells,Sem.run_bind];rw[hs];simp only[Bool.false_eq_true,if_false,Result.andThen_ok];rw[VA r _ a (n+1) (λx hx=>h1 x (I1 _ hx)) λj hj1 hj2=>?_]
  ·rfl
  ·obtain⟨⟨u',hu'⟩,Cw9⟩:=h2 j Qo (by simp at hj2 ⊢;omega);refine⟨?_,by rw[World.frozen?_setCell];exact Cw9⟩
   by_cases he:a.add n=a.add j
   ·rw[he];exact⟨v,World.cell?_setCell_same _ _ _ hu'⟩
   ·exact⟨u',by rw[World.cell?_setCell_other _ _ _ _ he];exact hu'⟩
end Go.Proofs.YtjinkcmkgnofjaaGreatDoor
