/- Part 1 of what the law FnPinned needs: the engine, the functions' propositions, the contracts. -/
import Derived.WalkKit
import Derived.Deep.Quiet
namespace Go.Proofs.YtclpmgfpjeaibaaGreat
open Go.RowKit
abbrev I (x:Int):Value:=.int .i64 x
abbrev S:=Value.slice
abbrev OA:=Option Addr
abbrev RT:=Value->World->Prop
end Go.Proofs.YtclpmgfpjeaibaaGreat
namespace Go.Proofs.YtclpmgfpjeaibaaGreat
open Go.RowKit
set_option linter.unusedVariables false
set_option linter.unusedSimpArgs false
inductive PT (α:Type) where
 | leaf
 | node (l:PT α) (v:Option α) (r:PT α)
def PT.get {α:Type}:PT α->Nat->Option α
 | .leaf,_=>none
 | .node l v r,i=>bif Nat.beq i 0 then v else bif Nat.beq (i % 2) 1 then l.get (i / 2) else r.get (i / 2 - 1)
def PT.lt {α:Type}:PT α->PT α
 | .leaf=>.leaf
 | .node l _ _=>l
def PT.rt {α:Type}:PT α->PT α
 | .leaf=>.leaf
 | .node _ _ r=>r
def PT.vl {α:Type}:PT α->Option α
 | .leaf=>none
 | .node _ v _=>v
def PT.set {α:Type}:Nat->PT α->Nat->α->PT α
 | 0,t,_,_=>t
 | d+1,t,i,x=>
  bif Nat.beq i 0 then .node t.lt (some x) t.rt
  else bif Nat.beq (i % 2) 1 then .node (PT.set d t.lt (i / 2) x) t.vl t.rt
  else .node t.lt t.vl (PT.set d t.rt (i / 2 - 1) x)
theorem Ln {a b:Nat} (h:a≠b):Nat.beq a b=false:=by
 cases hb:Nat.beq a b with
 | false=>rfl
 | true=>exact absurd (Nat.eq_of_beq_eq_true hb) h
theorem za4 {a b:Nat} (h:a=b):Nat.beq a b=true:=by subst h; exact Nat.beq_refl a
theorem PT.get_parts {α:Type} (t:PT α) (i:Nat) :
  t.get i=bif Nat.beq i 0 then t.vl else bif Nat.beq (i % 2) 1 then t.lt.get (i / 2) else t.rt.get (i / 2 - 1):=by
 cases t with
 | leaf=>simp [PT.get,PT.vl,PT.lt,PT.rt]
 | node l v r=>simp [PT.get,PT.vl,PT.lt,PT.rt]
theorem PT.get_set {α:Type} (x:α):∀(d:Nat) (t:PT α) (i j:Nat),i+1<2 ^ d->(PT.set d t i x).get j=if i=j then some x else t.get j
 | 0,_,i,_,h=>by simp at h
 | d+1,t,i,j,h=>by
  have hp:2 ^ (d+1)=2*2 ^ d:=by rw [Nat.pow_succ]; omega
  rw [PT.get_parts t j];unfold PT.set
  by_cases hi:i=0
  ·subst hi
   by_cases hj:j=0
   ·subst hj; simp [PT.get]
   ·have:¬(0=j):=by omega
    simp [PT.get,Ln hj,this]
  ·have e1:Nat.beq i 0=false:=Ln hi;rw [e1]
   by_cases ho:i % 2=1
   ·have e2:Nat.beq (i % 2) 1=true:=za4 ho;rw [e2];simp only [cond_true,cond_false]
    by_cases hj:j=0
    ·subst hj; simp [PT.get,hi]
    ·have e3:Nat.beq j 0=false:=Ln hj;simp only [PT.get,e3,cond_false]
     by_cases hoj:j % 2=1
     ·have e4:Nat.beq (j % 2) 1=true:=za4 hoj;rw [e4];simp only [cond_true];rw [PT.get_set x d t.lt (i / 2) (j / 2) (by omega)]
      by_cases hij:i=j
      ·subst hij; simp
      ·rw [if_neg hij,if_neg (by omega)]
     ·have e4:Nat.beq (j % 2) 1=false:=Ln hoj;rw [e4];simp only [cond_false];rw [if_neg (by rintro rfl; exact hoj ho)]
   ·have e2:Nat.beq (i % 2) 1=false:=Ln ho;rw [e2];simp only [cond_false]
    by_cases hj:j=0
    ·subst hj; simp [PT.get,hi]
    ·have e3:Nat.beq j 0=false:=Ln hj;simp only [PT.get,e3,cond_false]
     by_cases hoj:j % 2=1
     ·have e4:Nat.beq (j % 2) 1=true:=za4 hoj;rw [e4];simp only [cond_true];rw [if_neg (by rintro rfl; exact ho hoj)]
     ·have e4:Nat.beq (j % 2) 1=false:=Ln hoj;rw [e4];simp only [cond_false];rw [PT.get_set x d t.rt (i / 2 - 1) (j / 2 - 1) (by omega)]
      by_cases hij:i=j
      ·subst hij; simp
      ·rw [if_neg hij,if_neg (by omega)]
inductive EV where
 | v (x:Value)
 | loc (id off:Nat)
 | el (o:OA) (n:Nat)
 | ls (id len:Nat)
 | le (id:Nat) (i:Int) (k:Nat)
 | no
 | kb (x:Bool)
inductive SV where
 | un (x:EV)
 | gd (r:Nat) (pc:List (Nat×Bool)) (x:EV)
structure St where
 F:PT SV
 L:List (TypeId×List Value)
 B:List Nat
 old:Nat
 lk:List Nat
 r:Nat
structure Q0 (bs:List Nat) (w w':World):Prop where
 os:w'.os=w.os
 tape:w'.tape=w.tape
 output:w'.output=w.output
 size:w.heap.size<=w'.heap.size
 block:∀k,k<w.heap.size->k∉bs->w'.heap[k]? = w.heap[k]?
theorem Q0.refl (bs:List Nat) (w:World):Q0 bs w w:=⟨rfl,rfl,rfl,Nat.le_refl _,fun _ _ _=>rfl⟩
theorem Q0.trans {bs:List Nat} {a b c:World} (h:Q0 bs a b) (k:Q0 bs b c):Q0 bs a c:=
 ⟨k.os.trans h.os,k.tape.trans h.tape,k.output.trans h.output,Nat.le_trans h.size k.size,fun i hi hb=>(k.block i (Nat.lt_of_lt_of_le hi h.size) hb).trans (h.block i hi hb)⟩
theorem Q0.mono {bs cs:List Nat} {a b:World} (h:Q0 bs a b) (hs:∀x∈bs,x∈cs):Q0 cs a b:=
 ⟨h.os,h.tape,h.output,h.size,fun i hi hb=>h.block i hi (fun hx=>hb (hs i hx))⟩
theorem Q0.of_nil {bs:List Nat} {a b:World} (h:Q0 [] a b):Q0 bs a b:=h.mono (by simp)
theorem Q0.drew {bs:List Nat} {a b:World} (h:Q0 bs a b):Q0 bs a b.drew:=⟨h.os,h.tape,h.output,h.size,h.block⟩
theorem Q0.drawn {bs:List Nat} {a b:World} (h:Q0 bs a b) (n:Nat):Q0 bs a { b with drawn:=n }:=⟨h.os,h.tape,h.output,h.size,h.block⟩
theorem Q0.alloc {bs:List Nat} {a b:World} (h:Q0 bs a b) (o:Obj):Q0 bs a (b.alloc o):=
 ⟨h.os,h.tape,h.output,by have:=h.size; simp; omega,fun i hi hb=>(Below.heap_alloc b o i (Nat.lt_of_lt_of_le hi h.size)).trans (h.block i hi hb)⟩
theorem Q0.setCell {bs:List Nat} {a b:World} (h:Q0 bs a b) {p:Addr} (hp:a.heap.size<=p.block\/p.block∈bs) (u:Value):Q0 bs a (b.setCell p u):=
 ⟨h.os,h.tape,h.output,by have:=h.size; simp; omega,fun i hi hb=>(Below.heap_setCell b p u i (by
  rintro rfl;rcases hp with hp | hp
  ·omega
  ·exact hb hp)).trans (h.block i hi hb)⟩
theorem Q0.below {a b:World} (h:Q0 [] a b):Below a.heap.size a b:=⟨h.os,h.tape,h.output,h.size,fun k hk=>h.block k hk (by simp)⟩
def Uy (bs:List Nat) (w:World) (o:OA) (n:Nat) (v:Value):Prop:=∃a,o=some a/\a.block∉bs/\w.cell? (a.add n)=some v
def Q2 (bs:List Nat) (w:World) (o:OA):Nat->List Value->Prop
 | _,[]=>True
 | n,[v]=>Uy bs w o n v
 | n,v::r=>Uy bs w o n v/\Q2 bs w o (n+1) r
theorem Zy (a:Addr) (n:Nat):(a.add n).block=a.block:=by unfold Addr.add; split <;> rfl
theorem JP (a:Addr) (i j:Nat):(a.add i).add j=a.add (i+j):=by
 unfold Addr.add
 by_cases hi:i=0 <;> by_cases hj:j=0 <;> simp [hi,hj,Nat.add_assoc]
theorem Uy.ext {bs:List Nat} {w w':World} {o:OA} {n:Nat} {v:Value} (h:Uy bs w o n v) (hx:Q0 bs w w'):Uy bs w' o n v:=by
 obtain ⟨a,ho,hb,hc⟩:=h;refine ⟨a,ho,hb,?_⟩;have hlt:=World.block_lt_of_cell? w _ hc;rw [Zy] at hlt;rw [<-hc];exact World.cell?_of_block (w:=w) (hx.block _ (by rw [Zy]; exact hlt) (by rw [Zy]; exact hb))
theorem Uy.less {bs cs:List Nat} {w:World} {o:OA} {n:Nat} {v:Value} (h:Uy bs w o n v) (hs:∀x∈cs,x∈bs):Uy cs w o n v:=by
 obtain ⟨a,ho,hb,hc⟩:=h;exact ⟨a,ho,fun hx=>hb (hs _ hx),hc⟩
theorem Q2.get {bs:List Nat} {w:World} {o:OA}:∀{n:Nat} {vs:List Value},Q2 bs w o n vs->∀(j:Nat) (v:Value),vs[j]? = some v->Uy bs w o (n+j) v
 | _,[],_,_,_,hj=>by simp at hj
 | n,[u],h,j,v,hj=>by
  cases j with
  | zero=>simp at hj; subst hj; exact h
  | succ j=>simp at hj
 | n,u::u'::r,h,j,v,hj=>by
  cases j with
  | zero=>simp at hj; subst hj; exact h.1
  | succ j=>
   have:=Q2.get h.2 j v (by simpa using hj)
   rwa [Nat.add_assoc,Nat.add_comm 1 j] at this
def Q4 (bs:List Nat) (P:Program) (f:FuncId) (args:Array Value) (w:World) (v:Value):Prop:=
 ∀wr,Q0 bs w wr->Calls P f args wr fun e w'=>e = .returned v/\Q0 [] wr w'
abbrev AX (bs B:List Nat) (w:World) (p:World->Prop):Prop:=∀wr,Q0 bs w wr->(∀bq∈B,bq<wr.heap.size)->p wr
abbrev AY (bs:List Nat) (w:World) (p:World->Prop):Prop:=∀wr,Q0 bs w wr->(∀bq∈bs,bq<wr.heap.size)->p wr
abbrev AR (bs:List Nat) (w:World) (R:Value->World->Prop) (v:Value):Prop:=∀wr,Q0 bs w wr->R v wr
theorem Q4.ext {bs:List Nat} {P:Program} {f:FuncId} {args:Array Value} {w w':World} {v:Value} (h:Q4 bs P f args w v) (hx:Q0 bs w w'):Q4 bs P f args w' v:=
 fun wr h'=>h wr (hx.trans h')
inductive CK where
 | int (k:IntKind) | bool | str | slice | ptr | fn | iface | map | other
 deriving DecidableEq
inductive TD where
 | slice (e:TypeId) (esz:Nat)
 | struct (fs:List (Nat×Bool×Nat))
 | arr (n esz:Nat) (eagg:Bool)
 | str
 | int (k:IntKind)
 | bool
 | ptr
 | other
 deriving DecidableEq
structure Ty where
 agg:Bool
 ks:List CK
 d:TD
 deriving DecidableEq
def Ou:Value->CK
 | .int k n=>if n=0 then .int k else .other
 | .bool b=>if b=false then .bool else .other
 | .string s=>if s.size=0 then .str else .other
 | .slice o l c=>if o=none/\l=0/\c=0 then .slice else .other
 | .pointer o=>if o=none then .ptr else .other
 | .nilFunc=>.fn
 | .nilIface=>.iface
 | .map o=>if o=none then .map else .other
 | _=>.other
def zv:CK->Value
 | .int k=>.int k 0
 | .bool=>.bool false
 | .str=>.string ByteArray.empty
 | .slice=>.slice none 0 0
 | .ptr=>.pointer none
 | .fn=>.nilFunc
 | .iface=>.nilIface
 | .map=>.map none
 | .other=>.nilFunc
theorem za9 {v:Value} (h:Ou v≠.other):v=zv (Ou v):=by
 cases v with
 | int k n=>by_cases hc:n=0 <;> simp_all [Ou,zv]
 | bool b=>by_cases hc:b=false <;> simp_all [Ou,zv]
 | string s=>
  by_cases hc:s.size=0
  ·have:s=ByteArray.empty:=ByteArray.size_eq_zero_iff.1 hc;subst this;simp [Ou,zv]
  ·simp [Ou,hc] at h
 | slice o l c=>
  by_cases hc:o=none/\l=0/\c=0
  ·obtain ⟨rfl,rfl,rfl⟩:=hc;simp [Ou,zv]
  ·simp only [Ou,if_neg hc] at h; exact absurd rfl h
 | pointer o=>by_cases hc:o=none <;> simp_all [Ou,zv]
 | map o=>by_cases hc:o=none <;> simp_all [Ou,zv]
 | nilFunc=>rfl
 | nilIface=>rfl
 | _=>simp [Ou] at h
def OP:TypeDesc->Bool
 | .struct _ | .array _ _=>true
 | _=>false
def fieldsOf (P:Program):List Field->Option (List (Nat×Bool×Nat))
 | []=>some []
 | f::r=>
  match P.info? f.type,P.underlying f.type,fieldsOf P r with
  | some i,some d,some l=>if i.size=0 then none else some ((f.offset,OP d,i.size)::l)
  | _,_,_=>none
def K4 (P:Program):TypeDesc->TD
 | .slice e=>match P.info? e with | some i=>.slice e i.size | none=>.other
 | .struct fs=>match fieldsOf P fs.toList with | some l=>.struct l | none=>.other
 | .array n e=>match P.info? e,P.underlying e with | some i,some d=>.arr n i.size (OP d) | _,_=>.other
 | .string=>.str
 | .int k=>.int k
 | .bool=>.bool
 | .pointer _=>.ptr
 | _=>.other
def zrg (P:Program) (t:TypeId):Option Ty:=
 match P.underlying t,P.info? t with
 | some d,some i=>
  match i.zero with
  | some z=>if i.size=z.cells.toList.length then some { agg:=OP d,ks:=z.cells.toList.map Ou,d:=K4 P d } else none
  | none=>none
 | _,_=>none
def zkb (P:Program) (T:TypeId->Option Ty):Prop:=∀t ty,T t=some ty->zrg P t=some ty
def zm5 (P:Program) (l:List (TypeId×Ty)):Bool:=l.all fun p=>decide (zrg P p.1=some p.2)
def G1:List (TypeId×Ty)->TypeId->Option Ty
 | [],_=>none
 | p::r,t=>bif Nat.beq p.1 t then some p.2 else G1 r t
theorem zm4 {P:Program}:∀{l:List (TypeId×Ty)},zm5 P l=true->zkb P (G1 l)
 | [],_,t,ty,h=>by simp [G1] at h
 | p::r,hl,t,ty,h=>by
  simp only [zm5,List.all_cons,Bool.and_eq_true,decide_eq_true_eq] at hl;simp only [G1] at h
  cases hb:Nat.beq p.1 t with
  | true=>
   rw [hb] at h;simp only [cond_true,Option.some.injEq] at h;have:p.1=t:=Nat.eq_of_beq_eq_true hb;subst this; subst h; exact hl.1
  | false=>
   rw [hb] at h;exact zm4 (l:=r) hl.2 t ty h
structure znn (P:Program) (t:TypeId) (ty:Ty):Prop where
 desc:∃d,P.underlying t=some d/\ty.agg=OP d/\ty.d=K4 P d
 info:∃i z,P.info? t=some i/\i.zero=some z/\i.size=ty.ks.length/\z.cells.toList.map Ou=ty.ks
theorem zkb.facts {P:Program} {T:TypeId->Option Ty} (hT:zkb P T) {t:TypeId} {ty:Ty} (h:T t=some ty):znn P t ty:=by
 have:=hT t ty h;unfold zrg at this
 split at this
 ·rename_i d i hd hi
  split at this
  ·rename_i z hz
   split at this
   ·rename_i hs;simp only [Option.some.injEq] at this;subst this;exact ⟨⟨d,hd,rfl,rfl⟩,i,z,hi,hz,by simpa using hs,rfl⟩
   ·cases this
  ·cases this
 ·cases this
inductive RK where
 | cell (k:CK)
 | agg (ks:List CK)
structure Vj where
 P:Program
 T:TypeId->Option Ty
 pf:List (Nat×List RK)
 ef:List (Nat×List RK)
 tt:List (Nat×List RK)
 vis:List Nat
 n:Nat
 pm:Bool
 wr:Bool:=false
 rd:Option Nat:=none
def ze6 {β:Type}:List (Nat×β)->Nat->Option β
 | [],_=>none
 | p::r,t=>bif Nat.beq p.1 t then some p.2 else ze6 r t
def zqj:CK->(Value->Prop)->Prop
 | .int k,K=>∃n:Int,K (.int k n)
 | .bool,K=>∃b:Bool,K (.bool b)
 | .str,K=>∃s:ByteArray,K (.string s)
 | .slice,K=>∃(o:OA) (l c:Nat),K (.slice o l c)
 | .ptr,K=>∃o:OA,K (.pointer o)
 | .fn,K=>∃(f:Fn) (a c:Array Value),K (.func f a c)
 | _,K=>∃v:Value,K v
def zs6:Value->CK
 | .int k _=>.int k
 | .bool _=>.bool
 | .string _=>.str
 | .slice _ _ _=>.slice
 | .pointer _=>.ptr
 | .func _ _ _=>.fn
 | _=>.other
def zde:List CK->(List Value->Prop)->Prop
 | [],K=>K []
 | k::r,K=>zqj k fun v=>zde r fun l=>K (v::l)
def zs0:RK->(Value->Prop)->Prop
 | .cell k,K=>zqj k K
 | .agg ks,K=>zde ks fun l=>K (.agg l.toArray)
def zqk:List RK->(List Value->Prop)->Prop
 | [],K=>K []
 | k::r,K=>zs0 k fun v=>zqk r fun l=>K (v::l)
def KT:List RK->(Value->Prop)->Prop
 | [k],K=>zs0 k K
 | ks,K=>zqk ks fun l=>K (.tuple l.toArray)
theorem Oy {k:CK} {K:Value->Prop} (h:zqj k K):∃v,K v:=by
 cases k <;> simp only [zqj] at h
 case slice=>obtain ⟨o,l,c,h⟩:=h; exact ⟨_,h⟩
 case fn=>obtain ⟨f,a,c,h⟩:=h; exact ⟨_,h⟩
 all_goals (obtain ⟨x,h⟩:=h; exact ⟨_,h⟩)
theorem T2:∀{ks:List CK} {K:List Value->Prop},zde ks K->∃l,l.length=ks.length/\K l
 | [],_,h=>⟨[],rfl,h⟩
 | k::r,K,h=>by
  obtain ⟨v,hv⟩:=Oy h;obtain ⟨l,hl,hk⟩:=T2 hv;exact ⟨v::l,by simp [hl],hk⟩
theorem zhb {k:RK} {K:Value->Prop} (h:zs0 k K):∃v,K v:=by
 cases k with
 | cell k=>exact Oy h
 | agg ks=>obtain ⟨l,_,h⟩:=T2 h; exact ⟨_,h⟩
theorem zdf:∀{ks:List RK} {K:List Value->Prop},zqk ks K->∃l,K l
 | [],_,h=>⟨[],h⟩
 | k::r,K,h=>by
  obtain ⟨v,hv⟩:=zhb h;obtain ⟨l,hk⟩:=zdf hv;exact ⟨v::l,hk⟩
theorem Js {ks:List RK} {K:Value->Prop} (h:KT ks K):∃v,K v:=by
 unfold KT at h
 split at h
 ·exact zhb h
 ·obtain ⟨l,h⟩:=zdf h; exact ⟨_,h⟩
def St.bs (S:St):List Nat:=S.B.take S.old
def NN (p q:List (Nat×Bool)):Bool:=p.all fun x=>q.any fun y=>Nat.beq x.1 y.1&&(x.2==y.2)
def Ac (S:St) (pc:List (Nat×Bool)):Operand->Option EV
 | .tmp t=>match S.F.get t with
  | some (.un x)=>some x
  | some (.gd r pc' x)=>bif Nat.beq r S.r&&NN pc' pc then some x else none
  | none=>none
 | .const v=>some (.v v)
 | .global g=>some (.v (.pointer (some ⟨g,0,none⟩)))
 | .func f=>some (.v (.func (.func f) #[] #[]))
def zir (S:St) (ops:Array Oper) (j:Nat):Option Bool:=
 match (ops[j]?).bind (·.dst) with
 | some d=>match S.F.get d with
  | some (.un (.v (.bool b)))=>some b
  | some (.gd r _ (.v (.bool b)))=>bif Nat.beq r S.r then some b else none
  | _=>none
 | none=>none
def KH (S:St) (ops:Array Oper):List (Nat×Bool)->Prop->Prop
 | [],A=>A
 | (j,want)::r,A=>match zir S ops j with
  | some b=>b=want->KH S ops r A
  | none=>KH S ops r A
def zf1 (S:St) (ops:Array Oper) (o:Oper):Option (List (Nat×Bool)):=
 match o.guard with
 | none=>some []
 | some (j,want)=>match (ops[j]?).bind (·.dst) with
  | some d=>match S.F.get d with
   | some (.un (.v (.bool _)))=>some [(j,want)]
   | some (.gd r pc (.v (.bool _)))=>bif Nat.beq r S.r then some ((j,want)::pc) else none
   | some (.gd r pc .no)=>bif Nat.beq r S.r then some ((j,want)::pc) else none
   | _=>none
  | none=>none
def EV.den (S:St):EV->Value->Prop
 | .v x,u=>u=x
 | .loc id off,u=>∃b,S.B[id]? = some b/\u = .pointer (some ⟨b,off,none⟩)
 | .el o n,u=>∃a,o=some a/\u = .pointer (some (a.add n))
 | .ls id len,u=>∃b,S.B[id]? = some b/\u = .slice (some ⟨b,0,none⟩) len len
 | .le id i k,u=>∃b,S.B[id]? = some b/\0<=i/\u = .pointer (some ⟨b,i.toNat+k,none⟩)
 | .no,_=>False
 | .kb x,u=>u = .bool x
def LS (ops:Array Oper) (a:Act) (pc:List (Nat×Bool)):Prop:=∀p∈pc,yielded ops a.tmps p.1=some p.2
def SV.den (S:St) (ops:Array Oper) (a:Act):SV->Value->Prop
 | .un x,u=>EV.den S x u
 | .gd r pc x,u=>r=S.r->(LS ops a pc->EV.den S x u)/\(¬LS ops a pc->u=undef)
structure Ed (n:Nat) (S:St) (ops:Array Oper) (a:Act):Prop where
 size:a.tmps.size=n
 fits:∀i s,S.F.get i=some s->SV.den S ops a s (a.tmps.getD i undef)
theorem VY {b:Bool}:undef≠.bool b:=by simp [undef]
theorem G4 {ops:Array Oper} {a:Act} {j d:Nat} {b:Bool} (hd:(ops[j]?).bind (·.dst)=some d) (h:yielded ops a.tmps j=some b):a.tmps.getD d undef = .bool b:=by
 unfold yielded at h;rw [hd] at h;simp only [Option.bind_some] at h
 split at h
 ·rename_i b' hb;simp only [Option.some.injEq] at h;subst h;rw [Array.getD_eq_getD_getElem?,hb];rfl
 ·cases h
theorem zrz {n:Nat} {S:St} {ops:Array Oper} {a:Act} (hf:Ed n S ops a) {j:Nat} {b want:Bool} (hb:zir S ops j=some b) (hy:yielded ops a.tmps j=some want):b=want:=by
 unfold zir at hb
 split at hb
 ·rename_i d hd;have hv:=G4 hd hy
  split at hb
  ·rename_i b' hg;have:=hf.fits d _ hg;simp only [SV.den,EV.den] at this;rw [hv] at this;simp only [Option.some.injEq] at hb
   injection this with this
   rw [<-hb]; exact this.symm
  ·rename_i r pc b' hg;have:=hf.fits d _ hg
   cases hr:Nat.beq r S.r with
   | false=>rw [hr] at hb; simp at hb
   | true=>
    rw [hr] at hb;simp only [cond_true,Option.some.injEq] at hb;have h1:=this (Nat.eq_of_beq_eq_true hr)
    by_cases hp:LS ops a pc
    ·have h2:=h1.1 hp;simp only [EV.den] at h2;rw [hv] at h2
     injection h2 with h2
     rw [<-hb]; exact h2.symm
    ·have h2:=h1.2 hp;rw [hv] at h2;exact absurd h2.symm VY
  ·cases hb
 ·cases hb
theorem FSx {n:Nat} {S:St} {ops:Array Oper} {a:Act} (hf:Ed n S ops a):∀{pc:List (Nat×Bool)} {A:Prop},LS ops a pc->KH S ops pc A->A
 | [],_,_,h=>h
 | (j,want)::r,A,hp,h=>by
  have hr:LS ops a r:=fun p hm=>hp p (List.mem_cons_of_mem _ hm)
  have hj:yielded ops a.tmps j=some want:=hp (j,want) (List.mem_cons_self ..);simp only [KH] at h
  split at h
  ·rename_i b hb;exact FSx hf hr (h (zrz hf hb hj))
  ·exact FSx hf hr h
theorem NO {p q:List (Nat×Bool)} (h:NN p q=true):∀x∈p,x∈q:=by
 intro x hx;simp only [NN,List.all_eq_true,List.any_eq_true,Bool.and_eq_true] at h;obtain ⟨y,hy,h1,h2⟩:=h x hx;have e1:x.1=y.1:=Nat.eq_of_beq_eq_true h1;have e2:x.2=y.2:=by simpa using h2
 have:x=y:=Prod.ext e1 e2;rw [this]; exact hy
theorem ZD {n:Nat} {S:St} {ops:Array Oper} {a:Act} (hf:Ed n S ops a) {pc:List (Nat×Bool)} (hp:LS ops a pc) {x:Operand} {e:EV} (h:Ac S pc x=some e):EV.den S e (a.eval x):=by
 cases x with
 | const v=>simp only [Ac,Option.some.injEq] at h; subst h; rfl
 | global g=>simp only [Ac,Option.some.injEq] at h; subst h; rfl
 | func f=>simp only [Ac,Option.some.injEq] at h; subst h; rfl
 | tmp t=>
  simp only [Ac] at h
  split at h
  ·rename_i y hg;simp only [Option.some.injEq] at h; subst h;exact hf.fits t _ hg
  ·rename_i r pc' y hg
   cases hb:Nat.beq r S.r&&NN pc' pc with
   | false=>rw [hb] at h; simp at h
   | true=>
    rw [hb] at h;simp only [cond_true,Option.some.injEq] at h; subst h;simp only [Bool.and_eq_true] at hb;exact (hf.fits t _ hg (Nat.eq_of_beq_eq_true hb.1)).1 fun p hm=>hp p (NO hb.2 p hm)
  ·cases h
def zjp (S:St) (ops:Array Oper):List (Nat×Bool)->Bool
 | []=>true
 | (j,_)::r=>(match (ops[j]?).bind (·.dst) with
  | some d=>match S.F.get d with
   | some (.un (.v (.bool _)))=>true
   | some (.gd r' pc' (.v (.bool _)))=>Nat.beq r' S.r&&NN pc' r
   | _=>false
  | none=>false)&&zjp S ops r
theorem A9 {ops:Array Oper} {a:Act} {j d:Nat} {b:Bool} (hd:(ops[j]?).bind (·.dst)=some d) (h:a.tmps.getD d undef = .bool b):yielded ops a.tmps j=some b:=by
 unfold yielded;rw [hd];simp only [Option.bind_some];rw [Array.getD_eq_getD_getElem?] at h
 cases hg:a.tmps[d]? with
 | none=>rw [hg] at h; exact absurd h VY
 | some v=>rw [hg] at h; simp only [Option.getD_some] at h; subst h; rfl
theorem zbp {n:Nat} {S:St} {ops:Array Oper} {a:Act} (hf:Ed n S ops a):∀{pc:List (Nat×Bool)},zjp S ops pc=true->¬LS ops a pc->KH S ops pc False
 | [],_,hp=>hp (fun p hm=>by cases hm)
 | (j,want)::r,h,hp=>by
  simp only [zjp,Bool.and_eq_true] at h;obtain ⟨h1,h2⟩:=h
  by_cases hr:LS ops a r
  ·have hne:yielded ops a.tmps j≠some want:=fun e=>hp fun p hm=>by
    rcases List.mem_cons.1 hm with rfl | hm
    ·exact e
    ·exact hr p hm
   have go:∀b,zir S ops j=some b->yielded ops a.tmps j=some b->KH S ops ((j,want)::r) False:=fun b hb hy=>by
    simp only [KH,hb];intro e;exact absurd (e▸hy) hne
   split at h1
   ·rename_i d hd
    split at h1
    ·rename_i b hg;have hv:=hf.fits d _ hg;refine go b (by unfold zir; rw [hd]; simp only [hg]) (A9 hd hv)
    ·rename_i r' pc' b hg;simp only [Bool.and_eq_true] at h1;have hv:=(hf.fits d _ hg (Nat.eq_of_beq_eq_true h1.1)).1 fun p hm=>hr p (NO h1.2 p hm)
     refine go b (by unfold zir; rw [hd]; simp only [hg,h1.1,cond_true]) (A9 hd hv)
    ·cases h1
   ·cases h1
  ·have:=zbp hf h2 hr;simp only [KH];split
   ·exact fun _=>this
   ·exact this
theorem MR {n:Nat} {S:St} {ops:Array Oper} {a:Act} (hf:Ed n S ops a) {o:Oper} {pc:List (Nat×Bool)} (h:zf1 S ops o=some pc) :
  Region.wanted o (yielded ops a.tmps)=true↔LS ops a pc:=by
 unfold zf1 at h;unfold Region.wanted
 split at h
 ·rename_i hg;simp only [Option.some.injEq] at h; subst h;rw [hg];simp [LS]
 ·rename_i j want hg;rw [hg];simp only [beq_iff_eq]
  split at h
  ·rename_i d hd
   split at h
   ·rename_i b hv;simp only [Option.some.injEq] at h; subst h;simp [LS]
   ·rename_i r pc' b hv
    cases hr:Nat.beq r S.r with
    | false=>rw [hr] at h; simp at h
    | true=>
     rw [hr] at h;simp only [cond_true,Option.some.injEq] at h; subst h;constructor
     ·intro hy p hm;rcases List.mem_cons.1 hm with rfl | hm
      ·exact hy
      ·have h1:=hf.fits d _ hv (Nat.eq_of_beq_eq_true hr)
       by_cases hp:LS ops a pc'
       ·exact hp p hm
       ·have h2:=h1.2 hp;have h3:=G4 hd hy;rw [h3] at h2;exact absurd h2.symm VY
     ·intro hp;exact hp (j,want) (List.mem_cons_self ..)
   ·rename_i r pc' hv
    cases hr:Nat.beq r S.r with
    | false=>rw [hr] at h; simp at h
    | true=>
     rw [hr] at h;simp only [cond_true,Option.some.injEq] at h; subst h;constructor
     ·intro hy p hm;rcases List.mem_cons.1 hm with rfl | hm
      ·exact hy
      ·have h1:=hf.fits d _ hv (Nat.eq_of_beq_eq_true hr)
       by_cases hp:LS ops a pc'
       ·exact hp p hm
       ·have h2:=h1.2 hp;have h3:=G4 hd hy;rw [h3] at h2;exact absurd h2.symm VY
     ·intro hp;exact hp (j,want) (List.mem_cons_self ..)
   ·cases h
  ·cases h
def Qn:IntKind->Int->Prop
 | .i64,z => -9223372036854775808<=z/\z<=9223372036854775807
 | .u8,z=>0<=z/\z<=255
 | .u64,z=>0<=z/\z<=18446744073709551615
 | .i32,z => -2147483648<=z/\z<=2147483647
 | k,z=>k.wrap z=z
theorem Qn.wrap {k:IntKind} {z:Int} (h:Qn k z):k.wrap z=z:=by
 cases k <;> simp only [Qn] at h
 case i64=>exact IntWalk.i64_in z h
 case u8=>exact IntWalk.u8_in z h
 case u64=>exact IntWalk.u64_in z h
 case i32=>exact IntWalk.i32_in z h
 all_goals exact h
def J9 (s:ByteArray) (i:Int):Int:=((s.data.getD i.toNat 0).toNat:Int)
def Ix (o:OA) (len:Nat) (i:Int):Prop:=0<=i/\i<len/\o.isSome=true
def XK (op:BinOp) (k:IntKind) (x y:Int):Int:=
 match op with
 | .and=>k.wrap ((BitVec.ofInt k.bits x &&& BitVec.ofInt k.bits y).toNat:Int)
 | .or=>k.wrap ((BitVec.ofInt k.bits x ||| BitVec.ofInt k.bits y).toNat:Int)
 | _=>k.wrap ((BitVec.ofInt k.bits x ^^^ BitVec.ofInt k.bits y).toNat:Int)
def Zl (x y:ByteArray):Bool:=x.toList==y.toList
def zdb (G:Prop->Prop) (d:TD):BinOp->Value->Value->(Value->Prop)->Prop
 | .add,.int k x,.int k' y,K=>bif decide (k=k') then G (Qn k (x+y))/\K (.int k (x+y)) else False
 | .sub,.int k x,.int k' y,K=>bif decide (k=k') then G (Qn k (x - y))/\K (.int k (x - y)) else False
 | .mul,.int k x,.int k' y,K=>bif decide (k=k') then G (Qn k (x*y))/\K (.int k (x*y)) else False
 | .quo,.int k x,.int k' y,K=>bif decide (k=k') then G (y≠0/\Qn k (x.tdiv y))/\K (.int k (x.tdiv y)) else False
 | .rem,.int k x,.int k' y,K=>bif decide (k=k') then G (y≠0)/\K (.int k (x.tmod y)) else False
 | .and,.int k x,.int k' y,K=>bif decide (k=k') then K (.int k (XK .and k x y)) else False
 | .or,.int k x,.int k' y,K=>bif decide (k=k') then K (.int k (XK .or k x y)) else False
 | .xor,.int k x,.int k' y,K=>bif decide (k=k') then K (.int k (XK .xor k x y)) else False
 | .shl,.int k x,.int _ y,K=>G (0<=y/\Qn k (x*2 ^ (min y.toNat k.bits)))/\K (.int k (x*2 ^ (min y.toNat k.bits)))
 | .shr,.int k x,.int _ y,K=>G (0<=y)/\K (.int k (x.fdiv (2 ^ (min y.toNat k.bits))))
 | .eql,.int k x,.int k' y,K=>bif decide (k=k') then K (.bool (x==y)) else False
 | .neq,.int k x,.int k' y,K=>bif decide (k=k') then K (.bool (x != y)) else False
 | .lss,.int k x,.int k' y,K=>bif decide (k=k') then K (.bool (decide (x<y))) else False
 | .leq,.int k x,.int k' y,K=>bif decide (k=k') then K (.bool (decide (x<=y))) else False
 | .gtr,.int k x,.int k' y,K=>bif decide (k=k') then K (.bool (decide (x>y))) else False
 | .geq,.int k x,.int k' y,K=>bif decide (k=k') then K (.bool (decide (x>=y))) else False
 | .eql,.string x,.string y,K=>K (.bool (Zl x y))
 | .neq,.string x,.string y,K=>K (.bool (!Zl x y))
 | .add,.string x,.string y,K=>G (x.size+y.size<=9223372036854775807)/\K (.string (x++y))
 | .eql,.bool x,.bool y,K=>bif decide (d = .bool) then K (.bool (x==y)) else False
 | .neq,.bool x,.bool y,K=>bif decide (d = .bool) then K (.bool (!(x==y))) else False
 | .eql,.pointer o,.pointer none,K=>bif decide (d = .ptr) then K (.bool o.isNone) else False
 | .neq,.pointer o,.pointer none,K=>bif decide (d = .ptr) then K (.bool (!o.isNone)) else False
 | _,_,_,_=>False
theorem zai {P:Program} {d:TypeDesc} (h:K4 P d = .bool):d = .bool:=by
 cases d <;> simp only [K4] at h <;> first | rfl | (split at h <;> cases h) | cases h
theorem zeu {P:Program} {d:TypeDesc} (h:K4 P d = .ptr):∃e,d = .pointer e:=by
 cases d <;> simp only [K4] at h <;> first | exact ⟨_,rfl⟩ | (split at h <;> cases h) | cases h
theorem A5 {P:Program} {d:TypeDesc} (h:K4 P d = .str):d = .string:=by
 cases d <;> simp only [K4] at h <;> first | rfl | (split at h <;> cases h) | cases h
theorem zm6 {P:Program} {d:TypeDesc} {k:IntKind} (h:K4 P d = .int k):d = .int k:=by
 cases d <;> simp only [K4] at h <;> first | (simp only [TD.int.injEq] at h; subst h; rfl) | (split at h <;> cases h) | cases h
theorem Oq {P:Program} {d:TypeDesc} {e:TypeId} {n:Nat} (h:K4 P d = .slice e n):∃i,d = .slice e/\P.info? e=some i/\i.size=n:=by
 cases d <;> simp only [K4] at h
 case slice e=>
  split at h
  ·rename_i i hi; simp only [TD.slice.injEq] at h; obtain ⟨rfl,h⟩:=h; exact ⟨i,rfl,hi,h⟩
  ·cases h
 all_goals first | cases h | (split at h <;> cases h)
theorem Hl {P:Program} {d:TypeDesc} {n z:Nat} {b:Bool} (h:K4 P d = .arr n z b):∃e i de,d = .array n e/\P.info? e=some i/\i.size=z/\P.underlying e=some de/\OP de=b:=by
 cases d <;> simp only [K4] at h
 case array m e=>
  split at h
  ·rename_i i de hi hd;simp only [TD.arr.injEq] at h;obtain ⟨rfl,rfl,rfl⟩:=h;exact ⟨e,i,de,rfl,hi,rfl,hd,rfl⟩
  ·cases h
 all_goals first | cases h | (split at h <;> cases h)
theorem TC {P:Program}:∀{fs:List Field} {l:List (Nat×Bool×Nat)},fieldsOf P fs=some l->∀(j:Nat) (x:Nat×Bool×Nat),l[j]? = some x->
  ∃f i d,fs[j]? = some f/\P.info? f.type=some i/\P.underlying f.type=some d/\i.size≠0/\x=(f.offset,OP d,i.size)
 | [],l,h,j,x,hx=>by simp only [fieldsOf,Option.some.injEq] at h; subst h; simp at hx
 | f::r,l,h,j,x,hx=>by
  simp only [fieldsOf] at h
  split at h
  ·rename_i i d l' hi hd hl
   split at h
   ·cases h
   ·rename_i hz;simp only [Option.some.injEq] at h; subst h
    cases j with
    | zero=>simp only [List.getElem?_cons_zero,Option.some.injEq] at hx; subst hx; exact ⟨f,i,d,rfl,hi,hd,hz,rfl⟩
    | succ j=>exact TC hl j x (by simpa using hx)
  ·cases h
theorem K5 {P:Program} {d:TypeDesc} {l:List (Nat×Bool×Nat)} (h:K4 P d = .struct l):∃fs,d = .struct fs/\fieldsOf P fs.toList=some l:=by
 cases d <;> simp only [K4] at h
 case struct fs=>
  split at h
  ·rename_i l' hl; simp only [TD.struct.injEq] at h; subst h; exact ⟨fs,rfl,hl⟩
  ·cases h
 all_goals first | cases h | (split at h <;> cases h)
theorem XU {P:Program} {t:TypeId} {i:TypeInfo} (h:P.info? t=some i) (w:World):(typeInfo t).run P w = .ok i w:=by
 simp [typeInfo,h]
theorem ZR {P:Program} {t:TypeId} {i:TypeInfo} (h:P.info? t=some i) (w:World):(sizeOf t).run P w = .ok i.size w:=by
 simp [sizeOf,XU h]
theorem Ut {P:Program} {t:TypeId} {d:TypeDesc} (h:P.underlying t=some d) (w:World):(isAgg t).run P w = .ok (OP d) w:=by
 unfold isAgg;simp only [Sem.run_bind,run_underlying h,Result.andThen_ok]
 cases d <;> rfl
theorem MY {P:Program} {t:TypeId} (hu:P.underlying t=some .bool) (x y:Bool) (w:World):(Op.equal t (.bool x) (.bool y)).run P w = .ok (x==y) w:=by
 have h:∀d:Nat,(Op.equalIn (d+1) t (.bool x) (.bool y)).run P w = .ok (x==y) w:=fun d=>by simp [Op.equalIn,run_underlying hu]
 exact h 9999
theorem L6 {P:Program} {t e:TypeId} (hu:P.underlying t=some (.pointer e)) (o:OA) (w:World):(Op.equal t (.pointer o) (.pointer none)).run P w = .ok o.isNone w:=by
 have h:∀d:Nat,(Op.equalIn (d+1) t (.pointer o) (.pointer none)).run P w = .ok o.isNone w:=fun d=>by cases o <;> simp [Op.equalIn,run_underlying hu]
 exact h 9999
theorem ziy {P:Program} {T:TypeId->Option Ty} (hT:zkb P T) {t:TypeId} {ty:Ty} (ht:T t=some ty) {G:Prop->Prop} (hG:∀A,G A->A) {op:BinOp} {x y:Operand} {a b:Value} {K:Value->Prop}
  (h:zdb G ty.d op a b K):∃v,K v/\∀w,((do eqGuard op t x y a b; binOp op t a b):Sem Value).run P w = .ok v w:=by
 have kk:∀{k k':IntKind} {A:Prop},(bif decide (k=k') then A else False)->k=k'/\A:=fun {k k' A} h=>by
  by_cases hk:k=k'
  ·simp only [hk,decide_true,cond_true] at h; exact ⟨hk,h⟩
  ·simp only [hk,decide_false,cond_false] at h
 have dd:∀{d d':TD} {A:Prop},(bif decide (d=d') then A else False)->d=d'/\A:=fun {d d' A} h=>by
  by_cases hk:d=d'
  ·simp only [hk,decide_true,cond_true] at h; exact ⟨hk,h⟩
  ·simp only [hk,decide_false,cond_false] at h
 unfold zdb at h
 split at h
 case h_1=>obtain ⟨rfl,h1,h2⟩:=kk h; exact ⟨_,h2,fun w=>by simp [eqGuard,binOp,Op.intArith,(hG _ h1).wrap]⟩
 case h_2=>obtain ⟨rfl,h1,h2⟩:=kk h; exact ⟨_,h2,fun w=>by simp [eqGuard,binOp,Op.intArith,(hG _ h1).wrap]⟩
 case h_3=>obtain ⟨rfl,h1,h2⟩:=kk h; exact ⟨_,h2,fun w=>by simp [eqGuard,binOp,Op.intArith,(hG _ h1).wrap]⟩
 case h_4=>
  obtain ⟨rfl,h1,h2⟩:=kk h;obtain ⟨h3,h4⟩:=hG _ h1;exact ⟨_,h2,fun w=>by simp [eqGuard,binOp,Op.intDiv,h3,h4.wrap]⟩
 case h_5=>
  obtain ⟨rfl,h1,h2⟩:=kk h;have h3:=hG _ h1;exact ⟨_,h2,fun w=>by simp [eqGuard,binOp,Op.intDiv,h3]⟩
 case h_6=>obtain ⟨rfl,h2⟩:=kk h; exact ⟨_,h2,fun w=>by simp [eqGuard,binOp,Op.intBits,XK]⟩
 case h_7=>obtain ⟨rfl,h2⟩:=kk h; exact ⟨_,h2,fun w=>by simp [eqGuard,binOp,Op.intBits,XK]⟩
 case h_8=>obtain ⟨rfl,h2⟩:=kk h; exact ⟨_,h2,fun w=>by simp [eqGuard,binOp,Op.intBits,XK]⟩
 case h_9=>
  obtain ⟨h1,h2⟩:=h;obtain ⟨h3,h4⟩:=hG _ h1;exact ⟨_,h2,fun w=>by simp [eqGuard,binOp,Op.shift,Int.not_lt.2 h3,h4.wrap]⟩
 case h_10=>
  obtain ⟨h1,h2⟩:=h;have h3:=hG _ h1;exact ⟨_,h2,fun w=>by simp [eqGuard,binOp,Op.shift,Int.not_lt.2 h3]⟩
 case h_11=>obtain ⟨rfl,h2⟩:=kk h; exact ⟨_,h2,fun w=>by simp [eqGuard,binOp,Op.intCmp]⟩
 case h_12=>obtain ⟨rfl,h2⟩:=kk h; exact ⟨_,h2,fun w=>by simp [eqGuard,binOp,Op.intCmp]⟩
 case h_13=>obtain ⟨rfl,h2⟩:=kk h; exact ⟨_,h2,fun w=>by simp [eqGuard,binOp,Op.intCmp]⟩
 case h_14=>obtain ⟨rfl,h2⟩:=kk h; exact ⟨_,h2,fun w=>by simp [eqGuard,binOp,Op.intCmp]⟩
 case h_15=>obtain ⟨rfl,h2⟩:=kk h; exact ⟨_,h2,fun w=>by simp [eqGuard,binOp,Op.intCmp]⟩
 case h_16=>obtain ⟨rfl,h2⟩:=kk h; exact ⟨_,h2,fun w=>by simp [eqGuard,binOp,Op.intCmp]⟩
 case h_17=>exact ⟨_,h,fun w=>by simp [eqGuard,binOp,Op.stringOp,Zl]⟩
 case h_18=>exact ⟨_,h,fun w=>by simp [eqGuard,binOp,Op.stringOp,Zl]⟩
 case h_19 s u=>
  obtain ⟨h1,h2⟩:=h;have h3:=hG _ h1;refine ⟨_,h2,fun w => ?_⟩;have h4:¬((s.size+u.size:Nat):Int)>IntKind.i64.max:=by rw [IntKind.max_i64]; omega
  simp only [eqGuard,binOp,Op.stringOp,if_neg h4];rfl
 case h_20=>
  obtain ⟨hd,h2⟩:=dd h;obtain ⟨d,hu,_,htd⟩:=(hT.facts ht).desc;have:=zai (htd.symm.trans hd); subst this;exact ⟨_,h2,fun w=>by simp only [eqGuard_at_bool,binOp,Sem.run_bind,Sem.run_pure,Result.andThen_ok,MY hu]⟩
 case h_21=>
  obtain ⟨hd,h2⟩:=dd h;obtain ⟨d,hu,_,htd⟩:=(hT.facts ht).desc;have:=zai (htd.symm.trans hd); subst this;exact ⟨_,h2,fun w=>by simp only [eqGuard_at_bool,binOp,Sem.run_bind,Sem.run_pure,Result.andThen_ok,MY hu]⟩
 case h_22 o=>
  obtain ⟨hd,h2⟩:=dd h;obtain ⟨d,hu,_,htd⟩:=(hT.facts ht).desc;obtain ⟨e,rfl⟩:=zeu (htd.symm.trans hd);exact ⟨_,h2,fun w=>by simp only [eqGuard_at_pointer,binOp,Sem.run_bind,Sem.run_pure,Result.andThen_ok,L6 hu]⟩
 case h_23 o=>
  obtain ⟨hd,h2⟩:=dd h;obtain ⟨d,hu,_,htd⟩:=(hT.facts ht).desc;obtain ⟨e,rfl⟩:=zeu (htd.symm.trans hd);exact ⟨_,h2,fun w=>by simp only [eqGuard_at_pointer,binOp,Sem.run_bind,Sem.run_pure,Result.andThen_ok,L6 hu]⟩
 case h_24=>exact h.elim
structure Z7 (S:St) (w wr:World):Prop where
 ext:Q0 S.bs w wr
 loc:∀(id:Nat) (t:TypeId) (cs:List Value),S.L[id]? = some (t,cs)->∃b,S.B[id]? = some b/\wr.heap[b]? = some (Obj.cells cs.toArray t (0,0))
 len:S.L.length=S.B.length
 dist:S.B.Nodup
 fresh:∀(id b:Nat),S.old<=id->S.B[id]? = some b->w.heap.size<=b
theorem FT {w:World} {b:Nat} {o:Obj} (h:w.heap[b]? = some o):b<w.heap.size:=by
 rcases Nat.lt_or_ge b w.heap.size with hlt | hge
 ·exact hlt
 ·rw [Array.getElem?_eq_none hge] at h; cases h
theorem Z7.step {S:St} {w wr wr':World} (h:Z7 S w wr) (hx:Q0 [] wr wr'):Z7 S w wr':=
 ⟨h.ext.trans hx.of_nil,fun id t cs hl=>by
  obtain ⟨b,hb,hh⟩:=h.loc id t cs hl;exact ⟨b,hb,(hx.block b (FT hh) (by simp)).trans hh⟩,h.len,h.dist,h.fresh⟩
abbrev Ad:=St->World->Prop
abbrev Ox:=Option Ad
def Pw:Ox:=none
def zfp:Ox->St->World->Prop
 | none,_,_=>True
 | some f,S,w=>f S w
def zpw (S:St):EV->Option Value
 | .v x=>some x
 | .kb x=>some (.bool x)
 | .el o n=>some (.pointer (o.map (·.add n)))
 | .ls id len=>match S.B[id]? with
  | some b=>some (.slice (some ⟨b,0,none⟩) len len)
  | none=>none
 | _=>none
theorem za1 {S:St} {e:EV} {x u:Value} (h:zpw S e=some x) (hd:EV.den S e u):u=x:=by
 cases e with
 | v y=>simp only [zpw,Option.some.injEq] at h; subst h; exact hd
 | el o n=>simp only [zpw,Option.some.injEq] at h; subst h; obtain ⟨a,rfl,rfl⟩:=hd; rfl
 | ls id len=>
  obtain ⟨b,hb,rfl⟩:=hd;simp only [zpw,hb,Option.some.injEq] at h;exact h
 | loc id off=>cases h
 | le id i k=>cases h
 | no=>cases h
 | kb x=>simp only [zpw,Option.some.injEq] at h; subst h; exact hd
def Kn (S:St) (pc:List (Nat×Bool)) (x:Operand):Option Value:=
 match Ac S pc x with
 | some e=>zpw S e
 | none=>none
theorem QC {n:Nat} {S:St} {ops:Array Oper} {a:Act} (hf:Ed n S ops a) {pc:List (Nat×Bool)} (hp:LS ops a pc) {x:Operand} {v:Value} (h:Kn S pc x=some v):a.eval x=v:=by
 unfold Kn at h
 split at h
 ·rename_i e he; exact za1 h (ZD hf hp he)
 ·cases h
def LK (S:St) (pc:List (Nat×Bool)):List Operand->Option (List Value)
 | []=>some []
 | x::r=>match Kn S pc x,LK S pc r with
  | some v,some l=>some (v::l)
  | _,_=>none
theorem X4 {n:Nat} {S:St} {ops:Array Oper} {a:Act} (hf:Ed n S ops a) {pc:List (Nat×Bool)} (hp:LS ops a pc):∀{xs:List Operand} {vs:List Value},LK S pc xs=some vs->xs.map a.eval=vs
 | [],vs,h=>by simp only [LK,Option.some.injEq] at h; subst h; rfl
 | x::r,vs,h=>by
  simp only [LK] at h
  split at h
  ·rename_i v l hv hl;simp only [Option.some.injEq] at h; subst h;simp [QC hf hp hv,X4 hf hp hl]
  ·cases h
def zd1 (S:St) (pc:List (Nat×Bool)):List Operand->List Nat
 | []=>[]
 | x::r=>match Ac S pc x with
  | some (.ls id _)=>id::zd1 S pc r
  | _=>zd1 S pc r
def XB (S:St) (w:World):List Nat->Prop->Prop
 | [],A=>A
 | id::r,A=>match S.L[id]?,S.B[id]? with
  | some (t,cs),some b=>w.heap[b]? = some (Obj.cells cs.toArray t (0,0))->XB S w r A
  | _,_=>False
theorem XB.out {S:St} {w wr:World} (h:Z7 S w wr):∀{ids:List Nat} {A:Prop},XB S wr ids A->A
 | [],_,h'=>h'
 | id::r,A,h'=>by
  simp only [XB] at h'
  split at h'
  ·rename_i t cs b hl hb;obtain ⟨b',hb',hh⟩:=h.loc id t cs hl;rw [hb] at hb'; cases hb';exact XB.out h (h' hh)
  ·exact h'.elim
def By (C:Vj) (ids:List Nat) (f:Nat) (args:List Value) (r:Value) (G:Prop->Prop):Ad:=fun S w=>
 match ids with
 | []=>G (Q4 S.bs C.P f args.toArray w r)
 | ids=>G (∀w2,Q0 S.bs w w2->XB S w2 ids (Q4 S.bs C.P f args.toArray w2 r))
structure VZ (P:Program) (f:Nat):Prop where
 is : ∃ fn, P.funcs[f]? = some fn ∧ fn.body.isNone = false ∧ (fn.name == "runtime.NumGoroutine") = false
def Kc (P:Program) (f:Nat):Bool:=
 match P.funcs[f]? with
 | some fn => !fn.body.isNone && !(fn.name == "runtime.NumGoroutine")
 | none=>false
theorem E2 {P:Program} {f:Nat} (h:Kc P f=true):VZ P f:=by
 unfold Kc at h
 split at h
 ·rename_i fn hf;simp only [Bool.and_eq_true,Bool.not_eq_true'] at h;exact ⟨fn,hf,h.1,h.2⟩
 ·cases h
theorem zeh {P:Program} {f:Nat} (h:VZ P f) (args:Array Operand) (argTypes:Array TypeId) (a:Act) {o:Oper} (ho:o.op = .call { callee:=.value (.func f),args,argTypes }) (w:World) :
  (execOp a.eval o).run P w = .ok (.enter f (args.map a.eval)) w:=by
 obtain ⟨fn,hf,hb,hn⟩:=h.is
 unfold execOp
 rw [ho]
 have hn' : ¬ fn.name = "runtime.NumGoroutine" := by simpa using hn
 have hb':¬fn.body=none:=by intro e; rw [e] at hb; cases hb
 simp [resolve,Deferred.ofValue,invoke,callFunc,hf,hb',hn',Act.eval]
def Kz:List Oper->Nat->Nat->Option Nat
 | [],_,_=>none
 | o::r,t,k=>match o.dst with
  | some d=>bif Nat.beq d t then some k else Kz r t (k+1)
  | none=>Kz r t (k+1)
theorem Hr:∀{l:List Oper} {t k j:Nat},Kz l t k=some j->k<=j/\∃o,l[j - k]? = some o/\o.dst=some t
 | [],_,_,_,h=>by cases h
 | o::r,t,k,j,h=>by
  simp only [Kz] at h
  have rec_:∀{j},Kz r t (k+1)=some j->k<=j/\∃o',(o::r)[j - k]? = some o'/\o'.dst=some t:=fun {j} h=>by
   obtain ⟨h1,o',h2,h3⟩:=Hr h;refine ⟨by omega,o',?_,h3⟩;have:j - k=(j - (k+1))+1:=by omega
   rw [this]; simpa using h2
  split at h
  ·rename_i d hd
   cases hb:Nat.beq d t with
   | true=>
    rw [hb] at h;simp only [cond_true,Option.some.injEq] at h;subst h;exact ⟨Nat.le_refl _,o,by simp,by rw [hd,Nat.eq_of_beq_eq_true hb]⟩
   | false=>rw [hb] at h; exact rec_ h
  ·exact rec_ h
def Mr (ops:Array Oper) (pc:List (Nat×Bool)) (c:Operand) (b:Bool):List (Nat×Bool):=
 match c with
 | .tmp t=>match Kz ops.toList t 0 with
  | some j=>(j,b)::pc
  | none=>pc
 | _=>pc
theorem P3 {n:Nat} {S:St} {ops:Array Oper} {a:Act} (hf:Ed n S ops a) {pc:List (Nat×Bool)} (hp:LS ops a pc) {c:Operand} {b:Bool} (hc:a.eval c = .bool b):LS ops a (Mr ops pc c b):=by
 unfold Mr;split
 ·rename_i t;split
  ·rename_i j hj;obtain ⟨_,o,ho,hd⟩:=Hr hj;intro p hm;rcases List.mem_cons.1 hm with rfl | hm
   ·have hj':ops[j]? = some o:=by simpa using ho
    simp only [Act.eval] at hc;unfold yielded;rw [hj'];simp only [Option.bind_some,hd]
    cases ht:a.tmps[t]? with
    | none=>rw [Array.getD_eq_getD_getElem?,ht] at hc; simp [undef] at hc
    | some x=>
     rw [Array.getD_eq_getD_getElem?,ht] at hc;simp only [Option.getD_some] at hc;subst hc; rfl
   ·exact hp p hm
  ·exact hp
 ·exact hp
def Ty.val (ty:Ty) (vs:List Value):Option Value:=bif ty.agg then some (.agg vs.toArray) else match vs with | [v]=>some v | _=>none
theorem VK {P:Program} {T:TypeId->Option Ty} (hT:zkb P T) {t:TypeId} {ty:Ty} (ht:T t=some ty) {a:Addr} {vs:List Value} {v:Value} (hv:ty.val vs=some v) (hl:vs.length=ty.ks.length) {w:World}
  (hc:∀(j:Nat) (x:Value),vs[j]? = some x->w.cell? (a.add j)=some x):(loadVar t a).run P w = .ok v w:=by
 obtain ⟨d,hu,hag,_⟩:=(hT.facts ht).desc;obtain ⟨i,z,hi,_,hsz,_⟩:=(hT.facts ht).info;unfold loadVar;simp only [Sem.run_bind,Ut hu,Result.andThen_ok];unfold Ty.val at hv
 cases hg:ty.agg with
 | true=>
  rw [hg] at hv;simp only [cond_true,Option.some.injEq] at hv;subst hv;rw [<-hag,hg];simp only [if_true];have:=run_loadCells_list (P:=P) (w:=w) a vs hc;simp only [Sem.run_bind,ZR hi,Result.andThen_ok,hsz,<-hl,this,Sem.run_pure]
 | false=>
  rw [hg] at hv;simp only [cond_false] at hv
  split at hv
  ·rename_i x;simp only [Option.some.injEq] at hv; subst hv;rw [<-hag,hg];simp only [Bool.false_eq_true,if_false];have:=hc 0 x rfl;rw [Addr.add_zero'] at this;simp [this]
  ·cases hv
def Hb (a b:Operand) (cb:Bool) (x y:Value) (K:Value->Prop):Prop:=
 match a,b,x,y with
 | .const (.bool true),_,_,.bool y=>K (.bool (cb||y))
 | _,.const (.bool false),.bool x,_=>K (.bool (cb&&x))
 | _,_,.bool x,.bool y=>K (.bool (bif cb then x else y))
 | _,_,_,_=>False
theorem zd4 {a b:Operand} {cb:Bool} {x y:Value} {K:Value->Prop} {ax bx:Value} (ha:cb=true->ax=x) (hb:cb=false->bx=y) (hca:∀v,a = .const v->ax=v) (hcb:∀v,b = .const v->bx=v)
  (h:Hb a b cb x y K):∃v,K v/\v=(if cb=true then ax else bx):=by
 unfold Hb at h
 split at h
 ·refine ⟨_,h,?_⟩;cases cb
  ·simp [hb rfl]
  ·simp [hca _ rfl]
 ·refine ⟨_,h,?_⟩;cases cb
  ·simp [hcb _ rfl]
  ·simp [ha rfl]
 ·refine ⟨_,h,?_⟩;cases cb
  ·simp [hb rfl]
  ·simp [ha rfl]
 ·exact h.elim
def zhm (x:Option Value) (K:Int->Prop):Prop:=
 match x with
 | none=>K 0
 | some (.int _ i)=>K i
 | _=>False
def zbu (len:Nat) (x:Option Value) (K:Int->Prop):Prop:=
 match x with
 | none=>K len
 | some (.int _ i)=>K i
 | _=>False
def zmc (S:St) (pc:List (Nat×Bool)):Option Operand->Option (Option Value)
 | none=>some none
 | some x=>match Kn S pc x with
  | some v=>some (some v)
  | none=>none
theorem Ko {n:Nat} {S:St} {ops:Array Oper} {a:Act} (hf:Ed n S ops a) {pc:List (Nat×Bool)} (hp:LS ops a pc) {x:Option Operand} {v:Option Value} (h:zmc S pc x=some v):x.map a.eval=v:=by
 cases x with
 | none=>simp only [zmc,Option.some.injEq] at h; subst h; rfl
 | some x=>
  simp only [zmc] at h
  split at h
  ·rename_i u hu; simp only [Option.some.injEq] at h; subst h; simp [QC hf hp hu]
  ·cases h
def TD.byRun:TD->Bool
 | .struct _=>true
 | .other=>true
 | _=>false
def zsz (d:TD) (op:BinOp) (wr:Bool):Bool:=d.byRun||(wr&&match op with
 | .sub=>true
 | _=>false)
def ztj (d:TD):CK:=match d with
 | .int k=>.int k
 | _=>.bool
def TD.isOther:TD->Bool
 | .other=>true
 | _=>false
def zsg (C:Vj) (t:TypeId):Option (List RK):=match ze6 C.tt t with
 | some l=>some l
 | none=>match C.T t with
  | some ty=>bif ty.agg then some [.agg ty.ks] else match ty.ks with
   | [k]=>some [.cell k]
   | _=>none
  | none=>none
def ztl (C:Vj) (u:TypeId) (ok:Bool):Option (List RK):=match zsg C u with
 | some [k]=>bif ok then some [k,.cell .bool] else some [k]
 | _=>none
def zr4 (C:Vj) (S:St) (w:World) (ops:Array Oper) (o:Oper) (pc:List (Nat×Bool)) (K:EV->Ox->Prop):Prop:=
 match o.op with
 | .move x | .assign x=>match Ac S pc x with
  | some e=>K e Pw
  | none=>False
 | .pick c a b=>match Kn S pc c with
  | some (.bool cb)=>match Ac S (Mr ops pc c true) a,Ac S (Mr ops pc c false) b with
   | some .no,_=>(match Kn S (Mr ops pc c false) b with
    | some y=>K (.v y) Pw
    | none=>False)
   | _,some .no=>(match Kn S (Mr ops pc c true) a with
    | some x=>K (.v x) Pw
    | none=>False)
   | _,_=>match Kn S (Mr ops pc c true) a,Kn S (Mr ops pc c false) b with
    | some x,some y=>Hb a b cb x y fun v=>K (.v v) Pw
    | _,_=>False
  | _=>False
 | .nilCheck x=>match Ac S pc x with
  | some (.el o n)=>K (.el o n) Pw
  | some (.loc id off)=>K (.loc id off) Pw
  | some (.le id i k)=>K (.le id i k) Pw
  | some (.v (.pointer o))=>KH S ops pc (o.isSome=true)/\K (.el o 0) Pw
  | some (.v (.func (.func f) fs cs))=>K (.v (.func (.func f) fs cs)) Pw
  | _=>False
 | .binOp op t x y _=>match C.T t,Kn S pc x,Kn S pc y with
  | some ty,some a,some b=>bif zsz ty.d op C.wr then zqj (ztj ty.d) fun v=>KH S ops pc (∀wr,((do eqGuard op t x y a b; binOp op t a b):Sem Value).run C.P wr = .ok v wr)/\K (.v v) Pw else zdb (KH S ops pc) ty.d op a b fun v=>K (.v v) Pw
  | _,_,_=>False
 | .unOp .not _ x=>match Kn S pc x with
  | some (.bool b)=>K (.v (.bool (!b))) Pw
  | _=>False
 | .unOp .neg _ x=>match Kn S pc x with
  | some (.int k n)=>KH S ops pc (Qn k (0 - n))/\K (.v (.int k (0 - n))) Pw
  | _=>False
 | .fieldAddr s x f=>match C.T s,Ac S pc x with
  | some { agg:=_,ks:=_,d:=.struct fs },some e=>match fs[f]? with
   | some (off,_,_)=>match e with
    | .loc id m=>K (.loc id (m+off)) Pw
    | .el o m=>K (.el o (m+off)) Pw
    | .le id i m=>K (.le id i (m+off)) Pw
    | .v (.pointer o)=>KH S ops pc (o.isSome=true)/\K (.el o off) Pw
    | _=>False
   | none=>False
  | _,_=>False
 | .field t x f=>match C.T t,Kn S pc x with
  | some { agg:=_,ks:=_,d:=.struct fs },some (.agg cs)=>match fs[f]? with
   | some (off,true,z)=>K (.v (.agg (cs.extract off (off+z)))) Pw
   | some (off,false,_)=>match cs[off]? with
    | some v=>K (.v v) Pw
    | none=>False
   | none=>False
  | _,_=>False
 | .indexAddr t x i=>match C.T t,Ac S pc x,Kn S pc i with
  | some { agg:=_,ks:=_,d:=.slice _ z },some (.v (.slice o len _)),some (.int _ i)=>KH S ops pc (Ix o len i)/\K (.el o (i.toNat*z)) Pw
  | some { agg:=_,ks:=_,d:=.slice _ 1 },some (.ls id len),some (.int _ i)=>KH S ops pc (0<=i/\i<len)/\K (.le id i 0) Pw
  | some { agg:=_,ks:=_,d:=.arr n z _ },some (.el o m),some (.int _ i)=>KH S ops pc (0<=i/\i<n)/\K (.el o (m+i.toNat*z)) Pw
  | some { agg:=_,ks:=_,d:=.arr n 1 _ },some (.loc id 0),some (.int _ i)=>KH S ops pc (0<=i/\i<n)/\K (.le id i 0) Pw
  | _,_,_=>False
 | .index t x i=>match C.T t,Kn S pc x,Kn S pc i with
  | some { agg:=_,ks:=k::_,d:=.arr n 1 false },some (.agg cs),some (.int _ i)=>zqj k fun v=>KH S ops pc (0<=i/\i<n/\cs[i.toNat]? = some v)/\K (.v v) Pw
  | some { agg:=_,ks:=_,d:=.str },some (.string s),some (.int _ i)=>KH S ops pc (0<=i/\i<s.size)/\K (.v (.int .u8 (J9 s i))) Pw
  | _,_,_=>False
 | .convert s t x=>match C.T s,C.T t,Kn S pc x with
  | some _,some { agg:=_,ks:=_,d:=.int k },some (.int _ n)=>KH S ops pc (Qn k n)/\K (.v (.int k n)) Pw
  | _,_,_=>False
 | .extract x i=>match Kn S pc x with
  | some (.tuple vs)=>match vs[i]? with
   | some v=>K (.v v) Pw
   | none=>False
  | _=>False
 | .slice t x lo hi none=>match C.T t,Kn S pc x,zmc S pc lo,zmc S pc hi with
  | some { agg:=_,ks:=_,d:=.slice _ z },some (.slice o len cap),some l,some h=>
   zhm l fun l=>zbu len h fun h=>KH S ops pc (0<=l/\l<=h/\h<=cap)/\
    K (.v (.slice (if cap=l.toNat then o else o.map (·.add (l.toNat*z))) (h.toNat - l.toNat) (cap - l.toNat))) Pw
  | some { agg:=_,ks:=_,d:=.str },some (.string s),some l,some h=>
   zhm l fun l=>zbu s.size h fun h=>KH S ops pc (0<=l/\l<=h/\h<=s.size)/\K (.v (.string (s.extract l.toNat h.toNat))) Pw
  | _,_,_,_=>False
 | .makeFunc fn first cap=>match LK S pc first.toList,LK S pc cap.toList with
  | some a,some b=>K (.v (.func fn a.toArray b.toArray)) Pw
  | _,_=>False
 | .makeInterface t x=>match C.T t,Kn S pc x with
  | some ty,some v=>bif ty.d.isOther then False else K (.v (.iface t v)) Pw
  | _,_=>False
 | .typeAssert x t u ok=>match Kn S pc x,ztl C u ok with
  | some a,some rk=>KT rk fun r=>KH S ops pc (∀wr,(Instr.typeAssert a t u ok).run C.P wr = .ok r wr)/\K (.v r) Pw
  | _,_=>False
 | .build t parts=>match C.T t with
  | some { agg:=_,ks:=ks,d:=.struct fs }=>match LK S pc (parts.toList.map (·.2)),ks.contains .other with
   | some vs,false=>match Instr.fill (fun i=>(fs[i]?).map fun f=>(f.1,f.2.2)) (ks.map zv).toArray ((parts.toList.map (·.1)).zip vs) with
    | some cells=>K (.v (.agg cells)) Pw
    | none=>False
   | _,_=>False
  | some { agg:=_,ks:=ks,d:=.arr _ z _ }=>match LK S pc (parts.toList.map (·.2)),ks.contains .other with
   | some vs,false=>match Instr.fill (fun i=>some (i*z,z)) (ks.map zv).toArray ((parts.toList.map (·.1)).zip vs) with
    | some cells=>K (.v (.agg cells)) Pw
    | none=>False
   | _,_=>False
  | _=>False
 | .load t x=>match C.T t,Ac S pc x with
  | some ty,some (.el o n)=>zde ty.ks fun vs=>match ty.val vs with
   | some v=>KH S ops pc (Q2 S.bs w o n vs)/\K (.v v) (some fun S' w'=>KH S ops pc (Q2 S'.bs w' o n vs))
   | none=>False
  | some ty,some (.v (.pointer o))=>bif ty.ks.isEmpty then False else zde ty.ks fun vs=>match ty.val vs with
   | some v=>KH S ops pc (Q2 S.bs w o 0 vs)/\K (.v v) (some fun S' w'=>KH S ops pc (Q2 S'.bs w' o 0 vs))
   | none=>False
  | some ty,some (.loc id off)=>match S.L[id]? with
   | some (t',cs)=>match bif Nat.beq ((cs.drop off).take ty.ks.length).length ty.ks.length then ty.val ((cs.drop off).take ty.ks.length) else none with
    | some v=>K (.v v) (some fun S' _=>S'.L[id]? = some (t',cs))
    | none=>False
   | none=>False
  | some { agg:=false,ks:=[k],d:=_ },some (.le id i m)=>match S.L[id]? with
   | some (t',cs)=>zqj k fun v=>KH S ops pc (0<=i/\cs[i.toNat+m]? = some v)/\K (.v v) (some fun S' _=>S'.L[id]? = some (t',cs))
   | none=>False
  | _,_=>False
 | .call { callee:=.builtin b,args:=args,argTypes:=ts }=>match b,args.toList,ts.toList with
  | .len,[x],[t]=>match C.T t,Kn S pc x with
   | some { agg:=_,ks:=_,d:=.slice _ _ },some (.slice _ n _)=>K (.v (.int .i64 n)) Pw
   | some { agg:=_,ks:=_,d:=.str },some (.string s)=>K (.v (.int .i64 s.size)) Pw
   | _,_=>False
  | .min,[x,y],_=>match Kn S pc x,Kn S pc y with
   | some (.int k a),some (.int _ b)=>K (.v (.int k (if b<a then b else a))) Pw
   | _,_=>False
  | .max,[x,y],_=>match Kn S pc x,Kn S pc y with
   | some (.int k a),some (.int _ b)=>K (.v (.int k (if b>a then b else a))) Pw
   | _,_=>False
  | _,_,_=>False
 | .call { callee:=.value (.func f),args:=args,argTypes:=_ }=>match ze6 C.pf f,LK S pc args.toList with
  | some rks,some vs=>KT rks fun r=>By C (zd1 S pc args.toList) f vs r (KH S ops pc) S w/\K (.v r) (some (By C (zd1 S pc args.toList) f vs r (KH S ops pc)))
  | _,_=>False
 | _=>False
def FN (S S':St):Prop:=∀(id b:Nat),S.B[id]? = some b->S'.B[id]? = some b
def QR (C:Vj) (S:St) (w:World) (o:Oper) (a:Act) (K:EV->Ox->Prop):Prop:=
 ∃e fact v,K e fact/\EV.den S e v/\zfp fact S w/\
  ∀(S':St) (w':World) (a':Act),execOp a'.eval o=execOp a.eval o->FN S S'->zfp fact S' w'->∀wr,Z7 S' w' wr->o.quietAt C.P a' (Z7 S' w') wr v
theorem QR.of_run {C:Vj} {S:St} {w:World} {o:Oper} {a:Act} {K:EV->Ox->Prop} {e:EV} {v:Value} (hK:K e Pw) (hd:EV.den S e v) (hr:∀wr,(execOp a.eval o).run C.P wr = .ok (.value v) wr):QR C S w o a K:=
 ⟨e,Pw,v,hK,hd,trivial,fun S' w' a' he _ _ wr _=>by
  unfold Oper.quietAt;rw [he,hr wr];exact ⟨rfl,rfl⟩⟩
theorem QR.of_runs {C:Vj} {S:St} {w:World} {o:Oper} {a:Act} {K:EV->Ox->Prop} {e:EV} {v:Value} {fact:Ad} (hK:K e (some fact)) (hd:EV.den S e v) (hs:fact S w)
  (hr:∀(S':St) (w':World),FN S S'->fact S' w'->∀wr,Z7 S' w' wr->(execOp a.eval o).run C.P wr = .ok (.value v) wr):QR C S w o a K:=
 ⟨e,some fact,v,hK,hd,hs,fun S' w' a' he hl hf wr hw=>by
  unfold Oper.quietAt;rw [he,hr S' w' hl hf wr hw];exact ⟨rfl,rfl⟩⟩
theorem Dj {l:Option Value} {K:Int->Prop} (h:zhm l K):∃li:Int,(l=none/\li=0\/∃k,l=some (.int k li))/\K li:=by
 unfold zhm at h
 split at h
 ·exact ⟨0,.inl ⟨rfl,rfl⟩,h⟩
 ·exact ⟨_,.inr ⟨_,rfl⟩,h⟩
 ·exact h.elim
theorem LB {n:Nat} {l:Option Value} {K:Int->Prop} (h:zbu n l K):∃li:Int,(l=none/\li=n\/∃k,l=some (.int k li))/\K li:=by
 unfold zbu at h
 split at h
 ·exact ⟨n,.inl ⟨rfl,rfl⟩,h⟩
 ·exact ⟨_,.inr ⟨_,rfl⟩,h⟩
 ·exact h.elim
theorem NU {P:Program} {b:Bool} {len cap:Nat} {l hh:Option Value} {li hi:Int} (h:0<=li/\li<=hi/\hi<=cap) (hl:l=none/\li=0\/∃k,l=some (.int k li)) (hh0:hh=none/\hi=len\/∃k,hh=some (.int k hi)) (wr:World) :
  (Instr.sliceBounds b len cap l hh none).run P wr = .ok (li.toNat,hi.toNat,cap) wr:=by
 obtain ⟨h0,h1,h2⟩:=h;have h4:0<=hi:=Int.le_trans h0 h1;rcases hl with ⟨rfl,rfl⟩ | ⟨k,rfl⟩ <;> rcases hh0 with ⟨rfl,rfl⟩ | ⟨k',rfl⟩
 ·simp [Instr.sliceBounds]
 ·simp [Instr.sliceBounds,Instr.sliceBound,asIntOf,h1,h2]
 ·simp [Instr.sliceBounds,Instr.sliceBound,asIntOf,h0,h1]
 ·have h3:li<=((hi.toNat:Nat):Int):=by omega
  simp only [Instr.sliceBounds,Instr.sliceBound,asIntOf,Sem.run_bind,Sem.run_pure,Result.andThen_ok,Sem.run_ite,if_pos (And.intro h4 h2),if_pos (And.intro h0 h3)]
theorem Q2.cells {bs:List Nat} {w wr:World} {o:OA} {n:Nat} {vs:List Value} (h:Q2 bs w o n vs) (hx:Q0 bs w wr) {a:Addr} (ho:o=some a) (j:Nat) (x:Value) (hj:vs[j]? = some x):wr.cell? ((a.add n).add j)=some x:=by
 obtain ⟨b,hb,_,hc⟩:=(h.get j x hj).ext hx;rw [ho] at hb;cases hb;rw [JP]; exact hc
theorem zql {bs:List Nat} {w:World} {o:OA} {n:Nat} {ty:Ty} {vs:List Value} {v:Value} (hv:ty.val vs=some v) (hl:vs.length=ty.ks.length) (hk:0<ty.ks.length) (h:Q2 bs w o n vs):∃u,Uy bs w o n u:=by
 cases vs with
 | nil=>simp at hl; omega
 | cons x r=>exact ⟨x,h.get 0 x rfl⟩
theorem MM {S:St} {w wr:World} (h:Z7 S w wr) {id:Nat} {t:TypeId} {cs:List Value} (hl:S.L[id]? = some (t,cs)) {b:Nat} (hb:S.B[id]? = some b) (i:Nat):wr.cell? ⟨b,i,none⟩=cs[i]? := by
 obtain ⟨b',hb',hh⟩:=h.loc id t cs hl;rw [hb] at hb'; cases hb';simp [World.cell?,hh]
theorem CP {C:Vj} (hT:zkb C.P C.T) (hcall:∀f ks,ze6 C.pf f=some ks->VZ C.P f) {S:St} {w:World} {ops:Array Oper} {o:Oper} {pc:List (Nat×Bool)} {K:EV->Ox->Prop} {a:Act}
  (hf:Ed C.n S ops a) (hp:LS ops a pc) (h:zr4 C S w ops o pc K):QR C S w o a K:=by
 have G:∀A,KH S ops pc A->A:=fun A=>FSx hf hp
 unfold zr4 at h
 split at h
 case h_1 x ho=>
  split at h
  ·rename_i e he;exact QR.of_run h (ZD hf hp he) fun wr=>by simp [execOp,ho]
  ·exact h.elim
 case h_2 x ho=>
  split at h
  ·rename_i e he;exact QR.of_run h (ZD hf hp he) fun wr=>by simp [execOp,ho]
  ·exact h.elim
 case h_3 c x y ho=>
  split at h
  ·rename_i cb hc;have hcv:=QC hf hp hc
   split at h
   ·rename_i hno
    split at h
    ·rename_i v hv
     have hcb:cb=false:=by
      cases hq:cb with
      | false=>rfl
      | true=>
       rw [hq] at hcv;exact (ZD hf (P3 hf hp hcv) hno).elim
     rw [hcb] at hcv;have hv':=QC hf (P3 hf hp hcv) hv;exact QR.of_run h rfl fun wr=>by simp [execOp,ho,hcv,asBool,hv']
    ·exact h.elim
   ·rename_i hno _
    split at h
    ·rename_i v hv
     have hcb:cb=true:=by
      cases hq:cb with
      | true=>rfl
      | false=>
       rw [hq] at hcv;exact (ZD hf (P3 hf hp hcv) hno).elim
     rw [hcb] at hcv;have hv':=QC hf (P3 hf hp hcv) hv;exact QR.of_run h rfl fun wr=>by simp [execOp,ho,hcv,asBool,hv']
    ·exact h.elim
   ·split at h
    ·rename_i u v hu hv
     obtain ⟨r,hK,hr⟩:=zd4 (ax:=a.eval x) (bx:=a.eval y) (fun e=>by
       subst e; exact QC hf (P3 hf hp hcv) hu) (fun e=>by
       subst e; exact QC hf (P3 hf hp hcv) hv) (fun v e=>by subst e; rfl) (fun v e=>by subst e; rfl) h
     refine QR.of_run hK (v:=r) rfl fun wr => ?_
     simp only [execOp,ho,hcv,asBool];rw [hr]
     cases cb <;> rfl
    ·exact h.elim
  ·exact h.elim
 case h_4 x ho=>
  split at h
  ·rename_i b n he;have hd:=ZD hf hp he;refine QR.of_run h hd fun wr => ?_
   obtain ⟨b,_,hb⟩:=hd;simp [execOp,ho,hb]
  ·rename_i id off he;have hd:=ZD hf hp he;refine QR.of_run h hd fun wr => ?_
   obtain ⟨b,_,hb⟩:=hd;simp [execOp,ho,hb]
  ·rename_i id i k he;have hd:=ZD hf hp he;refine QR.of_run h hd fun wr => ?_
   obtain ⟨b,_,_,hb⟩:=hd;simp [execOp,ho,hb]
  ·rename_i b he;have hd:=ZD hf hp he;obtain ⟨h1,h2⟩:=h;have h3:=G _ h1;obtain ⟨ad,rfl⟩:=Option.isSome_iff_exists.1 h3;simp only [EV.den] at hd;exact QR.of_run h2 (v:=.pointer (some ad)) ⟨ad,rfl,by rw [Addr.add_zero']⟩ fun wr=>by simp [execOp,ho,hd]
  ·rename_i f fs cs he;have hd:=ZD hf hp he;refine QR.of_run h hd fun wr => ?_
   simp only [EV.den] at hd;simp [execOp,ho,hd]
  ·exact h.elim
 case h_5 op t x y yt ho=>
  split at h
  ·rename_i ty u v ht hu hv;have hu':=QC hf hp hu;have hv':=QC hf hp hv
   cases hb:zsz ty.d op C.wr with
   | true=>
    rw [hb] at h;simp only [cond_true] at h;obtain ⟨r,h1,h2⟩:=Oy h;refine QR.of_run h2 (v:=r) rfl fun wr => ?_
    have:=G _ h1 wr;simp only [execOp,ho,hu',hv',Sem.run_bind] at this ⊢;rw [this];rfl
   | false=>
    rw [hb] at h;simp only [cond_false] at h;obtain ⟨r,hK,hr⟩:=ziy hT ht (x:=x) (y:=y) G h;refine QR.of_run hK (v:=r) rfl fun wr => ?_
    have:=hr wr;simp only [execOp,ho,hu',hv',Sem.run_bind] at this ⊢;rw [this];rfl
  ·exact h.elim
 case h_6 t x ho=>
  split at h
  ·rename_i b hb;exact QR.of_run h rfl fun wr=>by simp [execOp,ho,QC hf hp hb,Op.unary]
  ·exact h.elim
 case h_7 t x ho=>
  split at h
  ·rename_i k n hb;obtain ⟨h1,h2⟩:=h;have h3:=(G _ h1).wrap;rw [Int.zero_sub] at h3;exact QR.of_run h2 rfl fun wr=>by simp [execOp,ho,QC hf hp hb,Op.unary,Op.intArith,h3]
  ·exact h.elim
 case h_8 s x f ho=>
  split at h
  ·rename_i ag ks fs e ht he;have hd:=ZD hf hp he;obtain ⟨d,hu,_,htd⟩:=(hT.facts ht).desc;obtain ⟨fl,rfl,hfl⟩:=K5 htd.symm
   split at h
   ·rename_i off b z hfs;obtain ⟨fd,i,dd,hfd,hi,_,hz,hx⟩:=TC hfl f _ hfs;simp only [Prod.mk.injEq] at hx;obtain ⟨rfl,_,rfl⟩:=hx;have hfd':fl[f]? = some fd:=by simpa using hfd
    have hrun:∀(ad:Addr) wr,(Instr.fieldAt s (.pointer (some ad)) f).run C.P wr = .ok (.pointer (some (ad.add fd.offset))) wr:=fun ad wr=>by
     simp [Instr.fieldAt,run_underlying hu,hfd',Instr.sureAddr,fieldPlace,ZR hi,hz]
    split at h
    ·rename_i id m;obtain ⟨b,hb,hv⟩:=hd;refine QR.of_run h (v:=.pointer (some ⟨b,m+fd.offset,none⟩)) ⟨b,hb,rfl⟩ fun wr => ?_
     simp [execOp,ho,hv,hrun,Addr.add_lit]
    ·rename_i ob m;obtain ⟨ad,hb,hv⟩:=hd;refine QR.of_run h (v:=.pointer (some (ad.add (m+fd.offset)))) ⟨ad,hb,rfl⟩ fun wr => ?_
     simp [execOp,ho,hv,hrun,JP]
    ·rename_i id ix m;obtain ⟨b,hb,h0,hv⟩:=hd;refine QR.of_run h (v:=.pointer (some ⟨b,ix.toNat+(m+fd.offset),none⟩)) ⟨b,hb,h0,rfl⟩ fun wr => ?_
     simp [execOp,ho,hv,hrun,Addr.add_lit,Nat.add_assoc]
    ·rename_i ob;obtain ⟨h1,h2⟩:=h;obtain ⟨ad,rfl⟩:=Option.isSome_iff_exists.1 (G _ h1);simp only [EV.den] at hd;refine QR.of_run h2 (v:=.pointer (some (ad.add fd.offset))) ⟨ad,rfl,rfl⟩ fun wr => ?_
     simp [execOp,ho,hd,hrun]
    ·exact h.elim
   ·exact h.elim
  ·exact h.elim
 case h_9 t x f ho=>
  split at h
  ·rename_i ag ks fs cs ht hx;have hx':=QC hf hp hx;obtain ⟨d,hu,_,htd⟩:=(hT.facts ht).desc;obtain ⟨fl,rfl,hfl⟩:=K5 htd.symm
   split at h
   ·rename_i off z hfs;obtain ⟨fd,i,dd,hfd,hi,hdd,hz,hx⟩:=TC hfl f _ hfs;simp only [Prod.mk.injEq] at hx;obtain ⟨rfl,hag,rfl⟩:=hx;have hfd':fl[f]? = some fd:=by simpa using hfd
    refine QR.of_run h rfl fun wr => ?_
    simp [execOp,ho,hx',Instr.field,run_underlying hu,hfd',asAgg,part,Ut hdd,<-hag,ZR hi]
   ·rename_i off z hfs;obtain ⟨fd,i,dd,hfd,hi,hdd,hz,hx⟩:=TC hfl f _ hfs;simp only [Prod.mk.injEq] at hx;obtain ⟨rfl,hag,rfl⟩:=hx;have hfd':fl[f]? = some fd:=by simpa using hfd
    split at h
    ·rename_i v hv;refine QR.of_run h rfl fun wr => ?_
     simp [execOp,ho,hx',Instr.field,run_underlying hu,hfd',asAgg,part,Ut hdd,<-hag,hv]
    ·exact h.elim
   ·exact h.elim
  ·exact h.elim
 case h_10 t x i ho=>
  split at h
  ·rename_i ag ks e z ob len cap ki ix ht hx hi;have hx':=ZD hf hp hx;simp only [EV.den] at hx';have hi':=QC hf hp hi;obtain ⟨d,hu,_,htd⟩:=(hT.facts ht).desc;obtain ⟨inf,rfl,hinf,rfl⟩:=Oq htd.symm;obtain ⟨h1,h2⟩:=h;obtain ⟨h3,h4,h5⟩:=G _ h1;obtain ⟨ad,rfl⟩:=Option.isSome_iff_exists.1 h5;refine QR.of_run h2 (v:=.pointer (some (ad.add (ix.toNat*inf.size)))) ⟨ad,rfl,rfl⟩ fun wr => ?_
   simp [execOp,ho,hx',hi',Instr.indexAt,asIntOf,run_underlying hu,h3,h4,ZR hinf]
  ·rename_i ag ks e id len ki ix ht hx hi;have hx':=ZD hf hp hx;obtain ⟨b,hb,hx'⟩:=hx';have hi':=QC hf hp hi;obtain ⟨d,hu,_,htd⟩:=(hT.facts ht).desc;obtain ⟨inf,rfl,hinf,hsz⟩:=Oq htd.symm;obtain ⟨h1,h2⟩:=h;obtain ⟨h3,h4⟩:=G _ h1;refine QR.of_run h2 (v:=.pointer (some ⟨b,ix.toNat+0,none⟩)) ⟨b,hb,h3,rfl⟩ fun wr => ?_
   simp [execOp,ho,hx',hi',Instr.indexAt,asIntOf,run_underlying hu,h3,h4,ZR hinf,hsz,Addr.add_lit]
  ·rename_i ag ks n z ea ob m ki ix ht hx hi;have hx':=ZD hf hp hx;obtain ⟨ad,hb,hx'⟩:=hx';have hi':=QC hf hp hi;obtain ⟨d,hu,_,htd⟩:=(hT.facts ht).desc;obtain ⟨e,inf,de,rfl,hinf,rfl,_,_⟩:=Hl htd.symm;obtain ⟨h1,h2⟩:=h;obtain ⟨h3,h4⟩:=G _ h1;refine QR.of_run h2 (v:=.pointer (some (ad.add (m+ix.toNat*inf.size)))) ⟨ad,hb,rfl⟩ fun wr => ?_
   simp [execOp,ho,hx',hi',Instr.indexAt,Instr.sureAddr,asIntOf,run_underlying hu,h3,h4,ZR hinf,JP]
  ·rename_i ag ks n ea id ki ix ht hx hi;have hx':=ZD hf hp hx;obtain ⟨b,hb,hx'⟩:=hx';have hi':=QC hf hp hi;obtain ⟨d,hu,_,htd⟩:=(hT.facts ht).desc;obtain ⟨e,inf,de,rfl,hinf,hsz,_,_⟩:=Hl htd.symm;obtain ⟨h1,h2⟩:=h;obtain ⟨h3,h4⟩:=G _ h1;refine QR.of_run h2 (v:=.pointer (some ⟨b,ix.toNat+0,none⟩)) ⟨b,hb,h3,rfl⟩ fun wr => ?_
   simp [execOp,ho,hx',hi',Instr.indexAt,Instr.sureAddr,asIntOf,run_underlying hu,h3,h4,ZR hinf,hsz,Addr.add_lit]
  ·exact h.elim
 case h_11 t x i ho=>
  split at h
  ·rename_i ag k ks n cs ki ix ht hx hi;have hx':=QC hf hp hx;have hi':=QC hf hp hi;obtain ⟨d,hu,_,htd⟩:=(hT.facts ht).desc;obtain ⟨e,inf,de,rfl,hinf,hsz,hde,hag⟩:=Hl htd.symm;obtain ⟨v,h1,h2⟩:=Oy h;obtain ⟨h3,h4,h5⟩:=G _ h1;refine QR.of_run h2 rfl fun wr => ?_
   simp [execOp,ho,hx',hi',Instr.index,asIntOf,run_underlying hu,h3,h4,ZR hinf,hsz,part,Ut hde,hag,h5]
  ·rename_i ag ks s ki ix ht hx hi;have hx':=QC hf hp hx;have hi':=QC hf hp hi;obtain ⟨d,hu,_,htd⟩:=(hT.facts ht).desc;have:=A5 htd.symm;subst this;obtain ⟨h1,h2⟩:=h;obtain ⟨h3,h4⟩:=G _ h1;refine QR.of_run h2 rfl fun wr => ?_
   have h5:ix.toNat<s.size:=by omega
   have h6:s[ix.toNat]? = some (s[ix.toNat]):=by simp [h5]
   simp only [execOp,ho,hx',hi',Instr.index,asIntOf,Sem.run_bind,Sem.run_pure,run_underlying hu,Result.andThen_ok,h3,if_true,h6]
   have h7:J9 s ix=(s[ix.toNat].toNat:Int):=by
    unfold J9
    congr 2
    simp [Array.getD,h5];rfl
   rw [h7]
  ·exact h.elim
 case h_12 sT t x ho=>
  split at h
  ·rename_i ty0 ag ks k k0 n hs ht hx;have hx':=QC hf hp hx;obtain ⟨d0,hu0,_,_⟩:=(hT.facts hs).desc;obtain ⟨d,hu,_,htd⟩:=(hT.facts ht).desc;have:=zm6 htd.symm;subst this;obtain ⟨h1,h2⟩:=h;have h3:=(G _ h1).wrap;refine QR.of_run h2 rfl fun wr => ?_
   cases d0 <;> simp [execOp,ho,hx',convert,run_underlying hu0,run_underlying hu,Conv.intToInt,h3]
  ·exact h.elim
 case h_13 x i ho=>
  split at h
  ·rename_i vs hx;have hx':=QC hf hp hx
   split at h
   ·rename_i v hv;exact QR.of_run h rfl fun wr=>by simp [execOp,ho,hx',Instr.extract,hv]
   ·exact h.elim
  ·exact h.elim
 case h_14 t x lo hi ho=>
  split at h
  ·rename_i ag ks e z ob len cap l hh ht hx hl hhi;have hx':=QC hf hp hx;have hl':=Ko hf hp hl;have hh':=Ko hf hp hhi;obtain ⟨d,hu,_,htd⟩:=(hT.facts ht).desc;obtain ⟨inf,rfl,hinf,rfl⟩:=Oq htd.symm;obtain ⟨li,hl1,h⟩:=Dj h;obtain ⟨hi',hh1,h1,h2⟩:=LB h;have hsb:=NU (P:=C.P) (b:=true) (G _ h1) hl1 hh1;exact QR.of_run h2 rfl fun wr=>by simp [execOp,ho,hx',hl',hh',Instr.sliceAt,Instr.slice,run_underlying hu,hsb,ZR hinf]
  ·rename_i ag ks sv l hh ht hx hl hhi;have hx':=QC hf hp hx;have hl':=Ko hf hp hl;have hh':=Ko hf hp hhi;obtain ⟨d,hu,_,htd⟩:=(hT.facts ht).desc;have:=A5 htd.symm;subst this;obtain ⟨li,hl1,h⟩:=Dj h;obtain ⟨hi',hh1,h1,h2⟩:=LB h;have hsb:=NU (P:=C.P) (b:=false) (G _ h1) hl1 hh1;exact QR.of_run h2 rfl fun wr=>by simp [execOp,ho,hx',hl',hh',Instr.sliceAt,Instr.slice,run_underlying hu,hsb]
  ·exact h.elim
 case h_15 fn first cap ho=>
  split at h
  ·rename_i va vb hva hvb;have h1:=X4 hf hp hva;have h2:=X4 hf hp hvb;have e1:first.map a.eval=va.toArray:=by rw [<-h1,<-Array.toList_map,Array.toArray_toList]
   have e2:cap.map a.eval=vb.toArray:=by rw [<-h2,<-Array.toList_map,Array.toArray_toList]
   exact QR.of_run h rfl fun wr=>by simp [execOp,ho,Instr.makeFunc,e1,e2]
  ·exact h.elim
 case h_16 t x ho=>
  split at h
  ·rename_i ty v ht hx;have hx':=QC hf hp hx;obtain ⟨d,hu,_,htd⟩:=(hT.facts ht).desc
   cases ho':ty.d.isOther with
   | true=>rw [ho'] at h; exact h.elim
   | false=>
    rw [ho'] at h;simp only [cond_false] at h;refine QR.of_run h rfl fun wr => ?_
    cases d with
    | interface ms=>rw [htd] at ho'; simp [K4,TD.isOther] at ho'
    | _=>simp [execOp,ho,hx',Instr.makeInterface,run_underlying hu]
  ·exact h.elim
 case h_17 x t u ok ho=>
  split at h
  ·rename_i v rk hx hrk;have hx':=QC hf hp hx;obtain ⟨r,h1,h2⟩:=Js h;exact QR.of_run h2 rfl fun wr=>by simp [execOp,ho,hx',G _ h1 wr]
  ·exact h.elim
 case h_18 t parts ho=>
  split at h
  ·rename_i ag ks fs ht;obtain ⟨d,hu,_,htd⟩:=(hT.facts ht).desc;obtain ⟨inf,z,hinf,hz,hsz,hks⟩:=(hT.facts ht).info;obtain ⟨fl,rfl,hfl⟩:=K5 htd.symm
   split at h
   ·rename_i vs hvs hno;have hv:=X4 hf hp hvs
    split at h
    ·rename_i cells hfill;refine QR.of_run h rfl fun wr => ?_
     have hzc:z.cells=(ks.map zv).toArray:=by
      have h0:∀(l:List Value),(l.map Ou).contains .other=false->(l.map Ou).map zv=l:=by
       intro l
       induction l with
       | nil=>intro _; rfl
       | cons x r ih=>
        intro hc;simp only [List.map_cons,List.contains_cons,Bool.or_eq_false_iff] at hc;have hx:Ou x≠.other:=by intro e; rw [e] at hc; simp at hc
        simp only [List.map_cons,ih hc.2,<-za9 hx]
      have h1:=h0 z.cells.toList (by rw [hks]; exact hno);rw [hks] at h1;rw [h1,Array.toArray_toList]
     have hpl:∀(l:List Field) (r:List (Nat×Bool×Nat)),fieldsOf C.P l=some r->
       (l.mapM (fun f=>do pure (f.offset,<-sizeOf f.type)):Sem (List (Nat×Nat))).run C.P wr = .ok (r.map fun f=>(f.1,f.2.2)) wr:=by
      intro l
      induction l with
      | nil=>intro r hr; simp only [fieldsOf,Option.some.injEq] at hr; subst hr; simp
      | cons f l ih=>
       intro r hr;simp only [fieldsOf] at hr
       split at hr
       ·rename_i i d l' hi hd hl'
        split at hr
        ·cases hr
        ·simp only [Option.some.injEq] at hr; subst hr;have ih':=ih l' hl';simp only [List.mapM_cons,Sem.run_bind,ZR hi,Result.andThen_ok,Sem.run_pure,ih',List.map_cons]
       ·cases hr
     have hparts:(parts.map fun (i,x)=>(i,a.eval x)).toList=(parts.toList.map (·.1)).zip vs:=by
      rw [<-hv];generalize hq:parts.toList=q;have:(parts.map fun (i,x)=>(i,a.eval x)).toList=q.map fun (i,x)=>(i,a.eval x):=by rw [<-hq]; simp
      rw [this];clear hq this hvs hfill
      induction q with
      | nil=>rfl
      | cons y q ih=>simp [ih]
     have hfill':Instr.fill (fun i=>((fs.map fun f=>(f.1,f.2.2)).toArray)[i]?) z.cells ((parts.map fun (i,x)=>(i,a.eval x)).toList)=some cells:=by
      rw [hparts,hzc,<-hfill]
      congr 1
      funext i
      simp
     simp only [execOp,ho,Instr.build,Sem.run_bind,zeroValue,XU hinf,Result.andThen_ok,hz,Sem.run_pure,run_underlying hu,Array.mapM_eq_mapM_toList,Sem.run_map,hpl fl.toList fs hfl,hfill']
    ·exact h.elim
   ·exact h.elim
  ·rename_i ag ks n z0 eb ht;obtain ⟨d,hu,_,htd⟩:=(hT.facts ht).desc;obtain ⟨inf,z,hinf,hz,hsz,hks⟩:=(hT.facts ht).info;obtain ⟨e,inf2,de,rfl,hinf2,hez,_,_⟩:=Hl htd.symm
   split at h
   ·rename_i vs hvs hno;have hv:=X4 hf hp hvs
    split at h
    ·rename_i cells hfill;refine QR.of_run h rfl fun wr => ?_
     have hzc:z.cells=(ks.map zv).toArray:=by
      have h0:∀(l:List Value),(l.map Ou).contains .other=false->(l.map Ou).map zv=l:=by
       intro l
       induction l with
       | nil=>intro _; rfl
       | cons x r ih=>
        intro hc;simp only [List.map_cons,List.contains_cons,Bool.or_eq_false_iff] at hc;have hx:Ou x≠.other:=by intro e; rw [e] at hc; simp at hc
        simp only [List.map_cons,ih hc.2,<-za9 hx]
      have h1:=h0 z.cells.toList (by rw [hks]; exact hno);rw [hks] at h1;rw [h1,Array.toArray_toList]
     have hparts:(parts.map fun (i,x)=>(i,a.eval x)).toList=(parts.toList.map (·.1)).zip vs:=by
      rw [<-hv];generalize hq:parts.toList=q;have:(parts.map fun (i,x)=>(i,a.eval x)).toList=q.map fun (i,x)=>(i,a.eval x):=by rw [<-hq]; simp
      rw [this];clear hq this hvs hfill
      induction q with
      | nil=>rfl
      | cons y q ih=>simp [ih]
     have hfill':Instr.fill (fun i=>some (i*inf2.size,inf2.size)) z.cells ((parts.map fun (i,x)=>(i,a.eval x)).toList)=some cells:=by
      rw [hparts,hzc,<-hfill,hez]
     simp only [execOp,ho,Instr.build,Sem.run_bind,zeroValue,XU hinf,Result.andThen_ok,hz,Sem.run_pure,run_underlying hu,ZR hinf2,hfill']
    ·exact h.elim
   ·exact h.elim
  ·exact h.elim
 case h_19 t x ho=>
  split at h
  ·rename_i ty ob n ht hx;obtain ⟨ad,hb,hx'⟩:=ZD hf hp hx;obtain ⟨vs,hlen,h⟩:=T2 h
   split at h
   ·rename_i v hv;obtain ⟨h1,h2⟩:=h;refine QR.of_runs (v:=v) h2 rfl h1 fun S' w' hl hfact wr hw => ?_
    have h3:=G _ hfact;have:=VK hT ht hv hlen (a:=ad.add n) (h3.cells hw.ext hb);simp [execOp,ho,hx',Instr.loadAt,Instr.sureAddr,this]
   ·exact h.elim
  ·rename_i ty ob ht hx;have hx':=ZD hf hp hx;simp only [EV.den] at hx'
   have hk:0<ty.ks.length:=by
    cases hks:ty.ks with
    | nil=>rw [hks] at h; exact h.elim
    | cons=>simp
   have hke:ty.ks.isEmpty=false:=by
    cases hks:ty.ks with
    | nil=>rw [hks] at hk; cases hk
    | cons=>rfl
   rw [hke] at h;obtain ⟨vs,hlen,h⟩:=T2 h
   split at h
   ·rename_i v hv;obtain ⟨h1,h2⟩:=h;refine QR.of_runs (v:=v) h2 rfl h1 fun S' w' hl hfact wr hw => ?_
    have h3:=G _ hfact;obtain ⟨u,hu⟩:=zql hv hlen hk h3;obtain ⟨ad,hb,_,_⟩:=hu;have:=VK hT ht hv hlen (a:=ad.add 0) (h3.cells hw.ext hb);rw [Addr.add_zero'] at this;simp [execOp,ho,hx',hb,Instr.loadAt,Instr.sureAddr,this]
   ·exact h.elim
  ·rename_i ty id off ht hx;obtain ⟨b,hb,hx'⟩:=ZD hf hp hx
   split at h
   ·rename_i t' cs hL
    split at h
    ·rename_i v hv
     cases hl:Nat.beq ((cs.drop off).take ty.ks.length).length ty.ks.length with
     | false=>rw [hl] at hv; cases hv
     | true=>
      rw [hl] at hv;simp only [cond_true] at hv;refine QR.of_runs (v:=v) h rfl hL fun S' w' hloc hfact wr hw => ?_
      have:=VK hT ht hv (Nat.eq_of_beq_eq_true hl) (a:=⟨b,off,none⟩) (w:=wr) (fun j y hy=>by
       rw [Addr.add_lit,MM hw hfact (hloc _ _ hb)];have:=List.getElem?_take (l:=cs.drop off) (i:=ty.ks.length) (j:=j);rw [hy] at this
       split at this
       ·rw [List.getElem?_drop] at this; exact this.symm
       ·cases this)
      simp [execOp,ho,hx',Instr.loadAt,Instr.sureAddr,this]
    ·exact h.elim
   ·exact h.elim
  ·rename_i k td id i m ht hx;obtain ⟨b,hb,h0,hx'⟩:=ZD hf hp hx
   split at h
   ·rename_i t' cs hL;obtain ⟨v,h1,h2⟩:=Oy h;obtain ⟨_,h4⟩:=G _ h1;refine QR.of_runs (v:=v) h2 rfl hL fun S' w' hloc hfact wr hw => ?_
    have:=VK hT ht (vs:=[v]) (v:=v) rfl rfl (a:=⟨b,i.toNat+m,none⟩) (w:=wr) (fun j y hy=>by
     cases j with
     | zero=>simp at hy; subst hy; rw [Addr.add_zero',MM hw hfact (hloc _ _ hb)]; exact h4
     | succ j=>simp at hy)
    simp [execOp,ho,hx',Instr.loadAt,Instr.sureAddr,this]
   ·exact h.elim
  ·exact h.elim
 case h_20 b args ts ho=>
  split at h
  ·rename_i x t hargs hts;have ea:args = #[x]:=by rw [<-Array.toArray_toList (xs:=args),hargs]
   have et:ts = #[t]:=by rw [<-Array.toArray_toList (xs:=ts),hts]
   subst ea; subst et
   split at h
   ·rename_i ag ks e z o n c ht hx;have hx':=QC hf hp hx;obtain ⟨d,hu,_,htd⟩:=(hT.facts ht).desc;obtain ⟨inf,rfl,hinf,_⟩:=Oq htd.symm;exact QR.of_run h rfl fun wr=>by simp [execOp,ho,resolve,invoke,builtin,Builtin.len_,run_underlying hu,hx',goInt]
   ·rename_i ag ks sv ht hx;have hx':=QC hf hp hx;obtain ⟨d,hu,_,htd⟩:=(hT.facts ht).desc;have:=A5 htd.symm;subst this;exact QR.of_run h rfl fun wr=>by simp [execOp,ho,resolve,invoke,builtin,Builtin.len_,run_underlying hu,hx',goInt]
   ·exact h.elim
  ·rename_i x y hargs;have ea:args = #[x,y]:=by rw [<-Array.toArray_toList (xs:=args),hargs]
   subst ea
   split at h
   ·rename_i k u k' v hx hy;have hx':=QC hf hp hx;have hy':=QC hf hp hy;exact QR.of_run h rfl fun wr=>by simp [execOp,ho,resolve,invoke,builtin,Builtin.min_,Builtin.min2,hx',hy']
   ·exact h.elim
  ·rename_i x y hargs;have ea:args = #[x,y]:=by rw [<-Array.toArray_toList (xs:=args),hargs]
   subst ea
   split at h
   ·rename_i k u k' v hx hy;have hx':=QC hf hp hx;have hy':=QC hf hp hy;exact QR.of_run h rfl fun wr=>by simp [execOp,ho,resolve,invoke,builtin,Builtin.max_,Builtin.max2,hx',hy']
   ·exact h.elim
  ·exact h.elim
 case h_21 f args ts ho=>
  split at h
  ·rename_i rks vs hpf hvs;have hv:=X4 hf hp hvs;obtain ⟨r,h1,h2⟩:=Js h;refine ⟨.v r,_,r,h2,rfl,h1,fun S' w' a' he hloc hfact wr hw => ?_⟩;unfold Oper.quietAt;rw [he,zeh (hcall f rks hpf) args ts a ho];refine ⟨rfl,?_⟩;have ea:args.map a.eval=vs.toArray:=by rw [<-hv,<-Array.toList_map,Array.toArray_toList]
   rw [ea]
   have hpure:Q4 S'.bs C.P f vs.toArray wr r:=by
    unfold By at hfact
    split at hfact
    ·exact (G _ hfact).ext hw.ext
    ·exact (XB.out hw (G _ hfact wr hw.ext))
   exact (hpure wr (Q0.refl _ _)).mono fun e w'' ⟨h1,h2⟩=>⟨h1,hw.step h2⟩
  ·exact h.elim
 case h_22=>exact h.elim
structure OG (n:Nat) (S:St) (ops:Array Oper) (D:Nat->Prop) (a:Act):Prop where
 fit:Ed n S ops a
 dn:∀(i:Nat) (pc:List (Nat×Bool)) (x:EV),S.F.get i=some (.gd S.r pc x)->∀p∈pc,D p.1
 st:∀(i r:Nat) (pc:List (Nat×Bool)) (x:EV),S.F.get i=some (.gd r pc x)->r<=S.r
def Du:List Oper->Nat->Nat->Nat->Bool
 | [],_,_,_=>true
 | o::r,d,j,k=>(match o.dst with
  | some d'=>bif Nat.beq d' d then Nat.beq k j else true
  | none=>true)&&Du r d j (k+1)
theorem Ea:∀{l:List Oper} {d j k:Nat},Du l d j k=true->∀(i:Nat) (o:Oper),l[i]? = some o->o.dst=some d->k+i=j
 | [],_,_,_,_,i,o,h,_=>by simp at h
 | o::r,d,j,k,h,i,o',h1,h2=>by
  simp only [Du,Bool.and_eq_true] at h
  cases i with
  | zero=>
   simp only [List.getElem?_cons_zero,Option.some.injEq] at h1;subst h1;rw [h2] at h;simp only [Nat.beq_refl,cond_true] at h;exact Nat.eq_of_beq_eq_true h.1
  | succ i=>
   have:=Ea h.2 i o' (by simpa using h1) h2;omega
def zkc (ops:Array Oper) (j:Nat):Prop:=∃o∈ops.toList,∃b,o.guard=some (j,b)
def zex (ops:List Oper):List Oper->Option Nat->Bool
 | [],_=>true
 | o::r,last=>match o.guard with
  | none=>zex ops r last
  | some (j,_)=>(match last with
    | some j'=>bif Nat.beq j' j then true else (match (ops[j]?).bind (·.dst) with | some d=>Du ops d j 0 | none=>true)
    | none=>(match (ops[j]?).bind (·.dst) with | some d=>Du ops d j 0 | none=>true))&&zex ops r (some j)
def Ho (ops:Array Oper):Bool:=zex ops.toList ops.toList none
def zkl (ops:List Oper) (j:Nat):Prop:=∀d,(ops[j]?).bind (·.dst)=some d->∀(i:Nat) (o:Oper),ops[i]? = some o->o.dst=some d->i=j
theorem G2 {ops:List Oper}:∀{l:List Oper} {last:Option Nat},zex ops l last=true->(∀j,last=some j->zkl ops j)->∀o∈l,∀j b,o.guard=some (j,b)->zkl ops j
 | [],_,_,_,o,ho,_,_,_=>by cases ho
 | o::r,last,h,hlast,o',ho,j,b,hg=>by
  simp only [zex] at h
  split at h
  ·rename_i hn;rcases List.mem_cons.1 ho with rfl | ho
   ·rw [hn] at hg; cases hg
   ·exact G2 h hlast o' ho j b hg
  ·rename_i j' b' hs;simp only [Bool.and_eq_true] at h
   have hu:zkl ops j':=by
    have h1:=h.1
    have base:(match (ops[j']?).bind (·.dst) with | some d=>Du ops d j' 0 | none=>true)=true->zkl ops j':=fun hb d hd i o hi hod=>by
     rw [hd] at hb;have:=Ea hb i o hi hod;omega
    split at h1
    ·rename_i j''
     cases hb:Nat.beq j'' j' with
     | true=>exact Nat.eq_of_beq_eq_true hb▸hlast j'' rfl
     | false=>rw [hb] at h1; exact base h1
    ·exact base h1
   rcases List.mem_cons.1 ho with rfl | ho
   ·rw [hs] at hg; cases hg; exact hu
   ·exact G2 h.2 (fun j'' hj=>by cases hj; exact hu) o' ho j b hg
theorem zgq {ops:Array Oper} (h:Ho ops=true) {j:Nat} (hj:zkc ops j):zkl ops.toList j:=by
 obtain ⟨o,ho,b,hg⟩:=hj;exact G2 h (fun j hj=>by cases hj) o ho j b hg
def CF (S:St) (pc:List (Nat×Bool)) (e:EV):SV:=
 match pc with
 | []=>.un e
 | pc=>.gd S.r pc e
def LU (C:Vj) (S:St) (d:Option Tmp) (sv:SV) (K:St->Prop):Prop:=
 match d with
 | none=>K S
 | some d=>bif Nat.blt d C.n&&Nat.blt d 4000 then K { S with F:=PT.set 12 S.F d sv } else False
def St.putF (S:St) (d:Option Tmp) (sv:SV):St:=
 match d with
 | none=>S
 | some d=>{ S with F:=PT.set 12 S.F d sv }
theorem Y6 {C:Vj} {S:St} {d:Option Tmp} {sv:SV} {K:St->Prop} (h:LU C S d sv K):K (S.putF d sv)/\∀x,d=some x->x<C.n/\x<4000:=by
 cases d with
 | none=>exact ⟨h,fun x hx=>by cases hx⟩
 | some d=>
  simp only [LU] at h
  cases hb:(Nat.blt d C.n&&Nat.blt d 4000) with
  | false=>rw [hb] at h; exact h.elim
  | true=>
   rw [hb] at h;simp only [Bool.and_eq_true] at hb;exact ⟨h,fun x hx=>by cases hx; exact ⟨Nat.le_of_ble_eq_true hb.1,Nat.le_of_ble_eq_true hb.2⟩⟩
theorem zla {a:Act} {d:Option Tmp} {v:Value} (t:Nat) (h:∀x,d=some x->x<a.tmps.size):(a.put d v).tmps.getD t undef=if d=some t then v else a.tmps.getD t undef:=by
 cases d with
 | none=>simp [Act.put]
 | some d=>
  have hd:=h d rfl;simp only [Act.put,Array.getD_eq_getD_getElem?]
  by_cases hdt:d=t
  ·subst hdt; simp [hd]
  ·have:¬(some d=some t):=by simpa using hdt
   rw [if_neg this,Array.getElem?_setIfInBounds_ne hdt]
theorem zms {a:Act} {d:Option Tmp} {v:Value}:(a.put d v).tmps.size=a.tmps.size:=by
 cases d <;> simp [Act.put]
theorem ze2 {ops:Array Oper} {a:Act} {d:Option Tmp} {v:Value} {j:Nat} (h:∀x,d=some x->(ops[j]?).bind (·.dst)≠some x):yielded ops (a.put d v).tmps j=yielded ops a.tmps j:=by
 cases d with
 | none=>rfl
 | some d=>
  unfold yielded;simp only [Act.put]
  cases hj:(ops[j]?).bind (·.dst) with
  | none=>rfl
  | some x=>
   have hne:d≠x:=fun e=>h d rfl (by rw [hj,e])
   simp only [Option.bind_some];rw [Array.getElem?_setIfInBounds_ne hne]
theorem EV.den_putF {S:St} {d:Option Tmp} {sv:SV} {e:EV} {u:Value}:EV.den (S.putF d sv) e u↔EV.den S e u:=by
 cases d <;> cases e <;> exact Iff.rfl
theorem OG.put {n:Nat} {S:St} {ops:Array Oper} {D D':Nat->Prop} {a:Act} (hf:OG n S ops D a) {i:Nat} {o:Oper} {pc:List (Nat×Bool)} {e:EV} {v:Value}
  (hu:Ho ops=true) (ho:ops[i]? = some o) (hi:¬D i) (hD:∀j,D j->zkc ops j) (hDD:∀j,D j->D' j) (hpc:∀p∈pc,D p.1) (hd:∀x,o.dst=some x->x<n/\x<4000)
  (hv:(LS ops a pc->EV.den S e v)/\(¬LS ops a pc->v=undef)):OG n (S.putF o.dst (CF S pc e)) ops D' (a.put o.dst v):=by
 have hyk:∀j,D j->yielded ops (a.put o.dst v).tmps j=yielded ops a.tmps j:=fun j hj=>ze2 fun x hx hjx=>by
  have:=zgq hu (hD j hj) x (by simpa using hjx) i o (by simpa using ho) hx;subst this; exact hi hj
 have hpk:∀pc',(∀p∈pc',D p.1)->(LS ops (a.put o.dst v) pc'↔LS ops a pc'):=fun pc' h'=>by
  unfold LS;constructor
  ·intro h p hp; rw [<-hyk p.1 (h' p hp)]; exact h p hp
  ·intro h p hp; rw [hyk p.1 (h' p hp)]; exact h p hp
 have hsz:∀x,o.dst=some x->x<a.tmps.size:=fun x hx=>by rw [hf.fit.size]; exact (hd x hx).1
 have hr:(S.putF o.dst (CF S pc e)).r=S.r:=by cases o.dst <;> rfl
 have hget:∀t,(S.putF o.dst (CF S pc e)).F.get t=if o.dst=some t then some (CF S pc e) else S.F.get t:=fun t=>by
  cases hdd:o.dst with
  | none=>simp [St.putF]
  | some d=>
   simp only [St.putF];rw [PT.get_set _ 12 S.F d t (by have h1 : @LT.lt Nat _ d 4000:=(hd d hdd).2; show @LT.lt Nat _ (d+1) (2 ^ 12); omega)];simp
 refine ⟨⟨by rw [zms]; exact hf.fit.size,fun t s hs => ?_⟩,fun t pc' x hx p hp => ?_,fun t r pc' x hx => ?_⟩
 ·rw [zla t hsz];rw [hget t] at hs
  by_cases hdt:o.dst=some t
  ·rw [if_pos hdt] at hs ⊢;simp only [Option.some.injEq] at hs;subst hs;unfold CF;split
   ·show EV.den _ e v;rw [EV.den_putF];exact hv.1 (fun p hp=>by cases hp)
   ·intro _;rw [EV.den_putF,hpk pc hpc];exact hv
  ·rw [if_neg hdt] at hs ⊢;have h1:=hf.fit.fits t s hs
   cases s with
   | un x=>
    show EV.den _ x _;rw [EV.den_putF];exact h1
   | gd r pc' x=>
    intro hrr;rw [hr] at hrr;subst hrr;rw [EV.den_putF,hpk pc' (hf.dn t pc' x hs)];exact h1 rfl
 ·rw [hget t] at hx;rw [hr] at hx
  by_cases hdt:o.dst=some t
  ·rw [if_pos hdt] at hx;simp only [Option.some.injEq] at hx;unfold CF at hx
   split at hx
   ·cases hx
   ·simp only [SV.gd.injEq] at hx;obtain ⟨_,rfl,_⟩:=hx;exact hDD _ (hpc p hp)
  ·rw [if_neg hdt] at hx;exact hDD _ (hf.dn t pc' x hx p hp)
 ·rw [hget t] at hx;rw [hr]
  by_cases hdt:o.dst=some t
  ·rw [if_pos hdt] at hx;simp only [Option.some.injEq] at hx;unfold CF at hx
   split at hx
   ·cases hx
   ·simp only [SV.gd.injEq] at hx;exact Nat.le_of_eq hx.1.symm
  ·rw [if_neg hdt] at hx;exact hf.st t r pc' x hx
def stoL (w:World) (a:Addr):Nat->List Value->World
 | _,[]=>w
 | n,v::r=>stoL (w.setCell (a.add n) v) a (n+1) r
def sto (w:World) (o:OA) (n:Nat) (vs:List Value):World:=
 match o with
 | some a=>stoL w a n vs
 | none=>w
def Xg (bs:List Nat) (w:World) (o:OA) (n k:Nat):Prop:=
 ∃a,o=some a/\a.block∉bs/\∀j,n<=j->j<n+k->(∃u,w.cell? (a.add j)=some u)/\w.frozen? (a.add j)=false
def Zd:List Value->Bool
 | []=>true
 | .agg _::_=>false
 | .tuple _::_=>false
 | _::r=>Zd r
theorem JV:∀{l:List Value},Zd l=true->∀v∈l,v.oneCell'=true
 | [],_,v,hv=>by cases hv
 | x::r,h,v,hv=>by
  cases x <;> simp only [Zd] at h <;> first
   | (cases h; done)
   | (rcases List.mem_cons.1 hv with rfl | hv
      ·rfl
      ·exact JV h v hv)
theorem TK:∀(vs:List Value) (w:World) (a:Addr) (n:Nat),(stoL w a n vs).heap.size=w.heap.size
 | [],_,_,_=>rfl
 | v::r,w,a,n=>by simp only [stoL]; rw [TK r]; simp
theorem VR:∀(vs:List Value) (w:World) (a:Addr) (n k:Nat),k≠a.block->(stoL w a n vs).heap[k]? = w.heap[k]?
 | [],_,_,_,_,_=>rfl
 | v::r,w,a,n,k,h=>by
  simp only [stoL];rw [VR r _ a (n+1) k h,Below.heap_setCell _ _ _ _ (by rw [Zy]; exact h)]
theorem Kv:∀(vs:List Value) (w:World) (a:Addr) (n:Nat),(stoL w a n vs).os=w.os/\(stoL w a n vs).tape=w.tape/\(stoL w a n vs).output=w.output
 | [],_,_,_=>⟨rfl,rfl,rfl⟩
 | v::r,w,a,n=>by
  simp only [stoL];obtain ⟨h1,h2,h3⟩:=Kv r (w.setCell (a.add n) v) a (n+1);exact ⟨h1,h2,h3⟩
theorem zae:∀(vs:List Value) (w w':World) (a:Addr) (n:Nat),w.heap[a.block]? = w'.heap[a.block]?->(stoL w a n vs).heap[a.block]? = (stoL w' a n vs).heap[a.block]?
 | [],_,_,_,_,h=>h
 | v::r,w,w',a,n,h=>by
  simp only [stoL];refine zae r _ _ a (n+1) ?_;simp only [World.setCell,Array.getElem?_modify,Zy,if_true,h]
theorem frozen?_of_block {w w':World} {p:Addr} (h:w'.heap[p.block]? = w.heap[p.block]?):w'.frozen? p=w.frozen? p:=by
 unfold World.frozen?; rw [h]
theorem U9 {P:Program}:∀(vs:List Value) (w:World) (a:Addr) (n:Nat),(∀v∈vs,v.oneCell'=true)->
  (∀j,n<=j->j<n+vs.length->(∃u,w.cell? (a.add j)=some u)/\w.frozen? (a.add j)=false)->(storeCells a vs n).run P w = .ok () (stoL w a n vs)
 | [],_,_,_,_,_=>rfl
 | v::r,w,a,n,h1,h2=>by
  obtain ⟨⟨u,hu⟩,hfz⟩:=h2 n (Nat.le_refl _) (by simp);have hs:=run_store P w (a.add n) v .plain (h1 v (List.mem_cons_self ..));rw [hu] at hs;simp only [hfz] at hs;simp only [storeCells,Sem.run_bind];rw [hs];simp only [Bool.false_eq_true,if_false,Result.andThen_ok];rw [U9 r _ a (n+1) (fun x hx=>h1 x (List.mem_cons_of_mem _ hx)) fun j hj1 hj2 => ?_]
  ·rfl
  ·obtain ⟨⟨u',hu'⟩,hfz'⟩:=h2 j (by omega) (by simp at hj2 ⊢; omega);refine ⟨?_,by rw [World.frozen?_setCell]; exact hfz'⟩
   by_cases he:a.add n=a.add j
   ·rw [he]; exact ⟨v,World.cell?_setCell_same _ _ _ hu'⟩
   ·exact ⟨u',by rw [World.cell?_setCell_other _ _ _ _ he]; exact hu'⟩
end Go.Proofs.YtclpmgfpjeaibaaGreat
