/- Part 1 of what the law FnYield needs: the engine, the functions' propositions, the contracts. -/
import Derived.WalkKit
import Derived.Deep.Quiet
namespace Go.Proofs.YtnclplgaicdapaaGreatDoor
open Go.RowKit
abbrev I (x:Int):Value:=.int .i64 x
abbrev S:=Value.slice
abbrev OA:=Option Addr
abbrev RT:=Value->World->Prop
abbrev Wo:=World
abbrev Va:=Value
theorem Ot{p:Prop}[Decidable p](h:decide p=true):p:=of_decide_eq_true h
theorem Ou{p:Prop}[Decidable p](h:decide p=false):¬p:=of_decide_eq_false h
end Go.Proofs.YtnclplgaicdapaaGreatDoor
namespace Go.Proofs.YtnclplgaicdapaaGreatDoor
open Go.RowKit
set_option linter.unusedVariables false
set_option linter.unusedSimpArgs false
set_option maxHeartbeats 8000000
inductive PT (α:Type) where
 | leaf
 | node (l:PT α) (v:Option α) (r:PT α)
def PT.get{α:Type}:PT α->Nat->Option α
 | .leaf,_=>none
 | .node l v r,i=>bif Nat.beq i 0 then v else bif Nat.beq (i % 2) 1 then l.get (i / 2) else r.get (i / 2-1)
def PT.lt{α:Type}:PT α->PT α
 | .leaf=>.leaf
 | .node l _ _=>l
def PT.rt{α:Type}:PT α->PT α
 | .leaf=>.leaf
 | .node _ _ r=>r
def PT.vl{α:Type}:PT α->Option α
 | .leaf=>none
 | .node _ v _=>v
def PT.set{α:Type}:Nat->PT α->Nat->α->PT α
 | 0,t,_,_=>t
 | d+1,t,i,x=>
  bif Nat.beq i 0 then .node t.lt (some x) t.rt
  else bif Nat.beq (i % 2) 1 then .node (PT.set d t.lt (i / 2) x) t.vl t.rt
  else .node t.lt t.vl (PT.set d t.rt (i / 2-1) x)
theorem G4{a b:Nat}(h:a≠b):Nat.beq a b=false:=by
 cases hb:Nat.beq a b with
 | false=>rfl
 | true=>exact absurd (Nat.eq_of_beq_eq_true hb) h
theorem zdb{a b:Nat}(h:a=b):Nat.beq a b=true:=by subst h; exact Nat.beq_refl a
theorem PT.get_parts{α:Type}(t:PT α)(i:Nat) :
  t.get i=bif Nat.beq i 0 then t.vl else bif Nat.beq (i % 2) 1 then t.lt.get (i / 2) else t.rt.get (i / 2-1):=by
 cases t with
 | leaf=>simp[PT.get,PT.vl,PT.lt,PT.rt]
 | node l v r=>simp[PT.get,PT.vl,PT.lt,PT.rt]
theorem PT.get_set{α:Type}(x:α):∀(d:Nat) (t:PT α) (i j:Nat),i+1<2 ^ d->(PT.set d t i x).get j=if i=j then some x else t.get j
 | 0,_,i,_,h=>by simp at h
 | d+1,t,i,j,h=>by
  have hp:2 ^ (d+1)=2*2 ^ d:=by rw[Nat.pow_succ]; omega
  rw[PT.get_parts t j];unfold PT.set
  by_cases hi:i=0
  ·subst hi
   by_cases hj:j=0
   ·subst hj; simp[PT.get]
   ·have:¬(0=j):=by omega
    simp[PT.get,G4 hj,this]
  ·have e1:Nat.beq i 0=false:=G4 hi;rw[e1]
   by_cases ho:i % 2=1
   ·have e2:Nat.beq (i % 2) 1=true:=zdb ho;rw[e2];simp only[cond_true,cond_false]
    by_cases hj:j=0
    ·subst hj; simp[PT.get,hi]
    ·have e3:Nat.beq j 0=false:=G4 hj;simp only[PT.get,e3,cond_false]
     by_cases hoj:j % 2=1
     ·have e4:Nat.beq (j % 2) 1=true:=zdb hoj;rw[e4];simp only[cond_true];rw[PT.get_set x d t.lt (i / 2) (j / 2) (by omega)]
      by_cases hij:i=j
      ·subst hij; simp
      ·rw[if_neg hij,if_neg (by omega)]
     ·have e4:Nat.beq (j % 2) 1=false:=G4 hoj;rw[e4];simp only[cond_false];rw[if_neg (by rintro rfl; exact hoj ho)]
   ·have e2:Nat.beq (i % 2) 1=false:=G4 ho;rw[e2];simp only[cond_false]
    by_cases hj:j=0
    ·subst hj; simp[PT.get,hi]
    ·have e3:Nat.beq j 0=false:=G4 hj;simp only[PT.get,e3,cond_false]
     by_cases hoj:j % 2=1
     ·have e4:Nat.beq (j % 2) 1=true:=zdb hoj;rw[e4];simp only[cond_true];rw[if_neg (by rintro rfl; exact ho hoj)]
     ·have e4:Nat.beq (j % 2) 1=false:=G4 hoj;rw[e4];simp only[cond_false];rw[PT.get_set x d t.rt (i / 2-1) (j / 2-1) (by omega)]
      by_cases hij:i=j
      ·subst hij; simp
      ·rw[if_neg hij,if_neg (by omega)]
inductive EV where
 | v (x:Va)
 | loc (id off:Nat)
 | el (o:OA) (n:Nat)
 | ls (id len:Nat)
 | le (id:Nat) (i:Int) (k:Nat)
 | no
 | kb (x:Bool)
inductive SV where
 | un (x:EV)
 | gd (r:Nat) (pc:List (Nat×Bool)) (x:EV)
structure St where
 F:PT SV
 L:List (TypeId×List Va)
 B:List Nat
 old:Nat
 lk:List Nat
 r:Nat
structure Q0 (bs:List Nat) (w w':Wo):Prop where
 os:w'.os=w.os
 tape:w'.tape=w.tape
 output:w'.output=w.output
 size:w.heap.size<=w'.heap.size
 block:∀k,k<w.heap.size->k∉bs->w'.heap[k]? = w.heap[k]?
theorem Q0.refl(bs:List Nat)(w:Wo):Q0 bs w w:=⟨rfl,rfl,rfl,Nat.le_refl _,fun _ _ _=>rfl⟩
theorem Q0.trans{bs:List Nat}{a b c:Wo}(h:Q0 bs a b)(k:Q0 bs b c):Q0 bs a c:=
 ⟨k.os.trans h.os,k.tape.trans h.tape,k.output.trans h.output,Nat.le_trans h.size k.size,fun i hi hb=>(k.block i (Nat.lt_of_lt_of_le hi h.size) hb).trans (h.block i hi hb)⟩
theorem Q0.mono{bs cs:List Nat}{a b:Wo}(h:Q0 bs a b)(hs:∀x∈bs,x∈cs):Q0 cs a b:=
 ⟨h.os,h.tape,h.output,h.size,fun i hi hb=>h.block i hi (fun hx=>hb (hs i hx))⟩
theorem Q0.of_nil{bs:List Nat}{a b:Wo}(h:Q0 [] a b):Q0 bs a b:=h.mono (by simp)
theorem Q0.drew{bs:List Nat}{a b:Wo}(h:Q0 bs a b):Q0 bs a b.drew:=⟨h.os,h.tape,h.output,h.size,h.block⟩
theorem Q0.drawn{bs:List Nat}{a b:Wo}(h:Q0 bs a b)(n:Nat):Q0 bs a { b with drawn:=n }:=⟨h.os,h.tape,h.output,h.size,h.block⟩
theorem Q0.alloc{bs:List Nat}{a b:Wo}(h:Q0 bs a b)(o:Obj):Q0 bs a (b.alloc o):=
 ⟨h.os,h.tape,h.output,by have:=h.size; simp; omega,fun i hi hb=>(Below.heap_alloc b o i (Nat.lt_of_lt_of_le hi h.size)).trans (h.block i hi hb)⟩
theorem Q0.setCell{bs:List Nat}{a b:Wo}(h:Q0 bs a b){p:Addr}(hp:a.heap.size<=p.block\/p.block∈bs)(u:Va):Q0 bs a (b.setCell p u):=
 ⟨h.os,h.tape,h.output,by have:=h.size; simp; omega,fun i hi hb=>(Below.heap_setCell b p u i (by
  rintro rfl;rcases hp with hp | hp
  ·omega
  ·exact hb hp)).trans (h.block i hi hb)⟩
theorem Q0.below{a b:Wo}(h:Q0 [] a b):Below a.heap.size a b:=⟨h.os,h.tape,h.output,h.size,fun k hk=>h.block k hk (by simp)⟩
def Ju(bs:List Nat)(w:Wo)(o:OA)(n:Nat)(v:Va):Prop:=∃a,o=some a/\a.block∉bs/\w.cell? (a.add n)=some v
def Q2(bs:List Nat)(w:Wo)(o:OA):Nat->List Va->Prop
 | _,[]=>True
 | n,[v]=>Ju bs w o n v
 | n,v::r=>Ju bs w o n v/\Q2 bs w o (n+1) r
theorem Zl(a:Addr)(n:Nat):(a.add n).block=a.block:=by unfold Addr.add; split <;> rfl
theorem Xt(a:Addr)(i j:Nat):(a.add i).add j=a.add (i+j):=by
 unfold Addr.add
 by_cases hi:i=0 <;> by_cases hj:j=0 <;> simp[hi,hj,Nat.add_assoc]
theorem Ju.ext{bs:List Nat}{w w':Wo}{o:OA}{n:Nat}{v:Va}(h:Ju bs w o n v)(hx:Q0 bs w w'):Ju bs w' o n v:=by
 obtain⟨a,ho,hb,hc⟩:=h;refine⟨a,ho,hb,?_⟩;have hlt:=World.block_lt_of_cell? w _ hc;rw[Zl] at hlt;rw[<-hc];exact World.cell?_of_block (w:=w) (hx.block _ (by rw[Zl]; exact hlt) (by rw[Zl]; exact hb))
theorem Ju.less{bs cs:List Nat}{w:Wo}{o:OA}{n:Nat}{v:Va}(h:Ju bs w o n v)(hs:∀x∈cs,x∈bs):Ju cs w o n v:=by
 obtain⟨a,ho,hb,hc⟩:=h;exact⟨a,ho,fun hx=>hb (hs _ hx),hc⟩
theorem Ju.inj{bs cs:List Nat}{w:Wo}{o:OA}{n:Nat}{u v:Va}(h:Ju bs w o n u)(k:Ju cs w o n v):u=v:=by
 obtain⟨a,rfl,_,hc⟩:=h;obtain⟨b,hb,_,hd⟩:=k;cases hb;rw[hc] at hd;exact Option.some.inj hd
theorem Q2.get{bs:List Nat}{w:Wo}{o:OA}:∀{n:Nat} {vs:List Va},Q2 bs w o n vs->∀(j:Nat) (v:Va),vs[j]? = some v->Ju bs w o (n+j) v
 | _,[],_,_,_,hj=>by simp at hj
 | n,[u],h,j,v,hj=>by
  cases j with
  | zero=>simp at hj; subst hj; exact h
  | succ j=>simp at hj
 | n,u::u'::r,h,j,v,hj=>by
  cases j with
  | zero=>simp at hj; subst hj; exact h.1
  | succ j=>
   have:=Q2.get h.2 j v (by simpa using hj)
   rwa[Nat.add_assoc,Nat.add_comm 1 j] at this
def Q4(bs:List Nat)(P:Program)(f:FuncId)(args:Array Va)(w:Wo)(v:Va):Prop:=
 ∀wr,Q0 bs w wr->Calls P f args wr fun e w'=>e=.returned v/\Q0 [] wr w'
abbrev AX (bs B:List Nat) (w:Wo) (p:Wo->Prop):Prop:=∀wr,Q0 bs w wr->(∀bq∈B,bq<wr.heap.size)->p wr
abbrev AY (bs:List Nat) (w:Wo) (p:Wo->Prop):Prop:=∀wr,Q0 bs w wr->(∀bq∈bs,bq<wr.heap.size)->p wr
abbrev AR (bs:List Nat) (w:Wo) (R:Va->Wo->Prop) (v:Va):Prop:=∀wr,Q0 bs w wr->R v wr
theorem Q4.ext{bs:List Nat}{P:Program}{f:FuncId}{args:Array Va}{w w':Wo}{v:Va}(h:Q4 bs P f args w v)(hx:Q0 bs w w'):Q4 bs P f args w' v:=
 fun wr h'=>h wr (hx.trans h')
inductive CK where
 | int (k:IntKind) | bool | str | slice | ptr | fn | iface | map | other
 deriving DecidableEq
inductive TD where
 | slice (e:TypeId) (esz:Nat)
 | struct (fs:List (Nat×Bool×Nat))
 | arr (n esz:Nat) (eagg:Bool)
 | str
 | int (k:IntKind)
 | bool
 | ptr
 | other
 deriving DecidableEq
structure Ty where
 agg:Bool
 ks:List CK
 d:TD
 deriving DecidableEq
def OZ:Va->CK
 | .int k n=>if n=0 then .int k else .other
 | .bool b=>if b=false then .bool else .other
 | .string s=>if s.size=0 then .str else .other
 | .slice o l c=>if o=none/\l=0/\c=0 then .slice else .other
 | .pointer o=>if o=none then .ptr else .other
 | .nilFunc=>.fn
 | .nilIface=>.iface
 | .map o=>if o=none then .map else .other
 | _=>.other
def zv:CK->Va
 | .int k=>.int k 0
 | .bool=>.bool false
 | .str=>.string ByteArray.empty
 | .slice=>.slice none 0 0
 | .ptr=>.pointer none
 | .fn=>.nilFunc
 | .iface=>.nilIface
 | .map=>.map none
 | .other=>.nilFunc
theorem zdh{v:Va}(h:OZ v≠.other):v=zv (OZ v):=by
 cases v with
 | int k n=>by_cases hc:n=0 <;> simp_all [OZ,zv]
 | bool b=>by_cases hc:b=false <;> simp_all [OZ,zv]
 | string s=>
  by_cases hc:s.size=0
  ·have:s=ByteArray.empty:=ByteArray.size_eq_zero_iff.1 hc;subst this;simp[OZ,zv]
  ·simp[OZ,hc] at h
 | slice o l c=>
  by_cases hc:o=none/\l=0/\c=0
  ·obtain⟨rfl,rfl,rfl⟩:=hc;simp[OZ,zv]
  ·simp only[OZ,if_neg hc] at h; exact absurd rfl h
 | pointer o=>by_cases hc:o=none <;> simp_all [OZ,zv]
 | map o=>by_cases hc:o=none <;> simp_all [OZ,zv]
 | nilFunc=>rfl
 | nilIface=>rfl
 | _=>simp[OZ] at h
def Ps:TypeDesc->Bool
 | .struct _ | .array _ _=>true
 | _=>false
def fieldsOf(P:Program):List Field->Option (List (Nat×Bool×Nat))
 | []=>some []
 | f::r=>
  match P.info? f.type,P.underlying f.type,fieldsOf P r with
  | some i,some d,some l=>if i.size=0 then none else some ((f.offset,Ps d,i.size)::l)
  | _,_,_=>none
def KH(P:Program):TypeDesc->TD
 | .slice e=>match P.info? e with | some i=>.slice e i.size | none=>.other
 | .struct fs=>match fieldsOf P fs.toList with | some l=>.struct l | none=>.other
 | .array n e=>match P.info? e,P.underlying e with | some i,some d=>.arr n i.size (Ps d) | _,_=>.other
 | .string=>.str
 | .int k=>.int k
 | .bool=>.bool
 | .pointer _=>.ptr
 | _=>.other
def zur(P:Program)(t:TypeId):Option Ty:=
 match P.underlying t,P.info? t with
 | some d,some i=>
  match i.zero with
  | some z=>if i.size=z.cells.toList.length then some { agg:=Ps d,ks:=z.cells.toList.map OZ,d:=KH P d } else none
  | none=>none
 | _,_=>none
def zm9(P:Program)(T:TypeId->Option Ty):Prop:=∀t ty,T t=some ty->zur P t=some ty
def zqb(P:Program)(l:List (TypeId×Ty)):Bool:=l.all fun p=>decide (zur P p.1=some p.2)
def GI:List (TypeId×Ty)->TypeId->Option Ty
 | [],_=>none
 | p::r,t=>bif Nat.beq p.1 t then some p.2 else GI r t
theorem zqa{P:Program}:∀{l:List (TypeId×Ty)},zqb P l=true->zm9 P (GI l)
 | [],_,t,ty,h=>by simp[GI] at h
 | p::r,hl,t,ty,h=>by
  simp only[zqb,List.all_cons,Bool.and_eq_true,decide_eq_true_eq] at hl;simp only[GI] at h
  cases hb:Nat.beq p.1 t with
  | true=>
   rw[hb] at h;simp only[cond_true,Option.some.injEq] at h;have:p.1=t:=Nat.eq_of_beq_eq_true hb;subst this; subst h; exact hl.1
  | false=>
   rw[hb] at h;exact zqa (l:=r) hl.2 t ty h
structure zqv (P:Program) (t:TypeId) (ty:Ty):Prop where
 desc:∃d,P.underlying t=some d/\ty.agg=Ps d/\ty.d=KH P d
 info:∃i z,P.info? t=some i/\i.zero=some z/\i.size=ty.ks.length/\z.cells.toList.map OZ=ty.ks
theorem zm9.facts{P:Program}{T:TypeId->Option Ty}(hT:zm9 P T){t:TypeId}{ty:Ty}(h:T t=some ty):zqv P t ty:=by
 have:=hT t ty h;unfold zur at this
 split at this
 ·rename_i d i hd hi
  split at this
  ·rename_i z hz
   split at this
   ·rename_i hs;simp only[Option.some.injEq] at this;subst this;exact⟨⟨d,hd,rfl,rfl⟩,i,z,hi,hz,by simpa using hs,rfl⟩
   ·cases this
  ·cases this
 ·cases this
inductive RK where
 | cell (k:CK)
 | agg (ks:List CK)
structure VI where
 P:Program
 T:TypeId->Option Ty
 pf:List (Nat×List RK)
 ef:List (Nat×List RK)
 tt:List (Nat×List RK)
 vis:List Nat
 n:Nat
 pm:Bool
 wr:Bool:=false
 rd:Option Nat:=none
def zhv{β:Type}:List (Nat×β)->Nat->Option β
 | [],_=>none
 | p::r,t=>bif Nat.beq p.1 t then some p.2 else zhv r t
def ztt:CK->(Va->Prop)->Prop
 | .int k,K=>∃n:Int,K (.int k n)
 | .bool,K=>∃b:Bool,K (.bool b)
 | .str,K=>∃s:ByteArray,K (.string s)
 | .slice,K=>∃(o:OA) (l c:Nat),K (.slice o l c)
 | .ptr,K=>∃o:OA,K (.pointer o)
 | .fn,K=>∃(f:Fn) (a c:Array Va),K (.func f a c)
 | _,K=>∃v:Va,K v
def zwf:Va->CK
 | .int k _=>.int k
 | .bool _=>.bool
 | .string _=>.str
 | .slice _ _ _=>.slice
 | .pointer _=>.ptr
 | .func _ _ _=>.fn
 | _=>.other
def zfr:List CK->(List Va->Prop)->Prop
 | [],K=>K []
 | k::r,K=>ztt k fun v=>zfr r fun l=>K (v::l)
def zwd:RK->(Va->Prop)->Prop
 | .cell k,K=>ztt k K
 | .agg ks,K=>zfr ks fun l=>K (.agg l.toArray)
def ztu:List RK->(List Va->Prop)->Prop
 | [],K=>K []
 | k::r,K=>zwd k fun v=>ztu r fun l=>K (v::l)
def LA:List RK->(Va->Prop)->Prop
 | [k],K=>zwd k K
 | ks,K=>ztu ks fun l=>K (.tuple l.toArray)
theorem P6{k:CK}{K:Va->Prop}(h:ztt k K):∃v,K v:=by
 cases k <;> simp only[ztt] at h
 case slice=>obtain⟨o,l,c,h⟩:=h; exact⟨_,h⟩
 case fn=>obtain⟨f,a,c,h⟩:=h; exact⟨_,h⟩
 all_goals (obtain⟨x,h⟩:=h; exact⟨_,h⟩)
theorem Tq:∀{ks:List CK} {K:List Va->Prop},zfr ks K->∃l,l.length=ks.length/\K l
 | [],_,h=>⟨[],rfl,h⟩
 | k::r,K,h=>by
  obtain⟨v,hv⟩:=P6 h;obtain⟨l,hl,hk⟩:=Tq hv;exact⟨v::l,by simp[hl],hk⟩
theorem zj4{k:RK}{K:Va->Prop}(h:zwd k K):∃v,K v:=by
 cases k with
 | cell k=>exact P6 h
 | agg ks=>obtain⟨l,_,h⟩:=Tq h; exact⟨_,h⟩
theorem zfs:∀{ks:List RK} {K:List Va->Prop},ztu ks K->∃l,K l
 | [],_,h=>⟨[],h⟩
 | k::r,K,h=>by
  obtain⟨v,hv⟩:=zj4 h;obtain⟨l,hk⟩:=zfs hv;exact⟨v::l,hk⟩
theorem JH{ks:List RK}{K:Va->Prop}(h:LA ks K):∃v,K v:=by
 unfold LA at h
 split at h
 ·exact zj4 h
 ·obtain⟨l,h⟩:=zfs h; exact⟨_,h⟩
def St.bs(S:St):List Nat:=S.B.take S.old
def AO(p q:List (Nat×Bool)):Bool:=p.all fun x=>q.any fun y=>Nat.beq x.1 y.1&&(x.2==y.2)
def Cf(S:St)(pc:List (Nat×Bool)):Operand->Option EV
 | .tmp t=>match S.F.get t with
  | some (.un x)=>some x
  | some (.gd r pc' x)=>bif Nat.beq r S.r&&AO pc' pc then some x else none
  | none=>none
 | .const v=>some (.v v)
 | .global g=>some (.v (.pointer (some ⟨g,0,none⟩)))
 | .func f=>some (.v (.func (.func f) #[] #[]))
def zlr(S:St)(ops:Array Oper)(j:Nat):Option Bool:=
 match (ops[j]?).bind (·.dst) with
 | some d=>match S.F.get d with
  | some (.un (.v (.bool b)))=>some b
  | some (.gd r _ (.v (.bool b)))=>bif Nat.beq r S.r then some b else none
  | _=>none
 | none=>none
def Lo(S:St)(ops:Array Oper):List (Nat×Bool)->Prop->Prop
 | [],A=>A
 | (j,want)::r,A=>match zlr S ops j with
  | some b=>b=want->Lo S ops r A
  | none=>Lo S ops r A
def ziq(S:St)(ops:Array Oper)(o:Oper):Option (List (Nat×Bool)):=
 match o.guard with
 | none=>some []
 | some (j,want)=>match (ops[j]?).bind (·.dst) with
  | some d=>match S.F.get d with
   | some (.un (.v (.bool _)))=>some [(j,want)]
   | some (.gd r pc (.v (.bool _)))=>bif Nat.beq r S.r then some ((j,want)::pc) else none
   | some (.gd r pc .no)=>bif Nat.beq r S.r then some ((j,want)::pc) else none
   | _=>none
  | none=>none
def EV.den(S:St):EV->Va->Prop
 | .v x,u=>u=x
 | .loc id off,u=>∃b,S.B[id]? = some b/\u=.pointer (some ⟨b,off,none⟩)
 | .el o n,u=>∃a,o=some a/\u=.pointer (some (a.add n))
 | .ls id len,u=>∃b,S.B[id]? = some b/\u=.slice (some ⟨b,0,none⟩) len len
 | .le id i k,u=>∃b,S.B[id]? = some b/\0<=i/\u=.pointer (some ⟨b,i.toNat+k,none⟩)
 | .no,_=>False
 | .kb x,u=>u=.bool x
def Gy(ops:Array Oper)(a:Act)(pc:List (Nat×Bool)):Prop:=∀p∈pc,yielded ops a.tmps p.1=some p.2
def SV.den(S:St)(ops:Array Oper)(a:Act):SV->Va->Prop
 | .un x,u=>EV.den S x u
 | .gd r pc x,u=>r=S.r->(Gy ops a pc->EV.den S x u)/\(¬Gy ops a pc->u=undef)
structure F3 (n:Nat) (S:St) (ops:Array Oper) (a:Act):Prop where
 size:a.tmps.size=n
 fits:∀i s,S.F.get i=some s->SV.den S ops a s (a.tmps.getD i undef)
theorem Tj{b:Bool}:undef≠.bool b:=by simp[undef]
theorem GL{ops:Array Oper}{a:Act}{j d:Nat}{b:Bool}(hd:(ops[j]?).bind (·.dst)=some d)(h:yielded ops a.tmps j=some b):a.tmps.getD d undef=.bool b:=by
 unfold yielded at h;rw[hd] at h;simp only[Option.bind_some] at h
 split at h
 ·rename_i b' hb;simp only[Option.some.injEq] at h;subst h;rw[Array.getD_eq_getD_getElem?,hb];rfl
 ·cases h
theorem zva{n:Nat}{S:St}{ops:Array Oper}{a:Act}(hf:F3 n S ops a){j:Nat}{b want:Bool}(hb:zlr S ops j=some b)(hy:yielded ops a.tmps j=some want):b=want:=by
 unfold zlr at hb
 split at hb
 ·rename_i d hd;have hv:=GL hd hy
  split at hb
  ·rename_i b' hg;have:=hf.fits d _ hg;simp only[SV.den,EV.den] at this;rw[hv] at this;simp only[Option.some.injEq] at hb
   injection this with this
   rw[<-hb]; exact this.symm
  ·rename_i r pc b' hg;have:=hf.fits d _ hg
   cases hr:Nat.beq r S.r with
   | false=>rw[hr] at hb; simp at hb
   | true=>
    rw[hr] at hb;simp only[cond_true,Option.some.injEq] at hb;have h1:=this (Nat.eq_of_beq_eq_true hr)
    by_cases hp:Gy ops a pc
    ·have h2:=h1.1 hp;simp only[EV.den] at h2;rw[hv] at h2
     injection h2 with h2
     rw[<-hb]; exact h2.symm
    ·have h2:=h1.2 hp;rw[hv] at h2;exact absurd h2.symm Tj
  ·cases hb
 ·cases hb
theorem BL{n:Nat}{S:St}{ops:Array Oper}{a:Act}(hf:F3 n S ops a):∀{pc:List (Nat×Bool)} {A:Prop},Gy ops a pc->Lo S ops pc A->A
 | [],_,_,h=>h
 | (j,want)::r,A,hp,h=>by
  have hr:Gy ops a r:=fun p hm=>hp p (List.mem_cons_of_mem _ hm)
  have hj:yielded ops a.tmps j=some want:=hp (j,want) (List.mem_cons_self ..);simp only[Lo] at h
  split at h
  ·rename_i b hb;exact BL hf hr (h (zva hf hb hj))
  ·exact BL hf hr h
theorem AP{p q:List (Nat×Bool)}(h:AO p q=true):∀x∈p,x∈q:=by
 intro x hx;simp only[AO,List.all_eq_true,List.any_eq_true,Bool.and_eq_true] at h;obtain⟨y,hy,h1,h2⟩:=h x hx;have e1:x.1=y.1:=Nat.eq_of_beq_eq_true h1;have e2:x.2=y.2:=by simpa using h2
 have:x=y:=Prod.ext e1 e2;rw[this]; exact hy
theorem ZI{n:Nat}{S:St}{ops:Array Oper}{a:Act}(hf:F3 n S ops a){pc:List (Nat×Bool)}(hp:Gy ops a pc){x:Operand}{e:EV}(h:Cf S pc x=some e):EV.den S e (a.eval x):=by
 cases x with
 | const v=>simp only[Cf,Option.some.injEq] at h; subst h; rfl
 | global g=>simp only[Cf,Option.some.injEq] at h; subst h; rfl
 | func f=>simp only[Cf,Option.some.injEq] at h; subst h; rfl
 | tmp t=>
  simp only[Cf] at h
  split at h
  ·rename_i y hg;simp only[Option.some.injEq] at h; subst h;exact hf.fits t _ hg
  ·rename_i r pc' y hg
   cases hb:Nat.beq r S.r&&AO pc' pc with
   | false=>rw[hb] at h; simp at h
   | true=>
    rw[hb] at h;simp only[cond_true,Option.some.injEq] at h; subst h;simp only[Bool.and_eq_true] at hb;exact(hf.fits t _ hg (Nat.eq_of_beq_eq_true hb.1)).1 fun p hm=>hp p (AP hb.2 p hm)
  ·cases h
def zmq(S:St)(ops:Array Oper):List (Nat×Bool)->Bool
 | []=>true
 | (j,_)::r=>(match (ops[j]?).bind (·.dst) with
  | some d=>match S.F.get d with
   | some (.un (.v (.bool _)))=>true
   | some (.gd r' pc' (.v (.bool _)))=>Nat.beq r' S.r&&AO pc' r
   | _=>false
  | none=>false)&&zmq S ops r
theorem Cd{ops:Array Oper}{a:Act}{j d:Nat}{b:Bool}(hd:(ops[j]?).bind (·.dst)=some d)(h:a.tmps.getD d undef=.bool b):yielded ops a.tmps j=some b:=by
 unfold yielded;rw[hd];simp only[Option.bind_some];rw[Array.getD_eq_getD_getElem?] at h
 cases hg:a.tmps[d]? with
 | none=>rw[hg] at h; exact absurd h Tj
 | some v=>rw[hg] at h; simp only[Option.getD_some] at h; subst h; rfl
theorem zdy{n:Nat}{S:St}{ops:Array Oper}{a:Act}(hf:F3 n S ops a):∀{pc:List (Nat×Bool)},zmq S ops pc=true->¬Gy ops a pc->Lo S ops pc False
 | [],_,hp=>hp (fun p hm=>by cases hm)
 | (j,want)::r,h,hp=>by
  simp only[zmq,Bool.and_eq_true] at h;obtain⟨h1,h2⟩:=h
  by_cases hr:Gy ops a r
  ·have hne:yielded ops a.tmps j≠some want:=fun e=>hp fun p hm=>by
    rcases List.mem_cons.1 hm with rfl | hm
    ·exact e
    ·exact hr p hm
   have go:∀b,zlr S ops j=some b->yielded ops a.tmps j=some b->Lo S ops ((j,want)::r) False:=fun b hb hy=>by
    simp only[Lo,hb];intro e;exact absurd (e▸hy) hne
   split at h1
   ·rename_i d hd
    split at h1
    ·rename_i b hg;have hv:=hf.fits d _ hg;refine go b (by unfold zlr; rw[hd]; simp only[hg]) (Cd hd hv)
    ·rename_i r' pc' b hg;simp only[Bool.and_eq_true] at h1;have hv:=(hf.fits d _ hg (Nat.eq_of_beq_eq_true h1.1)).1 fun p hm=>hr p (AP h1.2 p hm)
     refine go b (by unfold zlr; rw[hd]; simp only[hg,h1.1,cond_true]) (Cd hd hv)
    ·cases h1
   ·cases h1
  ·have:=zdy hf h2 hr;simp only[Lo];split
   ·exact fun _=>this
   ·exact this
theorem Ky{n:Nat}{S:St}{ops:Array Oper}{a:Act}(hf:F3 n S ops a){o:Oper}{pc:List (Nat×Bool)}(h:ziq S ops o=some pc) :
  Region.wanted o (yielded ops a.tmps)=true↔Gy ops a pc:=by
 unfold ziq at h;unfold Region.wanted
 split at h
 ·rename_i hg;simp only[Option.some.injEq] at h; subst h;rw[hg];simp[Gy]
 ·rename_i j want hg;rw[hg];simp only[beq_iff_eq]
  split at h
  ·rename_i d hd
   split at h
   ·rename_i b hv;simp only[Option.some.injEq] at h; subst h;simp[Gy]
   ·rename_i r pc' b hv
    cases hr:Nat.beq r S.r with
    | false=>rw[hr] at h; simp at h
    | true=>
     rw[hr] at h;simp only[cond_true,Option.some.injEq] at h; subst h;constructor
     ·intro hy p hm;rcases List.mem_cons.1 hm with rfl | hm
      ·exact hy
      ·have h1:=hf.fits d _ hv (Nat.eq_of_beq_eq_true hr)
       by_cases hp:Gy ops a pc'
       ·exact hp p hm
       ·have h2:=h1.2 hp;have h3:=GL hd hy;rw[h3] at h2;exact absurd h2.symm Tj
     ·intro hp;exact hp (j,want) (List.mem_cons_self ..)
   ·rename_i r pc' hv
    cases hr:Nat.beq r S.r with
    | false=>rw[hr] at h; simp at h
    | true=>
     rw[hr] at h;simp only[cond_true,Option.some.injEq] at h; subst h;constructor
     ·intro hy p hm;rcases List.mem_cons.1 hm with rfl | hm
      ·exact hy
      ·have h1:=hf.fits d _ hv (Nat.eq_of_beq_eq_true hr)
       by_cases hp:Gy ops a pc'
       ·exact hp p hm
       ·have h2:=h1.2 hp;have h3:=GL hd hy;rw[h3] at h2;exact absurd h2.symm Tj
     ·intro hp;exact hp (j,want) (List.mem_cons_self ..)
   ·cases h
  ·cases h
def Qn:IntKind->Int->Prop
 | .i64,z => -9223372036854775808<=z/\z<=9223372036854775807
 | .u8,z=>0<=z/\z<=255
 | .u64,z=>0<=z/\z<=18446744073709551615
 | .i32,z => -2147483648<=z/\z<=2147483647
 | k,z=>k.wrap z=z
theorem Qn.wrap{k:IntKind}{z:Int}(h:Qn k z):k.wrap z=z:=by
 cases k <;> simp only[Qn] at h
 case i64=>exact IntWalk.i64_in z h
 case u8=>exact IntWalk.u8_in z h
 case u64=>exact IntWalk.u64_in z h
 case i32=>exact IntWalk.i32_in z h
 all_goals exact h
def Jo(s:ByteArray)(i:Int):Int:=((s.data.getD i.toNat 0).toNat:Int)
def Ix(o:OA)(len:Nat)(i:Int):Prop:=0<=i/\i<len/\o.isSome=true
def Vy(op:BinOp)(k:IntKind)(x y:Int):Int:=
 match op with
 | .and=>k.wrap ((BitVec.ofInt k.bits x &&& BitVec.ofInt k.bits y).toNat:Int)
 | .or=>k.wrap ((BitVec.ofInt k.bits x ||| BitVec.ofInt k.bits y).toNat:Int)
 | _=>k.wrap ((BitVec.ofInt k.bits x ^^^ BitVec.ofInt k.bits y).toNat:Int)
def Zg(x y:ByteArray):Bool:=x.toList==y.toList
def zfo(G:Prop->Prop)(d:TD):BinOp->Va->Va->(Va->Prop)->Prop
 | .add,.int k x,.int k' y,K=>bif decide (k=k') then G (Qn k (x+y))/\K (.int k (x+y)) else False
 | .sub,.int k x,.int k' y,K=>bif decide (k=k') then G (Qn k (x-y))/\K (.int k (x-y)) else False
 | .mul,.int k x,.int k' y,K=>bif decide (k=k') then G (Qn k (x*y))/\K (.int k (x*y)) else False
 | .quo,.int k x,.int k' y,K=>bif decide (k=k') then G (y≠0/\Qn k (x.tdiv y))/\K (.int k (x.tdiv y)) else False
 | .rem,.int k x,.int k' y,K=>bif decide (k=k') then G (y≠0)/\K (.int k (x.tmod y)) else False
 | .and,.int k x,.int k' y,K=>bif decide (k=k') then K (.int k (Vy .and k x y)) else False
 | .or,.int k x,.int k' y,K=>bif decide (k=k') then K (.int k (Vy .or k x y)) else False
 | .xor,.int k x,.int k' y,K=>bif decide (k=k') then K (.int k (Vy .xor k x y)) else False
 | .shl,.int k x,.int _ y,K=>G (0<=y/\Qn k (x*2 ^ (min y.toNat k.bits)))/\K (.int k (x*2 ^ (min y.toNat k.bits)))
 | .shr,.int k x,.int _ y,K=>G (0<=y)/\K (.int k (x.fdiv (2 ^ (min y.toNat k.bits))))
 | .eql,.int k x,.int k' y,K=>bif decide (k=k') then K (.bool (x==y)) else False
 | .neq,.int k x,.int k' y,K=>bif decide (k=k') then K (.bool (x != y)) else False
 | .lss,.int k x,.int k' y,K=>bif decide (k=k') then K (.bool (decide (x<y))) else False
 | .leq,.int k x,.int k' y,K=>bif decide (k=k') then K (.bool (decide (x<=y))) else False
 | .gtr,.int k x,.int k' y,K=>bif decide (k=k') then K (.bool (decide (x>y))) else False
 | .geq,.int k x,.int k' y,K=>bif decide (k=k') then K (.bool (decide (x>=y))) else False
 | .eql,.string x,.string y,K=>K (.bool (Zg x y))
 | .neq,.string x,.string y,K=>K (.bool (!Zg x y))
 | .add,.string x,.string y,K=>G (x.size+y.size<=9223372036854775807)/\K (.string (x++y))
 | .eql,.bool x,.bool y,K=>bif decide (d=.bool) then K (.bool (x==y)) else False
 | .neq,.bool x,.bool y,K=>bif decide (d=.bool) then K (.bool (!(x==y))) else False
 | .eql,.pointer o,.pointer none,K=>bif decide (d=.ptr) then K (.bool o.isNone) else False
 | .neq,.pointer o,.pointer none,K=>bif decide (d=.ptr) then K (.bool (!o.isNone)) else False
 | _,_,_,_=>False
theorem zcm{P:Program}{d:TypeDesc}(h:KH P d=.bool):d=.bool:=by
 cases d <;> simp only[KH] at h <;> first | rfl | (split at h <;> cases h) | cases h
theorem zhc{P:Program}{d:TypeDesc}(h:KH P d=.ptr):∃e,d=.pointer e:=by
 cases d <;> simp only[KH] at h <;> first | exact⟨_,rfl⟩ | (split at h <;> cases h) | cases h
theorem C9{P:Program}{d:TypeDesc}(h:KH P d=.str):d=.string:=by
 cases d <;> simp only[KH] at h <;> first | rfl | (split at h <;> cases h) | cases h
theorem zqc{P:Program}{d:TypeDesc}{k:IntKind}(h:KH P d=.int k):d=.int k:=by
 cases d <;> simp only[KH] at h <;> first | (simp only[TD.int.injEq] at h; subst h; rfl) | (split at h <;> cases h) | cases h
theorem OU{P:Program}{d:TypeDesc}{e:TypeId}{n:Nat}(h:KH P d=.slice e n):∃i,d=.slice e/\P.info? e=some i/\i.size=n:=by
 cases d <;> simp only[KH] at h
 case slice e=>
  split at h
  ·rename_i i hi; simp only[TD.slice.injEq] at h; obtain⟨rfl,h⟩:=h; exact⟨i,rfl,hi,h⟩
  ·cases h
 all_goals first | cases h | (split at h <;> cases h)
theorem D5{P:Program}{d:TypeDesc}{n z:Nat}{b:Bool}(h:KH P d=.arr n z b):∃e i de,d=.array n e/\P.info? e=some i/\i.size=z/\P.underlying e=some de/\Ps de=b:=by
 cases d <;> simp only[KH] at h
 case array m e=>
  split at h
  ·rename_i i de hi hd;simp only[TD.arr.injEq] at h;obtain⟨rfl,rfl,rfl⟩:=h;exact⟨e,i,de,rfl,hi,rfl,hd,rfl⟩
  ·cases h
 all_goals first | cases h | (split at h <;> cases h)
theorem O6{P:Program}:∀{fs:List Field} {l:List (Nat×Bool×Nat)},fieldsOf P fs=some l->∀(j:Nat) (x:Nat×Bool×Nat),l[j]? = some x->
  ∃f i d,fs[j]? = some f/\P.info? f.type=some i/\P.underlying f.type=some d/\i.size≠0/\x=(f.offset,Ps d,i.size)
 | [],l,h,j,x,hx=>by simp only[fieldsOf,Option.some.injEq] at h; subst h; simp at hx
 | f::r,l,h,j,x,hx=>by
  simp only[fieldsOf] at h
  split at h
  ·rename_i i d l' hi hd hl
   split at h
   ·cases h
   ·rename_i hz;simp only[Option.some.injEq] at h; subst h
    cases j with
    | zero=>simp only[List.getElem?_cons_zero,Option.some.injEq] at hx; subst hx; exact⟨f,i,d,rfl,hi,hd,hz,rfl⟩
    | succ j=>exact O6 hl j x (by simpa using hx)
  ·cases h
theorem KI{P:Program}{d:TypeDesc}{l:List (Nat×Bool×Nat)}(h:KH P d=.struct l):∃fs,d=.struct fs/\fieldsOf P fs.toList=some l:=by
 cases d <;> simp only[KH] at h
 case struct fs=>
  split at h
  ·rename_i l' hl; simp only[TD.struct.injEq] at h; subst h; exact⟨fs,rfl,hl⟩
  ·cases h
 all_goals first | cases h | (split at h <;> cases h)
theorem J7{P:Program}{t:TypeId}{i:TypeInfo}(h:P.info? t=some i)(w:Wo):(typeInfo t).run P w=.ok i w:=by
 simp[typeInfo,h]
theorem ZV{P:Program}{t:TypeId}{i:TypeInfo}(h:P.info? t=some i)(w:Wo):(sizeOf t).run P w=.ok i.size w:=by
 simp[sizeOf,J7 h]
theorem UK{P:Program}{t:TypeId}{d:TypeDesc}(h:P.underlying t=some d)(w:Wo):(isAgg t).run P w=.ok (Ps d) w:=by
 unfold isAgg;simp only[Sem.run_bind,run_underlying h,Result.andThen_ok]
 cases d <;> rfl
theorem KD{P:Program}{t:TypeId}(hu:P.underlying t=some .bool)(x y:Bool)(w:Wo):(Op.equal t (.bool x) (.bool y)).run P w=.ok (x==y) w:=by
 have h:∀d:Nat,(Op.equalIn (d+1) t (.bool x) (.bool y)).run P w=.ok (x==y) w:=fun d=>by simp[Op.equalIn,run_underlying hu]
 exact h 9999
theorem LO{P:Program}{t e:TypeId}(hu:P.underlying t=some (.pointer e))(o:OA)(w:Wo):(Op.equal t (.pointer o) (.pointer none)).run P w=.ok o.isNone w:=by
 have h:∀d:Nat,(Op.equalIn (d+1) t (.pointer o) (.pointer none)).run P w=.ok o.isNone w:=fun d=>by cases o <;> simp[Op.equalIn,run_underlying hu]
 exact h 9999
theorem zlz{P:Program}{T:TypeId->Option Ty}(hT:zm9 P T){t:TypeId}{ty:Ty}(ht:T t=some ty){G:Prop->Prop}(hG:∀A,G A->A){op:BinOp}{x y:Operand}{a b:Va}{K:Va->Prop}(h:zfo G ty.d op a b K):∃v,K v/\∀w,((do eqGuard op t x y a b; binOp op t a b):Sem Va).run P w=.ok v w:=by
 have kk:∀{k k':IntKind} {A:Prop},(bif decide (k=k') then A else False)->k=k'/\A:=fun {k k' A} h=>by
  by_cases hk:k=k'
  ·simp only[hk,decide_true,cond_true] at h; exact⟨hk,h⟩
  ·simp only[hk,decide_false,cond_false] at h
 have dd:∀{d d':TD} {A:Prop},(bif decide (d=d') then A else False)->d=d'/\A:=fun {d d' A} h=>by
  by_cases hk:d=d'
  ·simp only[hk,decide_true,cond_true] at h; exact⟨hk,h⟩
  ·simp only[hk,decide_false,cond_false] at h
 unfold zfo at h
 split at h
 case h_1=>obtain⟨rfl,h1,h2⟩:=kk h; exact⟨_,h2,fun w=>by simp[eqGuard,binOp,Op.intArith,(hG _ h1).wrap]⟩
 case h_2=>obtain⟨rfl,h1,h2⟩:=kk h; exact⟨_,h2,fun w=>by simp[eqGuard,binOp,Op.intArith,(hG _ h1).wrap]⟩
 case h_3=>obtain⟨rfl,h1,h2⟩:=kk h; exact⟨_,h2,fun w=>by simp[eqGuard,binOp,Op.intArith,(hG _ h1).wrap]⟩
 case h_4=>
  obtain⟨rfl,h1,h2⟩:=kk h;obtain⟨h3,h4⟩:=hG _ h1;exact⟨_,h2,fun w=>by simp[eqGuard,binOp,Op.intDiv,h3,h4.wrap]⟩
 case h_5=>
  obtain⟨rfl,h1,h2⟩:=kk h;have h3:=hG _ h1;exact⟨_,h2,fun w=>by simp[eqGuard,binOp,Op.intDiv,h3]⟩
 case h_6=>obtain⟨rfl,h2⟩:=kk h; exact⟨_,h2,fun w=>by simp[eqGuard,binOp,Op.intBits,Vy]⟩
 case h_7=>obtain⟨rfl,h2⟩:=kk h; exact⟨_,h2,fun w=>by simp[eqGuard,binOp,Op.intBits,Vy]⟩
 case h_8=>obtain⟨rfl,h2⟩:=kk h; exact⟨_,h2,fun w=>by simp[eqGuard,binOp,Op.intBits,Vy]⟩
 case h_9=>
  obtain⟨h1,h2⟩:=h;obtain⟨h3,h4⟩:=hG _ h1;exact⟨_,h2,fun w=>by simp[eqGuard,binOp,Op.shift,Int.not_lt.2 h3,h4.wrap]⟩
 case h_10=>
  obtain⟨h1,h2⟩:=h;have h3:=hG _ h1;exact⟨_,h2,fun w=>by simp[eqGuard,binOp,Op.shift,Int.not_lt.2 h3]⟩
 case h_11=>obtain⟨rfl,h2⟩:=kk h; exact⟨_,h2,fun w=>by simp[eqGuard,binOp,Op.intCmp]⟩
 case h_12=>obtain⟨rfl,h2⟩:=kk h; exact⟨_,h2,fun w=>by simp[eqGuard,binOp,Op.intCmp]⟩
 case h_13=>obtain⟨rfl,h2⟩:=kk h; exact⟨_,h2,fun w=>by simp[eqGuard,binOp,Op.intCmp]⟩
 case h_14=>obtain⟨rfl,h2⟩:=kk h; exact⟨_,h2,fun w=>by simp[eqGuard,binOp,Op.intCmp]⟩
 case h_15=>obtain⟨rfl,h2⟩:=kk h; exact⟨_,h2,fun w=>by simp[eqGuard,binOp,Op.intCmp]⟩
 case h_16=>obtain⟨rfl,h2⟩:=kk h; exact⟨_,h2,fun w=>by simp[eqGuard,binOp,Op.intCmp]⟩
 case h_17=>exact⟨_,h,fun w=>by simp[eqGuard,binOp,Op.stringOp,Zg]⟩
 case h_18=>exact⟨_,h,fun w=>by simp[eqGuard,binOp,Op.stringOp,Zg]⟩
 case h_19 s u=>
  obtain⟨h1,h2⟩:=h;have h3:=hG _ h1;refine⟨_,h2,fun w=>?_⟩;have h4:¬((s.size+u.size:Nat):Int)>IntKind.i64.max:=by rw[IntKind.max_i64]; omega
  simp only[eqGuard,binOp,Op.stringOp,if_neg h4];rfl
 case h_20=>
  obtain⟨hd,h2⟩:=dd h;obtain⟨d,hu,_,htd⟩:=(hT.facts ht).desc;have:=zcm (htd.symm.trans hd); subst this;exact⟨_,h2,fun w=>by simp only[eqGuard_at_bool,binOp,Sem.run_bind,Sem.run_pure,Result.andThen_ok,KD hu]⟩
 case h_21=>
  obtain⟨hd,h2⟩:=dd h;obtain⟨d,hu,_,htd⟩:=(hT.facts ht).desc;have:=zcm (htd.symm.trans hd); subst this;exact⟨_,h2,fun w=>by simp only[eqGuard_at_bool,binOp,Sem.run_bind,Sem.run_pure,Result.andThen_ok,KD hu]⟩
 case h_22 o=>
  obtain⟨hd,h2⟩:=dd h;obtain⟨d,hu,_,htd⟩:=(hT.facts ht).desc;obtain⟨e,rfl⟩:=zhc (htd.symm.trans hd);exact⟨_,h2,fun w=>by simp only[eqGuard_at_pointer,binOp,Sem.run_bind,Sem.run_pure,Result.andThen_ok,LO hu]⟩
 case h_23 o=>
  obtain⟨hd,h2⟩:=dd h;obtain⟨d,hu,_,htd⟩:=(hT.facts ht).desc;obtain⟨e,rfl⟩:=zhc (htd.symm.trans hd);exact⟨_,h2,fun w=>by simp only[eqGuard_at_pointer,binOp,Sem.run_bind,Sem.run_pure,Result.andThen_ok,LO hu]⟩
 case h_24=>exact h.elim
structure Ze (S:St) (w wr:Wo):Prop where
 ext:Q0 S.bs w wr
 loc:∀(id:Nat) (t:TypeId) (cs:List Va),S.L[id]? = some (t,cs)->∃b,S.B[id]? = some b/\wr.heap[b]? = some (Obj.cells cs.toArray t (0,0))
 len:S.L.length=S.B.length
 dist:S.B.Nodup
 fresh:∀(id b:Nat),S.old<=id->S.B[id]? = some b->w.heap.size<=b
theorem BM{w:Wo}{b:Nat}{o:Obj}(h:w.heap[b]? = some o):b<w.heap.size:=by
 rcases Nat.lt_or_ge b w.heap.size with hlt | hge
 ·exact hlt
 ·rw[Array.getElem?_eq_none hge] at h; cases h
theorem Ze.step{S:St}{w wr wr':Wo}(h:Ze S w wr)(hx:Q0 [] wr wr'):Ze S w wr':=
 ⟨h.ext.trans hx.of_nil,fun id t cs hl=>by
  obtain⟨b,hb,hh⟩:=h.loc id t cs hl;exact⟨b,hb,(hx.block b (BM hh) (by simp)).trans hh⟩,h.len,h.dist,h.fresh⟩
abbrev Cg:=St->Wo->Prop
abbrev P4:=Option Cg
def M7:P4:=none
def zid:P4->St->Wo->Prop
 | none,_,_=>True
 | some f,S,w=>f S w
def zs2(S:St):EV->Option Va
 | .v x=>some x
 | .kb x=>some (.bool x)
 | .el o n=>some (.pointer (o.map (·.add n)))
 | .ls id len=>match S.B[id]? with
  | some b=>some (.slice (some ⟨b,0,none⟩) len len)
  | none=>none
 | _=>none
theorem zc7{S:St}{e:EV}{x u:Va}(h:zs2 S e=some x)(hd:EV.den S e u):u=x:=by
 cases e with
 | v y=>simp only[zs2,Option.some.injEq] at h; subst h; exact hd
 | el o n=>simp only[zs2,Option.some.injEq] at h; subst h; obtain⟨a,rfl,rfl⟩:=hd; rfl
 | ls id len=>
  obtain⟨b,hb,rfl⟩:=hd;simp only[zs2,hb,Option.some.injEq] at h;exact h
 | loc id off=>cases h
 | le id i k=>cases h
 | no=>cases h
 | kb x=>simp only[zs2,Option.some.injEq] at h; subst h; exact hd
def KW(S:St)(pc:List (Nat×Bool))(x:Operand):Option Va:=
 match Cf S pc x with
 | some e=>zs2 S e
 | none=>none
theorem QF{n:Nat}{S:St}{ops:Array Oper}{a:Act}(hf:F3 n S ops a){pc:List (Nat×Bool)}(hp:Gy ops a pc){x:Operand}{v:Va}(h:KW S pc x=some v):a.eval x=v:=by
 unfold KW at h
 split at h
 ·rename_i e he; exact zc7 h (ZI hf hp he)
 ·cases h
def Gq(S:St)(pc:List (Nat×Bool)):List Operand->Option (List Va)
 | []=>some []
 | x::r=>match KW S pc x,Gq S pc r with
  | some v,some l=>some (v::l)
  | _,_=>none
theorem Xb{n:Nat}{S:St}{ops:Array Oper}{a:Act}(hf:F3 n S ops a){pc:List (Nat×Bool)}(hp:Gy ops a pc):∀{xs:List Operand} {vs:List Va},Gq S pc xs=some vs->xs.map a.eval=vs
 | [],vs,h=>by simp only[Gq,Option.some.injEq] at h; subst h; rfl
 | x::r,vs,h=>by
  simp only[Gq] at h
  split at h
  ·rename_i v l hv hl;simp only[Option.some.injEq] at h; subst h;simp[QF hf hp hv,Xb hf hp hl]
  ·cases h
def zgi(S:St)(pc:List (Nat×Bool)):List Operand->List Nat
 | []=>[]
 | x::r=>match Cf S pc x with
  | some (.ls id _)=>id::zgi S pc r
  | _=>zgi S pc r
def XJ(S:St)(w:Wo):List Nat->Prop->Prop
 | [],A=>A
 | id::r,A=>match S.L[id]?,S.B[id]? with
  | some (t,cs),some b=>w.heap[b]? = some (Obj.cells cs.toArray t (0,0))->XJ S w r A
  | _,_=>False
theorem XJ.out{S:St}{w wr:Wo}(h:Ze S w wr):∀{ids:List Nat} {A:Prop},XJ S wr ids A->A
 | [],_,h'=>h'
 | id::r,A,h'=>by
  simp only[XJ] at h'
  split at h'
  ·rename_i t cs b hl hb;obtain⟨b',hb',hh⟩:=h.loc id t cs hl;rw[hb] at hb'; cases hb';exact XJ.out h (h' hh)
  ·exact h'.elim
def Ny(C:VI)(ids:List Nat)(f:Nat)(args:List Va)(r:Va)(G:Prop->Prop):Cg:=fun S w=>
 match ids with
 | []=>G (Q4 S.bs C.P f args.toArray w r)
 | ids=>G (∀w2,Q0 S.bs w w2->XJ S w2 ids (Q4 S.bs C.P f args.toArray w2 r))
structure Tl (P:Program) (f:Nat):Prop where
 is : ∃ fn, P.funcs[f]? = some fn ∧ fn.body.isNone = false ∧ (fn.name == "runtime.NumGoroutine") = false
def KO (P:Program) (f:Nat):Bool:=
 match P.funcs[f]? with
 | some fn => !fn.body.isNone && !(fn.name == "runtime.NumGoroutine")
 | none=>false
theorem EO{P:Program}{f:Nat}(h:KO P f=true):Tl P f:=by
 unfold KO at h
 split at h
 ·rename_i fn hf;simp only[Bool.and_eq_true,Bool.not_eq_true'] at h;exact⟨fn,hf,h.1,h.2⟩
 ·cases h
theorem zgy {P:Program} {f:Nat} (h:Tl P f) (args:Array Operand) (argTypes:Array TypeId) (a:Act) {o:Oper} (ho:o.op=.call { callee:=.value (.func f),args,argTypes }) (w:Wo) :
  (execOp a.eval o).run P w=.ok (.enter f (args.map a.eval)) w:=by
 obtain⟨fn,hf,hb,hn⟩:=h.is
 unfold execOp
 rw[ho]
 have hn' : ¬ fn.name = "runtime.NumGoroutine" := by simpa using hn
 have hb':¬fn.body=none:=by intro e; rw[e] at hb; cases hb
 simp[resolve,Deferred.ofValue,invoke,callFunc,hf,hb',hn',Act.eval]
def Ld:List Oper->Nat->Nat->Option Nat
 | [],_,_=>none
 | o::r,t,k=>match o.dst with
  | some d=>bif Nat.beq d t then some k else Ld r t (k+1)
  | none=>Ld r t (k+1)
theorem Db:∀{l:List Oper} {t k j:Nat},Ld l t k=some j->k<=j/\∃o,l[j-k]? = some o/\o.dst=some t
 | [],_,_,_,h=>by cases h
 | o::r,t,k,j,h=>by
  simp only[Ld] at h
  have rec_:∀{j},Ld r t (k+1)=some j->k<=j/\∃o',(o::r)[j-k]? = some o'/\o'.dst=some t:=fun {j} h=>by
   obtain⟨h1,o',h2,h3⟩:=Db h;refine⟨by omega,o',?_,h3⟩;have:j-k=(j-(k+1))+1:=by omega
   rw[this]; simpa using h2
  split at h
  ·rename_i d hd
   cases hb:Nat.beq d t with
   | true=>
    rw[hb] at h;simp only[cond_true,Option.some.injEq] at h;subst h;exact⟨Nat.le_refl _,o,by simp,by rw[hd,Nat.eq_of_beq_eq_true hb]⟩
   | false=>rw[hb] at h; exact rec_ h
  ·exact rec_ h
def K9(ops:Array Oper)(pc:List (Nat×Bool))(c:Operand)(b:Bool):List (Nat×Bool):=
 match c with
 | .tmp t=>match Ld ops.toList t 0 with
  | some j=>(j,b)::pc
  | none=>pc
 | _=>pc
theorem PH{n:Nat}{S:St}{ops:Array Oper}{a:Act}(hf:F3 n S ops a){pc:List (Nat×Bool)}(hp:Gy ops a pc){c:Operand}{b:Bool}(hc:a.eval c=.bool b):Gy ops a (K9 ops pc c b):=by
 unfold K9;split
 ·rename_i t;split
  ·rename_i j hj;obtain⟨_,o,ho,hd⟩:=Db hj;intro p hm;rcases List.mem_cons.1 hm with rfl | hm
   ·have hj':ops[j]? = some o:=by simpa using ho
    simp only[Act.eval] at hc;unfold yielded;rw[hj'];simp only[Option.bind_some,hd]
    cases ht:a.tmps[t]? with
    | none=>rw[Array.getD_eq_getD_getElem?,ht] at hc; simp[undef] at hc
    | some x=>
     rw[Array.getD_eq_getD_getElem?,ht] at hc;simp only[Option.getD_some] at hc;subst hc; rfl
   ·exact hp p hm
  ·exact hp
 ·exact hp
def Ty.val(ty:Ty)(vs:List Va):Option Va:=bif ty.agg then some (.agg vs.toArray) else match vs with | [v]=>some v | _=>none
theorem T6{P:Program}{T:TypeId->Option Ty}(hT:zm9 P T){t:TypeId}{ty:Ty}(ht:T t=some ty){a:Addr}{vs:List Va}{v:Va}(hv:ty.val vs=some v)(hl:vs.length=ty.ks.length){w:Wo}(hc:∀(j:Nat) (x:Va),vs[j]? = some x->w.cell? (a.add j)=some x):(loadVar t a).run P w=.ok v w:=by
 obtain⟨d,hu,hag,_⟩:=(hT.facts ht).desc;obtain⟨i,z,hi,_,hsz,_⟩:=(hT.facts ht).info;unfold loadVar;simp only[Sem.run_bind,UK hu,Result.andThen_ok];unfold Ty.val at hv
 cases hg:ty.agg with
 | true=>
  rw[hg] at hv;simp only[cond_true,Option.some.injEq] at hv;subst hv;rw[<-hag,hg];simp only[if_true];have:=run_loadCells_list (P:=P) (w:=w) a vs hc;simp only[Sem.run_bind,ZV hi,Result.andThen_ok,hsz,<-hl,this,Sem.run_pure]
 | false=>
  rw[hg] at hv;simp only[cond_false] at hv
  split at hv
  ·rename_i x;simp only[Option.some.injEq] at hv; subst hv;rw[<-hag,hg];simp only[Bool.false_eq_true,if_false];have:=hc 0 x rfl;rw[Addr.add_zero'] at this;simp[this]
  ·cases hv
def HT(a b:Operand)(cb:Bool)(x y:Va)(K:Va->Prop):Prop:=
 match a,b,x,y with
 | .const (.bool true),_,_,.bool y=>K (.bool (cb||y))
 | _,.const (.bool false),.bool x,_=>K (.bool (cb&&x))
 | _,_,.bool x,.bool y=>K (.bool (bif cb then x else y))
 | _,_,_,_=>False
theorem zgl{a b:Operand}{cb:Bool}{x y:Va}{K:Va->Prop}{ax bx:Va}(ha:cb=true->ax=x)(hb:cb=false->bx=y)(hca:∀v,a=.const v->ax=v)(hcb:∀v,b=.const v->bx=v)(h:HT a b cb x y K):∃v,K v/\v=(if cb=true then ax else bx):=by
 unfold HT at h
 split at h
 ·refine⟨_,h,?_⟩;cases cb
  ·simp[hb rfl]
  ·simp[hca _ rfl]
 ·refine⟨_,h,?_⟩;cases cb
  ·simp[hcb _ rfl]
  ·simp[ha rfl]
 ·refine⟨_,h,?_⟩;cases cb
  ·simp[hb rfl]
  ·simp[ha rfl]
 ·exact h.elim
def zkf(x:Option Va)(K:Int->Prop):Prop:=
 match x with
 | none=>K 0
 | some (.int _ i)=>K i
 | _=>False
def zd3(len:Nat)(x:Option Va)(K:Int->Prop):Prop:=
 match x with
 | none=>K len
 | some (.int _ i)=>K i
 | _=>False
def zpj(S:St)(pc:List (Nat×Bool)):Option Operand->Option (Option Va)
 | none=>some none
 | some x=>match KW S pc x with
  | some v=>some (some v)
  | none=>none
theorem KX{n:Nat}{S:St}{ops:Array Oper}{a:Act}(hf:F3 n S ops a){pc:List (Nat×Bool)}(hp:Gy ops a pc){x:Option Operand}{v:Option Va}(h:zpj S pc x=some v):x.map a.eval=v:=by
 cases x with
 | none=>simp only[zpj,Option.some.injEq] at h; subst h; rfl
 | some x=>
  simp only[zpj] at h
  split at h
  ·rename_i u hu; simp only[Option.some.injEq] at h; subst h; simp[QF hf hp hu]
  ·cases h
def TD.byRun:TD->Bool
 | .struct _=>true
 | .other=>true
 | _=>false
def zwc(d:TD)(op:BinOp)(wr:Bool):Bool:=d.byRun||(wr&&match op with
 | .sub=>true
 | _=>false)
def zws(d:TD):CK:=match d with
 | .int k=>.int k
 | _=>.bool
def TD.isOther:TD->Bool
 | .other=>true
 | _=>false
def zvt(C:VI)(t:TypeId):Option (List RK):=match zhv C.tt t with
 | some l=>some l
 | none=>match C.T t with
  | some ty=>bif ty.agg then some [.agg ty.ks] else match ty.ks with
   | [k]=>some [.cell k]
   | _=>none
  | none=>none
def zwv(C:VI)(u:TypeId)(ok:Bool):Option (List RK):=match zvt C u with
 | some [k]=>bif ok then some [k,.cell .bool] else some [k]
 | _=>none
def zvf(C:VI)(S:St)(w:Wo)(ops:Array Oper)(o:Oper)(pc:List (Nat×Bool))(K:EV->P4->Prop):Prop:=
 match o.op with
 | .move x | .assign x=>match Cf S pc x with
  | some e=>K e M7
  | none=>False
 | .pick c a b=>match KW S pc c with
  | some (.bool cb)=>match Cf S (K9 ops pc c true) a,Cf S (K9 ops pc c false) b with
   | some .no,_=>(match KW S (K9 ops pc c false) b with
    | some y=>K (.v y) M7
    | none=>False)
   | _,some .no=>(match KW S (K9 ops pc c true) a with
    | some x=>K (.v x) M7
    | none=>False)
   | _,_=>match KW S (K9 ops pc c true) a,KW S (K9 ops pc c false) b with
    | some x,some y=>HT a b cb x y fun v=>K (.v v) M7
    | _,_=>False
  | _=>False
 | .nilCheck x=>match Cf S pc x with
  | some (.el o n)=>K (.el o n) M7
  | some (.loc id off)=>K (.loc id off) M7
  | some (.le id i k)=>K (.le id i k) M7
  | some (.v (.pointer o))=>Lo S ops pc (o.isSome=true)/\K (.el o 0) M7
  | some (.v (.func (.func f) fs cs))=>K (.v (.func (.func f) fs cs)) M7
  | _=>False
 | .binOp op t x y _=>match C.T t,KW S pc x,KW S pc y with
  | some ty,some a,some b=>bif zwc ty.d op C.wr then ztt (zws ty.d) fun v=>Lo S ops pc (∀wr,((do eqGuard op t x y a b; binOp op t a b):Sem Va).run C.P wr=.ok v wr)/\K (.v v) M7 else zfo (Lo S ops pc) ty.d op a b fun v=>K (.v v) M7
  | _,_,_=>False
 | .unOp .not _ x=>match KW S pc x with
  | some (.bool b)=>K (.v (.bool (!b))) M7
  | _=>False
 | .unOp .neg _ x=>match KW S pc x with
  | some (.int k n)=>Lo S ops pc (Qn k (0-n))/\K (.v (.int k (0-n))) M7
  | _=>False
 | .fieldAddr s x f=>match C.T s,Cf S pc x with
  | some { agg:=_,ks:=_,d:=.struct fs },some e=>match fs[f]? with
   | some (off,_,_)=>match e with
    | .loc id m=>K (.loc id (m+off)) M7
    | .el o m=>K (.el o (m+off)) M7
    | .le id i m=>K (.le id i (m+off)) M7
    | .v (.pointer o)=>Lo S ops pc (o.isSome=true)/\K (.el o off) M7
    | _=>False
   | none=>False
  | _,_=>False
 | .field t x f=>match C.T t,KW S pc x with
  | some { agg:=_,ks:=_,d:=.struct fs },some (.agg cs)=>match fs[f]? with
   | some (off,true,z)=>K (.v (.agg (cs.extract off (off+z)))) M7
   | some (off,false,_)=>match cs[off]? with
    | some v=>K (.v v) M7
    | none=>False
   | none=>False
  | _,_=>False
 | .indexAddr t x i=>match C.T t,Cf S pc x,KW S pc i with
  | some { agg:=_,ks:=_,d:=.slice _ z },some (.v (.slice o len _)),some (.int _ i)=>Lo S ops pc (Ix o len i)/\K (.el o (i.toNat*z)) M7
  | some { agg:=_,ks:=_,d:=.slice _ 1 },some (.ls id len),some (.int _ i)=>Lo S ops pc (0<=i/\i<len)/\K (.le id i 0) M7
  | some { agg:=_,ks:=_,d:=.arr n z _ },some (.el o m),some (.int _ i)=>Lo S ops pc (0<=i/\i<n)/\K (.el o (m+i.toNat*z)) M7
  | some { agg:=_,ks:=_,d:=.arr n 1 _ },some (.loc id 0),some (.int _ i)=>Lo S ops pc (0<=i/\i<n)/\K (.le id i 0) M7
  | _,_,_=>False
 | .index t x i=>match C.T t,KW S pc x,KW S pc i with
  | some { agg:=_,ks:=k::_,d:=.arr n 1 false },some (.agg cs),some (.int _ i)=>ztt k fun v=>Lo S ops pc (0<=i/\i<n/\cs[i.toNat]? = some v)/\K (.v v) M7
  | some { agg:=_,ks:=_,d:=.str },some (.string s),some (.int _ i)=>Lo S ops pc (0<=i/\i<s.size)/\K (.v (.int .u8 (Jo s i))) M7
  | _,_,_=>False
 | .convert s t x=>match C.T s,C.T t,KW S pc x with
  | some _,some { agg:=_,ks:=_,d:=.int k },some (.int _ n)=>Lo S ops pc (Qn k n)/\K (.v (.int k n)) M7
  | _,_,_=>False
 | .extract x i=>match KW S pc x with
  | some (.tuple vs)=>match vs[i]? with
   | some v=>K (.v v) M7
   | none=>False
  | _=>False
 | .slice t x lo hi none=>match C.T t,KW S pc x,zpj S pc lo,zpj S pc hi with
  | some { agg:=_,ks:=_,d:=.slice _ z },some (.slice o len cap),some l,some h=>
   zkf l fun l=>zd3 len h fun h=>Lo S ops pc (0<=l/\l<=h/\h<=cap)/\
    K (.v (.slice (if cap=l.toNat then o else o.map (·.add (l.toNat*z))) (h.toNat-l.toNat) (cap-l.toNat))) M7
  | some { agg:=_,ks:=_,d:=.str },some (.string s),some l,some h=>
   zkf l fun l=>zd3 s.size h fun h=>Lo S ops pc (0<=l/\l<=h/\h<=s.size)/\K (.v (.string (s.extract l.toNat h.toNat))) M7
  | _,_,_,_=>False
 | .makeFunc fn first cap=>match Gq S pc first.toList,Gq S pc cap.toList with
  | some a,some b=>K (.v (.func fn a.toArray b.toArray)) M7
  | _,_=>False
 | .makeInterface t x=>match C.T t,KW S pc x with
  | some ty,some v=>bif ty.d.isOther then False else K (.v (.iface t v)) M7
  | _,_=>False
 | .typeAssert x t u ok=>match KW S pc x,zwv C u ok with
  | some a,some rk=>LA rk fun r=>Lo S ops pc (∀wr,(Instr.typeAssert a t u ok).run C.P wr=.ok r wr)/\K (.v r) M7
  | _,_=>False
 | .build t parts=>match C.T t with
  | some { agg:=_,ks:=ks,d:=.struct fs }=>match Gq S pc (parts.toList.map (·.2)),ks.contains .other with
   | some vs,false=>match Instr.fill (fun i=>(fs[i]?).map fun f=>(f.1,f.2.2)) (ks.map zv).toArray ((parts.toList.map (·.1)).zip vs) with
    | some cells=>K (.v (.agg cells)) M7
    | none=>False
   | _,_=>False
  | some { agg:=_,ks:=ks,d:=.arr _ z _ }=>match Gq S pc (parts.toList.map (·.2)),ks.contains .other with
   | some vs,false=>match Instr.fill (fun i=>some (i*z,z)) (ks.map zv).toArray ((parts.toList.map (·.1)).zip vs) with
    | some cells=>K (.v (.agg cells)) M7
    | none=>False
   | _,_=>False
  | _=>False
 | .load t x=>match C.T t,Cf S pc x with
  | some ty,some (.el o n)=>zfr ty.ks fun vs=>match ty.val vs with
   | some v=>Lo S ops pc (Q2 S.bs w o n vs)/\K (.v v) (some fun S' w'=>Lo S ops pc (Q2 S'.bs w' o n vs))
   | none=>False
  | some ty,some (.v (.pointer o))=>bif ty.ks.isEmpty then False else zfr ty.ks fun vs=>match ty.val vs with
   | some v=>Lo S ops pc (Q2 S.bs w o 0 vs)/\K (.v v) (some fun S' w'=>Lo S ops pc (Q2 S'.bs w' o 0 vs))
   | none=>False
  | some ty,some (.loc id off)=>match S.L[id]? with
   | some (t',cs)=>match bif Nat.beq ((cs.drop off).take ty.ks.length).length ty.ks.length then ty.val ((cs.drop off).take ty.ks.length) else none with
    | some v=>K (.v v) (some fun S' _=>S'.L[id]? = some (t',cs))
    | none=>False
   | none=>False
  | some { agg:=false,ks:=[k],d:=_ },some (.le id i m)=>match S.L[id]? with
   | some (t',cs)=>ztt k fun v=>Lo S ops pc (0<=i/\cs[i.toNat+m]? = some v)/\K (.v v) (some fun S' _=>S'.L[id]? = some (t',cs))
   | none=>False
  | _,_=>False
 | .call { callee:=.builtin b,args:=args,argTypes:=ts }=>match b,args.toList,ts.toList with
  | .len,[x],[t]=>match C.T t,KW S pc x with
   | some { agg:=_,ks:=_,d:=.slice _ _ },some (.slice _ n _)=>K (.v (.int .i64 n)) M7
   | some { agg:=_,ks:=_,d:=.str },some (.string s)=>K (.v (.int .i64 s.size)) M7
   | _,_=>False
  | .min,[x,y],_=>match KW S pc x,KW S pc y with
   | some (.int k a),some (.int _ b)=>K (.v (.int k (if b<a then b else a))) M7
   | _,_=>False
  | .max,[x,y],_=>match KW S pc x,KW S pc y with
   | some (.int k a),some (.int _ b)=>K (.v (.int k (if b>a then b else a))) M7
   | _,_=>False
  | _,_,_=>False
 | .call { callee:=.value (.func f),args:=args,argTypes:=_ }=>match zhv C.pf f,Gq S pc args.toList with
  | some rks,some vs=>LA rks fun r=>Ny C (zgi S pc args.toList) f vs r (Lo S ops pc) S w/\K (.v r) (some (Ny C (zgi S pc args.toList) f vs r (Lo S ops pc)))
  | _,_=>False
 | _=>False
def BH(S S':St):Prop:=∀(id b:Nat),S.B[id]? = some b->S'.B[id]? = some b
def QU(C:VI)(S:St)(w:Wo)(o:Oper)(a:Act)(K:EV->P4->Prop):Prop:=
 ∃e fact v,K e fact/\EV.den S e v/\zid fact S w/\
  ∀(S':St) (w':Wo) (a':Act),execOp a'.eval o=execOp a.eval o->BH S S'->zid fact S' w'->∀wr,Ze S' w' wr->o.quietAt C.P a' (Ze S' w') wr v
theorem QU.of_run{C:VI}{S:St}{w:Wo}{o:Oper}{a:Act}{K:EV->P4->Prop}{e:EV}{v:Va}(hK:K e M7)(hd:EV.den S e v)(hr:∀wr,(execOp a.eval o).run C.P wr=.ok (.value v) wr):QU C S w o a K:=
 ⟨e,M7,v,hK,hd,trivial,fun S' w' a' he _ _ wr _=>by
  unfold Oper.quietAt;rw[he,hr wr];exact⟨rfl,rfl⟩⟩
theorem QU.of_runs{C:VI}{S:St}{w:Wo}{o:Oper}{a:Act}{K:EV->P4->Prop}{e:EV}{v:Va}{fact:Cg}(hK:K e (some fact))(hd:EV.den S e v)(hs:fact S w)(hr:∀(S':St) (w':Wo),BH S S'->fact S' w'->∀wr,Ze S' w' wr->(execOp a.eval o).run C.P wr=.ok (.value v) wr):QU C S w o a K:=
 ⟨e,some fact,v,hK,hd,hs,fun S' w' a' he hl hf wr hw=>by
  unfold Oper.quietAt;rw[he,hr S' w' hl hf wr hw];exact⟨rfl,rfl⟩⟩
theorem Ea{l:Option Va}{K:Int->Prop}(h:zkf l K):∃li:Int,(l=none/\li=0\/∃k,l=some (.int k li))/\K li:=by
 unfold zkf at h
 split at h
 ·exact⟨0,.inl ⟨rfl,rfl⟩,h⟩
 ·exact⟨_,.inr ⟨_,rfl⟩,h⟩
 ·exact h.elim
theorem Gh{n:Nat}{l:Option Va}{K:Int->Prop}(h:zd3 n l K):∃li:Int,(l=none/\li=n\/∃k,l=some (.int k li))/\K li:=by
 unfold zd3 at h
 split at h
 ·exact⟨n,.inl ⟨rfl,rfl⟩,h⟩
 ·exact⟨_,.inr ⟨_,rfl⟩,h⟩
 ·exact h.elim
theorem AW{P:Program}{b:Bool}{len cap:Nat}{l hh:Option Va}{li hi:Int}(h:0<=li/\li<=hi/\hi<=cap)(hl:l=none/\li=0\/∃k,l=some (.int k li))(hh0:hh=none/\hi=len\/∃k,hh=some (.int k hi))(wr:Wo) :
  (Instr.sliceBounds b len cap l hh none).run P wr=.ok (li.toNat,hi.toNat,cap) wr:=by
 obtain⟨h0,h1,h2⟩:=h;have h4:0<=hi:=Int.le_trans h0 h1;rcases hl with ⟨rfl,rfl⟩ | ⟨k,rfl⟩ <;> rcases hh0 with ⟨rfl,rfl⟩ | ⟨k',rfl⟩
 ·simp[Instr.sliceBounds]
 ·simp[Instr.sliceBounds,Instr.sliceBound,asIntOf,h1,h2]
 ·simp[Instr.sliceBounds,Instr.sliceBound,asIntOf,h0,h1]
 ·have h3:li<=((hi.toNat:Nat):Int):=by omega
  simp only[Instr.sliceBounds,Instr.sliceBound,asIntOf,Sem.run_bind,Sem.run_pure,Result.andThen_ok,Sem.run_ite,if_pos (And.intro h4 h2),if_pos (And.intro h0 h3)]
theorem Q2.cells{bs:List Nat}{w wr:Wo}{o:OA}{n:Nat}{vs:List Va}(h:Q2 bs w o n vs)(hx:Q0 bs w wr){a:Addr}(ho:o=some a)(j:Nat)(x:Va)(hj:vs[j]? = some x):wr.cell? ((a.add n).add j)=some x:=by
 obtain⟨b,hb,_,hc⟩:=(h.get j x hj).ext hx;rw[ho] at hb;cases hb;rw[Xt]; exact hc
theorem ztv{bs:List Nat}{w:Wo}{o:OA}{n:Nat}{ty:Ty}{vs:List Va}{v:Va}(hv:ty.val vs=some v)(hl:vs.length=ty.ks.length)(hk:0<ty.ks.length)(h:Q2 bs w o n vs):∃u,Ju bs w o n u:=by
 cases vs with
 | nil=>simp at hl; omega
 | cons x r=>exact⟨x,h.get 0 x rfl⟩
theorem Kr{S:St}{w wr:Wo}(h:Ze S w wr){id:Nat}{t:TypeId}{cs:List Va}(hl:S.L[id]? = some (t,cs)){b:Nat}(hb:S.B[id]? = some b)(i:Nat):wr.cell? ⟨b,i,none⟩=cs[i]? := by
 obtain⟨b',hb',hh⟩:=h.loc id t cs hl;rw[hb] at hb'; cases hb';simp[World.cell?,hh]
theorem zbm{C:VI}(hT:zm9 C.P C.T)(hcall:∀f ks,zhv C.pf f=some ks->Tl C.P f){S:St}{w:Wo}{ops:Array Oper}{o:Oper}{pc:List (Nat×Bool)}{K:EV->P4->Prop}{a:Act}(hf:F3 C.n S ops a)(hp:Gy ops a pc)(h:zvf C S w ops o pc K):QU C S w o a K:=by
 have G:∀A,Lo S ops pc A->A:=fun A=>BL hf hp
 unfold zvf at h
 split at h
 case h_1 x ho=>
  split at h
  ·rename_i e he;exact QU.of_run h (ZI hf hp he) fun wr=>by simp[execOp,ho]
  ·exact h.elim
 case h_2 x ho=>
  split at h
  ·rename_i e he;exact QU.of_run h (ZI hf hp he) fun wr=>by simp[execOp,ho]
  ·exact h.elim
 case h_3 c x y ho=>
  split at h
  ·rename_i cb hc;have hcv:=QF hf hp hc
   split at h
   ·rename_i hno
    split at h
    ·rename_i v hv
     have hcb:cb=false:=by
      cases hq:cb with
      | false=>rfl
      | true=>
       rw[hq] at hcv;exact(ZI hf (PH hf hp hcv) hno).elim
     rw[hcb] at hcv;have hv':=QF hf (PH hf hp hcv) hv;exact QU.of_run h rfl fun wr=>by simp[execOp,ho,hcv,asBool,hv']
    ·exact h.elim
   ·rename_i hno _
    split at h
    ·rename_i v hv
     have hcb:cb=true:=by
      cases hq:cb with
      | true=>rfl
      | false=>
       rw[hq] at hcv;exact(ZI hf (PH hf hp hcv) hno).elim
     rw[hcb] at hcv;have hv':=QF hf (PH hf hp hcv) hv;exact QU.of_run h rfl fun wr=>by simp[execOp,ho,hcv,asBool,hv']
    ·exact h.elim
   ·split at h
    ·rename_i u v hu hv
     obtain⟨r,hK,hr⟩:=zgl (ax:=a.eval x) (bx:=a.eval y) (fun e=>by
       subst e; exact QF hf (PH hf hp hcv) hu) (fun e=>by
       subst e; exact QF hf (PH hf hp hcv) hv) (fun v e=>by subst e; rfl) (fun v e=>by subst e; rfl) h
     refine QU.of_run hK (v:=r) rfl fun wr=>?_
     simp only[execOp,ho,hcv,asBool];rw[hr]
     cases cb <;> rfl
    ·exact h.elim
  ·exact h.elim
 case h_4 x ho=>
  split at h
  ·rename_i b n he;have hd:=ZI hf hp he;refine QU.of_run h hd fun wr=>?_
   obtain⟨b,_,hb⟩:=hd;simp[execOp,ho,hb]
  ·rename_i id off he;have hd:=ZI hf hp he;refine QU.of_run h hd fun wr=>?_
   obtain⟨b,_,hb⟩:=hd;simp[execOp,ho,hb]
  ·rename_i id i k he;have hd:=ZI hf hp he;refine QU.of_run h hd fun wr=>?_
   obtain⟨b,_,_,hb⟩:=hd;simp[execOp,ho,hb]
  ·rename_i b he;have hd:=ZI hf hp he;obtain⟨h1,h2⟩:=h;have h3:=G _ h1;obtain⟨ad,rfl⟩:=Option.isSome_iff_exists.1 h3;simp only[EV.den] at hd;exact QU.of_run h2 (v:=.pointer (some ad)) ⟨ad,rfl,by rw[Addr.add_zero']⟩ fun wr=>by simp[execOp,ho,hd]
  ·rename_i f fs cs he;have hd:=ZI hf hp he;refine QU.of_run h hd fun wr=>?_
   simp only[EV.den] at hd;simp[execOp,ho,hd]
  ·exact h.elim
 case h_5 op t x y yt ho=>
  split at h
  ·rename_i ty u v ht hu hv;have hu':=QF hf hp hu;have hv':=QF hf hp hv
   cases hb:zwc ty.d op C.wr with
   | true=>
    rw[hb] at h;simp only[cond_true] at h;obtain⟨r,h1,h2⟩:=P6 h;refine QU.of_run h2 (v:=r) rfl fun wr=>?_
    have:=G _ h1 wr;simp only[execOp,ho,hu',hv',Sem.run_bind] at this ⊢;rw[this];rfl
   | false=>
    rw[hb] at h;simp only[cond_false] at h;obtain⟨r,hK,hr⟩:=zlz hT ht (x:=x) (y:=y) G h;refine QU.of_run hK (v:=r) rfl fun wr=>?_
    have:=hr wr;simp only[execOp,ho,hu',hv',Sem.run_bind] at this ⊢;rw[this];rfl
  ·exact h.elim
 case h_6 t x ho=>
  split at h
  ·rename_i b hb;exact QU.of_run h rfl fun wr=>by simp[execOp,ho,QF hf hp hb,Op.unary]
  ·exact h.elim
 case h_7 t x ho=>
  split at h
  ·rename_i k n hb;obtain⟨h1,h2⟩:=h;have h3:=(G _ h1).wrap;rw[Int.zero_sub] at h3;exact QU.of_run h2 rfl fun wr=>by simp[execOp,ho,QF hf hp hb,Op.unary,Op.intArith,h3]
  ·exact h.elim
 case h_8 s x f ho=>
  split at h
  ·rename_i ag ks fs e ht he;have hd:=ZI hf hp he;obtain⟨d,hu,_,htd⟩:=(hT.facts ht).desc;obtain⟨fl,rfl,hfl⟩:=KI htd.symm
   split at h
   ·rename_i off b z hfs;obtain⟨fd,i,dd,hfd,hi,_,hz,hx⟩:=O6 hfl f _ hfs;simp only[Prod.mk.injEq] at hx;obtain⟨rfl,_,rfl⟩:=hx;have hfd':fl[f]? = some fd:=by simpa using hfd
    have hrun:∀(ad:Addr) wr,(Instr.fieldAt s (.pointer (some ad)) f).run C.P wr=.ok (.pointer (some (ad.add fd.offset))) wr:=fun ad wr=>by
     simp[Instr.fieldAt,run_underlying hu,hfd',Instr.sureAddr,fieldPlace,ZV hi,hz]
    split at h
    ·rename_i id m;obtain⟨b,hb,hv⟩:=hd;refine QU.of_run h (v:=.pointer (some ⟨b,m+fd.offset,none⟩)) ⟨b,hb,rfl⟩ fun wr=>?_
     simp[execOp,ho,hv,hrun,Addr.add_lit]
    ·rename_i ob m;obtain⟨ad,hb,hv⟩:=hd;refine QU.of_run h (v:=.pointer (some (ad.add (m+fd.offset)))) ⟨ad,hb,rfl⟩ fun wr=>?_
     simp[execOp,ho,hv,hrun,Xt]
    ·rename_i id ix m;obtain⟨b,hb,h0,hv⟩:=hd;refine QU.of_run h (v:=.pointer (some ⟨b,ix.toNat+(m+fd.offset),none⟩)) ⟨b,hb,h0,rfl⟩ fun wr=>?_
     simp[execOp,ho,hv,hrun,Addr.add_lit,Nat.add_assoc]
    ·rename_i ob;obtain⟨h1,h2⟩:=h;obtain⟨ad,rfl⟩:=Option.isSome_iff_exists.1 (G _ h1);simp only[EV.den] at hd;refine QU.of_run h2 (v:=.pointer (some (ad.add fd.offset))) ⟨ad,rfl,rfl⟩ fun wr=>?_
     simp[execOp,ho,hd,hrun]
    ·exact h.elim
   ·exact h.elim
  ·exact h.elim
 case h_9 t x f ho=>
  split at h
  ·rename_i ag ks fs cs ht hx;have hx':=QF hf hp hx;obtain⟨d,hu,_,htd⟩:=(hT.facts ht).desc;obtain⟨fl,rfl,hfl⟩:=KI htd.symm
   split at h
   ·rename_i off z hfs;obtain⟨fd,i,dd,hfd,hi,hdd,hz,hx⟩:=O6 hfl f _ hfs;simp only[Prod.mk.injEq] at hx;obtain⟨rfl,hag,rfl⟩:=hx;have hfd':fl[f]? = some fd:=by simpa using hfd
    refine QU.of_run h rfl fun wr=>?_
    simp[execOp,ho,hx',Instr.field,run_underlying hu,hfd',asAgg,part,UK hdd,<-hag,ZV hi]
   ·rename_i off z hfs;obtain⟨fd,i,dd,hfd,hi,hdd,hz,hx⟩:=O6 hfl f _ hfs;simp only[Prod.mk.injEq] at hx;obtain⟨rfl,hag,rfl⟩:=hx;have hfd':fl[f]? = some fd:=by simpa using hfd
    split at h
    ·rename_i v hv;refine QU.of_run h rfl fun wr=>?_
     simp[execOp,ho,hx',Instr.field,run_underlying hu,hfd',asAgg,part,UK hdd,<-hag,hv]
    ·exact h.elim
   ·exact h.elim
  ·exact h.elim
 case h_10 t x i ho=>
  split at h
  ·rename_i ag ks e z ob len cap ki ix ht hx hi;have hx':=ZI hf hp hx;simp only[EV.den] at hx';have hi':=QF hf hp hi;obtain⟨d,hu,_,htd⟩:=(hT.facts ht).desc;obtain⟨inf,rfl,hinf,rfl⟩:=OU htd.symm;obtain⟨h1,h2⟩:=h;obtain⟨h3,h4,h5⟩:=G _ h1;obtain⟨ad,rfl⟩:=Option.isSome_iff_exists.1 h5;refine QU.of_run h2 (v:=.pointer (some (ad.add (ix.toNat*inf.size)))) ⟨ad,rfl,rfl⟩ fun wr=>?_
   simp[execOp,ho,hx',hi',Instr.indexAt,asIntOf,run_underlying hu,h3,h4,ZV hinf]
  ·rename_i ag ks e id len ki ix ht hx hi;have hx':=ZI hf hp hx;obtain⟨b,hb,hx'⟩:=hx';have hi':=QF hf hp hi;obtain⟨d,hu,_,htd⟩:=(hT.facts ht).desc;obtain⟨inf,rfl,hinf,hsz⟩:=OU htd.symm;obtain⟨h1,h2⟩:=h;obtain⟨h3,h4⟩:=G _ h1;refine QU.of_run h2 (v:=.pointer (some ⟨b,ix.toNat+0,none⟩)) ⟨b,hb,h3,rfl⟩ fun wr=>?_
   simp[execOp,ho,hx',hi',Instr.indexAt,asIntOf,run_underlying hu,h3,h4,ZV hinf,hsz,Addr.add_lit]
  ·rename_i ag ks n z ea ob m ki ix ht hx hi;have hx':=ZI hf hp hx;obtain⟨ad,hb,hx'⟩:=hx';have hi':=QF hf hp hi;obtain⟨d,hu,_,htd⟩:=(hT.facts ht).desc;obtain⟨e,inf,de,rfl,hinf,rfl,_,_⟩:=D5 htd.symm;obtain⟨h1,h2⟩:=h;obtain⟨h3,h4⟩:=G _ h1;refine QU.of_run h2 (v:=.pointer (some (ad.add (m+ix.toNat*inf.size)))) ⟨ad,hb,rfl⟩ fun wr=>?_
   simp[execOp,ho,hx',hi',Instr.indexAt,Instr.sureAddr,asIntOf,run_underlying hu,h3,h4,ZV hinf,Xt]
  ·rename_i ag ks n ea id ki ix ht hx hi;have hx':=ZI hf hp hx;obtain⟨b,hb,hx'⟩:=hx';have hi':=QF hf hp hi;obtain⟨d,hu,_,htd⟩:=(hT.facts ht).desc;obtain⟨e,inf,de,rfl,hinf,hsz,_,_⟩:=D5 htd.symm;obtain⟨h1,h2⟩:=h;obtain⟨h3,h4⟩:=G _ h1;refine QU.of_run h2 (v:=.pointer (some ⟨b,ix.toNat+0,none⟩)) ⟨b,hb,h3,rfl⟩ fun wr=>?_
   simp[execOp,ho,hx',hi',Instr.indexAt,Instr.sureAddr,asIntOf,run_underlying hu,h3,h4,ZV hinf,hsz,Addr.add_lit]
  ·exact h.elim
 case h_11 t x i ho=>
  split at h
  ·rename_i ag k ks n cs ki ix ht hx hi;have hx':=QF hf hp hx;have hi':=QF hf hp hi;obtain⟨d,hu,_,htd⟩:=(hT.facts ht).desc;obtain⟨e,inf,de,rfl,hinf,hsz,hde,hag⟩:=D5 htd.symm;obtain⟨v,h1,h2⟩:=P6 h;obtain⟨h3,h4,h5⟩:=G _ h1;refine QU.of_run h2 rfl fun wr=>?_
   simp[execOp,ho,hx',hi',Instr.index,asIntOf,run_underlying hu,h3,h4,ZV hinf,hsz,part,UK hde,hag,h5]
  ·rename_i ag ks s ki ix ht hx hi;have hx':=QF hf hp hx;have hi':=QF hf hp hi;obtain⟨d,hu,_,htd⟩:=(hT.facts ht).desc;have:=C9 htd.symm;subst this;obtain⟨h1,h2⟩:=h;obtain⟨h3,h4⟩:=G _ h1;refine QU.of_run h2 rfl fun wr=>?_
   have h5:ix.toNat<s.size:=by omega
   have h6:s[ix.toNat]? = some (s[ix.toNat]):=by simp[h5]
   simp only[execOp,ho,hx',hi',Instr.index,asIntOf,Sem.run_bind,Sem.run_pure,run_underlying hu,Result.andThen_ok,h3,if_true,h6]
   have h7:Jo s ix=(s[ix.toNat].toNat:Int):=by
    unfold Jo
    congr 2
    simp[Array.getD,h5];rfl
   rw[h7]
  ·exact h.elim
 case h_12 sT t x ho=>
  split at h
  ·rename_i ty0 ag ks k k0 n hs ht hx;have hx':=QF hf hp hx;obtain⟨d0,hu0,_,_⟩:=(hT.facts hs).desc;obtain⟨d,hu,_,htd⟩:=(hT.facts ht).desc;have:=zqc htd.symm;subst this;obtain⟨h1,h2⟩:=h;have h3:=(G _ h1).wrap;refine QU.of_run h2 rfl fun wr=>?_
   cases d0 <;> simp[execOp,ho,hx',convert,run_underlying hu0,run_underlying hu,Conv.intToInt,h3]
  ·exact h.elim
 case h_13 x i ho=>
  split at h
  ·rename_i vs hx;have hx':=QF hf hp hx
   split at h
   ·rename_i v hv;exact QU.of_run h rfl fun wr=>by simp[execOp,ho,hx',Instr.extract,hv]
   ·exact h.elim
  ·exact h.elim
 case h_14 t x lo hi ho=>
  split at h
  ·rename_i ag ks e z ob len cap l hh ht hx hl hhi;have hx':=QF hf hp hx;have hl':=KX hf hp hl;have hh':=KX hf hp hhi;obtain⟨d,hu,_,htd⟩:=(hT.facts ht).desc;obtain⟨inf,rfl,hinf,rfl⟩:=OU htd.symm;obtain⟨li,hl1,h⟩:=Ea h;obtain⟨hi',hh1,h1,h2⟩:=Gh h;have hsb:=AW (P:=C.P) (b:=true) (G _ h1) hl1 hh1;exact QU.of_run h2 rfl fun wr=>by simp[execOp,ho,hx',hl',hh',Instr.sliceAt,Instr.slice,run_underlying hu,hsb,ZV hinf]
  ·rename_i ag ks sv l hh ht hx hl hhi;have hx':=QF hf hp hx;have hl':=KX hf hp hl;have hh':=KX hf hp hhi;obtain⟨d,hu,_,htd⟩:=(hT.facts ht).desc;have:=C9 htd.symm;subst this;obtain⟨li,hl1,h⟩:=Ea h;obtain⟨hi',hh1,h1,h2⟩:=Gh h;have hsb:=AW (P:=C.P) (b:=false) (G _ h1) hl1 hh1;exact QU.of_run h2 rfl fun wr=>by simp[execOp,ho,hx',hl',hh',Instr.sliceAt,Instr.slice,run_underlying hu,hsb]
  ·exact h.elim
 case h_15 fn first cap ho=>
  split at h
  ·rename_i va vb hva hvb;have h1:=Xb hf hp hva;have h2:=Xb hf hp hvb;have e1:first.map a.eval=va.toArray:=by rw[<-h1,<-Array.toList_map,Array.toArray_toList]
   have e2:cap.map a.eval=vb.toArray:=by rw[<-h2,<-Array.toList_map,Array.toArray_toList]
   exact QU.of_run h rfl fun wr=>by simp[execOp,ho,Instr.makeFunc,e1,e2]
  ·exact h.elim
 case h_16 t x ho=>
  split at h
  ·rename_i ty v ht hx;have hx':=QF hf hp hx;obtain⟨d,hu,_,htd⟩:=(hT.facts ht).desc
   cases ho':ty.d.isOther with
   | true=>rw[ho'] at h; exact h.elim
   | false=>
    rw[ho'] at h;simp only[cond_false] at h;refine QU.of_run h rfl fun wr=>?_
    cases d with
    | interface ms=>rw[htd] at ho'; simp[KH,TD.isOther] at ho'
    | _=>simp[execOp,ho,hx',Instr.makeInterface,run_underlying hu]
  ·exact h.elim
 case h_17 x t u ok ho=>
  split at h
  ·rename_i v rk hx hrk;have hx':=QF hf hp hx;obtain⟨r,h1,h2⟩:=JH h;exact QU.of_run h2 rfl fun wr=>by simp[execOp,ho,hx',G _ h1 wr]
  ·exact h.elim
 case h_18 t parts ho=>
  split at h
  ·rename_i ag ks fs ht;obtain⟨d,hu,_,htd⟩:=(hT.facts ht).desc;obtain⟨inf,z,hinf,hz,hsz,hks⟩:=(hT.facts ht).info;obtain⟨fl,rfl,hfl⟩:=KI htd.symm
   split at h
   ·rename_i vs hvs hno;have hv:=Xb hf hp hvs
    split at h
    ·rename_i cells hfill;refine QU.of_run h rfl fun wr=>?_
     have hzc:z.cells=(ks.map zv).toArray:=by
      have h0:∀(l:List Va),(l.map OZ).contains .other=false->(l.map OZ).map zv=l:=by
       intro l
       induction l with
       | nil=>intro _; rfl
       | cons x r ih=>
        intro hc;simp only[List.map_cons,List.contains_cons,Bool.or_eq_false_iff] at hc;have hx:OZ x≠.other:=by intro e; rw[e] at hc; simp at hc
        simp only[List.map_cons,ih hc.2,<-zdh hx]
      have h1:=h0 z.cells.toList (by rw[hks]; exact hno);rw[hks] at h1;rw[h1,Array.toArray_toList]
     have hpl:∀(l:List Field) (r:List (Nat×Bool×Nat)),fieldsOf C.P l=some r->
       (l.mapM (fun f=>do pure (f.offset,<-sizeOf f.type)):Sem (List (Nat×Nat))).run C.P wr=.ok (r.map fun f=>(f.1,f.2.2)) wr:=by
      intro l
      induction l with
      | nil=>intro r hr; simp only[fieldsOf,Option.some.injEq] at hr; subst hr; simp
      | cons f l ih=>
       intro r hr;simp only[fieldsOf] at hr
       split at hr
       ·rename_i i d l' hi hd hl'
        split at hr
        ·cases hr
        ·simp only[Option.some.injEq] at hr; subst hr;have ih':=ih l' hl';simp only[List.mapM_cons,Sem.run_bind,ZV hi,Result.andThen_ok,Sem.run_pure,ih',List.map_cons]
       ·cases hr
     have hparts:(parts.map fun (i,x)=>(i,a.eval x)).toList=(parts.toList.map (·.1)).zip vs:=by
      rw[<-hv];generalize hq:parts.toList=q;have:(parts.map fun (i,x)=>(i,a.eval x)).toList=q.map fun (i,x)=>(i,a.eval x):=by rw[<-hq]; simp
      rw[this];clear hq this hvs hfill
      induction q with
      | nil=>rfl
      | cons y q ih=>simp[ih]
     have hfill':Instr.fill (fun i=>((fs.map fun f=>(f.1,f.2.2)).toArray)[i]?) z.cells ((parts.map fun (i,x)=>(i,a.eval x)).toList)=some cells:=by
      rw[hparts,hzc,<-hfill]
      congr 1
      funext i
      simp
     simp only[execOp,ho,Instr.build,Sem.run_bind,zeroValue,J7 hinf,Result.andThen_ok,hz,Sem.run_pure,run_underlying hu,Array.mapM_eq_mapM_toList,Sem.run_map,hpl fl.toList fs hfl,hfill']
    ·exact h.elim
   ·exact h.elim
  ·rename_i ag ks n z0 eb ht;obtain⟨d,hu,_,htd⟩:=(hT.facts ht).desc;obtain⟨inf,z,hinf,hz,hsz,hks⟩:=(hT.facts ht).info;obtain⟨e,inf2,de,rfl,hinf2,hez,_,_⟩:=D5 htd.symm
   split at h
   ·rename_i vs hvs hno;have hv:=Xb hf hp hvs
    split at h
    ·rename_i cells hfill;refine QU.of_run h rfl fun wr=>?_
     have hzc:z.cells=(ks.map zv).toArray:=by
      have h0:∀(l:List Va),(l.map OZ).contains .other=false->(l.map OZ).map zv=l:=by
       intro l
       induction l with
       | nil=>intro _; rfl
       | cons x r ih=>
        intro hc;simp only[List.map_cons,List.contains_cons,Bool.or_eq_false_iff] at hc;have hx:OZ x≠.other:=by intro e; rw[e] at hc; simp at hc
        simp only[List.map_cons,ih hc.2,<-zdh hx]
      have h1:=h0 z.cells.toList (by rw[hks]; exact hno);rw[hks] at h1;rw[h1,Array.toArray_toList]
     have hparts:(parts.map fun (i,x)=>(i,a.eval x)).toList=(parts.toList.map (·.1)).zip vs:=by
      rw[<-hv];generalize hq:parts.toList=q;have:(parts.map fun (i,x)=>(i,a.eval x)).toList=q.map fun (i,x)=>(i,a.eval x):=by rw[<-hq]; simp
      rw[this];clear hq this hvs hfill
      induction q with
      | nil=>rfl
      | cons y q ih=>simp[ih]
     have hfill':Instr.fill (fun i=>some (i*inf2.size,inf2.size)) z.cells ((parts.map fun (i,x)=>(i,a.eval x)).toList)=some cells:=by
      rw[hparts,hzc,<-hfill,hez]
     simp only[execOp,ho,Instr.build,Sem.run_bind,zeroValue,J7 hinf,Result.andThen_ok,hz,Sem.run_pure,run_underlying hu,ZV hinf2,hfill']
    ·exact h.elim
   ·exact h.elim
  ·exact h.elim
 case h_19 t x ho=>
  split at h
  ·rename_i ty ob n ht hx;obtain⟨ad,hb,hx'⟩:=ZI hf hp hx;obtain⟨vs,hlen,h⟩:=Tq h
   split at h
   ·rename_i v hv;obtain⟨h1,h2⟩:=h;refine QU.of_runs (v:=v) h2 rfl h1 fun S' w' hl hfact wr hw=>?_
    have h3:=G _ hfact;have:=T6 hT ht hv hlen (a:=ad.add n) (h3.cells hw.ext hb);simp[execOp,ho,hx',Instr.loadAt,Instr.sureAddr,this]
   ·exact h.elim
  ·rename_i ty ob ht hx;have hx':=ZI hf hp hx;simp only[EV.den] at hx'
   have hk:0<ty.ks.length:=by
    cases hks:ty.ks with
    | nil=>rw[hks] at h; exact h.elim
    | cons=>simp
   have hke:ty.ks.isEmpty=false:=by
    cases hks:ty.ks with
    | nil=>rw[hks] at hk; cases hk
    | cons=>rfl
   rw[hke] at h;obtain⟨vs,hlen,h⟩:=Tq h
   split at h
   ·rename_i v hv;obtain⟨h1,h2⟩:=h;refine QU.of_runs (v:=v) h2 rfl h1 fun S' w' hl hfact wr hw=>?_
    have h3:=G _ hfact;obtain⟨u,hu⟩:=ztv hv hlen hk h3;obtain⟨ad,hb,_,_⟩:=hu;have:=T6 hT ht hv hlen (a:=ad.add 0) (h3.cells hw.ext hb);rw[Addr.add_zero'] at this;simp[execOp,ho,hx',hb,Instr.loadAt,Instr.sureAddr,this]
   ·exact h.elim
  ·rename_i ty id off ht hx;obtain⟨b,hb,hx'⟩:=ZI hf hp hx
   split at h
   ·rename_i t' cs hL
    split at h
    ·rename_i v hv
     cases hl:Nat.beq ((cs.drop off).take ty.ks.length).length ty.ks.length with
     | false=>rw[hl] at hv; cases hv
     | true=>
      rw[hl] at hv;simp only[cond_true] at hv;refine QU.of_runs (v:=v) h rfl hL fun S' w' hloc hfact wr hw=>?_
      have:=T6 hT ht hv (Nat.eq_of_beq_eq_true hl) (a:=⟨b,off,none⟩) (w:=wr) (fun j y hy=>by
       rw[Addr.add_lit,Kr hw hfact (hloc _ _ hb)];have:=List.getElem?_take (l:=cs.drop off) (i:=ty.ks.length) (j:=j);rw[hy] at this
       split at this
       ·rw[List.getElem?_drop] at this; exact this.symm
       ·cases this)
      simp[execOp,ho,hx',Instr.loadAt,Instr.sureAddr,this]
    ·exact h.elim
   ·exact h.elim
  ·rename_i k td id i m ht hx;obtain⟨b,hb,h0,hx'⟩:=ZI hf hp hx
   split at h
   ·rename_i t' cs hL;obtain⟨v,h1,h2⟩:=P6 h;obtain⟨_,h4⟩:=G _ h1;refine QU.of_runs (v:=v) h2 rfl hL fun S' w' hloc hfact wr hw=>?_
    have:=T6 hT ht (vs:=[v]) (v:=v) rfl rfl (a:=⟨b,i.toNat+m,none⟩) (w:=wr) (fun j y hy=>by
     cases j with
     | zero=>simp at hy; subst hy; rw[Addr.add_zero',Kr hw hfact (hloc _ _ hb)]; exact h4
     | succ j=>simp at hy)
    simp[execOp,ho,hx',Instr.loadAt,Instr.sureAddr,this]
   ·exact h.elim
  ·exact h.elim
 case h_20 b args ts ho=>
  split at h
  ·rename_i x t hargs hts;have ea:args=#[x]:=by rw[<-Array.toArray_toList (xs:=args),hargs]
   have et:ts=#[t]:=by rw[<-Array.toArray_toList (xs:=ts),hts]
   subst ea; subst et
   split at h
   ·rename_i ag ks e z o n c ht hx;have hx':=QF hf hp hx;obtain⟨d,hu,_,htd⟩:=(hT.facts ht).desc;obtain⟨inf,rfl,hinf,_⟩:=OU htd.symm;exact QU.of_run h rfl fun wr=>by simp[execOp,ho,resolve,invoke,builtin,Builtin.len_,run_underlying hu,hx',goInt]
   ·rename_i ag ks sv ht hx;have hx':=QF hf hp hx;obtain⟨d,hu,_,htd⟩:=(hT.facts ht).desc;have:=C9 htd.symm;subst this;exact QU.of_run h rfl fun wr=>by simp[execOp,ho,resolve,invoke,builtin,Builtin.len_,run_underlying hu,hx',goInt]
   ·exact h.elim
  ·rename_i x y hargs;have ea:args=#[x,y]:=by rw[<-Array.toArray_toList (xs:=args),hargs]
   subst ea
   split at h
   ·rename_i k u k' v hx hy;have hx':=QF hf hp hx;have hy':=QF hf hp hy;exact QU.of_run h rfl fun wr=>by simp[execOp,ho,resolve,invoke,builtin,Builtin.min_,Builtin.min2,hx',hy']
   ·exact h.elim
  ·rename_i x y hargs;have ea:args=#[x,y]:=by rw[<-Array.toArray_toList (xs:=args),hargs]
   subst ea
   split at h
   ·rename_i k u k' v hx hy;have hx':=QF hf hp hx;have hy':=QF hf hp hy;exact QU.of_run h rfl fun wr=>by simp[execOp,ho,resolve,invoke,builtin,Builtin.max_,Builtin.max2,hx',hy']
   ·exact h.elim
  ·exact h.elim
 case h_21 f args ts ho=>
  split at h
  ·rename_i rks vs hpf hvs;have hv:=Xb hf hp hvs;obtain⟨r,h1,h2⟩:=JH h;refine⟨.v r,_,r,h2,rfl,h1,fun S' w' a' he hloc hfact wr hw=>?_⟩;unfold Oper.quietAt;rw[he,zgy (hcall f rks hpf) args ts a ho];refine⟨rfl,?_⟩;have ea:args.map a.eval=vs.toArray:=by rw[<-hv,<-Array.toList_map,Array.toArray_toList]
   rw[ea]
   have hpure:Q4 S'.bs C.P f vs.toArray wr r:=by
    unfold Ny at hfact
    split at hfact
    ·exact(G _ hfact).ext hw.ext
    ·exact(XJ.out hw (G _ hfact wr hw.ext))
   exact(hpure wr (Q0.refl _ _)).mono fun e w'' ⟨h1,h2⟩=>⟨h1,hw.step h2⟩
  ·exact h.elim
 case h_22=>exact h.elim
structure Pj (n:Nat) (S:St) (ops:Array Oper) (D:Nat->Prop) (a:Act):Prop where
 fit:F3 n S ops a
 dn:∀(i:Nat) (pc:List (Nat×Bool)) (x:EV),S.F.get i=some (.gd S.r pc x)->∀p∈pc,D p.1
 st:∀(i r:Nat) (pc:List (Nat×Bool)) (x:EV),S.F.get i=some (.gd r pc x)->r<=S.r
def Ej:List Oper->Nat->Nat->Nat->Bool
 | [],_,_,_=>true
 | o::r,d,j,k=>(match o.dst with
  | some d'=>bif Nat.beq d' d then Nat.beq k j else true
  | none=>true)&&Ej r d j (k+1)
theorem EZ:∀{l:List Oper} {d j k:Nat},Ej l d j k=true->∀(i:Nat) (o:Oper),l[i]? = some o->o.dst=some d->k+i=j
 | [],_,_,_,_,i,o,h,_=>by simp at h
 | o::r,d,j,k,h,i,o',h1,h2=>by
  simp only[Ej,Bool.and_eq_true] at h
  cases i with
  | zero=>
   simp only[List.getElem?_cons_zero,Option.some.injEq] at h1;subst h1;rw[h2] at h;simp only[Nat.beq_refl,cond_true] at h;exact Nat.eq_of_beq_eq_true h.1
  | succ i=>
   have:=EZ h.2 i o' (by simpa using h1) h2;omega
def zna(ops:Array Oper)(j:Nat):Prop:=∃o∈ops.toList,∃b,o.guard=some (j,b)
def zhe(ops:List Oper):List Oper->Option Nat->Bool
 | [],_=>true
 | o::r,last=>match o.guard with
  | none=>zhe ops r last
  | some (j,_)=>(match last with
    | some j'=>bif Nat.beq j' j then true else (match (ops[j]?).bind (·.dst) with | some d=>Ej ops d j 0 | none=>true)
    | none=>(match (ops[j]?).bind (·.dst) with | some d=>Ej ops d j 0 | none=>true))&&zhe ops r (some j)
def D8(ops:Array Oper):Bool:=zhe ops.toList ops.toList none
def zni(ops:List Oper)(j:Nat):Prop:=∀d,(ops[j]?).bind (·.dst)=some d->∀(i:Nat) (o:Oper),ops[i]? = some o->o.dst=some d->i=j
theorem GJ{ops:List Oper}:∀{l:List Oper} {last:Option Nat},zhe ops l last=true->(∀j,last=some j->zni ops j)->∀o∈l,∀j b,o.guard=some (j,b)->zni ops j
 | [],_,_,_,o,ho,_,_,_=>by cases ho
 | o::r,last,h,hlast,o',ho,j,b,hg=>by
  simp only[zhe] at h
  split at h
  ·rename_i hn;rcases List.mem_cons.1 ho with rfl | ho
   ·rw[hn] at hg; cases hg
   ·exact GJ h hlast o' ho j b hg
  ·rename_i j' b' hs;simp only[Bool.and_eq_true] at h
   have hu:zni ops j':=by
    have h1:=h.1
    have base:(match (ops[j']?).bind (·.dst) with | some d=>Ej ops d j' 0 | none=>true)=true->zni ops j':=fun hb d hd i o hi hod=>by
     rw[hd] at hb;have:=EZ hb i o hi hod;omega
    split at h1
    ·rename_i j''
     cases hb:Nat.beq j'' j' with
     | true=>exact Nat.eq_of_beq_eq_true hb▸hlast j'' rfl
     | false=>rw[hb] at h1; exact base h1
    ·exact base h1
   rcases List.mem_cons.1 ho with rfl | ho
   ·rw[hs] at hg; cases hg; exact hu
   ·exact GJ h.2 (fun j'' hj=>by cases hj; exact hu) o' ho j b hg
theorem zjh{ops:Array Oper}(h:D8 ops=true){j:Nat}(hj:zna ops j):zni ops.toList j:=by
 obtain⟨o,ho,b,hg⟩:=hj;exact GJ h (fun j hj=>by cases hj) o ho j b hg
def zba(S:St)(pc:List (Nat×Bool))(e:EV):SV:=
 match pc with
 | []=>.un e
 | pc=>.gd S.r pc e
def GA(C:VI)(S:St)(d:Option Tmp)(sv:SV)(K:St->Prop):Prop:=
 match d with
 | none=>K S
 | some d=>bif Nat.blt d C.n&&Nat.blt d 4000 then K { S with F:=PT.set 12 S.F d sv } else False
def St.putF(S:St)(d:Option Tmp)(sv:SV):St:=
 match d with
 | none=>S
 | some d=>{ S with F:=PT.set 12 S.F d sv }
theorem Ya{C:VI}{S:St}{d:Option Tmp}{sv:SV}{K:St->Prop}(h:GA C S d sv K):K (S.putF d sv)/\∀x,d=some x->x<C.n/\x<4000:=by
 cases d with
 | none=>exact⟨h,fun x hx=>by cases hx⟩
 | some d=>
  simp only[GA] at h
  cases hb:(Nat.blt d C.n&&Nat.blt d 4000) with
  | false=>rw[hb] at h; exact h.elim
  | true=>
   rw[hb] at h;simp only[Bool.and_eq_true] at hb;exact⟨h,fun x hx=>by cases hx; exact⟨Nat.le_of_ble_eq_true hb.1,Nat.le_of_ble_eq_true hb.2⟩⟩
theorem zoh{a:Act}{d:Option Tmp}{v:Va}(t:Nat)(h:∀x,d=some x->x<a.tmps.size):(a.put d v).tmps.getD t undef=if d=some t then v else a.tmps.getD t undef:=by
 cases d with
 | none=>simp[Act.put]
 | some d=>
  have hd:=h d rfl;simp only[Act.put,Array.getD_eq_getD_getElem?]
  by_cases hdt:d=t
  ·subst hdt; simp[hd]
  ·have:¬(some d=some t):=by simpa using hdt
   rw[if_neg this,Array.getElem?_setIfInBounds_ne hdt]
theorem zpy{a:Act}{d:Option Tmp}{v:Va}:(a.put d v).tmps.size=a.tmps.size:=by
 cases d <;> simp[Act.put]
theorem zhk{ops:Array Oper}{a:Act}{d:Option Tmp}{v:Va}{j:Nat}(h:∀x,d=some x->(ops[j]?).bind (·.dst)≠some x):yielded ops (a.put d v).tmps j=yielded ops a.tmps j:=by
 cases d with
 | none=>rfl
 | some d=>
  unfold yielded;simp only[Act.put]
  cases hj:(ops[j]?).bind (·.dst) with
  | none=>rfl
  | some x=>
   have hne:d≠x:=fun e=>h d rfl (by rw[hj,e])
   simp only[Option.bind_some];rw[Array.getElem?_setIfInBounds_ne hne]
theorem EV.den_putF{S:St}{d:Option Tmp}{sv:SV}{e:EV}{u:Va}:EV.den (S.putF d sv) e u↔EV.den S e u:=by
 cases d <;> cases e <;> exact Iff.rfl
theorem Pj.put{n:Nat}{S:St}{ops:Array Oper}{D D':Nat->Prop}{a:Act}(hf:Pj n S ops D a){i:Nat}{o:Oper}{pc:List (Nat×Bool)}{e:EV}{v:Va}(hu:D8 ops=true)(ho:ops[i]? = some o)(hi:¬D i)(hD:∀j,D j->zna ops j)(hDD:∀j,D j->D' j)(hpc:∀p∈pc,D p.1)(hd:∀x,o.dst=some x->x<n/\x<4000)(hv:(Gy ops a pc->EV.den S e v)/\(¬Gy ops a pc->v=undef)):Pj n (S.putF o.dst (zba S pc e)) ops D' (a.put o.dst v):=by
 have hyk:∀j,D j->yielded ops (a.put o.dst v).tmps j=yielded ops a.tmps j:=fun j hj=>zhk fun x hx hjx=>by
  have:=zjh hu (hD j hj) x (by simpa using hjx) i o (by simpa using ho) hx;subst this; exact hi hj
 have hpk:∀pc',(∀p∈pc',D p.1)->(Gy ops (a.put o.dst v) pc'↔Gy ops a pc'):=fun pc' h'=>by
  unfold Gy;constructor
  ·intro h p hp; rw[<-hyk p.1 (h' p hp)]; exact h p hp
  ·intro h p hp; rw[hyk p.1 (h' p hp)]; exact h p hp
 have hsz:∀x,o.dst=some x->x<a.tmps.size:=fun x hx=>by rw[hf.fit.size]; exact(hd x hx).1
 have hr:(S.putF o.dst (zba S pc e)).r=S.r:=by cases o.dst <;> rfl
 have hget:∀t,(S.putF o.dst (zba S pc e)).F.get t=if o.dst=some t then some (zba S pc e) else S.F.get t:=fun t=>by
  cases hdd:o.dst with
  | none=>simp[St.putF]
  | some d=>
   simp only[St.putF];rw[PT.get_set _ 12 S.F d t (by have h1 : @LT.lt Nat _ d 4000:=(hd d hdd).2; show @LT.lt Nat _ (d+1) (2 ^ 12); omega)];simp
 refine⟨⟨by rw[zpy]; exact hf.fit.size,fun t s hs=>?_⟩,fun t pc' x hx p hp=>?_,fun t r pc' x hx=>?_⟩
 ·rw[zoh t hsz];rw[hget t] at hs
  by_cases hdt:o.dst=some t
  ·rw[if_pos hdt] at hs ⊢;simp only[Option.some.injEq] at hs;subst hs;unfold zba;split
   ·show EV.den _ e v;rw[EV.den_putF];exact hv.1 (fun p hp=>by cases hp)
   ·intro _;rw[EV.den_putF,hpk pc hpc];exact hv
  ·rw[if_neg hdt] at hs ⊢;have h1:=hf.fit.fits t s hs
   cases s with
   | un x=>
    show EV.den _ x _;rw[EV.den_putF];exact h1
   | gd r pc' x=>
    intro hrr;rw[hr] at hrr;subst hrr;rw[EV.den_putF,hpk pc' (hf.dn t pc' x hs)];exact h1 rfl
 ·rw[hget t] at hx;rw[hr] at hx
  by_cases hdt:o.dst=some t
  ·rw[if_pos hdt] at hx;simp only[Option.some.injEq] at hx;unfold zba at hx
   split at hx
   ·cases hx
   ·simp only[SV.gd.injEq] at hx;obtain⟨_,rfl,_⟩:=hx;exact hDD _ (hpc p hp)
  ·rw[if_neg hdt] at hx;exact hDD _ (hf.dn t pc' x hx p hp)
 ·rw[hget t] at hx;rw[hr]
  by_cases hdt:o.dst=some t
  ·rw[if_pos hdt] at hx;simp only[Option.some.injEq] at hx;unfold zba at hx
   split at hx
   ·cases hx
   ·simp only[SV.gd.injEq] at hx;exact Nat.le_of_eq hx.1.symm
  ·rw[if_neg hdt] at hx;exact hf.st t r pc' x hx
def stoL(w:Wo)(a:Addr):Nat->List Va->Wo
 | _,[]=>w
 | n,v::r=>stoL (w.setCell (a.add n) v) a (n+1) r
def sto(w:Wo)(o:OA)(n:Nat)(vs:List Va):Wo:=
 match o with
 | some a=>stoL w a n vs
 | none=>w
def YX(bs:List Nat)(w:Wo)(o:OA)(n k:Nat):Prop:=
 ∃a,o=some a/\a.block∉bs/\∀j,n<=j->j<n+k->(∃u,w.cell? (a.add j)=some u)/\w.frozen? (a.add j)=false
def Z7:List Va->Bool
 | []=>true
 | .agg _::_=>false
 | .tuple _::_=>false
 | _::r=>Z7 r
theorem J6:∀{l:List Va},Z7 l=true->∀v∈l,v.oneCell'=true
 | [],_,v,hv=>by cases hv
 | x::r,h,v,hv=>by
  cases x <;> simp only[Z7] at h <;> first
   | (cases h; done)
   | (rcases List.mem_cons.1 hv with rfl | hv
      ·rfl
      ·exact J6 h v hv)
theorem Of:∀(vs:List Va) (w:Wo) (a:Addr) (n:Nat),(stoL w a n vs).heap.size=w.heap.size
 | [],_,_,_=>rfl
 | v::r,w,a,n=>by simp only[stoL]; rw[Of r]; simp
theorem Td:∀(vs:List Va) (w:Wo) (a:Addr) (n k:Nat),k≠a.block->(stoL w a n vs).heap[k]? = w.heap[k]?
 | [],_,_,_,_,_=>rfl
 | v::r,w,a,n,k,h=>by
  simp only[stoL];rw[Td r _ a (n+1) k h,Below.heap_setCell _ _ _ _ (by rw[Zl]; exact h)]
theorem L6:∀(vs:List Va) (w:Wo) (a:Addr) (n:Nat),(stoL w a n vs).os=w.os/\(stoL w a n vs).tape=w.tape/\(stoL w a n vs).output=w.output
 | [],_,_,_=>⟨rfl,rfl,rfl⟩
 | v::r,w,a,n=>by
  simp only[stoL];obtain⟨h1,h2,h3⟩:=L6 r (w.setCell (a.add n) v) a (n+1);exact⟨h1,h2,h3⟩
theorem zci:∀(vs:List Va) (w w':Wo) (a:Addr) (n:Nat),w.heap[a.block]? = w'.heap[a.block]?->(stoL w a n vs).heap[a.block]? = (stoL w' a n vs).heap[a.block]?
 | [],_,_,_,_,h=>h
 | v::r,w,w',a,n,h=>by
  simp only[stoL];refine zci r _ _ a (n+1) ?_;simp only[World.setCell,Array.getElem?_modify,Zl,if_true,h]
theorem frozen?_of_block {w w':Wo} {p:Addr} (h:w'.heap[p.block]? = w.heap[p.block]?):w'.frozen? p=w.frozen? p:=by
 unfold World.frozen?; rw[h]
theorem Uq{P:Program}:∀(vs:List Va) (w:Wo) (a:Addr) (n:Nat),(∀v∈vs,v.oneCell'=true)->
  (∀j,n<=j->j<n+vs.length->(∃u,w.cell? (a.add j)=some u)/\w.frozen? (a.add j)=false)->(storeCells a vs n).run P w=.ok () (stoL w a n vs)
 | [],_,_,_,_,_=>rfl
 | v::r,w,a,n,h1,h2=>by
  obtain⟨⟨u,hu⟩,hfz⟩:=h2 n (Nat.le_refl _) (by simp);have hs:=run_store P w (a.add n) v .plain (h1 v (List.mem_cons_self ..));rw[hu] at hs;simp only[hfz] at hs;simp only[storeCells,Sem.run_bind];rw[hs];simp only[Bool.false_eq_true,if_false,Result.andThen_ok];rw[Uq r _ a (n+1) (fun x hx=>h1 x (List.mem_cons_of_mem _ hx)) fun j hj1 hj2=>?_]
  ·rfl
  ·obtain⟨⟨u',hu'⟩,hfz'⟩:=h2 j (by omega) (by simp at hj2 ⊢; omega);refine⟨?_,by rw[World.frozen?_setCell]; exact hfz'⟩
   by_cases he:a.add n=a.add j
   ·rw[he]; exact⟨v,World.cell?_setCell_same _ _ _ hu'⟩
   ·exact⟨u',by rw[World.cell?_setCell_other _ _ _ _ he]; exact hu'⟩
end Go.Proofs.YtnclplgaicdapaaGreatDoor
