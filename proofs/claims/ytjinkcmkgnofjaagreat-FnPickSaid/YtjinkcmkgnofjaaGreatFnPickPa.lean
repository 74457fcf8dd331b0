/- Part 1 of what the law FnPick needs. -/
import Derived.WalkKit
import Derived.Deep.Quiet
set_option linter.all false
set_option maxRecDepth 100000
set_option maxHeartbeats 8000000
namespace Go.Proofs.YtjinkcmkgnofjaaGreat
open Go.RowKit
abbrev I (x:Int):Value:=.int .i64 x
abbrev S:=Value.slice
abbrev OA:=Option Addr
abbrev RT:=Value->World->Prop
abbrev Wo:=World
abbrev Va:=Value
theorem Ot{p:Prop}[Decidable p](h:decide p=true):p:=of_decide_eq_true h
theorem Ou{p:Prop}[Decidable p](h:decide p=false):¬p:=of_decide_eq_false h
theorem Qo{p:Prop}(h:p:=by omega):p:=h
theorem Qd{p:Prop}(h:p:=by decide):p:=h
theorem Qs{p:Prop}(h:p:=by simp):p:=h
theorem Qk{p:Prop}(h:p:=by kernel_rfl):p:=h
abbrev A':=@Bool.and_eq_true
abbrev E':=@if_neg
abbrev H':=@if_pos
abbrev I0:=@List.length_set
abbrev I1:=@Bool.or_eq_false_iff
abbrev I2:=@Option.some.injEq
abbrev I3:=@List.mem_cons_of_mem
abbrev I4:=@Int.le_refl
abbrev I5:=@Calls.mono
abbrev I6:=@List.cons.injEq
abbrev I7:=@Value.int.injEq
abbrev I8:=@Bool.not_eq_false'
abbrev I9:=@Nat.le_refl
abbrev Ia:=@List.getElem?_eq_some_iff
abbrev Ib:=@List.mem_cons_self
abbrev Ic:=@List.mem_append_left
abbrev Ie:=@Nat.eq_of_beq_eq_true
abbrev Ig:=@Nat.zero_le
abbrev Ih:=@List.getElem?_cons_zero
abbrev Ii:=@Int.toNat_natCast
abbrev Ij:=@decide_eq_true
abbrev Ik:=@List.mem_cons
abbrev Il:=@decide_eq_true_eq
abbrev Im:=@Nat.le_of_ble_eq_true
abbrev Io:=@List.getElem?_eq_getElem
abbrev Ip:=@List.mem_append
abbrev Iq:=@List.length_append
abbrev Ir:=@List.getElem?_append_left
abbrev Is:=@Decidable.byContradiction
abbrev It:=@absurd
abbrev Iu:=@beq_iff_eq
abbrev Iv:=@bne_iff_ne
abbrev Iw:=@Bool.or_eq_true
abbrev Iy:=@Value.slice.injEq
abbrev Iz:=@List.mem_append_right
abbrev IA:=@eq_of_beq
abbrev IB:=@List.mem_singleton
abbrev IC:=@Nat.le_trans
abbrev ID:=@Bool.not_eq_true'
inductive PT (α:Type) where
 |leaf
 |node (l:PT α) (v:Option α) (r:PT α)
def PT.get{α:Type}:PT α->Nat->Option α
 |.leaf,_=>none
 |.node l v r,i=>bif Nat.beq i 0 then v else bif Nat.beq (i % 2) 1 then l.get (i / 2) else r.get (i / 2-1)
def PT.lt{α:Type}:PT α->PT α
 |.leaf=>.leaf
 |.node l _ _=>l
def PT.rt{α:Type}:PT α->PT α
 |.leaf=>.leaf
 |.node _ _ r=>r
def PT.vl{α:Type}:PT α->Option α
 |.leaf=>none
 |.node _ v _=>v
def PT.set{α:Type}:Nat->PT α->Nat->α->PT α
 |0,t,_,_=>t
 |d+1,t,i,x=>
  bif Nat.beq i 0 then .node t.lt (some x) t.rt
  else bif Nat.beq (i % 2) 1 then .node (PT.set d t.lt (i / 2) x) t.vl t.rt
  else .node t.lt t.vl (PT.set d t.rt (i / 2-1) x)
def Gq{a b:Nat}(h:a≠b):Nat.beq a b=false:=by
 cases hb:Nat.beq a b with
 |false=>rfl
 |true=>exact It (Ie hb) h
def zd1{a b:Nat}(h:a=b):Nat.beq a b:=by subst h;exact Nat.beq_refl a
def PT.BV6{α:Type}(t:PT α)(i:Nat) :
  t.get i=bif Nat.beq i 0 then t.vl else bif Nat.beq (i % 2) 1 then t.lt.get (i / 2) else t.rt.get (i / 2-1):=by
 cases t with
 |leaf=>simp[PT.get,PT.vl,PT.lt,PT.rt]
 |node l v r=>simp[PT.get,PT.vl,PT.lt,PT.rt]
def PT.mS{α:Type}(x:α):∀(d:Nat) (t:PT α) (i j:Nat),i+1<2 ^ d->(PT.set d t i x).get j=if i=j then some x else t.get j
 |0,_,i,_,h=>by simp at h
 |d+1,t,i,j,h=>by
  have hp:2 ^ (d+1)=2*2 ^ d:=by rw[Nat.pow_succ];omega
  rw[PT.BV6 t j];unfold PT.set
  by_cases hi:i=0
  ·subst hi
   by_cases hj:j=0
   ·subst hj;simp[PT.get]
   ·have:¬(0=j):=Qo;simp[PT.get,Gq hj,this]
  ·have e1:Nat.beq i 0=false:=Gq hi;rw[e1]
   by_cases ho:i % 2=1
   ·have e2:Nat.beq (i % 2) 1:=zd1 ho;rw[e2];simp only[cond_true,cond_false]
    by_cases hj:j=0
    ·subst hj;simp[PT.get,hi]
    ·have e3:Nat.beq j 0=false:=Gq hj;simp only[PT.get,e3,cond_false]
     by_cases hoj:j % 2=1
     ·have e4:Nat.beq (j % 2) 1:=zd1 hoj;rw[e4];simp only[cond_true];rw[PT.mS x d t.lt (i / 2) (j / 2) Qo]
      by_cases hij:i=j
      ·subst hij;simp
      ·rw[E' hij,E' Qo]
     ·have e4:Nat.beq (j % 2) 1=false:=Gq hoj;rw[e4];simp only[cond_false];rw[E' (by rintro rfl;exact hoj ho)]
   ·have e2:Nat.beq (i % 2) 1=false:=Gq ho;rw[e2];simp only[cond_false]
    by_cases hj:j=0
    ·subst hj;simp[PT.get,hi]
    ·have e3:Nat.beq j 0=false:=Gq hj;simp only[PT.get,e3,cond_false]
     by_cases hoj:j % 2=1
     ·have e4:Nat.beq (j % 2) 1:=zd1 hoj;rw[e4];simp only[cond_true];rw[E' (by rintro rfl;exact ho hoj)]
     ·have e4:Nat.beq (j % 2) 1=false:=Gq hoj;rw[e4];simp only[cond_false];rw[PT.mS x d t.rt (i / 2-1) (j / 2-1) Qo]
      by_cases hij:i=j
      ·subst hij;simp
      ·rw[E' hij,E' Qo]
inductive EV where
 |v (x:Va)
 |loc (id off:Nat)
 |el (o:OA) (n:Nat)
 |ls (id len:Nat)
 |le (id:Nat) (i:Int) (k:Nat)
 |no
 |kb (x:Bool)
inductive SV where
 |un (x:EV)
 |gd (r:Nat) (pc:List (Nat×Bool)) (x:EV)
structure St where
 F:PT SV
 L:List (TypeId×List Va)
 B:List Nat
 old:Nat
 lk:List Nat
 r:Nat
structure Q0 (bs:List Nat) (w w':Wo):Prop where
 os:w'.os=w.os
 tape:w'.tape=w.tape
 output:w'.output=w.output
 size:w.heap.size<=w'.heap.size
 block:∀k,k<w.heap.size->k∉bs->w'.heap[k]? = w.heap[k]?
def Q0.refl(bs:List Nat)(w:Wo):Q0 bs w w:=⟨rfl,rfl,rfl,I9 _,λ_ _ _=>rfl⟩
def Q0.trans{bs:List Nat}{a b c:Wo}(h:Q0 bs a b)(k:Q0 bs b c):Q0 bs a c:=
 ⟨k.os.trans h.os,k.tape.trans h.tape,k.output.trans h.output,IC h.size k.size,λi hi hb=>(k.block i (Nat.lt_of_lt_of_le hi h.size) hb).trans (h.block i hi hb)⟩
def Q0.mono{bs cs:List Nat}{a b:Wo}(h:Q0 bs a b)(hs:∀x∈bs,x∈cs):Q0 cs a b:=
 ⟨h.os,h.tape,h.output,h.size,λi hi hb=>h.block i hi (λhx=>hb (hs i hx))⟩
def Q0.of_nil{bs:List Nat}{a b:Wo}(h:Q0 [] a b):Q0 bs a b:=h.mono Qs
def Q0.drew{bs:List Nat}{a b:Wo}(h:Q0 bs a b):Q0 bs a b.drew:=⟨h.os,h.tape,h.output,h.size,h.block⟩
def Q0.drawn{bs:List Nat}{a b:Wo}(h:Q0 bs a b)(n:Nat):Q0 bs a { b with drawn:=n }:=⟨h.os,h.tape,h.output,h.size,h.block⟩
def Q0.alloc{bs:List Nat}{a b:Wo}(h:Q0 bs a b)(o:Obj):Q0 bs a (b.alloc o):=
 ⟨h.os,h.tape,h.output,by have:=h.size;simp;omega,λi hi hb=>(Below.heap_alloc b o i (Nat.lt_of_lt_of_le hi h.size)).trans (h.block i hi hb)⟩
def Q0.setCell{bs:List Nat}{a b:Wo}(h:Q0 bs a b){p:Addr}(hp:a.heap.size<=p.block\/p.block∈bs)(u:Va):Q0 bs a (b.setCell p u):=
 ⟨h.os,h.tape,h.output,by have:=h.size;simp;omega,λi hi hb=>(Below.heap_setCell b p u i (by
  rintro rfl;rcases hp with hp|hp
  ·omega
  ·exact hb hp)).trans (h.block i hi hb)⟩
def Q0.below{a b:Wo}(h:Q0 [] a b):Below a.heap.size a b:=⟨h.os,h.tape,h.output,h.size,λk hk=>h.block k hk Qs⟩
def V0(bs:List Nat)(w:Wo)(o:OA)(n:Nat)(v:Va):Prop:=∃a,o=some a/\a.block∉bs/\w.cell? (a.add n)=some v
def Q2(bs:List Nat)(w:Wo)(o:OA):Nat->List Va->Prop
 |_,[]=>True
 |n,[v]=>V0 bs w o n v
 |n,v::r=>V0 bs w o n v/\Q2 bs w o (n+1) r
def Zv(a:Addr)(n:Nat):(a.add n).block=a.block:=by unfold Addr.add;split <;> rfl
def JE(a:Addr)(i j:Nat):(a.add i).add j=a.add (i+j):=by
 unfold Addr.add
 by_cases hi:i=0 <;> by_cases hj:j=0 <;> simp[hi,hj,Nat.add_assoc]
def V0.ext{bs:List Nat}{w w':Wo}{o:OA}{n:Nat}{v:Va}(h:V0 bs w o n v)(hx:Q0 bs w w'):V0 bs w' o n v:=by
 obtain⟨a,ho,hb,hc⟩:=h;refine⟨a,ho,hb,?_⟩;have IX:=World.block_lt_of_cell? w _ hc;rw[Zv] at IX;rw[<-hc];exact World.cell?_of_block (w:=w) (hx.block _ (by rw[Zv];exact IX) (by rw[Zv];exact hb))
def V0.less{bs cs:List Nat}{w:Wo}{o:OA}{n:Nat}{v:Va}(h:V0 bs w o n v)(hs:∀x∈cs,x∈bs):V0 cs w o n v:=by
 obtain⟨a,ho,hb,hc⟩:=h;exact⟨a,ho,λhx=>hb (hs _ hx),hc⟩
def Q2.get{bs:List Nat}{w:Wo}{o:OA}:∀{n:Nat} {vs:List Va},Q2 bs w o n vs->∀(j:Nat) (v:Va),vs[j]? = some v->V0 bs w o (n+j) v
 |_,[],_,_,_,hj=>by simp at hj
 |n,[u],h,j,v,hj=>by
  cases j with
  |zero=>simp at hj;subst hj;exact h
  |succ j=>simp at hj
 |n,u::u'::r,h,j,v,hj=>by
  cases j with
  |zero=>simp at hj;subst hj;exact h.1
  |succ j=>
   have:=Q2.get h.2 j v (by simpa using hj)
   rwa[Nat.add_assoc,Nat.add_comm 1 j] at this
def Q3(bs:List Nat)(P:Program)(f:FuncId)(args:Array Va)(w:Wo)(v:Va):Prop:=
 ∀wr,Q0 bs w wr->Calls P f args wr λe w'=>e=.returned v/\Q0 [] wr w'
abbrev AX (bs B:List Nat) (w:Wo) (p:Wo->Prop):Prop:=∀wr,Q0 bs w wr->(∀bq∈B,bq<wr.heap.size)->p wr
abbrev AY (bs:List Nat) (w:Wo) (p:Wo->Prop):Prop:=∀wr,Q0 bs w wr->(∀bq∈bs,bq<wr.heap.size)->p wr
abbrev AR (bs:List Nat) (w:Wo) (R:Va->Wo->Prop) (v:Va):Prop:=∀wr,Q0 bs w wr->R v wr
def Q3.ext{bs:List Nat}{P:Program}{f:FuncId}{args:Array Va}{w w':Wo}{v:Va}(h:Q3 bs P f args w v)(hx:Q0 bs w w'):Q3 bs P f args w' v:=
 λwr h'=>h wr (hx.trans h')
inductive CK where
 |int (k:IntKind)|bool|str|slice|ptr|fn|iface|map|other
 deriving DecidableEq
inductive TD where
 |slice (e:TypeId) (esz:Nat)
 |struct (fs:List (Nat×Bool×Nat))
 |arr (n esz:Nat) (C61:Bool)
 |str
 |int (k:IntKind)
 |bool
 |ptr
 |other
 deriving DecidableEq
structure Ty where
 agg:Bool
 ks:List CK
 d:TD
 deriving DecidableEq
def Pb:Va->CK
 |.int k n=>if n=0 then .int k else .other
 |.bool b=>if b=false then .bool else .other
 |.string s=>if s.size=0 then .str else .other
 |.slice o l c=>if o=none/\l=0/\c=0 then .slice else .other
 |.pointer o=>if o=none then .ptr else .other
 |.nilFunc=>.fn
 |.nilIface=>.iface
 |.map o=>if o=none then .map else .other
 |_=>.other
def zv:CK->Va
 |.int k=>.int k 0
 |.bool=>.bool false
 |.str=>.string ByteArray.empty
 |.slice=>.slice none 0 0
 |.ptr=>.pointer none
 |.fn=>.nilFunc
 |.iface=>.nilIface
 |.map=>.map none
 |.other=>.nilFunc
def zd7{v:Va}(h:Pb v≠.other):v=zv (Pb v):=by
 cases v with
 |int k n=>by_cases hc:n=0 <;> simp_all [Pb,zv]
 |bool b=>by_cases hc:b=false <;> simp_all [Pb,zv]
 |string s=>
  by_cases hc:s.size=0
  ·have:s=ByteArray.empty:=ByteArray.size_eq_zero_iff.1 hc;subst this;simp[Pb,zv]
  ·simp[Pb,hc] at h
 |slice o l c=>
  by_cases hc:o=none/\l=0/\c=0
  ·obtain⟨rfl,rfl,rfl⟩:=hc;simp[Pb,zv]
  ·simp only[Pb,E' hc] at h;exact It rfl h
 |pointer o=>by_cases hc:o=none <;> simp_all [Pb,zv]
 |map o=>by_cases hc:o=none <;> simp_all [Pb,zv]
 |nilFunc=>rfl
 |nilIface=>rfl
 |_=>simp[Pb] at h
def PB:TypeDesc->Bool
 |.struct _|.array _ _=>true
 |_=>false
def fieldsOf(P:Program):List Field->Option (List (Nat×Bool×Nat))
 |[]=>some []
 |f::r=>
  match P.info? f.type,P.underlying f.type,fieldsOf P r with
  |some i,some d,some l=>if i.size=0 then none else some ((f.offset,PB d,i.size)::l)
  |_,_,_=>none
def KV(P:Program):TypeDesc->TD
 |.slice e=>match P.info? e with|some i=>.slice e i.size|none=>.other
 |.struct fs=>match fieldsOf P fs.toList with|some l=>.struct l|none=>.other
 |.array n e=>match P.info? e,P.underlying e with|some i,some d=>.arr n i.size (PB d)|_,_=>.other
 |.string=>.str
 |.int k=>.int k
 |.bool=>.bool
 |.pointer _=>.ptr
 |_=>.other
def zvc(P:Program)(t:TypeId):Option Ty:=
 match P.underlying t,P.info? t with
 |some d,some i=>
  match i.zero with
  |some z=>if i.size=z.cells.toList.length then some { agg:=PB d,ks:=z.cells.toList.map Pb,d:=KV P d } else none
  |none=>none
 |_,_=>none
def zno(P:Program)(T:TypeId->Option Ty):Prop:=∀t ty,T t=some ty->zvc P t=some ty
def zqw(P:Program)(l:List (TypeId×Ty)):Bool:=l.all λp=>decide (zvc P p.1=some p.2)
def H3:List (TypeId×Ty)->TypeId->Option Ty
 |[],_=>none
 |p::r,t=>bif Nat.beq p.1 t then some p.2 else H3 r t
def zqt{P:Program}:∀{l:List (TypeId×Ty)},zqw P l->zno P (H3 l)
 |[],_,t,ty,h=>by simp[H3] at h
 |p::r,hl,t,ty,h=>by
  simp only[zqw,List.all_cons,A',Il] at hl;simp only[H3] at h
  cases hb:Nat.beq p.1 t with
  |true=>
   rw[hb] at h;simp only[cond_true,I2] at h;have:p.1=t:=Ie hb;subst this;subst h;exact hl.1
  |false=>
   rw[hb] at h;exact zqt (l:=r) hl.2 t ty h
structure zrg (P:Program) (t:TypeId) (ty:Ty):Prop where
 desc:∃d,P.underlying t=some d/\ty.agg=PB d/\ty.d=KV P d
 info:∃i z,P.info? t=some i/\i.zero=some z/\i.size=ty.ks.length/\z.cells.toList.map Pb=ty.ks
def zno.facts{P:Program}{T:TypeId->Option Ty}(hT:zno P T){t:TypeId}{ty:Ty}(h:T t=some ty):zrg P t ty:=by
 have:=hT t ty h;unfold zvc at this
 split at this
 ·rename_i d i hd hi
  split at this
  ·rename_i z hz
   split at this
   ·rename_i hs;simp only[I2] at this;subst this;exact⟨⟨d,hd,rfl,rfl⟩,i,z,hi,hz,by simpa using hs,rfl⟩
   ·cases this
  ·cases this
 ·cases this
inductive RK where
 |cell (k:CK)
 |agg (ks:List CK)
structure VR where
 P:Program
 T:TypeId->Option Ty
 pf:List (Nat×List RK)
 ef:List (Nat×List RK)
 tt:List (Nat×List RK)
 vis:List Nat
 n:Nat
 pm:Bool
 wr:Bool:=false
 rd:Option Nat:=none
def zie{β:Type}:List (Nat×β)->Nat->Option β
 |[],_=>none
 |p::r,t=>bif Nat.beq p.1 t then some p.2 else zie r t
def zuh:CK->(Va->Prop)->Prop
 |.int k,K=>∃n:Int,K (.int k n)
 |.bool,K=>∃b:Bool,K (.bool b)
 |.str,K=>∃s:ByteArray,K (.string s)
 |.slice,K=>∃(o:OA) (l c:Nat),K (.slice o l c)
 |.ptr,K=>∃o:OA,K (.pointer o)
 |.fn,K=>∃(f:Fn) (a c:Array Va),K (.func f a c)
 |_,K=>∃v:Va,K v
def zw1:Va->CK
 |.int k _=>.int k
 |.bool _=>.bool
 |.string _=>.str
 |.slice _ _ _=>.slice
 |.pointer _=>.ptr
 |.func _ _ _=>.fn
 |_=>.other
def zgd:List CK->(List Va->Prop)->Prop
 |[],K=>K []
 |k::r,K=>zuh k λv=>zgd r λl=>K (v::l)
def zww:RK->(Va->Prop)->Prop
 |.cell k,K=>zuh k K
 |.agg ks,K=>zgd ks λl=>K (.agg l.toArray)
def zui:List RK->(List Va->Prop)->Prop
 |[],K=>K []
 |k::r,K=>zww k λv=>zui r λl=>K (v::l)
def LU:List RK->(Va->Prop)->Prop
 |[k],K=>zww k K
 |ks,K=>zui ks λl=>K (.tuple l.toArray)
def Ph{k:CK}{K:Va->Prop}(h:zuh k K):∃v,K v:=by
 cases k <;> simp only[zuh] at h
 case slice=>obtain⟨o,l,c,h⟩:=h;exact⟨_,h⟩
 case fn=>obtain⟨f,a,c,h⟩:=h;exact⟨_,h⟩
 all_goals (obtain⟨x,h⟩:=h;exact⟨_,h⟩)
def TF:∀{ks:List CK} {K:List Va->Prop},zgd ks K->∃l,l.length=ks.length/\K l
 |[],_,h=>⟨[],rfl,h⟩
 |k::r,K,h=>by
  obtain⟨v,hv⟩:=Ph h;obtain⟨l,hl,hk⟩:=TF hv;exact⟨v::l,by simp[hl],hk⟩
def zkj{k:RK}{K:Va->Prop}(h:zww k K):∃v,K v:=by
 cases k with
 |cell k=>exact Ph h
 |agg ks=>obtain⟨l,_,h⟩:=TF h;exact⟨_,h⟩
def zge:∀{ks:List RK} {K:List Va->Prop},zui ks K->∃l,K l
 |[],_,h=>⟨[],h⟩
 |k::r,K,h=>by
  obtain⟨v,hv⟩:=zkj h;obtain⟨l,hk⟩:=zge hv;exact⟨v::l,hk⟩
def JT{ks:List RK}{K:Va->Prop}(h:LU ks K):∃v,K v:=by
 unfold LU at h
 split at h
 ·exact zkj h
 ·obtain⟨l,h⟩:=zge h;exact⟨_,h⟩
def St.bs(S:St):List Nat:=S.B.take S.old
def Cs(p q:List (Nat×Bool)):Bool:=p.all λx=>q.any λy=>Nat.beq x.1 y.1&&(x.2==y.2)
def CS(S:St)(pc:List (Nat×Bool)):Operand->Option EV
 |.tmp t=>match S.F.get t with
  |some (.un x)=>some x
  |some (.gd r tL x)=>bif Nat.beq r S.r&&Cs tL pc then some x else none
  |none=>none
 |.const v=>some (.v v)
 |.global g=>some (.v (.pointer (some ⟨g,0,none⟩)))
 |.func f=>some (.v (.func (.func f) #[] #[]))
def zl0(S:St)(ops:Array Oper)(j:Nat):Option Bool:=
 match (ops[j]?).bind (·.dst) with
 |some d=>match S.F.get d with
  |some (.un (.v (.bool b)))=>some b
  |some (.gd r _ (.v (.bool b)))=>bif Nat.beq r S.r then some b else none
  |_=>none
 |none=>none
def LE(S:St)(ops:Array Oper):List (Nat×Bool)->Prop->Prop
 |[],A=>A
 |(j,want)::r,A=>match zl0 S ops j with
  |some b=>b=want->LE S ops r A
  |none=>LE S ops r A
def zi8(S:St)(ops:Array Oper)(o:Oper):Option (List (Nat×Bool)):=
 match o.guard with
 |none=>some []
 |some (j,want)=>match (ops[j]?).bind (·.dst) with
  |some d=>match S.F.get d with
   |some (.un (.v (.bool _)))=>some [(j,want)]
   |some (.gd r pc (.v (.bool _)))=>bif Nat.beq r S.r then some ((j,want)::pc) else none
   |some (.gd r pc .no)=>bif Nat.beq r S.r then some ((j,want)::pc) else none
   |_=>none
  |none=>none
def EV.den(S:St):EV->Va->Prop
 |.v x,u=>u=x
 |.loc id off,u=>∃b,S.B[id]? = some b/\u=.pointer (some ⟨b,off,none⟩)
 |.el o n,u=>∃a,o=some a/\u=.pointer (some (a.add n))
 |.ls id len,u=>∃b,S.B[id]? = some b/\u=.slice (some ⟨b,0,none⟩) len len
 |.le id i k,u=>∃b,S.B[id]? = some b/\0<=i/\u=.pointer (some ⟨b,i.toNat+k,none⟩)
 |.no,_=>False
 |.kb x,u=>u=.bool x
def GU(ops:Array Oper)(a:Act)(pc:List (Nat×Bool)):Prop:=∀p∈pc,yielded ops a.tmps p.1=some p.2
def SV.den(S:St)(ops:Array Oper)(a:Act):SV->Va->Prop
 |.un x,u=>EV.den S x u
 |.gd r pc x,u=>r=S.r->(GU ops a pc->EV.den S x u)/\(¬GU ops a pc->u=undef)
structure Fw (n:Nat) (S:St) (ops:Array Oper) (a:Act):Prop where
 size:a.tmps.size=n
 fits:∀i s,S.F.get i=some s->SV.den S ops a s (a.tmps.getD i undef)
def Tz{b:Bool}:undef≠.bool b:=by simp[undef]
def H6{ops:Array Oper}{a:Act}{j d:Nat}{b:Bool}(hd:(ops[j]?).bind (·.dst)=some d)(h:yielded ops a.tmps j=some b):a.tmps.getD d undef=.bool b:=by
 unfold yielded at h;rw[hd] at h;simp only[Option.bind_some] at h
 split at h
 ·rename_i b' hb;simp only[I2] at h;subst h;rw[Array.getD_eq_getD_getElem?,hb];rfl
 ·cases h
def zvu{n:Nat}{S:St}{ops:Array Oper}{a:Act}(hf:Fw n S ops a){j:Nat}{b want:Bool}(hb:zl0 S ops j=some b)(hy:yielded ops a.tmps j=some want):b=want:=by
 unfold zl0 at hb
 split at hb
 ·rename_i d hd;have hv:=H6 hd hy
  split at hb
  ·rename_i b' hg;have:=hf.fits d _ hg;simp only[SV.den,EV.den] at this;rw[hv] at this;simp only[I2] at hb
   injection this with this
   rw[<-hb];exact this.symm
  ·rename_i r pc b' hg;have:=hf.fits d _ hg
   cases hr:Nat.beq r S.r with
   |false=>rw[hr] at hb;simp at hb
   |true=>
    rw[hr] at hb;simp only[cond_true,I2] at hb;have h1:=this (Ie hr)
    by_cases hp:GU ops a pc
    ·have h2:=h1.1 hp;simp only[EV.den] at h2;rw[hv] at h2
     injection h2 with h2
     rw[<-hb];exact h2.symm
    ·have h2:=h1.2 hp;rw[hv] at h2;exact It h2.symm Tz
  ·cases hb
 ·cases hb
def Ni{n:Nat}{S:St}{ops:Array Oper}{a:Act}(hf:Fw n S ops a):∀{pc:List (Nat×Bool)} {A:Prop},GU ops a pc->LE S ops pc A->A
 |[],_,_,h=>h
 |(j,want)::r,A,hp,h=>by
  have hr:GU ops a r:=λp hm=>hp p (I3 _ hm)
  have hj:yielded ops a.tmps j=some want:=hp (j,want) (Ib ..);simp only[LE] at h
  split at h
  ·rename_i b hb;exact Ni hf hr (h (zvu hf hb hj))
  ·exact Ni hf hr h
def Ct{p q:List (Nat×Bool)}(h:Cs p q):∀x∈p,x∈q:=by
 intro x hx;simp only[Cs,List.all_eq_true,List.any_eq_true,A'] at h;obtain⟨y,hy,h1,h2⟩:=h x hx;have e1:x.1=y.1:=Ie h1;have e2:x.2=y.2:=by simpa using h2
 have:x=y:=Prod.ext e1 e2;rw[this];exact hy
def ZP{n:Nat}{S:St}{ops:Array Oper}{a:Act}(hf:Fw n S ops a){pc:List (Nat×Bool)}(hp:GU ops a pc){x:Operand}{e:EV}(h:CS S pc x=some e):EV.den S e (a.eval x):=by
 cases x with
 |const v=>simp only[CS,I2] at h;subst h;rfl
 |global g=>simp only[CS,I2] at h;subst h;rfl
 |func f=>simp only[CS,I2] at h;subst h;rfl
 |tmp t=>
  simp only[CS] at h
  split at h
  ·rename_i y hg;simp only[I2] at h;subst h;exact hf.fits t _ hg
  ·rename_i r tL y hg
   cases hb:Nat.beq r S.r&&Cs tL pc with
   |false=>rw[hb] at h;simp at h
   |true=>
    rw[hb] at h;simp only[cond_true,I2] at h;subst h;simp only[A'] at hb;exact(hf.fits t _ hg (Ie hb.1)).1 λp hm=>hp p (Ct hb.2 p hm)
  ·cases h
def zm3(S:St)(ops:Array Oper):List (Nat×Bool)->Bool
 |[]=>true
 |(j,_)::r=>(match (ops[j]?).bind (·.dst) with
  |some d=>match S.F.get d with
   |some (.un (.v (.bool _)))=>true
   |some (.gd r' tL (.v (.bool _)))=>Nat.beq r' S.r&&Cs tL r
   |_=>false
  |none=>false)&&zm3 S ops r
def CQ{ops:Array Oper}{a:Act}{j d:Nat}{b:Bool}(hd:(ops[j]?).bind (·.dst)=some d)(h:a.tmps.getD d undef=.bool b):yielded ops a.tmps j=some b:=by
 unfold yielded;rw[hd];simp only[Option.bind_some];rw[Array.getD_eq_getD_getElem?] at h
 cases hg:a.tmps[d]? with
 |none=>rw[hg] at h;exact It h Tz
 |some v=>rw[hg] at h;simp only[Option.getD_some] at h;subst h;rfl
def zep{n:Nat}{S:St}{ops:Array Oper}{a:Act}(hf:Fw n S ops a):∀{pc:List (Nat×Bool)},zm3 S ops pc->¬GU ops a pc->LE S ops pc False
 |[],_,hp=>hp (λp hm=>by cases hm)
 |(j,want)::r,h,hp=>by
  simp only[zm3,A'] at h;obtain⟨h1,h2⟩:=h
  by_cases hr:GU ops a r
  ·have fJ:yielded ops a.tmps j≠some want:=λe=>hp λp hm=>by
    rcases Ik.1 hm with rfl|hm
    ·exact e
    ·exact hr p hm
   have go:∀b,zl0 S ops j=some b->yielded ops a.tmps j=some b->LE S ops ((j,want)::r) False:=λb hb hy=>by
    simp only[LE,hb];intro e;exact It (e▸hy) fJ
   split at h1
   ·rename_i d hd
    split at h1
    ·rename_i b hg;have hv:=hf.fits d _ hg;refine go b (by unfold zl0;rw[hd];simp only[hg]) (CQ hd hv)
    ·rename_i r' tL b hg;simp only[A'] at h1;have hv:=(hf.fits d _ hg (Ie h1.1)).1 λp hm=>hr p (Ct h1.2 p hm)
     refine go b (by unfold zl0;rw[hd];simp only[hg,h1.1,cond_true]) (CQ hd hv)
    ·cases h1
   ·cases h1
  ·have:=zep hf h2 hr;simp only[LE];split
   ·exact λ_=>this
   ·exact this
def KL{n:Nat}{S:St}{ops:Array Oper}{a:Act}(hf:Fw n S ops a){o:Oper}{pc:List (Nat×Bool)}(h:zi8 S ops o=some pc) :
  Region.wanted o (yielded ops a.tmps)=true↔GU ops a pc:=by
 unfold zi8 at h;unfold Region.wanted
 split at h
 ·rename_i hg;simp only[I2] at h;subst h;rw[hg];simp[GU]
 ·rename_i j want hg;rw[hg];simp only[Iu]
  split at h
  ·rename_i d hd
   split at h
   ·rename_i b hv;simp only[I2] at h;subst h;simp[GU]
   ·rename_i r tL b hv
    cases hr:Nat.beq r S.r with
    |false=>rw[hr] at h;simp at h
    |true=>
     rw[hr] at h;simp only[cond_true,I2] at h;subst h;constructor
     ·intro hy p hm;rcases Ik.1 hm with rfl|hm
      ·exact hy
      ·have h1:=hf.fits d _ hv (Ie hr)
       by_cases hp:GU ops a tL
       ·exact hp p hm
       ·have h2:=h1.2 hp;have h3:=H6 hd hy;rw[h3] at h2;exact It h2.symm Tz
     ·intro hp;exact hp (j,want) (Ib ..)
   ·rename_i r tL hv
    cases hr:Nat.beq r S.r with
    |false=>rw[hr] at h;simp at h
    |true=>
     rw[hr] at h;simp only[cond_true,I2] at h;subst h;constructor
     ·intro hy p hm;rcases Ik.1 hm with rfl|hm
      ·exact hy
      ·have h1:=hf.fits d _ hv (Ie hr)
       by_cases hp:GU ops a tL
       ·exact hp p hm
       ·have h2:=h1.2 hp;have h3:=H6 hd hy;rw[h3] at h2;exact It h2.symm Tz
     ·intro hp;exact hp (j,want) (Ib ..)
   ·cases h
  ·cases h
def Qq:IntKind->Int->Prop
 |.i64,z => -9223372036854775808<=z/\z<=9223372036854775807
 |.u8,z=>0<=z/\z<=255
 |.u64,z=>0<=z/\z<=18446744073709551615
 |.i32,z => -2147483648<=z/\z<=2147483647
 |k,z=>k.wrap z=z
def Qq.wrap{k:IntKind}{z:Int}(h:Qq k z):k.wrap z=z:=by
 cases k <;> simp only[Qq] at h
 case i64=>exact IntWalk.i64_in z h
 case u8=>exact IntWalk.u8_in z h
 case u64=>exact IntWalk.u64_in z h
 case i32=>exact IntWalk.i32_in z h
 all_goals exact h
def Jw(s:ByteArray)(i:Int):Int:=((s.data.getD i.toNat 0).toNat:Int)
def Ix(o:OA)(len:Nat)(i:Int):Prop:=0<=i/\i<len/\o.isSome=true
def VK(op:BinOp)(k:IntKind)(x y:Int):Int:=
 match op with
 |.and=>k.wrap ((BitVec.ofInt k.bits x &&& BitVec.ofInt k.bits y).toNat:Int)
 |.or=>k.wrap ((BitVec.ofInt k.bits x ||| BitVec.ofInt k.bits y).toNat:Int)
 |_=>k.wrap ((BitVec.ofInt k.bits x ^^^ BitVec.ofInt k.bits y).toNat:Int)
def Zt(x y:ByteArray):Bool:=x.toList==y.toList
def zga(G:Prop->Prop)(d:TD):BinOp->Va->Va->(Va->Prop)->Prop
 |.add,.int k x,.int k' y,K=>bif decide (k=k') then G (Qq k (x+y))/\K (.int k (x+y)) else False
 |.sub,.int k x,.int k' y,K=>bif decide (k=k') then G (Qq k (x-y))/\K (.int k (x-y)) else False
 |.mul,.int k x,.int k' y,K=>bif decide (k=k') then G (Qq k (x*y))/\K (.int k (x*y)) else False
 |.quo,.int k x,.int k' y,K=>bif decide (k=k') then G (y≠0/\Qq k (x.tdiv y))/\K (.int k (x.tdiv y)) else False
 |.rem,.int k x,.int k' y,K=>bif decide (k=k') then G (y≠0)/\K (.int k (x.tmod y)) else False
 |.and,.int k x,.int k' y,K=>bif decide (k=k') then K (.int k (VK .and k x y)) else False
 |.or,.int k x,.int k' y,K=>bif decide (k=k') then K (.int k (VK .or k x y)) else False
 |.xor,.int k x,.int k' y,K=>bif decide (k=k') then K (.int k (VK .xor k x y)) else False
 |.shl,.int k x,.int _ y,K=>G (0<=y/\Qq k (x*2 ^ (min y.toNat k.bits)))/\K (.int k (x*2 ^ (min y.toNat k.bits)))
 |.shr,.int k x,.int _ y,K=>G (0<=y)/\K (.int k (x.fdiv (2 ^ (min y.toNat k.bits))))
 |.eql,.int k x,.int k' y,K=>bif decide (k=k') then K (.bool (x==y)) else False
 |.neq,.int k x,.int k' y,K=>bif decide (k=k') then K (.bool (x != y)) else False
 |.lss,.int k x,.int k' y,K=>bif decide (k=k') then K (.bool (decide (x<y))) else False
 |.leq,.int k x,.int k' y,K=>bif decide (k=k') then K (.bool (decide (x<=y))) else False
 |.gtr,.int k x,.int k' y,K=>bif decide (k=k') then K (.bool (decide (x>y))) else False
 |.geq,.int k x,.int k' y,K=>bif decide (k=k') then K (.bool (decide (x>=y))) else False
 |.eql,.string x,.string y,K=>K (.bool (Zt x y))
 |.neq,.string x,.string y,K=>K (.bool (!Zt x y))
 |.add,.string x,.string y,K=>G (x.size+y.size<=9223372036854775807)/\K (.string (x++y))
 |.eql,.bool x,.bool y,K=>bif decide (d=.bool) then K (.bool (x==y)) else False
 |.neq,.bool x,.bool y,K=>bif decide (d=.bool) then K (.bool (!(x==y))) else False
 |.eql,.pointer o,.pointer none,K=>bif decide (d=.ptr) then K (.bool o.isNone) else False
 |.neq,.pointer o,.pointer none,K=>bif decide (d=.ptr) then K (.bool (!o.isNone)) else False
 |_,_,_,_=>False
def zdf{P:Program}{d:TypeDesc}(h:KV P d=.bool):d=.bool:=by
 cases d <;> simp only[KV] at h <;> first|rfl|(split at h <;> cases h)|cases h
def zh0{P:Program}{d:TypeDesc}(h:KV P d=.ptr):∃e,d=.pointer e:=by
 cases d <;> simp only[KV] at h <;> first|exact⟨_,rfl⟩|(split at h <;> cases h)|cases h
def CN{P:Program}{d:TypeDesc}(h:KV P d=.str):d=.string:=by
 cases d <;> simp only[KV] at h <;> first|rfl|(split at h <;> cases h)|cases h
def zqx{P:Program}{d:TypeDesc}{k:IntKind}(h:KV P d=.int k):d=.int k:=by
 cases d <;> simp only[KV] at h <;> first|(simp only[TD.int.injEq] at h;subst h;rfl)|(split at h <;> cases h)|cases h
def P9{P:Program}{d:TypeDesc}{e:TypeId}{n:Nat}(h:KV P d=.slice e n):∃i,d=.slice e/\P.info? e=some i/\i.size=n:=by
 cases d <;> simp only[KV] at h
 case slice e=>
  split at h
  ·rename_i i hi;simp only[TD.slice.injEq] at h;obtain⟨rfl,h⟩:=h;exact⟨i,rfl,hi,h⟩
  ·cases h
 all_goals first|cases h|(split at h <;> cases h)
def Dq{P:Program}{d:TypeDesc}{n z:Nat}{b:Bool}(h:KV P d=.arr n z b):∃e i de,d=.array n e/\P.info? e=some i/\i.size=z/\P.underlying e=some de/\PB de=b:=by
 cases d <;> simp only[KV] at h
 case array m e=>
  split at h
  ·rename_i i de hi hd;simp only[TD.arr.injEq] at h;obtain⟨rfl,rfl,rfl⟩:=h;exact⟨e,i,de,rfl,hi,rfl,hd,rfl⟩
  ·cases h
 all_goals first|cases h|(split at h <;> cases h)
def Oj{P:Program}:∀{fs:List Field} {l:List (Nat×Bool×Nat)},fieldsOf P fs=some l->∀(j:Nat) (x:Nat×Bool×Nat),l[j]? = some x->
  ∃f i d,fs[j]? = some f/\P.info? f.type=some i/\P.underlying f.type=some d/\i.size≠0/\x=(f.offset,PB d,i.size)
 |[],l,h,j,x,hx=>by simp only[fieldsOf,I2] at h;subst h;simp at hx
 |f::r,l,h,j,x,hx=>by
  simp only[fieldsOf] at h
  split at h
  ·rename_i i d l' hi hd hl
   split at h
   ·cases h
   ·rename_i hz;simp only[I2] at h;subst h
    cases j with
    |zero=>simp only[Ih,I2] at hx;subst hx;exact⟨f,i,d,rfl,hi,hd,hz,rfl⟩
    |succ j=>exact Oj hl j x (by simpa using hx)
  ·cases h
def KW{P:Program}{d:TypeDesc}{l:List (Nat×Bool×Nat)}(h:KV P d=.struct l):∃fs,d=.struct fs/\fieldsOf P fs.toList=some l:=by
 cases d <;> simp only[KV] at h
 case struct fs=>
  split at h
  ·rename_i l' hl;simp only[TD.struct.injEq] at h;subst h;exact⟨fs,rfl,hl⟩
  ·cases h
 all_goals first|cases h|(split at h <;> cases h)
def Jf{P:Program}{t:TypeId}{i:TypeInfo}(h:P.info? t=some i)(w:Wo):(typeInfo t).run P w=.ok i w:=by
 simp[typeInfo,h]
def Y0{P:Program}{t:TypeId}{i:TypeInfo}(h:P.info? t=some i)(w:Wo):(sizeOf t).run P w=.ok i.size w:=by
 simp[sizeOf,Jf h]
def UV{P:Program}{t:TypeId}{d:TypeDesc}(h:P.underlying t=some d)(w:Wo):(isAgg t).run P w=.ok (PB d) w:=by
 unfold isAgg;simp only[Sem.run_bind,run_underlying h,Result.andThen_ok]
 cases d <;> rfl
def KQ{P:Program}{t:TypeId}(hu:P.underlying t=some .bool)(x y:Bool)(w:Wo):(Op.equal t (.bool x) (.bool y)).run P w=.ok (x==y) w:=by
 have h:∀d:Nat,(Op.equalIn (d+1) t (.bool x) (.bool y)).run P w=.ok (x==y) w:=λd=>by simp[Op.equalIn,run_underlying hu]
 exact h 9999
def G9{P:Program}{t e:TypeId}(hu:P.underlying t=some (.pointer e))(o:OA)(w:Wo):(Op.equal t (.pointer o) (.pointer none)).run P w=.ok o.isNone w:=by
 have h:∀d:Nat,(Op.equalIn (d+1) t (.pointer o) (.pointer none)).run P w=.ok o.isNone w:=λd=>by cases o <;> simp[Op.equalIn,run_underlying hu]
 exact h 9999
def zl7{P:Program}{T:TypeId->Option Ty}(hT:zno P T){t:TypeId}{ty:Ty}(ht:T t=some ty){G:Prop->Prop}(hG:∀A,G A->A){op:BinOp}{x y:Operand}{a b:Va}{K:Va->Prop}(h:zga G ty.d op a b K):∃v,K v/\∀w,((do eqGuard op t x y a b;binOp op t a b):Sem Va).run P w=.ok v w:=by
 have kk:∀{k k':IntKind} {A:Prop},(bif decide (k=k') then A else False)->k=k'/\A:=λ{k k' A} h=>by
  by_cases hk:k=k'
  ·simp only[hk,decide_true,cond_true] at h;exact⟨hk,h⟩
  ·simp only[hk,decide_false,cond_false] at h
 have dd:∀{d d':TD} {A:Prop},(bif decide (d=d') then A else False)->d=d'/\A:=λ{d d' A} h=>by
  by_cases hk:d=d'
  ·simp only[hk,decide_true,cond_true] at h;exact⟨hk,h⟩
  ·simp only[hk,decide_false,cond_false] at h
 unfold zga at h
 split at h
 case h_1=>obtain⟨rfl,h1,h2⟩:=kk h;exact⟨_,h2,λw=>by simp[eqGuard,binOp,Op.intArith,(hG _ h1).wrap]⟩
 case h_2=>obtain⟨rfl,h1,h2⟩:=kk h;exact⟨_,h2,λw=>by simp[eqGuard,binOp,Op.intArith,(hG _ h1).wrap]⟩
 case h_3=>obtain⟨rfl,h1,h2⟩:=kk h;exact⟨_,h2,λw=>by simp[eqGuard,binOp,Op.intArith,(hG _ h1).wrap]⟩
 case h_4=>
  obtain⟨rfl,h1,h2⟩:=kk h;obtain⟨h3,h4⟩:=hG _ h1;exact⟨_,h2,λw=>by simp[eqGuard,binOp,Op.intDiv,h3,h4.wrap]⟩
 case h_5=>
  obtain⟨rfl,h1,h2⟩:=kk h;have h3:=hG _ h1;exact⟨_,h2,λw=>by simp[eqGuard,binOp,Op.intDiv,h3]⟩
 case h_6=>obtain⟨rfl,h2⟩:=kk h;exact⟨_,h2,λw=>by simp[eqGuard,binOp,Op.intBits,VK]⟩
 case h_7=>obtain⟨rfl,h2⟩:=kk h;exact⟨_,h2,λw=>by simp[eqGuard,binOp,Op.intBits,VK]⟩
 case h_8=>obtain⟨rfl,h2⟩:=kk h;exact⟨_,h2,λw=>by simp[eqGuard,binOp,Op.intBits,VK]⟩
 case h_9=>
  obtain⟨h1,h2⟩:=h;obtain⟨h3,h4⟩:=hG _ h1;exact⟨_,h2,λw=>by simp[eqGuard,binOp,Op.shift,Int.not_lt.2 h3,h4.wrap]⟩
 case h_10=>
  obtain⟨h1,h2⟩:=h;have h3:=hG _ h1;exact⟨_,h2,λw=>by simp[eqGuard,binOp,Op.shift,Int.not_lt.2 h3]⟩
 case h_11=>obtain⟨rfl,h2⟩:=kk h;exact⟨_,h2,λw=>by simp[eqGuard,binOp,Op.intCmp]⟩
 case h_12=>obtain⟨rfl,h2⟩:=kk h;exact⟨_,h2,λw=>by simp[eqGuard,binOp,Op.intCmp]⟩
 case h_13=>obtain⟨rfl,h2⟩:=kk h;exact⟨_,h2,λw=>by simp[eqGuard,binOp,Op.intCmp]⟩
 case h_14=>obtain⟨rfl,h2⟩:=kk h;exact⟨_,h2,λw=>by simp[eqGuard,binOp,Op.intCmp]⟩
 case h_15=>obtain⟨rfl,h2⟩:=kk h;exact⟨_,h2,λw=>by simp[eqGuard,binOp,Op.intCmp]⟩
 case h_16=>obtain⟨rfl,h2⟩:=kk h;exact⟨_,h2,λw=>by simp[eqGuard,binOp,Op.intCmp]⟩
 case h_17=>exact⟨_,h,λw=>by simp[eqGuard,binOp,Op.stringOp,Zt]⟩
 case h_18=>exact⟨_,h,λw=>by simp[eqGuard,binOp,Op.stringOp,Zt]⟩
 case h_19 s u=>
  obtain⟨h1,h2⟩:=h;have h3:=hG _ h1;refine⟨_,h2,λw=>?_⟩;have h4:¬((s.size+u.size:Nat):Int)>IntKind.i64.max:=by rw[IntKind.max_i64];omega
  simp only[eqGuard,binOp,Op.stringOp,E' h4];rfl
 case h_20=>
  obtain⟨hd,h2⟩:=dd h;obtain⟨d,hu,_,oB⟩:=(hT.facts ht).desc;have:=zdf (oB.symm.trans hd);subst this;exact⟨_,h2,λw=>by simp only[eqGuard_at_bool,binOp,Sem.run_bind,Sem.run_pure,Result.andThen_ok,KQ hu]⟩
 case h_21=>
  obtain⟨hd,h2⟩:=dd h;obtain⟨d,hu,_,oB⟩:=(hT.facts ht).desc;have:=zdf (oB.symm.trans hd);subst this;exact⟨_,h2,λw=>by simp only[eqGuard_at_bool,binOp,Sem.run_bind,Sem.run_pure,Result.andThen_ok,KQ hu]⟩
 case h_22 o=>
  obtain⟨hd,h2⟩:=dd h;obtain⟨d,hu,_,oB⟩:=(hT.facts ht).desc;obtain⟨e,rfl⟩:=zh0 (oB.symm.trans hd);exact⟨_,h2,λw=>by simp only[eqGuard_at_pointer,binOp,Sem.run_bind,Sem.run_pure,Result.andThen_ok,G9 hu]⟩
 case h_23 o=>
  obtain⟨hd,h2⟩:=dd h;obtain⟨d,hu,_,oB⟩:=(hT.facts ht).desc;obtain⟨e,rfl⟩:=zh0 (oB.symm.trans hd);exact⟨_,h2,λw=>by simp only[eqGuard_at_pointer,binOp,Sem.run_bind,Sem.run_pure,Result.andThen_ok,G9 hu]⟩
 case h_24=>exact h.elim
structure Zh (S:St) (w wr:Wo):Prop where
 ext:Q0 S.bs w wr
 loc:∀(id:Nat) (t:TypeId) (cs:List Va),S.L[id]? = some (t,cs)->∃b,S.B[id]? = some b/\wr.heap[b]? = some (Obj.cells cs.toArray t (0,0))
 len:S.L.length=S.B.length
 nF:S.B.Nodup
 fresh:∀(id b:Nat),S.old<=id->S.B[id]? = some b->w.heap.size<=b
def Nj{w:Wo}{b:Nat}{o:Obj}(h:w.heap[b]? = some o):b<w.heap.size:=by
 rcases Nat.lt_or_ge b w.heap.size with IX|RX
 ·exact IX
 ·rw[Array.getElem?_eq_none RX] at h;cases h
def Zh.step{S:St}{w wr aB:Wo}(h:Zh S w wr)(hx:Q0 [] wr aB):Zh S w aB:=
 ⟨h.ext.trans hx.of_nil,λid t cs hl=>by
  obtain⟨b,hb,hh⟩:=h.loc id t cs hl;exact⟨b,hb,(hx.block b (Nj hh) Qs).trans hh⟩,h.len,h.nF,h.fresh⟩
abbrev CT:=St->Wo->Prop
abbrev Pg:=Option CT
def Mg:Pg:=none
def zix:Pg->St->Wo->Prop
 |none,_,_=>True
 |some f,S,w=>f S w
def zts(S:St):EV->Option Va
 |.v x=>some x
 |.kb x=>some (.bool x)
 |.el o n=>some (.pointer (o.map (·.add n)))
 |.ls id len=>match S.B[id]? with
  |some b=>some (.slice (some ⟨b,0,none⟩) len len)
  |none=>none
 |_=>none
def zdx{S:St}{e:EV}{x u:Va}(h:zts S e=some x)(hd:EV.den S e u):u=x:=by
 cases e with
 |v y=>simp only[zts,I2] at h;subst h;exact hd
 |el o n=>simp only[zts,I2] at h;subst h;obtain⟨a,rfl,rfl⟩:=hd;rfl
 |ls id len=>
  obtain⟨b,hb,rfl⟩:=hd;simp only[zts,hb,I2] at h;exact h
 |loc id off=>cases h
 |le id i k=>cases h
 |no=>cases h
 |kb x=>simp only[zts,I2] at h;subst h;exact hd
def Lf(S:St)(pc:List (Nat×Bool))(x:Operand):Option Va:=
 match CS S pc x with
 |some e=>zts S e
 |none=>none
def QK{n:Nat}{S:St}{ops:Array Oper}{a:Act}(hf:Fw n S ops a){pc:List (Nat×Bool)}(hp:GU ops a pc){x:Operand}{v:Va}(h:Lf S pc x=some v):a.eval x=v:=by
 unfold Lf at h
 split at h
 ·rename_i e he;exact zdx h (ZP hf hp he)
 ·cases h
def GM(S:St)(pc:List (Nat×Bool)):List Operand->Option (List Va)
 |[]=>some []
 |x::r=>match Lf S pc x,GM S pc r with
  |some v,some l=>some (v::l)
  |_,_=>none
def Xl{n:Nat}{S:St}{ops:Array Oper}{a:Act}(hf:Fw n S ops a){pc:List (Nat×Bool)}(hp:GU ops a pc):∀{xs:List Operand} {vs:List Va},GM S pc xs=some vs->xs.map a.eval=vs
 |[],vs,h=>by simp only[GM,I2] at h;subst h;rfl
 |x::r,vs,h=>by
  simp only[GM] at h
  split at h
  ·rename_i v l hv hl;simp only[I2] at h;subst h;simp[QK hf hp hv,Xl hf hp hl]
  ·cases h
def zg5(S:St)(pc:List (Nat×Bool)):List Operand->List Nat
 |[]=>[]
 |x::r=>match CS S pc x with
  |some (.ls id _)=>id::zg5 S pc r
  |_=>zg5 S pc r
def XV(S:St)(w:Wo):List Nat->Prop->Prop
 |[],A=>A
 |id::r,A=>match S.L[id]?,S.B[id]? with
  |some (t,cs),some b=>w.heap[b]? = some (Obj.cells cs.toArray t (0,0))->XV S w r A
  |_,_=>False
def XV.out{S:St}{w wr:Wo}(h:Zh S w wr):∀{ids:List Nat} {A:Prop},XV S wr ids A->A
 |[],_,h'=>h'
 |id::r,A,h'=>by
  simp only[XV] at h'
  split at h'
  ·rename_i t cs b hl hb;obtain⟨b',gW,hh⟩:=h.loc id t cs hl;rw[hb] at gW;cases gW;exact XV.out h (h' hh)
  ·exact h'.elim
def A1(C:VR)(ids:List Nat)(f:Nat)(args:List Va)(r:Va)(G:Prop->Prop):CT:=λS w=>
 match ids with
 |[]=>G (Q3 S.bs C.P f args.toArray w r)
 |ids=>G (∀w2,Q0 S.bs w w2->XV S w2 ids (Q3 S.bs C.P f args.toArray w2 r))
structure TB (P:Program) (f:Nat):Prop where
 is : ∃ fn, P.funcs[f]? = some fn ∧ fn.body.isNone = false ∧ (fn.name == "runtime.NumGoroutine") = false
def L6 (P:Program) (f:Nat):Bool:=
 match P.funcs[f]? with
 |some fn => !fn.body.isNone && !(fn.name == "runtime.NumGoroutine")
 |none=>false
def Fe{P:Program}{f:Nat}(h:L6 P f):TB P f:=by
 unfold L6 at h
 split at h
 ·rename_i fn hf;simp only[A',ID] at h;exact⟨fn,hf,h.1,h.2⟩
 ·cases h
def zhm {P:Program} {f:Nat} (h:TB P f) (args:Array Operand) (argTypes:Array TypeId) (a:Act) {o:Oper} (ho:o.op=.call { callee:=.value (.func f),args,argTypes }) (w:Wo) :
  (execOp a.eval o).run P w=.ok (.enter f (args.map a.eval)) w:=by
 obtain⟨fn,hf,hb,hn⟩:=h.is
 unfold execOp
 rw[ho]
 have hn' : ¬ fn.name = "runtime.NumGoroutine" := by simpa using hn
 have gW:¬fn.body=none:=by intro e;rw[e] at hb;cases hb
 simp[resolve,Deferred.ofValue,invoke,callFunc,hf,gW,hn',Act.eval]
def Ls:List Oper->Nat->Nat->Option Nat
 |[],_,_=>none
 |o::r,t,k=>match o.dst with
  |some d=>bif Nat.beq d t then some k else Ls r t (k+1)
  |none=>Ls r t (k+1)
def Dx:∀{l:List Oper} {t k j:Nat},Ls l t k=some j->k<=j/\∃o,l[j-k]? = some o/\o.dst=some t
 |[],_,_,_,h=>by cases h
 |o::r,t,k,j,h=>by
  simp only[Ls] at h
  have CR0:∀{j},Ls r t (k+1)=some j->k<=j/\∃o',(o::r)[j-k]? = some o'/\o'.dst=some t:=λ{j} h=>by
   obtain⟨h1,o',h2,h3⟩:=Dx h;refine⟨Qo,o',?_,h3⟩;have:j-k=(j-(k+1))+1:=Qo;rw[this];simpa using h2
  split at h
  ·rename_i d hd
   cases hb:Nat.beq d t with
   |true=>
    rw[hb] at h;simp only[cond_true,I2] at h;subst h;exact⟨I9 _,o,Qs,by rw[hd,Ie hb]⟩
   |false=>rw[hb] at h;exact CR0 h
  ·exact CR0 h
def Kl(ops:Array Oper)(pc:List (Nat×Bool))(c:Operand)(b:Bool):List (Nat×Bool):=
 match c with
 |.tmp t=>match Ls ops.toList t 0 with
  |some j=>(j,b)::pc
  |none=>pc
 |_=>pc
def PO{n:Nat}{S:St}{ops:Array Oper}{a:Act}(hf:Fw n S ops a){pc:List (Nat×Bool)}(hp:GU ops a pc){c:Operand}{b:Bool}(hc:a.eval c=.bool b):GU ops a (Kl ops pc c b):=by
 unfold Kl;split
 ·rename_i t;split
  ·rename_i j hj;obtain⟨_,o,ho,hd⟩:=Dx hj;intro p hm;rcases Ik.1 hm with rfl|hm
   ·have hj':ops[j]? = some o:=by simpa using ho
    simp only[Act.eval] at hc;unfold yielded;rw[hj'];simp only[Option.bind_some,hd]
    cases ht:a.tmps[t]? with
    |none=>rw[Array.getD_eq_getD_getElem?,ht] at hc;simp[undef] at hc
    |some x=>
     rw[Array.getD_eq_getD_getElem?,ht] at hc;simp only[Option.getD_some] at hc;subst hc;rfl
   ·exact hp p hm
  ·exact hp
 ·exact hp
def Ty.val(ty:Ty)(vs:List Va):Option Va:=bif ty.agg then some (.agg vs.toArray) else match vs with | [v]=>some v|_=>none
def Ti{P:Program}{T:TypeId->Option Ty}(hT:zno P T){t:TypeId}{ty:Ty}(ht:T t=some ty){a:Addr}{vs:List Va}{v:Va}(hv:ty.val vs=some v)(hl:vs.length=ty.ks.length){w:Wo}(hc:∀(j:Nat) (x:Va),vs[j]? = some x->w.cell? (a.add j)=some x):(loadVar t a).run P w=.ok v w:=by
 obtain⟨d,hu,hag,_⟩:=(hT.facts ht).desc;obtain⟨i,z,hi,_,oA,_⟩:=(hT.facts ht).info;unfold loadVar;simp only[Sem.run_bind,UV hu,Result.andThen_ok];unfold Ty.val at hv
 cases hg:ty.agg with
 |true=>
  rw[hg] at hv;simp only[cond_true,I2] at hv;subst hv;rw[<-hag,hg];simp only[if_true];have:=run_loadCells_list (P:=P) (w:=w) a vs hc;simp only[Sem.run_bind,Y0 hi,Result.andThen_ok,oA,<-hl,this,Sem.run_pure]
 |false=>
  rw[hg] at hv;simp only[cond_false] at hv
  split at hv
  ·rename_i x;simp only[I2] at hv;subst hv;rw[<-hag,hg];simp only[Bool.false_eq_true,if_false];have:=hc 0 x rfl;rw[Addr.add_zero'] at this;simp[this]
  ·cases hv
def De(a b:Operand)(cb:Bool)(x y:Va)(K:Va->Prop):Prop:=
 match a,b,x,y with
 |.const (.bool true),_,_,.bool y=>K (.bool (cb||y))
 |_,.const (.bool false),.bool x,_=>K (.bool (cb&&x))
 |_,_,.bool x,.bool y=>K (.bool (bif cb then x else y))
 |_,_,_,_=>False
def zg9{a b:Operand}{cb:Bool}{x y:Va}{K:Va->Prop}{ax bx:Va}(ha:cb->ax=x)(hb:cb=false->bx=y)(hca:∀v,a=.const v->ax=v)(hcb:∀v,b=.const v->bx=v)(h:De a b cb x y K):∃v,K v/\v=(if cb=true then ax else bx):=by
 unfold De at h
 split at h
 ·refine⟨_,h,?_⟩;cases cb
  ·simp[hb rfl]
  ·simp[hca _ rfl]
 ·refine⟨_,h,?_⟩;cases cb
  ·simp[hcb _ rfl]
  ·simp[ha rfl]
 ·refine⟨_,h,?_⟩;cases cb
  ·simp[hb rfl]
  ·simp[ha rfl]
 ·exact h.elim
def zkw(x:Option Va)(K:Int->Prop):Prop:=
 match x with
 |none=>K 0
 |some (.int _ i)=>K i
 |_=>False
def zeu(len:Nat)(x:Option Va)(K:Int->Prop):Prop:=
 match x with
 |none=>K len
 |some (.int _ i)=>K i
 |_=>False
def zp1(S:St)(pc:List (Nat×Bool)):Option Operand->Option (Option Va)
 |none=>some none
 |some x=>match Lf S pc x with
  |some v=>some (some v)
  |none=>none
def Lg{n:Nat}{S:St}{ops:Array Oper}{a:Act}(hf:Fw n S ops a){pc:List (Nat×Bool)}(hp:GU ops a pc){x:Option Operand}{v:Option Va}(h:zp1 S pc x=some v):x.map a.eval=v:=by
 cases x with
 |none=>simp only[zp1,I2] at h;subst h;rfl
 |some x=>
  simp only[zp1] at h
  split at h
  ·rename_i u hu;simp only[I2] at h;subst h;simp[QK hf hp hu]
  ·cases h
def TD.CF1:TD->Bool
 |.struct _=>true
 |.other=>true
 |_=>false
def zwv(d:TD)(op:BinOp)(wr:Bool):Bool:=d.CF1||(wr&&match op with
 |.sub=>true
 |_=>false)
def zxe(d:TD):CK:=match d with
 |.int k=>.int k
 |_=>.bool
def TD.AJ2:TD->Bool
 |.other=>true
 |_=>false
def zwc(C:VR)(t:TypeId):Option (List RK):=match zie C.tt t with
 |some l=>some l
 |none=>match C.T t with
  |some ty=>bif ty.agg then some [.agg ty.ks] else match ty.ks with
   |[k]=>some [.cell k]
   |_=>none
  |none=>none
def zxg(C:VR)(u:TypeId)(ok:Bool):Option (List RK):=match zwc C u with
 |some [k]=>bif ok then some [k,.cell .bool] else some [k]
 |_=>none
def zvy(C:VR)(S:St)(w:Wo)(ops:Array Oper)(o:Oper)(pc:List (Nat×Bool))(K:EV->Pg->Prop):Prop:=
 match o.op with
 |.move x|.assign x=>match CS S pc x with
  |some e=>K e Mg
  |none=>False
 |.pick c a b=>match Lf S pc c with
  |some (.bool cb)=>match CS S (Kl ops pc c true) a,CS S (Kl ops pc c false) b with
   |some .no,_=>(match Lf S (Kl ops pc c false) b with
    |some y=>K (.v y) Mg
    |none=>False)
   |_,some .no=>(match Lf S (Kl ops pc c true) a with
    |some x=>K (.v x) Mg
    |none=>False)
   |_,_=>match Lf S (Kl ops pc c true) a,Lf S (Kl ops pc c false) b with
    |some x,some y=>De a b cb x y λv=>K (.v v) Mg
    |_,_=>False
  |_=>False
 |.nilCheck x=>match CS S pc x with
  |some (.el o n)=>K (.el o n) Mg
  |some (.loc id off)=>K (.loc id off) Mg
  |some (.le id i k)=>K (.le id i k) Mg
  |some (.v (.pointer o))=>LE S ops pc (o.isSome)/\K (.el o 0) Mg
  |some (.v (.func (.func f) fs cs))=>K (.v (.func (.func f) fs cs)) Mg
  |_=>False
 |.binOp op t x y _=>match C.T t,Lf S pc x,Lf S pc y with
  |some ty,some a,some b=>bif zwv ty.d op C.wr then zuh (zxe ty.d) λv=>LE S ops pc (∀wr,((do eqGuard op t x y a b;binOp op t a b):Sem Va).run C.P wr=.ok v wr)/\K (.v v) Mg else zga (LE S ops pc) ty.d op a b λv=>K (.v v) Mg
  |_,_,_=>False
 |.unOp .not _ x=>match Lf S pc x with
  |some (.bool b)=>K (.v (.bool (!b))) Mg
  |_=>False
 |.unOp .neg _ x=>match Lf S pc x with
  |some (.int k n)=>LE S ops pc (Qq k (0-n))/\K (.v (.int k (0-n))) Mg
  |_=>False
 |.fieldAddr s x f=>match C.T s,CS S pc x with
  |some { agg:=_,ks:=_,d:=.struct fs },some e=>match fs[f]? with
   |some (off,_,_)=>match e with
    |.loc id m=>K (.loc id (m+off)) Mg
    |.el o m=>K (.el o (m+off)) Mg
    |.le id i m=>K (.le id i (m+off)) Mg
    |.v (.pointer o)=>LE S ops pc (o.isSome)/\K (.el o off) Mg
    |_=>False
   |none=>False
  |_,_=>False
 |.field t x f=>match C.T t,Lf S pc x with
  |some { agg:=_,ks:=_,d:=.struct fs },some (.agg cs)=>match fs[f]? with
   |some (off,true,z)=>K (.v (.agg (cs.extract off (off+z)))) Mg
   |some (off,false,_)=>match cs[off]? with
    |some v=>K (.v v) Mg
    |none=>False
   |none=>False
  |_,_=>False
 |.indexAddr t x i=>match C.T t,CS S pc x,Lf S pc i with
  |some { agg:=_,ks:=_,d:=.slice _ z },some (.v (.slice o len _)),some (.int _ i)=>LE S ops pc (Ix o len i)/\K (.el o (i.toNat*z)) Mg
  |some { agg:=_,ks:=_,d:=.slice _ 1 },some (.ls id len),some (.int _ i)=>LE S ops pc (0<=i/\i<len)/\K (.le id i 0) Mg
  |some { agg:=_,ks:=_,d:=.arr n z _ },some (.el o m),some (.int _ i)=>LE S ops pc (0<=i/\i<n)/\K (.el o (m+i.toNat*z)) Mg
  |some { agg:=_,ks:=_,d:=.arr n 1 _ },some (.loc id 0),some (.int _ i)=>LE S ops pc (0<=i/\i<n)/\K (.le id i 0) Mg
  |_,_,_=>False
 |.index t x i=>match C.T t,Lf S pc x,Lf S pc i with
  |some { agg:=_,ks:=k::_,d:=.arr n 1 false },some (.agg cs),some (.int _ i)=>zuh k λv=>LE S ops pc (0<=i/\i<n/\cs[i.toNat]? = some v)/\K (.v v) Mg
  |some { agg:=_,ks:=_,d:=.str },some (.string s),some (.int _ i)=>LE S ops pc (0<=i/\i<s.size)/\K (.v (.int .u8 (Jw s i))) Mg
  |_,_,_=>False
 |.convert s t x=>match C.T s,C.T t,Lf S pc x with
  |some _,some { agg:=_,ks:=_,d:=.int k },some (.int _ n)=>LE S ops pc (Qq k n)/\K (.v (.int k n)) Mg
  |_,_,_=>False
 |.extract x i=>match Lf S pc x with
  |some (.tuple vs)=>match vs[i]? with
   |some v=>K (.v v) Mg
   |none=>False
  |_=>False
 |.slice t x lo hi none=>match C.T t,Lf S pc x,zp1 S pc lo,zp1 S pc hi with
  |some { agg:=_,ks:=_,d:=.slice _ z },some (.slice o len cap),some l,some h=>
   zkw l λl=>zeu len h λh=>LE S ops pc (0<=l/\l<=h/\h<=cap)/\
    K (.v (.slice (if cap=l.toNat then o else o.map (·.add (l.toNat*z))) (h.toNat-l.toNat) (cap-l.toNat))) Mg
  |some { agg:=_,ks:=_,d:=.str },some (.string s),some l,some h=>
   zkw l λl=>zeu s.size h λh=>LE S ops pc (0<=l/\l<=h/\h<=s.size)/\K (.v (.string (s.extract l.toNat h.toNat))) Mg
  |_,_,_,_=>False
 |.makeFunc fn first cap=>match GM S pc first.toList,GM S pc cap.toList with
  |some a,some b=>K (.v (.func fn a.toArray b.toArray)) Mg
  |_,_=>False
 |.makeInterface t x=>match C.T t,Lf S pc x with
  |some ty,some v=>bif ty.d.AJ2 then False else K (.v (.iface t v)) Mg
  |_,_=>False
 |.typeAssert x t u ok=>match Lf S pc x,zxg C u ok with
  |some a,some rk=>LU rk λr=>LE S ops pc (∀wr,(Instr.typeAssert a t u ok).run C.P wr=.ok r wr)/\K (.v r) Mg
  |_,_=>False
 |.build t parts=>match C.T t with
  |some { agg:=_,ks:=ks,d:=.struct fs }=>match GM S pc (parts.toList.map (·.2)),ks.contains .other with
   |some vs,false=>match Instr.fill (λi=>(fs[i]?).map λf=>(f.1,f.2.2)) (ks.map zv).toArray ((parts.toList.map (·.1)).zip vs) with
    |some cells=>K (.v (.agg cells)) Mg
    |none=>False
   |_,_=>False
  |some { agg:=_,ks:=ks,d:=.arr _ z _ }=>match GM S pc (parts.toList.map (·.2)),ks.contains .other with
   |some vs,false=>match Instr.fill (λi=>some (i*z,z)) (ks.map zv).toArray ((parts.toList.map (·.1)).zip vs) with
    |some cells=>K (.v (.agg cells)) Mg
    |none=>False
   |_,_=>False
  |_=>False
 |.load t x=>match C.T t,CS S pc x with
  |some ty,some (.el o n)=>zgd ty.ks λvs=>match ty.val vs with
   |some v=>LE S ops pc (Q2 S.bs w o n vs)/\K (.v v) (some λS' w'=>LE S ops pc (Q2 S'.bs w' o n vs))
   |none=>False
  |some ty,some (.v (.pointer o))=>bif ty.ks.isEmpty then False else zgd ty.ks λvs=>match ty.val vs with
   |some v=>LE S ops pc (Q2 S.bs w o 0 vs)/\K (.v v) (some λS' w'=>LE S ops pc (Q2 S'.bs w' o 0 vs))
   |none=>False
  |some ty,some (.loc id off)=>match S.L[id]? with
   |some (t',cs)=>match bif Nat.beq ((cs.drop off).take ty.ks.length).length ty.ks.length then ty.val ((cs.drop off).take ty.ks.length) else none with
    |some v=>K (.v v) (some λS' _=>S'.L[id]? = some (t',cs))
    |none=>False
   |none=>False
  |some { agg:=false,ks:=[k],d:=_ },some (.le id i m)=>match S.L[id]? with
   |some (t',cs)=>zuh k λv=>LE S ops pc (0<=i/\cs[i.toNat+m]? = some v)/\K (.v v) (some λS' _=>S'.L[id]? = some (t',cs))
   |none=>False
  |_,_=>False
 |.call { callee:=.builtin b,args:=args,argTypes:=ts }=>match b,args.toList,ts.toList with
  |.len,[x],[t]=>match C.T t,Lf S pc x with
   |some { agg:=_,ks:=_,d:=.slice _ _ },some (.slice _ n _)=>K (.v (.int .i64 n)) Mg
   |some { agg:=_,ks:=_,d:=.str },some (.string s)=>K (.v (.int .i64 s.size)) Mg
   |_,_=>False
  |.min,[x,y],_=>match Lf S pc x,Lf S pc y with
   |some (.int k a),some (.int _ b)=>K (.v (.int k (if b<a then b else a))) Mg
   |_,_=>False
  |.max,[x,y],_=>match Lf S pc x,Lf S pc y with
   |some (.int k a),some (.int _ b)=>K (.v (.int k (if b>a then b else a))) Mg
   |_,_=>False
  |_,_,_=>False
 |.call { callee:=.value (.func f),args:=args,argTypes:=_ }=>match zie C.pf f,GM S pc args.toList with
  |some rks,some vs=>LU rks λr=>A1 C (zg5 S pc args.toList) f vs r (LE S ops pc) S w/\K (.v r) (some (A1 C (zg5 S pc args.toList) f vs r (LE S ops pc)))
  |_,_=>False
 |_=>False
def Nd(S S':St):Prop:=∀(id b:Nat),S.B[id]? = some b->S'.B[id]? = some b
def Z0(C:VR)(S:St)(w:Wo)(o:Oper)(a:Act)(K:EV->Pg->Prop):Prop:=
 ∃e fact v,K e fact/\EV.den S e v/\zix fact S w/\
  ∀(S':St) (w':Wo) (a':Act),execOp a'.eval o=execOp a.eval o->Nd S S'->zix fact S' w'->∀wr,Zh S' w' wr->o.quietAt C.P a' (Zh S' w') wr v
def Z0.SA{C:VR}{S:St}{w:Wo}{o:Oper}{a:Act}{K:EV->Pg->Prop}{e:EV}{v:Va}(hK:K e Mg)(hd:EV.den S e v)(hr:∀wr,(execOp a.eval o).run C.P wr=.ok (.value v) wr):Z0 C S w o a K:=
 ⟨e,Mg,v,hK,hd,trivial,λS' w' a' he _ _ wr _=>by
  unfold Oper.quietAt;rw[he,hr wr];exact⟨rfl,rfl⟩⟩
def Z0.AJ7{C:VR}{S:St}{w:Wo}{o:Oper}{a:Act}{K:EV->Pg->Prop}{e:EV}{v:Va}{fact:CT}(hK:K e (some fact))(hd:EV.den S e v)(hs:fact S w)(hr:∀(S':St) (w':Wo),Nd S S'->fact S' w'->∀wr,Zh S' w' wr->(execOp a.eval o).run C.P wr=.ok (.value v) wr):Z0 C S w o a K:=
 ⟨e,some fact,v,hK,hd,hs,λS' w' a' he hl hf wr hw=>by
  unfold Oper.quietAt;rw[he,hr S' w' hl hf wr hw];exact⟨rfl,rfl⟩⟩
def EB{l:Option Va}{K:Int->Prop}(h:zkw l K):∃li:Int,(l=none/\li=0\/∃k,l=some (.int k li))/\K li:=by
 unfold zkw at h
 split at h
 ·exact⟨0,.inl ⟨rfl,rfl⟩,h⟩
 ·exact⟨_,.inr ⟨_,rfl⟩,h⟩
 ·exact h.elim
def GD{n:Nat}{l:Option Va}{K:Int->Prop}(h:zeu n l K):∃li:Int,(l=none/\li=n\/∃k,l=some (.int k li))/\K li:=by
 unfold zeu at h
 split at h
 ·exact⟨n,.inl ⟨rfl,rfl⟩,h⟩
 ·exact⟨_,.inr ⟨_,rfl⟩,h⟩
 ·exact h.elim
def CA{P:Program}{b:Bool}{len cap:Nat}{l hh:Option Va}{li hi:Int}(h:0<=li/\li<=hi/\hi<=cap)(hl:l=none/\li=0\/∃k,l=some (.int k li))(hh0:hh=none/\hi=len\/∃k,hh=some (.int k hi))(wr:Wo) :
  (Instr.sliceBounds b len cap l hh none).run P wr=.ok (li.toNat,hi.toNat,cap) wr:=by
 obtain⟨h0,h1,h2⟩:=h;have h4:0<=hi:=Int.le_trans h0 h1;rcases hl with ⟨rfl,rfl⟩|⟨k,rfl⟩ <;> rcases hh0 with ⟨rfl,rfl⟩|⟨k',rfl⟩
 ·simp[Instr.sliceBounds]
 ·simp[Instr.sliceBounds,Instr.sliceBound,asIntOf,h1,h2]
 ·simp[Instr.sliceBounds,Instr.sliceBound,asIntOf,h0,h1]
 ·have h3:li<=((hi.toNat:Nat):Int):=Qo;simp only[Instr.sliceBounds,Instr.sliceBound,asIntOf,Sem.run_bind,Sem.run_pure,Result.andThen_ok,Sem.run_ite,H' (And.intro h4 h2),H' (And.intro h0 h3)]
def Q2.cells{bs:List Nat}{w wr:Wo}{o:OA}{n:Nat}{vs:List Va}(h:Q2 bs w o n vs)(hx:Q0 bs w wr){a:Addr}(ho:o=some a)(j:Nat)(x:Va)(hj:vs[j]? = some x):wr.cell? ((a.add n).add j)=some x:=by
 obtain⟨b,hb,_,hc⟩:=(h.get j x hj).ext hx;rw[ho] at hb;cases hb;rw[JE];exact hc
def zuj{bs:List Nat}{w:Wo}{o:OA}{n:Nat}{ty:Ty}{vs:List Va}{v:Va}(hv:ty.val vs=some v)(hl:vs.length=ty.ks.length)(hk:0<ty.ks.length)(h:Q2 bs w o n vs):∃u,V0 bs w o n u:=by
 cases vs with
 |nil=>simp at hl;omega
 |cons x r=>exact⟨x,h.get 0 x rfl⟩
def KD{S:St}{w wr:Wo}(h:Zh S w wr){id:Nat}{t:TypeId}{cs:List Va}(hl:S.L[id]? = some (t,cs)){b:Nat}(hb:S.B[id]? = some b)(i:Nat):wr.cell? ⟨b,i,none⟩=cs[i]? := by
 obtain⟨b',gW,hh⟩:=h.loc id t cs hl;rw[hb] at gW;cases gW;simp[World.cell?,hh]
def zca{C:VR}(hT:zno C.P C.T)(RD:∀f ks,zie C.pf f=some ks->TB C.P f){S:St}{w:Wo}{ops:Array Oper}{o:Oper}{pc:List (Nat×Bool)}{K:EV->Pg->Prop}{a:Act}(hf:Fw C.n S ops a)(hp:GU ops a pc)(h:zvy C S w ops o pc K):Z0 C S w o a K:=by
 have G:∀A,LE S ops pc A->A:=λA=>Ni hf hp
 unfold zvy at h
 split at h
 case h_1 x ho=>
  split at h
  ·rename_i e he;exact Z0.SA h (ZP hf hp he) λwr=>by simp[execOp,ho]
  ·exact h.elim
 case h_2 x ho=>
  split at h
  ·rename_i e he;exact Z0.SA h (ZP hf hp he) λwr=>by simp[execOp,ho]
  ·exact h.elim
 case h_3 c x y ho=>
  split at h
  ·rename_i cb hc;have hcv:=QK hf hp hc
   split at h
   ·rename_i kF
    split at h
    ·rename_i v hv
     have hcb:cb=false:=by
      cases hq:cb with
      |false=>rfl
      |true=>
       rw[hq] at hcv;exact(ZP hf (PO hf hp hcv) kF).elim
     rw[hcb] at hcv;have hv':=QK hf (PO hf hp hcv) hv;exact Z0.SA h rfl λwr=>by simp[execOp,ho,hcv,asBool,hv']
    ·exact h.elim
   ·rename_i kF _
    split at h
    ·rename_i v hv
     have hcb:cb:=by
      cases hq:cb with
      |true=>rfl
      |false=>
       rw[hq] at hcv;exact(ZP hf (PO hf hp hcv) kF).elim
     rw[hcb] at hcv;have hv':=QK hf (PO hf hp hcv) hv;exact Z0.SA h rfl λwr=>by simp[execOp,ho,hcv,asBool,hv']
    ·exact h.elim
   ·split at h
    ·rename_i u v hu hv
     obtain⟨r,hK,hr⟩:=zg9 (ax:=a.eval x) (bx:=a.eval y) (λe=>by
       subst e;exact QK hf (PO hf hp hcv) hu) (λe=>by
       subst e;exact QK hf (PO hf hp hcv) hv) (λv e=>by subst e;rfl) (λv e=>by subst e;rfl) h
     refine Z0.SA hK (v:=r) rfl λwr=>?_
     simp only[execOp,ho,hcv,asBool];rw[hr]
     cases cb <;> rfl
    ·exact h.elim
  ·exact h.elim
 case h_4 x ho=>
  split at h
  ·rename_i b n he;have hd:=ZP hf hp he;refine Z0.SA h hd λwr=>?_
   obtain⟨b,_,hb⟩:=hd;simp[execOp,ho,hb]
  ·rename_i id off he;have hd:=ZP hf hp he;refine Z0.SA h hd λwr=>?_
   obtain⟨b,_,hb⟩:=hd;simp[execOp,ho,hb]
  ·rename_i id i k he;have hd:=ZP hf hp he;refine Z0.SA h hd λwr=>?_
   obtain⟨b,_,_,hb⟩:=hd;simp[execOp,ho,hb]
  ·rename_i b he;have hd:=ZP hf hp he;obtain⟨h1,h2⟩:=h;have h3:=G _ h1;obtain⟨ad,rfl⟩:=Option.isSome_iff_exists.1 h3;simp only[EV.den] at hd;exact Z0.SA h2 (v:=.pointer (some ad)) ⟨ad,rfl,by rw[Addr.add_zero']⟩ λwr=>by simp[execOp,ho,hd]
  ·rename_i f fs cs he;have hd:=ZP hf hp he;refine Z0.SA h hd λwr=>?_
   simp only[EV.den] at hd;simp[execOp,ho,hd]
  ·exact h.elim
 case h_5 op t x y yt ho=>
  split at h
  ·rename_i ty u v ht hu hv;have hu':=QK hf hp hu;have hv':=QK hf hp hv
   cases hb:zwv ty.d op C.wr with
   |true=>
    rw[hb] at h;simp only[cond_true] at h;obtain⟨r,h1,h2⟩:=Ph h;refine Z0.SA h2 (v:=r) rfl λwr=>?_
    have:=G _ h1 wr;simp only[execOp,ho,hu',hv',Sem.run_bind] at this ⊢;rw[this];rfl
   |false=>
    rw[hb] at h;simp only[cond_false] at h;obtain⟨r,hK,hr⟩:=zl7 hT ht (x:=x) (y:=y) G h;refine Z0.SA hK (v:=r) rfl λwr=>?_
    have:=hr wr;simp only[execOp,ho,hu',hv',Sem.run_bind] at this ⊢;rw[this];rfl
  ·exact h.elim
 case h_6 t x ho=>
  split at h
  ·rename_i b hb;exact Z0.SA h rfl λwr=>by simp[execOp,ho,QK hf hp hb,Op.unary]
  ·exact h.elim
 case h_7 t x ho=>
  split at h
  ·rename_i k n hb;obtain⟨h1,h2⟩:=h;have h3:=(G _ h1).wrap;rw[Int.zero_sub] at h3;exact Z0.SA h2 rfl λwr=>by simp[execOp,ho,QK hf hp hb,Op.unary,Op.intArith,h3]
  ·exact h.elim
 case h_8 s x f ho=>
  split at h
  ·rename_i ag ks fs e ht he;have hd:=ZP hf hp he;obtain⟨d,hu,_,oB⟩:=(hT.facts ht).desc;obtain⟨fl,rfl,pY⟩:=KW oB.symm
   split at h
   ·rename_i off b z hfs;obtain⟨fd,i,dd,hfd,hi,_,hz,hx⟩:=Oj pY f _ hfs;simp only[Prod.mk.injEq] at hx;obtain⟨rfl,_,rfl⟩:=hx;have Bi5:fl[f]? = some fd:=by simpa using hfd
    have Wa:∀(ad:Addr) wr,(Instr.fieldAt s (.pointer (some ad)) f).run C.P wr=.ok (.pointer (some (ad.add fd.offset))) wr:=λad wr=>by
     simp[Instr.fieldAt,run_underlying hu,Bi5,Instr.sureAddr,fieldPlace,Y0 hi,hz]
    split at h
    ·rename_i id m;obtain⟨b,hb,hv⟩:=hd;refine Z0.SA h (v:=.pointer (some ⟨b,m+fd.offset,none⟩)) ⟨b,hb,rfl⟩ λwr=>?_
     simp[execOp,ho,hv,Wa,Addr.add_lit]
    ·rename_i ob m;obtain⟨ad,hb,hv⟩:=hd;refine Z0.SA h (v:=.pointer (some (ad.add (m+fd.offset)))) ⟨ad,hb,rfl⟩ λwr=>?_
     simp[execOp,ho,hv,Wa,JE]
    ·rename_i id ix m;obtain⟨b,hb,h0,hv⟩:=hd;refine Z0.SA h (v:=.pointer (some ⟨b,ix.toNat+(m+fd.offset),none⟩)) ⟨b,hb,h0,rfl⟩ λwr=>?_
     simp[execOp,ho,hv,Wa,Addr.add_lit,Nat.add_assoc]
    ·rename_i ob;obtain⟨h1,h2⟩:=h;obtain⟨ad,rfl⟩:=Option.isSome_iff_exists.1 (G _ h1);simp only[EV.den] at hd;refine Z0.SA h2 (v:=.pointer (some (ad.add fd.offset))) ⟨ad,rfl,rfl⟩ λwr=>?_
     simp[execOp,ho,hd,Wa]
    ·exact h.elim
   ·exact h.elim
  ·exact h.elim
 case h_9 t x f ho=>
  split at h
  ·rename_i ag ks fs cs ht hx;have eJ:=QK hf hp hx;obtain⟨d,hu,_,oB⟩:=(hT.facts ht).desc;obtain⟨fl,rfl,pY⟩:=KW oB.symm
   split at h
   ·rename_i off z hfs;obtain⟨fd,i,dd,hfd,hi,hdd,hz,hx⟩:=Oj pY f _ hfs;simp only[Prod.mk.injEq] at hx;obtain⟨rfl,hag,rfl⟩:=hx;have Bi5:fl[f]? = some fd:=by simpa using hfd
    refine Z0.SA h rfl λwr=>?_
    simp[execOp,ho,eJ,Instr.field,run_underlying hu,Bi5,asAgg,part,UV hdd,<-hag,Y0 hi]
   ·rename_i off z hfs;obtain⟨fd,i,dd,hfd,hi,hdd,hz,hx⟩:=Oj pY f _ hfs;simp only[Prod.mk.injEq] at hx;obtain⟨rfl,hag,rfl⟩:=hx;have Bi5:fl[f]? = some fd:=by simpa using hfd
    split at h
    ·rename_i v hv;refine Z0.SA h rfl λwr=>?_
     simp[execOp,ho,eJ,Instr.field,run_underlying hu,Bi5,asAgg,part,UV hdd,<-hag,hv]
    ·exact h.elim
   ·exact h.elim
  ·exact h.elim
 case h_10 t x i ho=>
  split at h
  ·rename_i ag ks e z ob len cap ki ix ht hx hi;have eJ:=ZP hf hp hx;simp only[EV.den] at eJ;have hi':=QK hf hp hi;obtain⟨d,hu,_,oB⟩:=(hT.facts ht).desc;obtain⟨inf,rfl,nY,rfl⟩:=P9 oB.symm;obtain⟨h1,h2⟩:=h;obtain⟨h3,h4,h5⟩:=G _ h1;obtain⟨ad,rfl⟩:=Option.isSome_iff_exists.1 h5;refine Z0.SA h2 (v:=.pointer (some (ad.add (ix.toNat*inf.size)))) ⟨ad,rfl,rfl⟩ λwr=>?_
   simp[execOp,ho,eJ,hi',Instr.indexAt,asIntOf,run_underlying hu,h3,h4,Y0 nY]
  ·rename_i ag ks e id len ki ix ht hx hi;have eJ:=ZP hf hp hx;obtain⟨b,hb,eJ⟩:=eJ;have hi':=QK hf hp hi;obtain⟨d,hu,_,oB⟩:=(hT.facts ht).desc;obtain⟨inf,rfl,nY,oA⟩:=P9 oB.symm;obtain⟨h1,h2⟩:=h;obtain⟨h3,h4⟩:=G _ h1;refine Z0.SA h2 (v:=.pointer (some ⟨b,ix.toNat+0,none⟩)) ⟨b,hb,h3,rfl⟩ λwr=>?_
   simp[execOp,ho,eJ,hi',Instr.indexAt,asIntOf,run_underlying hu,h3,h4,Y0 nY,oA,Addr.add_lit]
  ·rename_i ag ks n z ea ob m ki ix ht hx hi;have eJ:=ZP hf hp hx;obtain⟨ad,hb,eJ⟩:=eJ;have hi':=QK hf hp hi;obtain⟨d,hu,_,oB⟩:=(hT.facts ht).desc;obtain⟨e,inf,de,rfl,nY,rfl,_,_⟩:=Dq oB.symm;obtain⟨h1,h2⟩:=h;obtain⟨h3,h4⟩:=G _ h1;refine Z0.SA h2 (v:=.pointer (some (ad.add (m+ix.toNat*inf.size)))) ⟨ad,hb,rfl⟩ λwr=>?_
   simp[execOp,ho,eJ,hi',Instr.indexAt,Instr.sureAddr,asIntOf,run_underlying hu,h3,h4,Y0 nY,JE]
  ·rename_i ag ks n ea id ki ix ht hx hi;have eJ:=ZP hf hp hx;obtain⟨b,hb,eJ⟩:=eJ;have hi':=QK hf hp hi;obtain⟨d,hu,_,oB⟩:=(hT.facts ht).desc;obtain⟨e,inf,de,rfl,nY,oA,_,_⟩:=Dq oB.symm;obtain⟨h1,h2⟩:=h;obtain⟨h3,h4⟩:=G _ h1;refine Z0.SA h2 (v:=.pointer (some ⟨b,ix.toNat+0,none⟩)) ⟨b,hb,h3,rfl⟩ λwr=>?_
   simp[execOp,ho,eJ,hi',Instr.indexAt,Instr.sureAddr,asIntOf,run_underlying hu,h3,h4,Y0 nY,oA,Addr.add_lit]
  ·exact h.elim
 case h_11 t x i ho=>
  split at h
  ·rename_i ag k ks n cs ki ix ht hx hi;have eJ:=QK hf hp hx;have hi':=QK hf hp hi;obtain⟨d,hu,_,oB⟩:=(hT.facts ht).desc;obtain⟨e,inf,de,rfl,nY,oA,hde,hag⟩:=Dq oB.symm;obtain⟨v,h1,h2⟩:=Ph h;obtain⟨h3,h4,h5⟩:=G _ h1;refine Z0.SA h2 rfl λwr=>?_
   simp[execOp,ho,eJ,hi',Instr.index,asIntOf,run_underlying hu,h3,h4,Y0 nY,oA,part,UV hde,hag,h5]
  ·rename_i ag ks s ki ix ht hx hi;have eJ:=QK hf hp hx;have hi':=QK hf hp hi;obtain⟨d,hu,_,oB⟩:=(hT.facts ht).desc;have:=CN oB.symm;subst this;obtain⟨h1,h2⟩:=h;obtain⟨h3,h4⟩:=G _ h1;refine Z0.SA h2 rfl λwr=>?_
   have h5:ix.toNat<s.size:=Qo;have h6:s[ix.toNat]? = some (s[ix.toNat]):=by simp[h5]
   simp only[execOp,ho,eJ,hi',Instr.index,asIntOf,Sem.run_bind,Sem.run_pure,run_underlying hu,Result.andThen_ok,h3,if_true,h6]
   have h7:Jw s ix=(s[ix.toNat].toNat:Int):=by
    unfold Jw
    congr 2
    simp[Array.getD,h5];rfl
   rw[h7]
  ·exact h.elim
 case h_12 sT t x ho=>
  split at h
  ·rename_i ty0 ag ks k k0 n hs ht hx;have eJ:=QK hf hp hx;obtain⟨d0,hu0,_,_⟩:=(hT.facts hs).desc;obtain⟨d,hu,_,oB⟩:=(hT.facts ht).desc;have:=zqx oB.symm;subst this;obtain⟨h1,h2⟩:=h;have h3:=(G _ h1).wrap;refine Z0.SA h2 rfl λwr=>?_
   cases d0 <;> simp[execOp,ho,eJ,convert,run_underlying hu0,run_underlying hu,Conv.intToInt,h3]
  ·exact h.elim
 case h_13 x i ho=>
  split at h
  ·rename_i vs hx;have eJ:=QK hf hp hx
   split at h
   ·rename_i v hv;exact Z0.SA h rfl λwr=>by simp[execOp,ho,eJ,Instr.extract,hv]
   ·exact h.elim
  ·exact h.elim
 case h_14 t x lo hi ho=>
  split at h
  ·rename_i ag ks e z ob len cap l hh ht hx hl hhi;have eJ:=QK hf hp hx;have hl':=Lg hf hp hl;have hh':=Lg hf hp hhi;obtain⟨d,hu,_,oB⟩:=(hT.facts ht).desc;obtain⟨inf,rfl,nY,rfl⟩:=P9 oB.symm;obtain⟨li,yS,h⟩:=EB h;obtain⟨hi',hh1,h1,h2⟩:=GD h;have hsb:=CA (P:=C.P) (b:=true) (G _ h1) yS hh1;exact Z0.SA h2 rfl λwr=>by simp[execOp,ho,eJ,hl',hh',Instr.sliceAt,Instr.slice,run_underlying hu,hsb,Y0 nY]
  ·rename_i ag ks sv l hh ht hx hl hhi;have eJ:=QK hf hp hx;have hl':=Lg hf hp hl;have hh':=Lg hf hp hhi;obtain⟨d,hu,_,oB⟩:=(hT.facts ht).desc;have:=CN oB.symm;subst this;obtain⟨li,yS,h⟩:=EB h;obtain⟨hi',hh1,h1,h2⟩:=GD h;have hsb:=CA (P:=C.P) (b:=false) (G _ h1) yS hh1;exact Z0.SA h2 rfl λwr=>by simp[execOp,ho,eJ,hl',hh',Instr.sliceAt,Instr.slice,run_underlying hu,hsb]
  ·exact h.elim
 case h_15 fn first cap ho=>
  split at h
  ·rename_i va vb hva hvb;have h1:=Xl hf hp hva;have h2:=Xl hf hp hvb;have e1:first.map a.eval=va.toArray:=by rw[<-h1,<-Array.toList_map,Array.toArray_toList]
   have e2:cap.map a.eval=vb.toArray:=by rw[<-h2,<-Array.toList_map,Array.toArray_toList]
   exact Z0.SA h rfl λwr=>by simp[execOp,ho,Instr.makeFunc,e1,e2]
  ·exact h.elim
 case h_16 t x ho=>
  split at h
  ·rename_i ty v ht hx;have eJ:=QK hf hp hx;obtain⟨d,hu,_,oB⟩:=(hT.facts ht).desc
   cases ho':ty.d.AJ2 with
   |true=>rw[ho'] at h;exact h.elim
   |false=>
    rw[ho'] at h;simp only[cond_false] at h;refine Z0.SA h rfl λwr=>?_
    cases d with
    |interface ms=>rw[oB] at ho';simp[KV,TD.AJ2] at ho'
    |_=>simp[execOp,ho,eJ,Instr.makeInterface,run_underlying hu]
  ·exact h.elim
 case h_17 x t u ok ho=>
  split at h
  ·rename_i v rk hx hrk;have eJ:=QK hf hp hx;obtain⟨r,h1,h2⟩:=JT h;exact Z0.SA h2 rfl λwr=>by simp[execOp,ho,eJ,G _ h1 wr]
  ·exact h.elim
 case h_18 t parts ho=>
  split at h
  ·rename_i ag ks fs ht;obtain⟨d,hu,_,oB⟩:=(hT.facts ht).desc;obtain⟨inf,z,nY,hz,oA,hks⟩:=(hT.facts ht).info;obtain⟨fl,rfl,pY⟩:=KW oB.symm
   split at h
   ·rename_i vs hvs kF;have hv:=Xl hf hp hvs
    split at h
    ·rename_i cells AL2;refine Z0.SA h rfl λwr=>?_
     have hzc:z.cells=(ks.map zv).toArray:=by
      have h0:∀(l:List Va),(l.map Pb).contains .other=false->(l.map Pb).map zv=l:=by
       intro l
       induction l with
       |nil=>intro _;rfl
       |cons x r ih=>
        intro hc;simp only[List.map_cons,List.contains_cons,I1] at hc;have hx:Pb x≠.other:=by intro e;rw[e] at hc;simp at hc
        simp only[List.map_cons,ih hc.2,<-zd7 hx]
      have h1:=h0 z.cells.toList (by rw[hks];exact kF);rw[hks] at h1;rw[h1,Array.toArray_toList]
     have hpl:∀(l:List Field) (r:List (Nat×Bool×Nat)),fieldsOf C.P l=some r->
       (l.mapM (λf=>do pure (f.offset,<-sizeOf f.type)):Sem (List (Nat×Nat))).run C.P wr=.ok (r.map λf=>(f.1,f.2.2)) wr:=by
      intro l
      induction l with
      |nil=>intro r hr;simp only[fieldsOf,I2] at hr;subst hr;simp
      |cons f l ih=>
       intro r hr;simp only[fieldsOf] at hr
       split at hr
       ·rename_i i d l' hi hd hl'
        split at hr
        ·cases hr
        ·simp only[I2] at hr;subst hr;have ih':=ih l' hl';simp only[List.mapM_cons,Sem.run_bind,Y0 hi,Result.andThen_ok,Sem.run_pure,ih',List.map_cons]
       ·cases hr
     have AB2:(parts.map λ(i,x)=>(i,a.eval x)).toList=(parts.toList.map (·.1)).zip vs:=by
      rw[<-hv];generalize hq:parts.toList=q;have:(parts.map λ(i,x)=>(i,a.eval x)).toList=q.map λ(i,x)=>(i,a.eval x):=by rw[<-hq];simp
      rw[this];clear hq this hvs AL2
      induction q with
      |nil=>rfl
      |cons y q ih=>simp[ih]
     have BG7:Instr.fill (λi=>((fs.map λf=>(f.1,f.2.2)).toArray)[i]?) z.cells ((parts.map λ(i,x)=>(i,a.eval x)).toList)=some cells:=by
      rw[AB2,hzc,<-AL2]
      congr 1
      funext i
      simp
     simp only[execOp,ho,Instr.build,Sem.run_bind,zeroValue,Jf nY,Result.andThen_ok,hz,Sem.run_pure,run_underlying hu,Array.mapM_eq_mapM_toList,Sem.run_map,hpl fl.toList fs pY,BG7]
    ·exact h.elim
   ·exact h.elim
  ·rename_i ag ks n z0 eb ht;obtain⟨d,hu,_,oB⟩:=(hT.facts ht).desc;obtain⟨inf,z,nY,hz,oA,hks⟩:=(hT.facts ht).info;obtain⟨e,CN6,de,rfl,CJ9,hez,_,_⟩:=Dq oB.symm
   split at h
   ·rename_i vs hvs kF;have hv:=Xl hf hp hvs
    split at h
    ·rename_i cells AL2;refine Z0.SA h rfl λwr=>?_
     have hzc:z.cells=(ks.map zv).toArray:=by
      have h0:∀(l:List Va),(l.map Pb).contains .other=false->(l.map Pb).map zv=l:=by
       intro l
       induction l with
       |nil=>intro _;rfl
       |cons x r ih=>
        intro hc;simp only[List.map_cons,List.contains_cons,I1] at hc;have hx:Pb x≠.other:=by intro e;rw[e] at hc;simp at hc
        simp only[List.map_cons,ih hc.2,<-zd7 hx]
      have h1:=h0 z.cells.toList (by rw[hks];exact kF);rw[hks] at h1;rw[h1,Array.toArray_toList]
     have AB2:(parts.map λ(i,x)=>(i,a.eval x)).toList=(parts.toList.map (·.1)).zip vs:=by
      rw[<-hv];generalize hq:parts.toList=q;have:(parts.map λ(i,x)=>(i,a.eval x)).toList=q.map λ(i,x)=>(i,a.eval x):=by rw[<-hq];simp
      rw[this];clear hq this hvs AL2
      induction q with
      |nil=>rfl
      |cons y q ih=>simp[ih]
     have BG7:Instr.fill (λi=>some (i*CN6.size,CN6.size)) z.cells ((parts.map λ(i,x)=>(i,a.eval x)).toList)=some cells:=by
      rw[AB2,hzc,<-AL2,hez]
     simp only[execOp,ho,Instr.build,Sem.run_bind,zeroValue,Jf nY,Result.andThen_ok,hz,Sem.run_pure,run_underlying hu,Y0 CJ9,BG7]
    ·exact h.elim
   ·exact h.elim
  ·exact h.elim
 case h_19 t x ho=>
  split at h
  ·rename_i ty ob n ht hx;obtain⟨ad,hb,eJ⟩:=ZP hf hp hx;obtain⟨vs,hlen,h⟩:=TF h
   split at h
   ·rename_i v hv;obtain⟨h1,h2⟩:=h;refine Z0.AJ7 (v:=v) h2 rfl h1 λS' w' hl kL wr hw=>?_
    have h3:=G _ kL;have:=Ti hT ht hv hlen (a:=ad.add n) (h3.cells hw.ext hb);simp[execOp,ho,eJ,Instr.loadAt,Instr.sureAddr,this]
   ·exact h.elim
  ·rename_i ty ob ht hx;have eJ:=ZP hf hp hx;simp only[EV.den] at eJ
   have hk:0<ty.ks.length:=by
    cases hks:ty.ks with
    |nil=>rw[hks] at h;exact h.elim
    |cons=>simp
   have hke:ty.ks.isEmpty=false:=by
    cases hks:ty.ks with
    |nil=>rw[hks] at hk;cases hk
    |cons=>rfl
   rw[hke] at h;obtain⟨vs,hlen,h⟩:=TF h
   split at h
   ·rename_i v hv;obtain⟨h1,h2⟩:=h;refine Z0.AJ7 (v:=v) h2 rfl h1 λS' w' hl kL wr hw=>?_
    have h3:=G _ kL;obtain⟨u,hu⟩:=zuj hv hlen hk h3;obtain⟨ad,hb,_,_⟩:=hu;have:=Ti hT ht hv hlen (a:=ad.add 0) (h3.cells hw.ext hb);rw[Addr.add_zero'] at this;simp[execOp,ho,eJ,hb,Instr.loadAt,Instr.sureAddr,this]
   ·exact h.elim
  ·rename_i ty id off ht hx;obtain⟨b,hb,eJ⟩:=ZP hf hp hx
   split at h
   ·rename_i t' cs hL
    split at h
    ·rename_i v hv
     cases hl:Nat.beq ((cs.drop off).take ty.ks.length).length ty.ks.length with
     |false=>rw[hl] at hv;cases hv
     |true=>
      rw[hl] at hv;simp only[cond_true] at hv;refine Z0.AJ7 (v:=v) h rfl hL λS' w' nI kL wr hw=>?_
      have:=Ti hT ht hv (Ie hl) (a:=⟨b,off,none⟩) (w:=wr) (λj y hy=>by
       rw[Addr.add_lit,KD hw kL (nI _ _ hb)];have:=List.getElem?_take (l:=cs.drop off) (i:=ty.ks.length) (j:=j);rw[hy] at this
       split at this
       ·rw[List.getElem?_drop] at this;exact this.symm
       ·cases this)
      simp[execOp,ho,eJ,Instr.loadAt,Instr.sureAddr,this]
    ·exact h.elim
   ·exact h.elim
  ·rename_i k td id i m ht hx;obtain⟨b,hb,h0,eJ⟩:=ZP hf hp hx
   split at h
   ·rename_i t' cs hL;obtain⟨v,h1,h2⟩:=Ph h;obtain⟨_,h4⟩:=G _ h1;refine Z0.AJ7 (v:=v) h2 rfl hL λS' w' nI kL wr hw=>?_
    have:=Ti hT ht (vs:=[v]) (v:=v) rfl rfl (a:=⟨b,i.toNat+m,none⟩) (w:=wr) (λj y hy=>by
     cases j with
     |zero=>simp at hy;subst hy;rw[Addr.add_zero',KD hw kL (nI _ _ hb)];exact h4
     |succ j=>simp at hy)
    simp[execOp,ho,eJ,Instr.loadAt,Instr.sureAddr,this]
   ·exact h.elim
  ·exact h.elim
 case h_20 b args ts ho=>
  split at h
  ·rename_i x t hargs hts;have ea:args=#[x]:=by rw[<-Array.toArray_toList (xs:=args),hargs]
   have et:ts=#[t]:=by rw[<-Array.toArray_toList (xs:=ts),hts]
   subst ea;subst et
   split at h
   ·rename_i ag ks e z o n c ht hx;have eJ:=QK hf hp hx;obtain⟨d,hu,_,oB⟩:=(hT.facts ht).desc;obtain⟨inf,rfl,nY,_⟩:=P9 oB.symm;exact Z0.SA h rfl λwr=>by simp[execOp,ho,resolve,invoke,builtin,Builtin.len_,run_underlying hu,eJ,goInt]
   ·rename_i ag ks sv ht hx;have eJ:=QK hf hp hx;obtain⟨d,hu,_,oB⟩:=(hT.facts ht).desc;have:=CN oB.symm;subst this;exact Z0.SA h rfl λwr=>by simp[execOp,ho,resolve,invoke,builtin,Builtin.len_,run_underlying hu,eJ,goInt]
   ·exact h.elim
  ·rename_i x y hargs;have ea:args=#[x,y]:=by rw[<-Array.toArray_toList (xs:=args),hargs]
   subst ea
   split at h
   ·rename_i k u k' v hx hy;have eJ:=QK hf hp hx;have hy':=QK hf hp hy;exact Z0.SA h rfl λwr=>by simp[execOp,ho,resolve,invoke,builtin,Builtin.min_,Builtin.min2,eJ,hy']
   ·exact h.elim
  ·rename_i x y hargs;have ea:args=#[x,y]:=by rw[<-Array.toArray_toList (xs:=args),hargs]
   subst ea
   split at h
   ·rename_i k u k' v hx hy;have eJ:=QK hf hp hx;have hy':=QK hf hp hy;exact Z0.SA h rfl λwr=>by simp[execOp,ho,resolve,invoke,builtin,Builtin.max_,Builtin.max2,eJ,hy']
   ·exact h.elim
  ·exact h.elim
 case h_21 f args ts ho=>
  split at h
  ·rename_i rks vs hpf hvs;have hv:=Xl hf hp hvs;obtain⟨r,h1,h2⟩:=JT h;refine⟨.v r,_,r,h2,rfl,h1,λS' w' a' he nI kL wr hw=>?_⟩;unfold Oper.quietAt;rw[he,zhm (RD f rks hpf) args ts a ho];refine⟨rfl,?_⟩;have ea:args.map a.eval=vs.toArray:=by rw[<-hv,<-Array.toList_map,Array.toArray_toList]
   rw[ea]
   have CM2:Q3 S'.bs C.P f vs.toArray wr r:=by
    unfold A1 at kL
    split at kL
    ·exact(G _ kL).ext hw.ext
    ·exact(XV.out hw (G _ kL wr hw.ext))
   exact(CM2 wr (Q0.refl _ _)).mono λe kN ⟨h1,h2⟩=>⟨h1,hw.step h2⟩
  ·exact h.elim
 case h_22=>exact h.elim
structure Pr (n:Nat) (S:St) (ops:Array Oper) (D:Nat->Prop) (a:Act):Prop where
 fit:Fw n S ops a
 dn:∀(i:Nat) (pc:List (Nat×Bool)) (x:EV),S.F.get i=some (.gd S.r pc x)->∀p∈pc,D p.1
 st:∀(i r:Nat) (pc:List (Nat×Bool)) (x:EV),S.F.get i=some (.gd r pc x)->r<=S.r
def EH:List Oper->Nat->Nat->Nat->Bool
 |[],_,_,_=>true
 |o::r,d,j,k=>(match o.dst with
  |some d'=>bif Nat.beq d' d then Nat.beq k j else true
  |none=>true)&&EH r d j (k+1)
def Fq:∀{l:List Oper} {d j k:Nat},EH l d j k->∀(i:Nat) (o:Oper),l[i]? = some o->o.dst=some d->k+i=j
 |[],_,_,_,_,i,o,h,_=>by simp at h
 |o::r,d,j,k,h,i,o',h1,h2=>by
  simp only[EH,A'] at h
  cases i with
  |zero=>
   simp only[Ih,I2] at h1;subst h1;rw[h2] at h;simp only[Nat.beq_refl,cond_true] at h;exact Ie h.1
  |succ i=>
   have:=Fq h.2 i o' (by simpa using h1) h2;omega
def znp(ops:Array Oper)(j:Nat):Prop:=∃o∈ops.toList,∃b,o.guard=some (j,b)
def zh3(ops:List Oper):List Oper->Option Nat->Bool
 |[],_=>true
 |o::r,last=>match o.guard with
  |none=>zh3 ops r last
  |some (j,_)=>(match last with
    |some j'=>bif Nat.beq j' j then true else (match (ops[j]?).bind (·.dst) with|some d=>EH ops d j 0|none=>true)
    |none=>(match (ops[j]?).bind (·.dst) with|some d=>EH ops d j 0|none=>true))&&zh3 ops r (some j)
def Du(ops:Array Oper):Bool:=zh3 ops.toList ops.toList none
def zny(ops:List Oper)(j:Nat):Prop:=∀d,(ops[j]?).bind (·.dst)=some d->∀(i:Nat) (o:Oper),ops[i]? = some o->o.dst=some d->i=j
def H4{ops:List Oper}:∀{l:List Oper} {last:Option Nat},zh3 ops l last->(∀j,last=some j->zny ops j)->∀o∈l,∀j b,o.guard=some (j,b)->zny ops j
 |[],_,_,_,o,ho,_,_,_=>by cases ho
 |o::r,last,h,Bz5,o',ho,j,b,hg=>by
  simp only[zh3] at h
  split at h
  ·rename_i hn;rcases Ik.1 ho with rfl|ho
   ·rw[hn] at hg;cases hg
   ·exact H4 h Bz5 o' ho j b hg
  ·rename_i j' b' hs;simp only[A'] at h
   have hu:zny ops j':=by
    have h1:=h.1
    have base:(match (ops[j']?).bind (·.dst) with|some d=>EH ops d j' 0|none=>true)=true->zny ops j':=λhb d hd i o hi hod=>by
     rw[hd] at hb;have:=Fq hb i o hi hod;omega
    split at h1
    ·rename_i j''
     cases hb:Nat.beq j'' j' with
     |true=>exact Ie hb▸Bz5 j'' rfl
     |false=>rw[hb] at h1;exact base h1
    ·exact base h1
   rcases Ik.1 ho with rfl|ho
   ·rw[hs] at hg;cases hg;exact hu
   ·exact H4 h.2 (λj'' hj=>by cases hj;exact hu) o' ho j b hg
def zjx{ops:Array Oper}(h:Du ops){j:Nat}(hj:znp ops j):zny ops.toList j:=by
 obtain⟨o,ho,b,hg⟩:=hj;exact H4 h (λj hj=>by cases hj) o ho j b hg
def zbz(S:St)(pc:List (Nat×Bool))(e:EV):SV:=
 match pc with
 |[]=>.un e
 |pc=>.gd S.r pc e
def GW(C:VR)(S:St)(d:Option Tmp)(sv:SV)(K:St->Prop):Prop:=
 match d with
 |none=>K S
 |some d=>bif Nat.blt d C.n&&Nat.blt d 4000 then K { S with F:=PT.set 12 S.F d sv } else False
def St.bX(S:St)(d:Option Tmp)(sv:SV):St:=
 match d with
 |none=>S
 |some d=>{ S with F:=PT.set 12 S.F d sv }
def Yg{C:VR}{S:St}{d:Option Tmp}{sv:SV}{K:St->Prop}(h:GW C S d sv K):K (S.bX d sv)/\∀x,d=some x->x<C.n/\x<4000:=by
 cases d with
 |none=>exact⟨h,λx hx=>by cases hx⟩
 |some d=>
  simp only[GW] at h
  cases hb:(Nat.blt d C.n&&Nat.blt d 4000) with
  |false=>rw[hb] at h;exact h.elim
  |true=>
   rw[hb] at h;simp only[A'] at hb;exact⟨h,λx hx=>by cases hx;exact⟨Im hb.1,Im hb.2⟩⟩
def zor{a:Act}{d:Option Tmp}{v:Va}(t:Nat)(h:∀x,d=some x->x<a.tmps.size):(a.put d v).tmps.getD t undef=if d=some t then v else a.tmps.getD t undef:=by
 cases d with
 |none=>simp[Act.put]
 |some d=>
  have hd:=h d rfl;simp only[Act.put,Array.getD_eq_getD_getElem?]
  by_cases hdt:d=t
  ·subst hdt;simp[hd]
  ·have:¬(some d=some t):=by simpa using hdt
   rw[E' this,Array.getElem?_setIfInBounds_ne hdt]
def zqi{a:Act}{d:Option Tmp}{v:Va}:(a.put d v).tmps.size=a.tmps.size:=by
 cases d <;> simp[Act.put]
def zh9{ops:Array Oper}{a:Act}{d:Option Tmp}{v:Va}{j:Nat}(h:∀x,d=some x->(ops[j]?).bind (·.dst)≠some x):yielded ops (a.put d v).tmps j=yielded ops a.tmps j:=by
 cases d with
 |none=>rfl
 |some d=>
  unfold yielded;simp only[Act.put]
  cases hj:(ops[j]?).bind (·.dst) with
  |none=>rfl
  |some x=>
   have fJ:d≠x:=λe=>h d rfl (by rw[hj,e])
   simp only[Option.bind_some];rw[Array.getElem?_setIfInBounds_ne fJ]
def EV.yV{S:St}{d:Option Tmp}{sv:SV}{e:EV}{u:Va}:EV.den (S.bX d sv) e u↔EV.den S e u:=by
 cases d <;> cases e <;> exact Iff.rfl
def Pr.put{n:Nat}{S:St}{ops:Array Oper}{D D':Nat->Prop}{a:Act}(hf:Pr n S ops D a){i:Nat}{o:Oper}{pc:List (Nat×Bool)}{e:EV}{v:Va}(hu:Du ops)(ho:ops[i]? = some o)(hi:¬D i)(hD:∀j,D j->znp ops j)(hDD:∀j,D j->D' j)(nX:∀p∈pc,D p.1)(hd:∀x,o.dst=some x->x<n/\x<4000)(hv:(GU ops a pc->EV.den S e v)/\(¬GU ops a pc->v=undef)):Pr n (S.bX o.dst (zbz S pc e)) ops D' (a.put o.dst v):=by
 have hyk:∀j,D j->yielded ops (a.put o.dst v).tmps j=yielded ops a.tmps j:=λj hj=>zh9 λx hx hjx=>by
  have:=zjx hu (hD j hj) x (by simpa using hjx) i o (by simpa using ho) hx;subst this;exact hi hj
 have hpk:∀tL,(∀p∈tL,D p.1)->(GU ops (a.put o.dst v) tL↔GU ops a tL):=λtL h'=>by
  unfold GU;constructor
  ·intro h p hp;rw[<-hyk p.1 (h' p hp)];exact h p hp
  ·intro h p hp;rw[hyk p.1 (h' p hp)];exact h p hp
 have oA:∀x,o.dst=some x->x<a.tmps.size:=λx hx=>by rw[hf.fit.size];exact(hd x hx).1
 have hr:(S.bX o.dst (zbz S pc e)).r=S.r:=by cases o.dst <;> rfl
 have Ax9:∀t,(S.bX o.dst (zbz S pc e)).F.get t=if o.dst=some t then some (zbz S pc e) else S.F.get t:=λt=>by
  cases hdd:o.dst with
  |none=>simp[St.bX]
  |some d=>
   simp only[St.bX];rw[PT.mS _ 12 S.F d t (by have h1 : @LT.lt Nat _ d 4000:=(hd d hdd).2;show @LT.lt Nat _ (d+1) (2 ^ 12);omega)];simp
 refine⟨⟨by rw[zqi];exact hf.fit.size,λt s hs=>?_⟩,λt tL x hx p hp=>?_,λt r tL x hx=>?_⟩
 ·rw[zor t oA];rw[Ax9 t] at hs
  by_cases hdt:o.dst=some t
  ·rw[H' hdt] at hs ⊢;simp only[I2] at hs;subst hs;unfold zbz;split
   ·show EV.den _ e v;rw[EV.yV];exact hv.1 (λp hp=>by cases hp)
   ·intro _;rw[EV.yV,hpk pc nX];exact hv
  ·rw[E' hdt] at hs ⊢;have h1:=hf.fit.fits t s hs
   cases s with
   |un x=>
    show EV.den _ x _;rw[EV.yV];exact h1
   |gd r tL x=>
    intro hrr;rw[hr] at hrr;subst hrr;rw[EV.yV,hpk tL (hf.dn t tL x hs)];exact h1 rfl
 ·rw[Ax9 t] at hx;rw[hr] at hx
  by_cases hdt:o.dst=some t
  ·rw[H' hdt] at hx;simp only[I2] at hx;unfold zbz at hx
   split at hx
   ·cases hx
   ·simp only[SV.gd.injEq] at hx;obtain⟨_,rfl,_⟩:=hx;exact hDD _ (nX p hp)
  ·rw[E' hdt] at hx;exact hDD _ (hf.dn t tL x hx p hp)
 ·rw[Ax9 t] at hx;rw[hr]
  by_cases hdt:o.dst=some t
  ·rw[H' hdt] at hx;simp only[I2] at hx;unfold zbz at hx
   split at hx
   ·cases hx
   ·simp only[SV.gd.injEq] at hx;exact Nat.le_of_eq hx.1.symm
  ·rw[E' hdt] at hx;exact hf.st t r tL x hx
def eY(w:Wo)(a:Addr):Nat->List Va->Wo
 |_,[]=>w
 |n,v::r=>eY (w.setCell (a.add n) v) a (n+1) r
def RN(w:Wo)(o:OA)(n:Nat)(vs:List Va):Wo:=
 match o with
 |some a=>eY w a n vs
 |none=>w
def Xx(bs:List Nat)(w:Wo)(o:OA)(n k:Nat):Prop:=
 ∃a,o=some a/\a.block∉bs/\∀j,n<=j->j<n+k->(∃u,w.cell? (a.add j)=some u)/\w.frozen? (a.add j)=false
def Ze:List Va->Bool
 |[]=>true
 |.agg _::_=>false
 |.tuple _::_=>false
 |_::r=>Ze r
def Ul:∀{l:List Va},Ze l->∀v∈l,v.oneCell'=true
 |[],_,v,hv=>by cases hv
 |x::r,h,v,hv=>by
  cases x <;> simp only[Ze] at h <;> first
   |(cases h;done)
   | (rcases Ik.1 hv with rfl | hv
      ·rfl
      ·exact Ul h v hv)
def Oy:∀(vs:List Va) (w:Wo) (a:Addr) (n:Nat),(eY w a n vs).heap.size=w.heap.size
 |[],_,_,_=>rfl
 |v::r,w,a,n=>by simp only[eY];rw[Oy r];simp
def Tr:∀(vs:List Va) (w:Wo) (a:Addr) (n k:Nat),k≠a.block->(eY w a n vs).heap[k]? = w.heap[k]?
 |[],_,_,_,_,_=>rfl
 |v::r,w,a,n,k,h=>by
  simp only[eY];rw[Tr r _ a (n+1) k h,Below.heap_setCell _ _ _ _ (by rw[Zv];exact h)]
def Ln:∀(vs:List Va) (w:Wo) (a:Addr) (n:Nat),(eY w a n vs).os=w.os/\(eY w a n vs).tape=w.tape/\(eY w a n vs).output=w.output
 |[],_,_,_=>⟨rfl,rfl,rfl⟩
 |v::r,w,a,n=>by
  simp only[eY];obtain⟨h1,h2,h3⟩:=Ln r (w.setCell (a.add n) v) a (n+1);exact⟨h1,h2,h3⟩
def zda:∀(vs:List Va) (w w':Wo) (a:Addr) (n:Nat),w.heap[a.block]? = w'.heap[a.block]?->(eY w a n vs).heap[a.block]? = (eY w' a n vs).heap[a.block]?
 |[],_,_,_,_,h=>h
 |v::r,w,w',a,n,h=>by
  simp only[eY];refine zda r _ _ a (n+1) ?_;simp only[World.setCell,Array.getElem?_modify,Zv,if_true,h]
def frozen?_of_block {w w':Wo} {p:Addr} (h:w'.heap[p.block]? = w.heap[p.block]?):w'.frozen? p=w.frozen? p:=by
 unfold World.frozen?;rw[h]
def UB{P:Program}:∀(vs:List Va) (w:Wo) (a:Addr) (n:Nat),(∀v∈vs,v.oneCell')->
  (∀j,n<=j->j<n+vs.length->(∃u,w.cell? (a.add j)=some u)/\w.frozen? (a.add j)=false)->(storeCells a vs n).run P w=.ok () (eY w a n vs)
 |[],_,_,_,_,_=>rfl
 |v::r,w,a,n,h1,h2=>by
  obtain⟨⟨u,hu⟩,hfz⟩:=h2 n (I9 _) Qs;have hs:=run_store P w (a.add n) v .plain (h1 v (Ib ..));rw[hu] at hs;simp only[hfz] at hs;simp only[storeCells,Sem.run_bind];rw[hs];simp only[Bool.false_eq_true,if_false,Result.andThen_ok];rw[UB r _ a (n+1) (λx hx=>h1 x (I3 _ hx)) λj hj1 hj2=>?_]
  ·rfl
  ·obtain⟨⟨u',hu'⟩,Ch8⟩:=h2 j Qo (by simp at hj2 ⊢;omega);refine⟨?_,by rw[World.frozen?_setCell];exact Ch8⟩
   by_cases he:a.add n=a.add j
   ·rw[he];exact⟨v,World.cell?_setCell_same _ _ _ hu'⟩
   ·exact⟨u',by rw[World.cell?_setCell_other _ _ _ _ he];exact hu'⟩
end Go.Proofs.YtjinkcmkgnofjaaGreat
