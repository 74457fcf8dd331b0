/- Part 3 of what the law FnDropEmpty needs. -/
import Derived.Test.YtnclplgaicdapaaGreatDoorFnDropEmptyPb
import Derived.Deep.AppendSrc
import Derived.Deep.Upon
import Derived.Laws.MakeOwn
import Derived.Laws.CopyRow
import Derived.Laws.AppendOwn
set_option linter.unusedVariables false
set_option linter.unusedSimpArgs false
set_option maxRecDepth 100000
set_option maxHeartbeats 8000000
namespace Go.Proofs.YtnclplgaicdapaaGreatDoor
open Go.RowKit
theorem Yz{α:Type}{enc:α->List Va}{z:Nat}(hz:∀x,(enc x).length=z):∀l:List α,(l.flatMap enc).length=l.length*z
 | []=>by simp
 | x::r=>by rw[List.flatMap_cons,Ip,hz,Yz hz r,List.length_cons,Nat.succ_mul]; omega
theorem HI{α:Type}{enc:α->List Va}{z:Nat}(hz:∀x,(enc x).length=z):∀(l:List α) (i j:Nat) (hi:i<l.length),j<z->(l.flatMap enc)[i*z+j]? = (enc l[i])[j]?
 | x::r,0,j,_,hj=>by
  rw[List.flatMap_cons,Iq (by rw[hz]; omega)];simp
 | x::r,i+1,j,hi,hj=>by
  rw[List.flatMap_cons,List.getElem?_append_right (by rw[hz,Nat.succ_mul]; omega),hz];have e:(i+1)*z+j-z=i*z+j:=by rw[Nat.succ_mul]; omega
  rw[e,HI hz r i j (by simpa using hi) hj];simp
theorem Ah{α:Type}{enc:α->List Va}{z:Nat}(hz:∀x,(enc x).length=z)(x:α):∀(l:List α) (i:Nat) (_:i<l.length),((l.set i x).flatMap enc)=(l.flatMap enc).take (i*z)++enc x++(l.flatMap enc).drop ((i+1)*z)
 | y::r,0,_=>by
  simp only[List.set_cons_zero,List.flatMap_cons,Nat.zero_mul,List.take_zero,List.nil_append,Nat.zero_add,Nat.one_mul];rw[List.drop_append_of_le_length (by rw[hz]; exact I8 _),List.drop_eq_nil_iff.2 (by rw[hz]; exact I8 _),List.nil_append]
 | y::r,i+1,hi=>by
  simp only[List.set_cons_succ,List.flatMap_cons];rw[Ah hz x r i (by simpa using hi)];have e1:(i+1)*z=z+i*z:=by rw[Nat.succ_mul]; omega
  have e2:(i+1+1)*z=z+(i+1)*z:=by rw[Nat.succ_mul (i+1)]; omega
  have hy:(enc y).length=z:=hz y
  have t1:(enc y++r.flatMap enc).take ((i+1)*z)=enc y++(r.flatMap enc).take (i*z):=by
   rw[e1,List.take_append,List.take_of_length_le Qo,hy,show z+i*z-z=i*z by omega]
  have t2:(enc y++r.flatMap enc).drop ((i+1+1)*z)=(r.flatMap enc).drop ((i+1)*z):=by
   rw[e2,List.drop_append,List.drop_eq_nil_iff.2 Qo,List.nil_append,hy,show z+(i+1)*z-z=(i+1)*z by omega]
  rw[t1,t2];simp[List.append_assoc]
def XU{α:Type}(enc:α->List Va)(z:Nat)(ty:TypeId)(base:Nat)(w:Wo)(o:OA)(cap:Nat)(l:List α):Prop:=
 (cap=0/\l=[]/\o=none)\/∃(b:Nat) (sp:List Va),o=some ⟨b,0,none⟩/\base<=b/\w.heap[b]? = some (.cells (l.flatMap enc++sp).toArray ty (0,0))/\(l.flatMap enc++sp).length=cap*z/\l.length<=cap
def Qy(o:OA):List Nat:=match o with
 | some a=>[a.block]
 | none=>[]
theorem XU.ext{α:Type}{enc:α->List Va}{z:Nat}{ty:TypeId}{base:Nat}{w w':Wo}{o:OA}{cap:Nat}{l:List α}{bs:List Nat}(h:XU enc z ty base w o cap l)(hx:Q0 bs w w')(hd:∀b∈Qy o,b∉bs):XU enc z ty base w' o cap l:=by
 rcases h with h | ⟨b,sp,rfl,h1,h2,h3,h4⟩
 ·exact .inl h
 ·exact .inr ⟨b,sp,rfl,h1,Zg h2 hx (hd b (by simp[Qy])),h3,h4⟩
theorem XU.bG{α:Type}{enc:α->List Va}{z:Nat}{ty:TypeId}{base:Nat}{w w':Wo}{o:OA}{cap:Nat}{l:List α}(h:XU enc z ty base w o cap l)(hx:Q0 [] w w'):XU enc z ty base w' o cap l:=h.ext hx Qs
theorem XU.lt{α:Type}{enc:α->List Va}{z:Nat}{ty:TypeId}{base:Nat}{w:Wo}{o:OA}{cap:Nat}{l:List α}(h:XU enc z ty base w o cap l):∀b∈Qy o,base<=b/\b<w.heap.size:=by
 rcases h with ⟨_,_,rfl⟩ | ⟨b,sp,rfl,h1,h2,h3,h4⟩
 ·simp[Qy]
 ·intro x hx;simp only[Qy,IA] at hx;subst hx;exact⟨h1,VX h2⟩
theorem XU.Wb{α β:Type}{enc:α->List Va}{Ck8:β->List Va}{z z':Nat}{ty ty':TypeId}{base aF:Nat}{w:Wo}{o o':OA}{cap mC:Nat}{l:List α}{l':List β}(h:XU enc z ty base w o cap l)(h':XU Ck8 z' ty' aF w o' mC l')(ht:ty≠ty'):∀b∈Qy o,b∉Qy o':=by
 rcases h with ⟨_,_,rfl⟩ | ⟨b,sp,rfl,h1,h2,h3,h4⟩
 ·simp[Qy]
 ·rcases h' with ⟨_,_,rfl⟩ | ⟨b',sp',rfl,h1',h2',h3',h4'⟩
  ·simp[Qy]
  ·intro x hx eH;simp only[Qy,IA] at hx eH;subst hx;subst eH;rw[h2] at h2';simp only[I1,Obj.cells.injEq] at h2';exact ht h2'.2.1
theorem XU.mono{α:Type}{enc:α->List Va}{z:Nat}{ty:TypeId}{base aF:Nat}{w:Wo}{o:OA}{cap:Nat}{l:List α}(h:XU enc z ty base w o cap l)(hb:aF<=base):XU enc z ty aF w o cap l:=by
 rcases h with h | ⟨b,sp,rfl,h1,h2,h3,h4⟩
 ·exact .inl h
 ·exact .inr ⟨b,sp,rfl,IB hb h1,h2,h3,h4⟩
theorem XU.le{α:Type}{enc:α->List Va}{z:Nat}{ty:TypeId}{base:Nat}{w:Wo}{o:OA}{cap:Nat}{l:List α}(h:XU enc z ty base w o cap l):l.length<=cap:=by
 rcases h with ⟨_,rfl,_⟩ | ⟨b,sp,rfl,h1,h2,h3,h4⟩
 ·exact Ie _
 ·exact h4
theorem XU.rd{α:Type}[Inhabited α]{enc:α->List Va}{z:Nat}{ty:TypeId}{base:Nat}{w:Wo}{o:OA}{cap:Nat}{l:List α}(h:XU enc z ty base w o cap l)(hz:∀x,(enc x).length=z){bs:List Nat}(hb:∀b∈Qy o,b∉bs):Rd enc z bs w o l:=by
 intro i h0 hi;rcases h with ⟨_,rfl,_⟩ | ⟨b,sp,rfl,h1,h2,h3,h4⟩
 ·simp at hi; omega
 ·obtain⟨k,rfl⟩:=Int.eq_ofNat_of_zero_le h0;have hk:k<l.length:=Qo;refine OE h2 (hb b (by simp[Qy])) (k0:=0) fun j v hj=>?_
  have hjz:j<z:=by
   have:=(I9.1 hj).1;rw[hz] at this; exact this
  rw[Jr hk] at hj;have pY:=Yz hz l
  have IQ:k*z+j<(l.flatMap enc).length:=by
   rw[pY];have:=Nat.mul_le_mul_right z hk;rw[Nat.succ_mul] at this;omega
  rw[Ih,Nat.zero_add,Iq IQ,HI hz l k j hk hjz];exact hj
theorem XU.ix{α:Type}{enc:α->List Va}{z:Nat}{ty:TypeId}{base:Nat}{w:Wo}{o:OA}{cap:Nat}{l:List α}(h:XU enc z ty base w o cap l){i:Int}(h0:0<=i)(h1:i<(l.length:Int)):Ix o l.length i:=by
 rcases h with ⟨_,rfl,_⟩ | ⟨b,sp,rfl,_⟩
 ·simp at h1; omega
 ·exact⟨h0,h1,rfl⟩
theorem XU.wr{α:Type}{enc:α->List Va}{z:Nat}{ty:TypeId}{base:Nat}{w:Wo}{o:OA}{cap:Nat}{l:List α}(h:XU enc z ty base w o cap l)(hz:∀x,(enc x).length=z){bs:List Nat}(hb:∀b∈Qy o,b∉bs){i:Int}(h0:0<=i)(h1:i<(l.length:Int)){j n:Nat}(hj:j+n<=z):Xi bs w o (Int.toNat i*z+j) n:=by
 rcases h with ⟨_,rfl,_⟩ | ⟨b,sp,rfl,eY,h2,h3,h4⟩
 ·simp at h1; omega
 ·refine Np h2 (hb b (by simp[Qy])) ?_;have hk:i.toNat<l.length:=Qo;have:=Nat.mul_le_mul_right z hk;rw[Nat.succ_mul] at this;rw[Ip,Yz hz l];omega
theorem XU.RD{α:Type}[Inhabited α]{enc:α->List Va}{z:Nat}{ty:TypeId}{base:Nat}{w:Wo}{o:OA}{cap:Nat}{l:List α}(h:XU enc z ty base w o cap l)(hz:∀x,(enc x).length=z){i:Int}(h0:0<=i)(h1:i<(l.length:Int)){j:Nat}{vs:List Va}{x:α}(he:enc x=(enc (gi l i)).take j++vs++(enc (gi l i)).drop (j+vs.length))(hj:j+vs.length<=z) :
  XU enc z ty base (YtnclplgaicdapaaGreatDoor.RD w o (Int.toNat i*z+j) vs) o cap (l.set i.toNat x):=by
 rcases h with ⟨_,rfl,_⟩ | ⟨b,sp,rfl,eY,h2,h3,h4⟩
 ·simp at h1; omega
 ·obtain⟨k,rfl⟩:=Int.eq_ofNat_of_zero_le h0;have hk:k<l.length:=Qo;have pY:=Yz hz l;have hmul:=Nat.mul_le_mul_right z hk;rw[Nat.succ_mul] at hmul;refine .inr ⟨b,sp,rfl,eY,?_,?_,by simpa using h4⟩
  ·rw[Lq h2,Nat.zero_add,Ih,Ln _ _ _ (by rw[Ip,pY]; omega),Ah hz x l k hk,he,Jr hk];have hlk:(enc l[k]).length=z:=hz _
   have CH1:l.flatMap enc=(l.flatMap enc).take (k*z)++enc l[k]++(l.flatMap enc).drop ((k+1)*z):=by
    have:=Ah hz l[k] l k hk
    rwa[List.set_getElem_self] at this
   have ht:((l.flatMap enc).take (k*z)).length=k*z:=by rw[List.length_take,pY]; omega
   generalize (l.flatMap enc).take (k*z)=A at *;generalize (l.flatMap enc).drop ((k+1)*z)=B at *;rw[CH1]
   have e1:(A++enc l[k]++B++sp).take (k*z+j)=A++(enc l[k]).take j:=by
    simp only[List.append_assoc];rw[List.take_append,List.take_of_length_le Qo,ht,List.take_append,show k*z+j-k*z=j by omega];rw[show j-(enc l[k]).length=0 by omega,List.take_zero,List.append_nil]
   have e2:(A++enc l[k]++B++sp).drop (k*z+j+vs.length)=(enc l[k]).drop (j+vs.length)++B++sp:=by
    simp only[List.append_assoc];rw[List.drop_append,List.drop_eq_nil_iff.2 Qo,List.nil_append,ht,List.drop_append,show k*z+j+vs.length-k*z=j+vs.length by omega];rw[show j+vs.length-(enc l[k]).length=0 by omega,List.drop_zero]
   rw[e1,e2];simp only[List.append_assoc]
  ·rw[Ip,Yz hz,H',<-Yz hz l,<-Ip]; exact h3
theorem XU.rJ{α:Type}{enc:α->List Va}{z:Nat}{ty:TypeId}{base:Nat}{w:Wo}{o:OA}{cap:Nat}{l:List α}(_:XU enc z ty base w o cap l)(n:Nat)(vs:List Va):Q0 (Qy o) w (YtnclplgaicdapaaGreatDoor.RD w o n vs):=
 Pn fun a ha=>by rw[ha]; simp[Qy]
theorem XU.CZ9{α:Type}{enc:α->List Va}{z:Nat}{ty:TypeId}{base:Nat}{w:Wo}{o:OA}{cap:Nat}{l:List α}(h:XU enc z ty base w o cap l)(n:Nat)(vs:List Va){w0:Wo}(hx:Q0 [] w0 w)(hb:w0.heap.size<=base):Q0 [] w0 (YtnclplgaicdapaaGreatDoor.RD w o n vs):=
 hx.fresh (h.rJ n vs) fun x hm=>.inl (IB hb (h.lt x hm).1)
theorem Ui{w w':Wo}:Q9 [] w w':=fun _ h=>by cases h
theorem Qe{w w':Wo}{B:List Nat}(h:Q0 [] w w')(hs:∀b∈B,b<w.heap.size):Q9 B w w':=fun b hb=>h.block b (hs b hb) Qs
theorem zm7{α:Type}{enc:α->List Va}{z:Nat}(zc:Array Va)(x:α)(hx:enc x=zc.toList)(hz:(enc x).length=z)(n:Nat):(madeCells zc (n*z)).toList=(List.replicate n x).flatMap enc:=by
 have hzs:zc.size=z:=by rw[<-hz,hx]; simp
 apply List.ext_getElem?
 intro q;have zO:(madeCells zc (n*z)).toList.length=n*z:=by simp[madeCells]
 by_cases hz0:z=0
 ·subst hz0;have h1:(madeCells zc (n*0)).toList=[]:=List.eq_nil_of_length_eq_zero (by rw[zO]; simp)
  have h2:(List.replicate n x).flatMap enc=[]:=by
   have:=List.eq_nil_of_length_eq_zero hz;rw[List.flatMap_replicate]; simp[this]
  rw[h1,h2]
 ·have pY:((List.replicate n x).flatMap enc).length=n*z:=by
   clear zO
   induction n with
   | zero=>simp
   | succ n ih=>rw[List.replicate_succ,List.flatMap_cons,Ip,ih,hz,Nat.succ_mul]; omega
  by_cases hq:q<n*z
  ·have e1:(madeCells zc (n*z)).toList[q]? = some (zc[q % zc.size]!):=by
    simp[madeCells,hq]
   have hdiv:q / z<n:=Nat.div_lt_of_lt_mul (by rw[Nat.mul_comm]; exact hq);have CT6:q % z<z:=Nat.mod_lt _ (Nat.pos_of_ne_zero hz0)
   have e2:((List.replicate n x).flatMap enc)[q]? = (enc x)[q % z]? := by
    clear zO pY e1
    have key:∀n i,i<n->((List.replicate n x).flatMap enc)[i*z+q % z]? = (enc x)[q % z]? := by
     intro n
     induction n with
     | zero=>intro i hi; omega
     | succ n ih=>
      intro i hi;rw[List.replicate_succ,List.flatMap_cons]
      cases i with
      | zero=>rw[Iq (by rw[hz]; omega)]; simp
      | succ i=>
       rw[List.getElem?_append_right (by rw[hz,Nat.succ_mul]; omega),hz];have:(i+1)*z+q % z-z=i*z+q % z:=by rw[Nat.succ_mul]; omega
       rw[this];exact ih i Qo
    have:=key n (q / z) hdiv
    rwa[Nat.mul_comm,Nat.div_add_mod] at this
   rw[e1,e2,hx,hzs];have:q % z<zc.size:=Qo;simp[this]
  ·rw[List.getElem?_eq_none Qo,List.getElem?_eq_none Qo]
structure zj7 {α:Type} (P:Program) (enc:α->List Va) (z:Nat) (ty:TypeId) (bytes:Nat) (zero:α):Prop where
 info:∃(i:TypeInfo) (v:Va),P.info? ty=some i/\i.zero=some v/\i.size=z/\i.bytes=bytes/\v.cells.toList=enc zero
 len:∀x,(enc x).length=z
def zwi{α:Type}(P:Program)(enc:α->List Va)(z:Nat)(ty:TypeId)(bytes:Nat)(zero:α):Option (Nat×Nat×List Va):=match P.info? ty with
 | some i=>match i.zero with
  | some v=>some (i.size,i.bytes,v.cells.toList)
  | none=>none
 | none=>none
theorem Gv{α:Type}{P:Program}{enc:α->List Va}{z:Nat}{ty:TypeId}{bytes:Nat}{zero:α}(h:zwi P enc z ty bytes zero=some (z,bytes,enc zero))(hl:∀x,(enc x).length=z):zj7 P enc z ty bytes zero:=by
 refine⟨?_,hl⟩;unfold zwi at h
 split at h
 ·rename_i i hi
  split at h
  ·rename_i v hv;simp only[I1,Prod.mk.injEq] at h;exact⟨i,v,hi,hv,h.1,h.2.1,h.2.2⟩
  ·cases h
 ·cases h
theorem PI{α:Type}{P:Program}{enc:α->List Va}{z:Nat}{ty t:TypeId}{bytes:Nat}{zero:α}(E:zj7 P enc z ty bytes zero)(ht:P.underlying t=some (.slice ty))(n:Nat)(hb:bytes*n<=281474976710656)(hn:n<=maxLen)(w:Wo) :
  (Instr.makeSlice t (I (n:Int)) (I (n:Int))).run P w=.ok (.slice (some ⟨w.heap.size,0,none⟩) n n) (w.alloc (.cells ((List.replicate n zero).flatMap enc).toArray ty)):=by
 obtain⟨i,v,hi,hz,hs,hby,hv⟩:=E.info;have DK8:maxLen<=9223372036854775807:=by unfold maxLen; omega
 have:=run_make (P:=P) w t ty i v ht hi hz .i64 .i64 (n:Int) (n:Int) Qo (I3 _) (by
  rw[hby];have:((bytes*n:Nat):Int)<=281474976710656:=Qo
  rwa[Int.natCast_mul] at this) Qo
 rw[this];simp only[Ih]
 congr 2
 rw[hs,<-zm7 v.cells zero hv.symm (E.len zero) n,Array.toArray_toList]
theorem Uk{α:Type}{enc:α->List Va}{z:Nat}(hz:∀x,(enc x).length=z)(ty:TypeId)(n:Nat)(zero:α)(w:Wo):XU enc z ty w.heap.size (w.alloc (.cells ((List.replicate n zero).flatMap enc).toArray ty)) (some ⟨w.heap.size,0,none⟩) n (List.replicate n zero):=
 .inr ⟨w.heap.size,[],rfl,I8 _,by rw[List.append_nil]; exact Array.getElem?_push_size ..,by rw[List.append_nil,Yz hz,List.length_replicate],Qs⟩
theorem QZ(w:Wo)(o:Obj):Q0 [] w (w.alloc o):=(Q0.refl [] w).alloc o
theorem Zc:4194304<=maxLen:=by simp[maxLen]
theorem zqv{α:Type}[Inhabited α]{P:Program}{enc:α->List Va}{z:Nat}(hz:∀x,(enc x).length=z)(Br3:∀x,Zd (enc x)=true){tx e':TypeId}(hk:P.underlying tx=some (.slice e')){w:Wo}{o:OA}{c:Nat}{l:List α}(h:Rd enc z [] w o l)(hz0:0<z):Src P z tx (.slice o l.length c) l.length (l.flatMap enc) w:=by
 cases l with
 | nil=>
  cases o with
  | none=>exact Src.ofNil w hk c
  | some a=>exact Src.ofSlice w hk a 0 c [] Qs Qs Qs
 | cons x r=>
  have hs:=(h 0 (I3 _) (by rw[List.length_cons]; omega))
  obtain⟨a,rfl⟩:∃a,o=some a:=by
   have hx:∃v q,enc (gi (x::r) 0)=v::q:=by
    have:=hz (gi (x::r) 0)
    cases hq:enc (gi (x::r) 0) with
    | nil=>rw[hq] at this; simp at this; omega
    | cons v q=>exact⟨v,q,rfl⟩
   obtain⟨v,q,e⟩:=hx;rw[e] at hs;exact Option.isSome_iff_exists.1 hs.some
  refine Src.ofSlice w hk a _ c _ (Yz hz _) (fun j u hu=>?_) (fun u hu=>?_)
  ·have hjl:=(I9.1 hu).1;rw[Yz hz] at hjl;have hdiv:j / z<(x::r).length:=Nat.div_lt_of_lt_mul (by rw[Nat.mul_comm]; exact hjl);have CT6:j % z<z:=Nat.mod_lt _ hz0;have e:j=j / z*z+j % z:=by rw[Nat.mul_comm]; exact(Nat.div_add_mod j z).symm
   rw[e] at hu ⊢;rw[HI hz _ _ _ hdiv CT6] at hu;have:=(h ((j / z:Nat):Int) (Int.natCast_nonneg _) (Int.ofNat_lt.2 hdiv)).get (j % z) u (by rw[Jr hdiv]; exact hu);obtain⟨a',ha',_,hc⟩:=this
   cases ha'
   rw[Ih] at hc;exact hc
  ·obtain⟨y,_,hy⟩:=List.mem_flatMap.1 hu;exact Jd (Br3 y) u hy
theorem zlm{α:Type}[Inhabited α]{P:Program}{enc:α->List Va}{z:Nat}{ty t tx:TypeId}{bytes:Nat}{zero:α}(E:zj7 P enc z ty bytes zero)(ht:P.underlying t=some (.slice ty)){base:Nat}{w:Wo}{o:OA}{cap:Nat}{l m:List α}{x:Va}(hO:XU enc z ty base w o cap l)(hS:Src P z tx x m.length (m.flatMap enc) w)(hb:(2*(l.length+m.length))*bytes<=281474976710656)(hn:l.length+m.length<=4194304)(tr:TypeId)(sG:base<=w.heap.size) :
  ∃o' mC w',(Builtin.append_ #[t,tx] tr #[.slice o l.length cap,x]).run P w=.ok (.slice o' (l.length+m.length) mC) w'/\XU enc z ty base w' o' mC (l++m)/\Q0 (Qy o) w w'/\(o'=o\/o'=some ⟨w.heap.size,0,none⟩):=by
 obtain⟨i,v,hi,hz,hs,hby,hv⟩:=E.info;subst hs
 by_cases zV:l.length+m.length<=cap
 ·rcases hO with ⟨hc0,hl0,ho0⟩ | ⟨b,sp,rfl,h1,h2,h3,h4⟩
  ·subst hl0; subst hc0; subst ho0;have hm:m=[]:=List.eq_nil_of_length_eq_zero (by simp only[List.length_nil] at zV; omega);subst hm;have hk:=run_append_nothing (P:=P) w t tx tr ty i ht hi none 0 0 (I8 _) x hS;exact⟨none,0,w,by simpa using hk,.inl ⟨rfl,rfl,rfl⟩,Q0.refl _ _,.inl rfl⟩
  ·have pY:=Yz E.len l;have hfm:=Yz E.len m
   have hsp:(m.flatMap enc).length<=sp.length:=by
    rw[Ip,pY] at h3;have:=Nat.mul_le_mul_right i.size zV;rw[Nat.add_mul] at this;omega
   have hr:=run_append_room_src (P:=P) w t tx tr ty i ht hi b 0 l.length cap x m.length (m.flatMap enc) hS zV (fun j hj=>by
     rw[OD h2];have:0+l.length*i.size+j<(l.flatMap enc++sp).length:=by rw[Ip,pY]; omega
     rw[List.getElem?_toArray,Im this]; rfl) (fun j hj=>by simp[World.frozen?,h2])
   refine⟨_,_,_,hr,?_,?_,.inl rfl⟩
   ·refine .inr ⟨b,sp.drop (m.flatMap enc).length,rfl,h1,?_,?_,by rw[Ip]; exact zV⟩
    ·have qB:w.setCells b (0+l.length*i.size) (m.flatMap enc)=YtnclplgaicdapaaGreatDoor.RD w (some ⟨b,0,none⟩) (0+l.length*i.size) (m.flatMap enc):=by
      generalize m.flatMap enc=vs;generalize 0+l.length*i.size=n;simp only[YtnclplgaicdapaaGreatDoor.RD]
      induction vs generalizing w n with
      | nil=>rfl
      | cons u r ih=>
       have ih':∀(w:Wo) (n:Nat),w.setCells b n r=eJ w ⟨b,0,none⟩ n r:=by
        clear ih
        induction r with
        | nil=>intro w n; rfl
        | cons u' r' ih2=>intro w n; simp only[World.setCells,eJ]; rw[ih2,Addr.add_lit,Nat.zero_add]
       simp only[World.setCells,eJ];rw[ih',Addr.add_lit,Nat.zero_add]
     rw[qB,Lq h2,Ln _ _ _ (by rw[Ip,pY]; omega)]
     have e1:(l.flatMap enc++sp).take (0+(0+l.length*i.size))=l.flatMap enc:=by
      rw[List.take_append_of_le_length (by rw[pY]; omega),List.take_of_length_le (by rw[pY]; omega)]
     have e2:(l.flatMap enc++sp).drop (0+(0+l.length*i.size)+(m.flatMap enc).length)=sp.drop (m.flatMap enc).length:=by
      rw[List.drop_append,List.drop_eq_nil_iff.2 (by rw[pY]; omega),List.nil_append,pY]
      congr 1
      omega
     rw[e1,e2,List.flatMap_append]
    ·rw[List.flatMap_append,Ip,Ip,List.length_drop];rw[Ip] at h3;omega
   ·have:∀(vs:List Va) (w:Wo) (n:Nat),Q0 [b] w (w.setCells b n vs):=by
     intro vs
     induction vs with
     | nil=>intro w n; exact Q0.refl _ _
     | cons u r ih=>intro w n; exact((Q0.refl [b] w).setCell (p:=⟨b,n,none⟩) (.inr Qs) u).trans (ih _ _)
    exact this _ _ _
 ·have zV:cap<l.length+m.length:=Qo
  have BV2:Builtin.nextslicecap (l.length+m.length) cap<=2*(l.length+m.length):=by
   unfold Builtin.nextslicecap
   have hg:∀(r c N:Nat),c<=N->256<=c->Builtin.growBy N r c<=2*N:=by
    intro r
    induction r with
    | zero=>intro c N hc _; simp only[Builtin.growBy]; omega
    | succ r ih=>
     intro c N hc DF7;simp only[Builtin.growBy];split
     ·omega
     ·by_cases hle:c+(c+768) / 4<=N
      ·exact ih _ _ hle Qo
      ·cases r with
       | zero=>simp only[Builtin.growBy]; omega
       | succ r=>simp only[Builtin.growBy]; split <;> omega
   split
   ·omega
   ·split
    ·omega
    ·exact hg 4 cap _ Qo Qo
  have hold:(Builtin.firstCells i.size l.length (.slice o l.length cap)).run P w.drew=.ok (l.flatMap enc).toArray w.drew:=by
   rcases hO with ⟨hc0,hl0,ho0⟩ | ⟨b,sp,rfl,h1,h2,h3,h4⟩
   ·subst hl0; subst ho0
    simpa using run_firstCells_none (P:=P) w.drew i.size 0 0 cap
   ·refine run_firstCells_some (P:=P) w.drew i.size l.length ⟨b,0,none⟩ l.length cap _ (Yz E.len l) fun j u hu=>?_
    have IQ:=(I9.1 hu).1
    have:w.cell? ((⟨b,0,none⟩:Addr).add j)=some u:=by
     rw[Addr.add_lit,Nat.zero_add,OD h2];simp only[List.getElem?_toArray];rw[Iq IQ];exact hu
    simpa using this
  have hr:=run_append_grow_src (P:=P) w t tx tr ty i v ht hi hz o l.length cap (l.flatMap enc) hold x m.length (m.flatMap enc) hS zV Qo (by
   rw[hby];exact IB (Nat.mul_le_mul_right bytes BV2) hb)
  refine⟨_,_,_,hr,?_,?_,.inr rfl⟩
  ·have RH:=grownCap_ge w (l.length+m.length) cap ty;generalize grownCap w (l.length+m.length) cap ty=g at *;refine .inr ⟨w.heap.size,(Builtin.zeroCells v.cells (g-(l.length+m.length))).toList,rfl,sG,?_,?_,by rw[Ip]; exact RH⟩
   ·simp only[World.alloc];show (w.drew.heap.push _)[w.heap.size]? = _;have:w.drew.heap=w.heap:=rfl;rw[this,Array.getElem?_push_size,List.flatMap_append]
    congr 2
    apply Array.ext'
    simp
   ·have hvs:v.cells.size=i.size:=by
     have:=E.len zero;rw[<-hv] at this
     simpa using this
    rw[Ip,Yz E.len,Ip];simp only[Builtin.zeroCells,Array.length_toList,Array.size_map,Array.size_range];rw[hvs,<-Nat.add_mul]
    congr 1
    omega
  ·exact((Q0.refl _ w).drew).alloc _
theorem NV{P:Program}{ts:Array TypeId}{t:TypeId}{cs:Array Bool}{args:Array Va}{w w':Wo}{v:Va}(h:(Builtin.append_ ts t args).run P w=.ok v w'):(builtin .append ts t cs args).run P w=.ok (.value v) w':=by
 simp only[builtin,Sem.run_bind,h,Result.andThen_ok,Sem.run_pure]
theorem MM{P:Program}{ts:Array TypeId}{t:TypeId}{cs:Array Bool}{args:Array Va}{w w':Wo}{v:Va}(h:(Builtin.copy_ ts t args).run P w=.ok v w'):(builtin .copy ts t cs args).run P w=.ok (.value v) w':=by
 simp only[builtin,Sem.run_bind,h,Result.andThen_ok,Sem.run_pure]
theorem zhk{α:Type}[Inhabited α]{P:Program}{enc:α->List Va}{z:Nat}{ty t:TypeId}{bytes:Nat}{zero:α}(E:zj7 P enc z ty bytes zero)(ht:P.underlying t=some (.slice ty)){base:Nat}{w:Wo}{o:OA}{cap:Nat}{l:List α}(hO:XU enc z ty base w o cap l){x:α}{b:Nat}{t':TypeId}{fz:Nat×Nat}(hb:w.heap[b]? = some (.cells (enc x).toArray t' fz))(h1:Zd (enc x)=true)(hby:(2*(l.length+1))*bytes<=281474976710656)(hn:l.length+1<=4194304)(tr:TypeId)(cs:Array Bool)(sG:base<=w.heap.size) :
  ∃o' mC w',(builtin .append #[t,t] tr cs #[.slice o l.length cap,.slice (some ⟨b,0,none⟩) 1 1]).run P w=.ok (.value (.slice o' (l++[x]).length mC)) w'/\XU enc z ty base w' o' mC (l++[x])/\Q0 (Qy o) w w'/\(o'=o\/o'=some ⟨w.heap.size,0,none⟩):=by
 have hS:Src P z t (.slice (some ⟨b,0,none⟩) 1 1) [x].length ([x].flatMap enc) w:=by
  refine Src.ofSlice w ht ⟨b,0,none⟩ 1 1 _ (by simp[E.len]) (fun j u hu=>?_) (fun u hu=>?_)
  ·rw[Addr.add_lit,Nat.zero_add,OD hb]
   simpa using hu
  ·exact Jd h1 u (by simpa using hu)
 obtain⟨o',mC,w',h1,h2,h3,h4⟩:=zlm E ht hO hS (by simpa using hby) (by simpa using hn) tr sG;exact⟨o',mC,w',NV (by simpa using h1),h2,h3,h4⟩
theorem zln{α:Type}[Inhabited α]{P:Program}{enc:α->List Va}{z:Nat}{ty t:TypeId}{bytes:Nat}{zero:α}(E:zj7 P enc z ty bytes zero)(ht:P.underlying t=some (.slice ty))(Br3:∀x,Zd (enc x)=true)(hz0:0<z){base:Nat}{w:Wo}{o o2:OA}{cap c2:Nat}{l m:List α}(hO:XU enc z ty base w o cap l)(hR:Rd enc z [] w o2 m)(hlen:m.length=l.length)(tr:TypeId)(cs:Array Bool) :
  ∃(n:Int) (w':Wo),(builtin .copy #[t,t] tr cs #[.slice o l.length cap,.slice o2 m.length c2]).run P w=.ok (.value (I n)) w'/\XU enc z ty base w' o cap m/\Q0 (Qy o) w w':=by
 obtain⟨i,v,hi,hz,hs,hby,hv⟩:=E.info;have CH2:=zqv (P:=P) E.len Br3 ht hR (c:=c2) hz0;have hfm:=Yz E.len m;have CT5:Nat.min m.length l.length=m.length:=by rw[hlen]; exact Nat.min_self _
 have mH:P.info? ty=some i:=hi;rcases hO with ⟨hc0,hl0,ho0⟩ | ⟨b,sp,rfl,h1,h2,h3,h4⟩
 ·subst hl0; subst hc0; subst ho0;have hm:m=[]:=List.eq_nil_of_length_eq_zero (by simpa using hlen);subst hm;refine⟨0,w,MM ?_,.inl ⟨rfl,rfl,rfl⟩,Q0.refl _ _⟩;have hc:=CH2.cells;simp only[List.length_nil] at hc;rw[<-hs] at hc;simp[Builtin.copy_,run_underlying ht,Builtin.lenOf,sizeOf,typeInfo,mH,hc,goInt]
 ·refine⟨(m.length:Int),w.setRow b ((l.flatMap enc++sp).toArray.toList.take 0++m.flatMap enc++(l.flatMap enc++sp).toArray.toList.drop (0+(m.flatMap enc).length)).toArray,MM ?_,?_,?_⟩
  ·have qB:=run_storeCells_at P b 0 ty (m.flatMap enc) 0 (l.flatMap enc++sp).toArray w h2 (by
    simp only[List.size_toArray,Ip];rw[Yz E.len l,hfm,hlen]; omega) CH2.one
   have hc:=CH2.cells;rw[<-hs] at hc;simp only[Nat.add_zero] at qB;simp only[Builtin.copy_,Sem.run_bind,run_underlying ht,Builtin.lenOf,sizeOf,typeInfo,mH,Result.andThen_ok,Sem.run_pure,CT5,hc,qB,goInt,List.getElem?_toArray,Ig,List.getElem?_cons_succ];simp[mH,CT5,hc,qB,run_underlying ht,goInt]
  ·refine .inr ⟨b,sp,rfl,h1,?_,?_,Qo⟩
   ·rw[setRow_heap w b _ _ ty (0,0) h2];simp only[List.take_zero,List.nil_append,Nat.zero_add]
    congr 3
    rw[hfm,hlen,<-Yz E.len l,List.drop_left]
   ·rw[Ip,hfm,hlen,<-Yz E.len l,<-Ip]; exact h3
  ·refine⟨rfl,rfl,rfl,by simp[World.setRow],fun k hk hb=>?_⟩;have gA:b≠k:=fun e=>hb (by rw[e]; exact IA.2 rfl)
   simp only[World.setRow,Array.getElem?_modify,C' gA]
theorem zvn(x:K0):Zd (PS x)=true:=rfl
theorem zwu(x:Pi):Zd (YT x)=true:=rfl
theorem zvl(x:Pf):Zd (Mx x)=true:=rfl
theorem zvm(x:Int):Zd (YR x)=true:=rfl
theorem zws(x:Bool):Zd (OH x)=true:=rfl
end Go.Proofs.YtnclplgaicdapaaGreatDoor
