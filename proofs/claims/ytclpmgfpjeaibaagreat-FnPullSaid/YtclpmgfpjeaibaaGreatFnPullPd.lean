/- Part 4 of what the law FnPull needs: the engine, the functions' propositions, the contracts. -/
import Derived.Test.YtclpmgfpjeaibaaGreatFnPullPc
import Derived.Deep.AppendSrc
import Derived.Deep.Upon
import Derived.Laws.MakeOwn
import Derived.Laws.CopyRow
import Derived.Laws.AppendOwn
namespace Go.Proofs.YtclpmgfpjeaibaaGreat
open Go.RowKit
set_option linter.unusedVariables false
set_option linter.unusedSimpArgs false
set_option maxHeartbeats 8000000
theorem JO{α:Type}{enc:α->List Va}{z:Nat}(hz:∀x,(enc x).length=z):∀l:List α,(l.flatMap enc).length=l.length*z
 | []=>by simp
 | x::r=>by rw[List.flatMap_cons,List.length_append,hz,JO hz r,List.length_cons,Nat.succ_mul]; omega
theorem CP{α:Type}{enc:α->List Va}{z:Nat}(hz:∀x,(enc x).length=z):∀(l:List α) (i j:Nat) (hi:i<l.length),j<z->(l.flatMap enc)[i*z+j]? = (enc l[i])[j]?
 | x::r,0,j,_,hj=>by
  rw[List.flatMap_cons,List.getElem?_append_left (by rw[hz]; omega)];simp
 | x::r,i+1,j,hi,hj=>by
  rw[List.flatMap_cons,List.getElem?_append_right (by rw[hz,Nat.succ_mul]; omega),hz];have e:(i+1)*z+j-z=i*z+j:=by rw[Nat.succ_mul]; omega
  rw[e,CP hz r i j (by simpa using hi) hj];simp
theorem CQ{α:Type}{enc:α->List Va}{z:Nat}(hz:∀x,(enc x).length=z)(x:α):∀(l:List α) (i:Nat) (_:i<l.length),((l.set i x).flatMap enc)=(l.flatMap enc).take (i*z)++enc x++(l.flatMap enc).drop ((i+1)*z)
 | y::r,0,_=>by
  simp only[List.set_cons_zero,List.flatMap_cons,Nat.zero_mul,List.take_zero,List.nil_append,Nat.zero_add,Nat.one_mul];rw[List.drop_append_of_le_length (by rw[hz]; exact Nat.le_refl _),List.drop_eq_nil_iff.2 (by rw[hz]; exact Nat.le_refl _),List.nil_append]
 | y::r,i+1,hi=>by
  simp only[List.set_cons_succ,List.flatMap_cons];rw[CQ hz x r i (by simpa using hi)];have e1:(i+1)*z=z+i*z:=by rw[Nat.succ_mul]; omega
  have e2:(i+1+1)*z=z+(i+1)*z:=by rw[Nat.succ_mul (i+1)]; omega
  have hy:(enc y).length=z:=hz y
  have t1:(enc y++r.flatMap enc).take ((i+1)*z)=enc y++(r.flatMap enc).take (i*z):=by
   rw[e1,List.take_append,List.take_of_length_le (by omega),hy,show z+i*z-z=i*z by omega]
  have t2:(enc y++r.flatMap enc).drop ((i+1+1)*z)=(r.flatMap enc).drop ((i+1)*z):=by
   rw[e2,List.drop_append,List.drop_eq_nil_iff.2 (by omega),List.nil_append,hy,show z+(i+1)*z-z=(i+1)*z by omega]
  rw[t1,t2];simp[List.append_assoc]
def U4{α:Type}(enc:α->List Va)(z:Nat)(ty:TypeId)(base:Nat)(w:Wo)(o:OA)(cap:Nat)(l:List α):Prop:=
 (cap=0/\l=[]/\o=none)\/∃(b:Nat) (sp:List Va),o=some ⟨b,0,none⟩/\base<=b/\w.heap[b]? = some (.cells (l.flatMap enc++sp).toArray ty (0,0))/\(l.flatMap enc++sp).length=cap*z/\l.length<=cap
def QB(o:OA):List Nat:=match o with
 | some a=>[a.block]
 | none=>[]
theorem U4.ext{α:Type}{enc:α->List Va}{z:Nat}{ty:TypeId}{base:Nat}{w w':Wo}{o:OA}{cap:Nat}{l:List α}{bs:List Nat}(h:U4 enc z ty base w o cap l)(hx:Q0 bs w w')(hd:∀b∈QB o,b∉bs):U4 enc z ty base w' o cap l:=by
 rcases h with h | ⟨b,sp,rfl,h1,h2,h3,h4⟩
 ·exact .inl h
 ·exact .inr ⟨b,sp,rfl,h1,Zd h2 hx (hd b (by simp[QB])),h3,h4⟩
theorem U4.ext0{α:Type}{enc:α->List Va}{z:Nat}{ty:TypeId}{base:Nat}{w w':Wo}{o:OA}{cap:Nat}{l:List α}(h:U4 enc z ty base w o cap l)(hx:Q0 [] w w'):U4 enc z ty base w' o cap l:=h.ext hx (by simp)
theorem U4.lt{α:Type}{enc:α->List Va}{z:Nat}{ty:TypeId}{base:Nat}{w:Wo}{o:OA}{cap:Nat}{l:List α}(h:U4 enc z ty base w o cap l):∀b∈QB o,base<=b/\b<w.heap.size:=by
 rcases h with ⟨_,_,rfl⟩ | ⟨b,sp,rfl,h1,h2,h3,h4⟩
 ·simp[QB]
 ·intro x hx;simp only[QB,List.mem_singleton] at hx;subst hx;exact⟨h1,Ur h2⟩
theorem U4.ty_ne{α β:Type}{enc:α->List Va}{enc':β->List Va}{z z':Nat}{ty ty':TypeId}{base base':Nat}{w:Wo}{o o':OA}{cap cap':Nat}{l:List α}{l':List β}(h:U4 enc z ty base w o cap l)(h':U4 enc' z' ty' base' w o' cap' l')(ht:ty≠ty'):∀b∈QB o,b∉QB o':=by
 rcases h with ⟨_,_,rfl⟩ | ⟨b,sp,rfl,h1,h2,h3,h4⟩
 ·simp[QB]
 ·rcases h' with ⟨_,_,rfl⟩ | ⟨b',sp',rfl,h1',h2',h3',h4'⟩
  ·simp[QB]
  ·intro x hx hx';simp only[QB,List.mem_singleton] at hx hx';subst hx;subst hx';rw[h2] at h2';simp only[Option.some.injEq,Obj.cells.injEq] at h2';exact ht h2'.2.1
theorem U4.mono{α:Type}{enc:α->List Va}{z:Nat}{ty:TypeId}{base base':Nat}{w:Wo}{o:OA}{cap:Nat}{l:List α}(h:U4 enc z ty base w o cap l)(hb:base'<=base):U4 enc z ty base' w o cap l:=by
 rcases h with h | ⟨b,sp,rfl,h1,h2,h3,h4⟩
 ·exact .inl h
 ·exact .inr ⟨b,sp,rfl,Nat.le_trans hb h1,h2,h3,h4⟩
theorem U4.le{α:Type}{enc:α->List Va}{z:Nat}{ty:TypeId}{base:Nat}{w:Wo}{o:OA}{cap:Nat}{l:List α}(h:U4 enc z ty base w o cap l):l.length<=cap:=by
 rcases h with ⟨_,rfl,_⟩ | ⟨b,sp,rfl,h1,h2,h3,h4⟩
 ·exact Nat.zero_le _
 ·exact h4
theorem U4.rd{α:Type}[Inhabited α]{enc:α->List Va}{z:Nat}{ty:TypeId}{base:Nat}{w:Wo}{o:OA}{cap:Nat}{l:List α}(h:U4 enc z ty base w o cap l)(hz:∀x,(enc x).length=z){bs:List Nat}(hb:∀b∈QB o,b∉bs):Rd enc z bs w o l:=by
 intro i h0 hi;rcases h with ⟨_,rfl,_⟩ | ⟨b,sp,rfl,h1,h2,h3,h4⟩
 ·simp at hi; omega
 ·obtain⟨k,rfl⟩:=Int.eq_ofNat_of_zero_le h0;have hk:k<l.length:=by omega
  refine Pa h2 (hb b (by simp[QB])) (k0:=0) fun j v hj=>?_
  have hjz:j<z:=by
   have:=(List.getElem?_eq_some_iff.1 hj).1;rw[hz] at this; exact this
  rw[J2 hk] at hj;have hfl:=JO hz l
  have hlt:k*z+j<(l.flatMap enc).length:=by
   rw[hfl];have:=Nat.mul_le_mul_right z hk;rw[Nat.succ_mul] at this;omega
  rw[Int.toNat_natCast,Nat.zero_add,List.getElem?_append_left hlt,CP hz l k j hk hjz];exact hj
theorem U4.ix{α:Type}{enc:α->List Va}{z:Nat}{ty:TypeId}{base:Nat}{w:Wo}{o:OA}{cap:Nat}{l:List α}(h:U4 enc z ty base w o cap l){i:Int}(h0:0<=i)(h1:i<(l.length:Int)):Ix o l.length i:=by
 rcases h with ⟨_,rfl,_⟩ | ⟨b,sp,rfl,_⟩
 ·simp at h1; omega
 ·exact⟨h0,h1,rfl⟩
theorem U4.wr{α:Type}{enc:α->List Va}{z:Nat}{ty:TypeId}{base:Nat}{w:Wo}{o:OA}{cap:Nat}{l:List α}(h:U4 enc z ty base w o cap l)(hz:∀x,(enc x).length=z){bs:List Nat}(hb:∀b∈QB o,b∉bs){i:Int}(h0:0<=i)(h1:i<(l.length:Int)){j n:Nat}(hj:j+n<=z):Xr bs w o (Int.toNat i*z+j) n:=by
 rcases h with ⟨_,rfl,_⟩ | ⟨b,sp,rfl,hb1,h2,h3,h4⟩
 ·simp at h1; omega
 ·refine Ma h2 (hb b (by simp[QB])) ?_;have hk:i.toNat<l.length:=by omega
  have:=Nat.mul_le_mul_right z hk;rw[Nat.succ_mul] at this;rw[List.length_append,JO hz l];omega
theorem U4.sto{α:Type}[Inhabited α]{enc:α->List Va}{z:Nat}{ty:TypeId}{base:Nat}{w:Wo}{o:OA}{cap:Nat}{l:List α}(h:U4 enc z ty base w o cap l)(hz:∀x,(enc x).length=z){i:Int}(h0:0<=i)(h1:i<(l.length:Int)){j:Nat}{vs:List Va}{x:α}(he:enc x=(enc (gi l i)).take j++vs++(enc (gi l i)).drop (j+vs.length))(hj:j+vs.length<=z) :
  U4 enc z ty base (YtclpmgfpjeaibaaGreat.sto w o (Int.toNat i*z+j) vs) o cap (l.set i.toNat x):=by
 rcases h with ⟨_,rfl,_⟩ | ⟨b,sp,rfl,hb1,h2,h3,h4⟩
 ·simp at h1; omega
 ·obtain⟨k,rfl⟩:=Int.eq_ofNat_of_zero_le h0;have hk:k<l.length:=by omega
  have hfl:=JO hz l;have hmul:=Nat.mul_le_mul_right z hk;rw[Nat.succ_mul] at hmul;refine .inr ⟨b,sp,rfl,hb1,?_,?_,by simpa using h4⟩
  ·rw[Km h2,Nat.zero_add,Int.toNat_natCast,Gn _ _ _ (by rw[List.length_append,hfl]; omega),CQ hz x l k hk,he,J2 hk];have hlk:(enc l[k]).length=z:=hz _
   have hsplit:l.flatMap enc=(l.flatMap enc).take (k*z)++enc l[k]++(l.flatMap enc).drop ((k+1)*z):=by
    have:=CQ hz l[k] l k hk
    rwa[List.set_getElem_self] at this
   have ht:((l.flatMap enc).take (k*z)).length=k*z:=by rw[List.length_take,hfl]; omega
   generalize (l.flatMap enc).take (k*z)=A at *;generalize (l.flatMap enc).drop ((k+1)*z)=B at *;rw[hsplit]
   have e1:(A++enc l[k]++B++sp).take (k*z+j)=A++(enc l[k]).take j:=by
    simp only[List.append_assoc];rw[List.take_append,List.take_of_length_le (by omega),ht,List.take_append,show k*z+j-k*z=j by omega];rw[show j-(enc l[k]).length=0 by omega,List.take_zero,List.append_nil]
   have e2:(A++enc l[k]++B++sp).drop (k*z+j+vs.length)=(enc l[k]).drop (j+vs.length)++B++sp:=by
    simp only[List.append_assoc];rw[List.drop_append,List.drop_eq_nil_iff.2 (by omega),List.nil_append,ht,List.drop_append,show k*z+j+vs.length-k*z=j+vs.length by omega];rw[show j+vs.length-(enc l[k]).length=0 by omega,List.drop_zero]
   rw[e1,e2];simp only[List.append_assoc]
  ·rw[List.length_append,JO hz,List.length_set,<-JO hz l,<-List.length_append]; exact h3
theorem U4.stoX{α:Type}{enc:α->List Va}{z:Nat}{ty:TypeId}{base:Nat}{w:Wo}{o:OA}{cap:Nat}{l:List α}(_:U4 enc z ty base w o cap l)(n:Nat)(vs:List Va):Q0 (QB o) w (YtclpmgfpjeaibaaGreat.sto w o n vs):=
 UZ fun a ha=>by rw[ha]; simp[QB]
theorem U4.stoB{α:Type}{enc:α->List Va}{z:Nat}{ty:TypeId}{base:Nat}{w:Wo}{o:OA}{cap:Nat}{l:List α}(h:U4 enc z ty base w o cap l)(n:Nat)(vs:List Va){w0:Wo}(hx:Q0 [] w0 w)(hb:w0.heap.size<=base):Q0 [] w0 (YtclpmgfpjeaibaaGreat.sto w o n vs):=
 hx.fresh (h.stoX n vs) fun x hm=>.inl (Nat.le_trans hb (h.lt x hm).1)
theorem Jq{w w':Wo}:Q9 [] w w':=fun _ h=>by cases h
theorem Qe{w w':Wo}{B:List Nat}(h:Q0 [] w w')(hs:∀b∈B,b<w.heap.size):Q9 B w w':=fun b hb=>h.block b (hs b hb) (by simp)
theorem zph{α:Type}{enc:α->List Va}{z:Nat}(zc:Array Va)(x:α)(hx:enc x=zc.toList)(hz:(enc x).length=z)(n:Nat):(madeCells zc (n*z)).toList=(List.replicate n x).flatMap enc:=by
 have hzs:zc.size=z:=by rw[<-hz,hx]; simp
 apply List.ext_getElem?
 intro q;have hl1:(madeCells zc (n*z)).toList.length=n*z:=by simp[madeCells]
 by_cases hz0:z=0
 ·subst hz0;have h1:(madeCells zc (n*0)).toList=[]:=List.eq_nil_of_length_eq_zero (by rw[hl1]; simp)
  have h2:(List.replicate n x).flatMap enc=[]:=by
   have:=List.eq_nil_of_length_eq_zero hz;rw[List.flatMap_replicate]; simp[this]
  rw[h1,h2]
 ·have hfl:((List.replicate n x).flatMap enc).length=n*z:=by
   clear hl1
   induction n with
   | zero=>simp
   | succ n ih=>rw[List.replicate_succ,List.flatMap_cons,List.length_append,ih,hz,Nat.succ_mul]; omega
  by_cases hq:q<n*z
  ·have e1:(madeCells zc (n*z)).toList[q]? = some (zc[q % zc.size]!):=by
    simp[madeCells,hq]
   have hdiv:q / z<n:=Nat.div_lt_of_lt_mul (by rw[Nat.mul_comm]; exact hq);have hmod:q % z<z:=Nat.mod_lt _ (Nat.pos_of_ne_zero hz0)
   have e2:((List.replicate n x).flatMap enc)[q]? = (enc x)[q % z]? := by
    clear hl1 hfl e1
    have key:∀n i,i<n->((List.replicate n x).flatMap enc)[i*z+q % z]? = (enc x)[q % z]? := by
     intro n
     induction n with
     | zero=>intro i hi; omega
     | succ n ih=>
      intro i hi;rw[List.replicate_succ,List.flatMap_cons]
      cases i with
      | zero=>rw[List.getElem?_append_left (by rw[hz]; omega)]; simp
      | succ i=>
       rw[List.getElem?_append_right (by rw[hz,Nat.succ_mul]; omega),hz];have:(i+1)*z+q % z-z=i*z+q % z:=by rw[Nat.succ_mul]; omega
       rw[this];exact ih i (by omega)
    have:=key n (q / z) hdiv
    rwa[Nat.mul_comm,Nat.div_add_mod] at this
   rw[e1,e2,hx,hzs];have:q % z<zc.size:=by omega
   simp[this]
  ·rw[List.getElem?_eq_none (by omega),List.getElem?_eq_none (by omega)]
structure zqa {α:Type} (P:Program) (enc:α->List Va) (z:Nat) (ty:TypeId) (bytes:Nat) (zero:α):Prop where
 info:∃(i:TypeInfo) (v:Va),P.info? ty=some i/\i.zero=some v/\i.size=z/\i.bytes=bytes/\v.cells.toList=enc zero
 len:∀x,(enc x).length=z
def zya{α:Type}(P:Program)(enc:α->List Va)(z:Nat)(ty:TypeId)(bytes:Nat)(zero:α):Option (Nat×Nat×List Va):=match P.info? ty with
 | some i=>match i.zero with
  | some v=>some (i.size,i.bytes,v.cells.toList)
  | none=>none
 | none=>none
theorem HJ{α:Type}{P:Program}{enc:α->List Va}{z:Nat}{ty:TypeId}{bytes:Nat}{zero:α}(h:zya P enc z ty bytes zero=some (z,bytes,enc zero))(hl:∀x,(enc x).length=z):zqa P enc z ty bytes zero:=by
 refine⟨?_,hl⟩;unfold zya at h
 split at h
 ·rename_i i hi
  split at h
  ·rename_i v hv;simp only[Option.some.injEq,Prod.mk.injEq] at h;exact⟨i,v,hi,hv,h.1,h.2.1,h.2.2⟩
  ·cases h
 ·cases h
theorem LP{α:Type}{P:Program}{enc:α->List Va}{z:Nat}{ty t:TypeId}{bytes:Nat}{zero:α}(E:zqa P enc z ty bytes zero)(ht:P.underlying t=some (.slice ty))(n:Nat)(hb:bytes*n<=281474976710656)(hn:n<=maxLen)(w:Wo) :
  (Instr.makeSlice t (.int .i64 (n:Int)) (.int .i64 (n:Int))).run P w=.ok (.slice (some ⟨w.heap.size,0,none⟩) n n) (w.alloc (.cells ((List.replicate n zero).flatMap enc).toArray ty)):=by
 obtain⟨i,v,hi,hz,hs,hby,hv⟩:=E.info;have hmax:maxLen<=9223372036854775807:=by unfold maxLen; omega
 have:=run_make (P:=P) w t ty i v ht hi hz .i64 .i64 (n:Int) (n:Int) (by omega) (Int.le_refl _) (by
  rw[hby];have:((bytes*n:Nat):Int)<=281474976710656:=by omega
  rwa[Int.natCast_mul] at this) (by omega)
 rw[this];simp only[Int.toNat_natCast]
 congr 2
 rw[hs,<-zph v.cells zero hv.symm (E.len zero) n,Array.toArray_toList]
theorem Oh{α:Type}{enc:α->List Va}{z:Nat}(hz:∀x,(enc x).length=z)(ty:TypeId)(n:Nat)(zero:α)(w:Wo):U4 enc z ty w.heap.size (w.alloc (.cells ((List.replicate n zero).flatMap enc).toArray ty)) (some ⟨w.heap.size,0,none⟩) n (List.replicate n zero):=
 .inr ⟨w.heap.size,[],rfl,Nat.le_refl _,by rw[List.append_nil]; exact Array.getElem?_push_size ..,by rw[List.append_nil,JO hz,List.length_replicate],by simp⟩
theorem Zc(w:Wo)(o:Obj):Q0 [] w (w.alloc o):=(Q0.refl [] w).alloc o
theorem Zl:4194304<=maxLen:=by simp[maxLen]
theorem zve{α:Type}[Inhabited α]{P:Program}{enc:α->List Va}{z:Nat}{ty t tx:TypeId}{bytes:Nat}{zero:α}(E:zqa P enc z ty bytes zero)(ht:P.underlying t=some (.slice ty)){base:Nat}{w:Wo}{o:OA}{cap:Nat}{l m:List α}{x:Va}(hO:U4 enc z ty base w o cap l)(hS:Src P z tx x m.length (m.flatMap enc) w)(hb:(2*(l.length+m.length))*bytes<=281474976710656)(hn:l.length+m.length<=4194304)(tr:TypeId)(hbase:base<=w.heap.size) :
  ∃o' cap' w',(Builtin.append_ #[t,tx] tr #[.slice o l.length cap,x]).run P w=.ok (.slice o' (l.length+m.length) cap') w'/\U4 enc z ty base w' o' cap' (l++m)/\Q0 (QB o) w w'/\(o'=o\/o'=some ⟨w.heap.size,0,none⟩):=by
 obtain⟨i,v,hi,hz,hs,hby,hv⟩:=E.info;subst hs
 by_cases hroom:l.length+m.length<=cap
 ·rcases hO with ⟨hc0,hl0,ho0⟩ | ⟨b,sp,rfl,h1,h2,h3,h4⟩
  ·subst hl0; subst hc0; subst ho0;have hm:m=[]:=List.eq_nil_of_length_eq_zero (by simp only[List.length_nil] at hroom; omega);subst hm;have hk:=run_append_nothing (P:=P) w t tx tr ty i ht hi none 0 0 (Nat.le_refl _) x hS;exact⟨none,0,w,by simpa using hk,.inl ⟨rfl,rfl,rfl⟩,Q0.refl _ _,.inl rfl⟩
  ·have hfl:=JO E.len l;have hfm:=JO E.len m
   have hsp:(m.flatMap enc).length<=sp.length:=by
    rw[List.length_append,hfl] at h3;have:=Nat.mul_le_mul_right i.size hroom;rw[Nat.add_mul] at this;omega
   have hr:=run_append_room_src (P:=P) w t tx tr ty i ht hi b 0 l.length cap x m.length (m.flatMap enc) hS hroom (fun j hj=>by
     rw[Oa h2];have:0+l.length*i.size+j<(l.flatMap enc++sp).length:=by rw[List.length_append,hfl]; omega
     rw[List.getElem?_toArray,List.getElem?_eq_getElem this]; rfl) (fun j hj=>by simp[World.frozen?,h2])
   refine⟨_,_,_,hr,?_,?_,.inl rfl⟩
   ·refine .inr ⟨b,sp.drop (m.flatMap enc).length,rfl,h1,?_,?_,by rw[List.length_append]; exact hroom⟩
    ·have hst:w.setCells b (0+l.length*i.size) (m.flatMap enc)=YtclpmgfpjeaibaaGreat.sto w (some ⟨b,0,none⟩) (0+l.length*i.size) (m.flatMap enc):=by
      generalize m.flatMap enc=vs;generalize 0+l.length*i.size=n;simp only[YtclpmgfpjeaibaaGreat.sto]
      induction vs generalizing w n with
      | nil=>rfl
      | cons u r ih=>
       have ih':∀(w:Wo) (n:Nat),w.setCells b n r=stoL w ⟨b,0,none⟩ n r:=by
        clear ih
        induction r with
        | nil=>intro w n; rfl
        | cons u' r' ih2=>intro w n; simp only[World.setCells,stoL]; rw[ih2,Addr.add_lit,Nat.zero_add]
       simp only[World.setCells,stoL];rw[ih',Addr.add_lit,Nat.zero_add]
     rw[hst,Km h2,Gn _ _ _ (by rw[List.length_append,hfl]; omega)]
     have e1:(l.flatMap enc++sp).take (0+(0+l.length*i.size))=l.flatMap enc:=by
      rw[List.take_append_of_le_length (by rw[hfl]; omega),List.take_of_length_le (by rw[hfl]; omega)]
     have e2:(l.flatMap enc++sp).drop (0+(0+l.length*i.size)+(m.flatMap enc).length)=sp.drop (m.flatMap enc).length:=by
      rw[List.drop_append,List.drop_eq_nil_iff.2 (by rw[hfl]; omega),List.nil_append,hfl]
      congr 1
      omega
     rw[e1,e2,List.flatMap_append]
    ·rw[List.flatMap_append,List.length_append,List.length_append,List.length_drop];rw[List.length_append] at h3;omega
   ·have:∀(vs:List Va) (w:Wo) (n:Nat),Q0 [b] w (w.setCells b n vs):=by
     intro vs
     induction vs with
     | nil=>intro w n; exact Q0.refl _ _
     | cons u r ih=>intro w n; exact((Q0.refl [b] w).setCell (p:=⟨b,n,none⟩) (.inr (by simp)) u).trans (ih _ _)
    exact this _ _ _
 ·have hroom:cap<l.length+m.length:=by omega
  have hnext:Builtin.nextslicecap (l.length+m.length) cap<=2*(l.length+m.length):=by
   unfold Builtin.nextslicecap
   have hg:∀(r c N:Nat),c<=N->256<=c->Builtin.growBy N r c<=2*N:=by
    intro r
    induction r with
    | zero=>intro c N hc _; simp only[Builtin.growBy]; omega
    | succ r ih=>
     intro c N hc h256;simp only[Builtin.growBy];split
     ·omega
     ·by_cases hle:c+(c+768) / 4<=N
      ·exact ih _ _ hle (by omega)
      ·cases r with
       | zero=>simp only[Builtin.growBy]; omega
       | succ r=>simp only[Builtin.growBy]; split <;> omega
   split
   ·omega
   ·split
    ·omega
    ·exact hg 4 cap _ (by omega) (by omega)
  have hold:(Builtin.firstCells i.size l.length (.slice o l.length cap)).run P w.drew=.ok (l.flatMap enc).toArray w.drew:=by
   rcases hO with ⟨hc0,hl0,ho0⟩ | ⟨b,sp,rfl,h1,h2,h3,h4⟩
   ·subst hl0; subst ho0
    simpa using run_firstCells_none (P:=P) w.drew i.size 0 0 cap
   ·refine run_firstCells_some (P:=P) w.drew i.size l.length ⟨b,0,none⟩ l.length cap _ (JO E.len l) fun j u hu=>?_
    have hlt:=(List.getElem?_eq_some_iff.1 hu).1
    have:w.cell? ((⟨b,0,none⟩:Addr).add j)=some u:=by
     rw[Addr.add_lit,Nat.zero_add,Oa h2];simp only[List.getElem?_toArray];rw[List.getElem?_append_left hlt];exact hu
    simpa using this
  have hr:=run_append_grow_src (P:=P) w t tx tr ty i v ht hi hz o l.length cap (l.flatMap enc) hold x m.length (m.flatMap enc) hS hroom (by omega) (by
   rw[hby];exact Nat.le_trans (Nat.mul_le_mul_right bytes hnext) hb)
  refine⟨_,_,_,hr,?_,?_,.inr rfl⟩
  ·have hge:=grownCap_ge w (l.length+m.length) cap ty;generalize grownCap w (l.length+m.length) cap ty=g at *;refine .inr ⟨w.heap.size,(Builtin.zeroCells v.cells (g-(l.length+m.length))).toList,rfl,hbase,?_,?_,by rw[List.length_append]; exact hge⟩
   ·simp only[World.alloc];show (w.drew.heap.push _)[w.heap.size]? = _;have:w.drew.heap=w.heap:=rfl;rw[this,Array.getElem?_push_size,List.flatMap_append]
    congr 2
    apply Array.ext'
    simp
   ·have hvs:v.cells.size=i.size:=by
     have:=E.len zero;rw[<-hv] at this
     simpa using this
    rw[List.length_append,JO E.len,List.length_append];simp only[Builtin.zeroCells,Array.length_toList,Array.size_map,Array.size_range];rw[hvs,<-Nat.add_mul]
    congr 1
    omega
  ·exact((Q0.refl _ w).drew).alloc _
theorem zkx{P:Program}{ts:Array TypeId}{t:TypeId}{cs:Array Bool}{args:Array Va}{w w':Wo}{v:Va}(h:(Builtin.append_ ts t args).run P w=.ok v w'):(builtin .append ts t cs args).run P w=.ok (.value v) w':=by
 simp only[builtin,Sem.run_bind,h,Result.andThen_ok,Sem.run_pure]
theorem zj2{α:Type}[Inhabited α]{P:Program}{enc:α->List Va}{z:Nat}{ty t:TypeId}{bytes:Nat}{zero:α}(E:zqa P enc z ty bytes zero)(ht:P.underlying t=some (.slice ty)){base:Nat}{w:Wo}{o:OA}{cap:Nat}{l:List α}(hO:U4 enc z ty base w o cap l){x:α}{b:Nat}{t':TypeId}{fz:Nat×Nat}(hb:w.heap[b]? = some (.cells (enc x).toArray t' fz))(h1:Zi (enc x)=true)(hby:(2*(l.length+1))*bytes<=281474976710656)(hn:l.length+1<=4194304)(tr:TypeId)(cs:Array Bool)(hbase:base<=w.heap.size) :
  ∃o' cap' w',(builtin .append #[t,t] tr cs #[.slice o l.length cap,.slice (some ⟨b,0,none⟩) 1 1]).run P w=.ok (.value (.slice o' (l++[x]).length cap')) w'/\U4 enc z ty base w' o' cap' (l++[x])/\Q0 (QB o) w w'/\(o'=o\/o'=some ⟨w.heap.size,0,none⟩):=by
 have hS:Src P z t (.slice (some ⟨b,0,none⟩) 1 1) [x].length ([x].flatMap enc) w:=by
  refine Src.ofSlice w ht ⟨b,0,none⟩ 1 1 _ (by simp[E.len]) (fun j u hu=>?_) (fun u hu=>?_)
  ·rw[Addr.add_lit,Nat.zero_add,Oa hb]
   simpa using hu
  ·exact UH h1 u (by simpa using hu)
 obtain⟨o',cap',w',h1,h2,h3,h4⟩:=zve E ht hO hS (by simpa using hby) (by simpa using hn) tr hbase;exact⟨o',cap',w',zkx (by simpa using h1),h2,h3,h4⟩
theorem zyk(x:KE):Zi (MD x)=true:=rfl
theorem zy8(x:Mw):Zi (X7 x)=true:=rfl
theorem zyj(x:M0):Zi (KN x)=true:=rfl
theorem zxe(x:Int):Zi (Ji x)=true:=rfl
theorem zy6(x:Bool):Zi (KM x)=true:=rfl
def zi2:List (Nat×Va)->PT SV
 | []=>.leaf
 | p::r=>PT.set 12 (zi2 r) p.1 (.un (.v p.2))
def JT(ins:List (Nat×Va)):St:={ F:=zi2 ins,L:=[],B:=[],old:=0,lk:=[],r:=1 }
theorem FA:∀{ins:List (Nat×Va)} {i:Nat} {sv:SV},(∀p∈ins,p.1<4000)->(zi2 ins).get i=some sv->∃v,(i,v)∈ins/\sv=.un (.v v)
 | [],i,sv,_,h=>by simp[zi2,PT.get] at h
 | p::r,i,sv,hl,h=>by
  have hp:=hl p (List.mem_cons_self ..);simp only[zi2] at h;rw[PT.get_set _ 12 _ _ _ (by have:(2:Nat) ^ 12=4096:=rfl; omega)] at h
  by_cases he:p.1=i
  ·rw[if_pos he] at h;cases h;exact⟨p.2,by rw[<-he]; exact List.mem_cons_self ..,rfl⟩
  ·rw[if_neg he] at h;obtain⟨v,hv,hs⟩:=FA (fun q hq=>hl q (List.mem_cons_of_mem _ hq)) h;exact⟨v,List.mem_cons_of_mem _ hv,hs⟩
def Lm(ins:List (Nat×Va))(a:Act):Prop:=∀p∈ins,p.1<4000/\a.tmps.getD p.1 undef=p.2
theorem zi3{n:Nat}{ins:List (Nat×Va)}{a:Act}(hn:a.tmps.size=n)(hin:Lm ins a):Td n (JT ins) a:=by
 refine⟨hn,fun i x hx=>?_,fun i r pc x hx=>?_⟩
 ·obtain⟨v,hv,he⟩:=FA (fun p hp=>(hin p hp).1) hx;cases he;exact(hin _ hv).2
 ·obtain⟨v,hv,he⟩:=FA (fun p hp=>(hin p hp).1) hx;cases he
theorem zi4(ins:List (Nat×Va))(w:Wo):Z8 (JT ins) w w:=⟨Q0.refl _ _,fun id t cs hl=>by simp[JT] at hl,rfl,List.nodup_nil,fun id b _ hb=>by simp[JT] at hb⟩
theorem zm9(ins:List (Nat×Va)):KJ (JT ins):=⟨Nat.zero_le _,fun id hid=>by cases hid⟩
theorem zpn{n:Nat}{S:St}{a:Act}(hf:Td n S a){xs:List Operand}{vs:List Va}(h:MU S [] xs=some vs):xs.map a.eval=vs:=by
 induction xs generalizing vs with
 | nil=>simp only[MU,Option.some.injEq] at h; subst h; rfl
 | cons x r ih=>
  simp only[MU] at h
  split at h
  ·rename_i v l hv hl;simp only[Option.some.injEq] at h; subst h;unfold LI at hv
   split at hv
   ·rename_i e he;rw[List.map_cons,ih hl,At hv (El hf he)]
   ·cases hv
  ·cases h
def MF(outs:List Nat)(R:Exit->List Va->Wo->Prop)(e:Exit)(S:St)(w:Wo):Prop:=match MU S [] (outs.map .tmp) with
 | some vs=>∀wr,Q0 S.bs w wr->R e vs wr
 | none=>False
def zl6:List Code->Code->Code
 | [],x=>x
 | c::l,x=>.seq c (zl6 l x)
def zyb(C:U3)(sps:List (Nat×ZN)):List Code->St->Wo->(Exit->St->Wo->Prop)->Prop
 | [],S,w,K=>K .normal S w
 | c::l,S,w,K=>Fv C sps c S w fun e S' w'=>match e with
  | .normal=>zyb C sps l S' w' K
  | e=>K e S' w'
def Oq:List Code->List Nat
 | []=>[]
 | c::l=>YQ c++Oq l
theorem zeq{C:U3}(E:zmp C){sps:List (Nat×ZN)}{Q:Exit->Act->Wo->Prop}{X:Code}:∀(l:List Code) (S:St) (w wr:Wo) (a:Act) (K:Exit->St->Wo->Prop),zyb C sps l S w K->Td C.n S a->Z8 S w wr->KJ S->
  (∀S' w' a' wr',K .normal S' w'->P6 C S w (Oq l) a S' w' a' wr'->X.wpIn (VC C.rd) 0 C.P Q a' wr')->(∀e S' w' a' wr',e≠.normal->K e S' w'->P6 C S w (Oq l) a S' w' a' wr'->Q e a' wr')->(zl6 l X).wpIn (VC C.rd) 0 C.P Q a wr
 | [],S,w,wr,a,K,h,hf,hw,hwf,hN,_=>hN _ _ _ _ h (P6.refl _ hf hw hwf)
 | c::l,S,w,wr,a,K,h,hf,hw,hwf,hN,hE=>by
  have sub1:∀z∈YQ c,z∈Oq (c::l):=fun z hz=>List.mem_append_left _ hz
  have sub2:∀z∈Oq l,z∈Oq (c::l):=fun z hz=>List.mem_append_right _ hz
  refine wpIn_seq (Y0 E c S w wr a _ _ h hf hw hwf fun e S' w' a' wr' hK he=>?_)
  cases e with
  | normal=>exact zeq E l S' w' wr' a' K hK he.fit he.rel he.wf (fun S2 w2 a2 wr2 hK2 he2=>hN _ _ _ _ hK2 (he.trans he2 sub1 sub2)) fun e2 S2 w2 a2 wr2 hne hK2 he2=>hE _ _ _ _ _ hne hK2 (he.trans he2 sub1 sub2)
  | _=>exact hE _ _ _ _ _ (fun h=>by cases h) hK (he.mono sub1)
structure zmr (ds outs:List Nat) (a a':Act) (vs:List Va):Prop where
 defers:a'.defers=a.defers
 size:a'.tmps.size=a.tmps.size
 kept:∀i,i∉ds->a'.tmps.getD i undef=a.tmps.getD i undef
 out:outs.map (fun t=>a'.tmps.getD t undef)=vs
theorem zk9{C:U3}{S S':St}{w w' wr':Wo}{ds outs:List Nat}{a a':Act}{vs:List Va}(he:P6 C S w ds a S' w' a' wr')(ho:MU S' [] (outs.map .tmp)=some vs):zmr ds outs a a' vs:=
 ⟨he.fra.1,he.fra.2.1,he.fra.2.2,by
  have:=zpn he.fit ho;rw[List.map_map] at this;exact this⟩
theorem zev{C:U3}(E:zmp C){sps:List (Nat×ZN)}{code:Code}{ins:List (Nat×Va)}{outs:List Nat}{w:Wo}{a:Act}{R:Exit->List Va->Wo->Prop}{Q:Exit->Act->Wo->Prop}(hn:a.tmps.size=C.n)(hin:Lm ins a)(h:Fv C sps code (JT ins) w (MF outs R))(hQ:∀e vs a' w',R e vs w'->zmr (YQ code) outs a a' vs->Q e a' w'):code.wpIn (VC C.rd) 0 C.P Q a w:=
 Y0 E code (JT ins) w w a _ Q h (zi3 hn hin) (zi4 ins w) (zm9 ins) fun e S' w' a' wr' hK he=>by
  unfold MF at hK
  split at hK
  ·rename_i vs ho;exact hQ e vs a' wr' (hK wr' he.rel.ext) (zk9 he ho)
  ·exact hK.elim
theorem zvz{C:U3}(E:zmp C){sps:List (Nat×ZN)}{l:List Code}{X:Code}{ins:List (Nat×Va)}{outs:List Nat}{w:Wo}{a:Act}{R:Exit->List Va->Wo->Prop}{Q:Exit->Act->Wo->Prop}(hn:a.tmps.size=C.n)(hin:Lm ins a)(h:zyb C sps l (JT ins) w (MF outs R))(hX:∀vs a' w',R .normal vs w'->zmr (Oq l) outs a a' vs->X.wpIn (VC C.rd) 0 C.P Q a' w')(hQ:∀e vs a' w',e≠.normal->R e vs w'->zmr (Oq l) outs a a' vs->Q e a' w'):(zl6 l X).wpIn (VC C.rd) 0 C.P Q a w:=
 zeq E l (JT ins) w w a _ h (zi3 hn hin) (zi4 ins w) (zm9 ins) (fun S' w' a' wr' hK he=>by
  unfold MF at hK
  split at hK
  ·rename_i vs ho;exact hX vs a' wr' (hK wr' he.rel.ext) (zk9 he ho)
  ·exact hK.elim) fun e S' w' a' wr' hne hK he=>by
  unfold MF at hK
  split at hK
  ·rename_i vs ho;exact hQ e vs a' wr' hne (hK wr' he.rel.ext) (zk9 he ho)
  ·exact hK.elim
def cL:Code->Code
 | .seq a _=>a
 | c=>c
def cR:Code->Code
 | .seq _ b=>b
 | c=>c
def cB:Code->Code
 | .block _ b=>b
 | c=>c
def zzg:Code->Code
 | .rangeFunc _ _ a _=>a
 | c=>c
def zzh:Code->Code
 | .rangeFunc _ _ _ b=>b
 | c=>c
theorem Y6(w:Wo)(l:Nat)(o:Obj):Q0 [l] w (w.putObj l o):=
 ⟨rfl,rfl,rfl,by simp,fun k _ hk=>World.putObj_heap_other (by simpa using hk)⟩
theorem zil{P:Program}{l:Nat}{vs:List Va}{w:Wo}:(Co (.func (.yield l) #[] #[]) vs).run P w=(Instr.yield l vs.toArray).run P w:=by
 simp[Co,Deferred.ofValue,invoke]
def zyu{β:Type}(n:Nat)(J:β->Wo->Prop):Prop:=∀k W W' ys,J k W->Q0 ys W W'->(∀y∈ys,n<=y)->J k W'
def zxj(n:Nat)(I:Nat->Wo->Prop)(Ix:Code->Wo->Prop)(k:Nat)(W:Wo):Exit->Act->Wo->Prop:=fun e _ W3=>
 (∃X,Q0 X W W3/\∀x∈X,x<n)/\(match e with
  | .normal=>I (k+1) W3
  | .ret=>Ix .ret W3
  | .exit i=>Ix (.exit i) W3
  | .goto t=>Ix (.goto t) W3
  | _=>False)
abbrev FX(D:Nat):Deferred:={ target:=.collected D,args:=#[] }
theorem HS{P:Program}{fn:Func}{R:Ending->Wo->Prop}{a:Act}{w:Wo}{D:Nat}{v:Va}(hd:a.defers=[FX D])(hD:w.heap[D]? = some (.deferred (some [])))(hr:∀w',(results fn a.tmps).run P w'=.ok v w')(h:∀w',Q0 [D] w w'->R (.returned v) w') :
  bodyPostM (VC none) 0 P fn R .normal a w/\bodyPostM (VC none) 0 P fn R .ret a w:=by
 have:LeavesInM (VC none) 0 P fn a.tmps R a.defers .returning w:=by
  rw[hd];exact⟨by simp,.inl ⟨_,_,rfl,run_takeDeferred hD,⟨v,hr _,h _ (Y6 _ _ _)⟩⟩⟩
 exact⟨this,this⟩
theorem zim{P:Program}{f:FuncId}{fn:Func}{body:Code}{args:Array Va}{w:Wo}{R:Ending->Wo->Prop}(hf:P.funcs[f]? = some fn)(hb:fn.body=some body)(h:body.wpIn (VC none) 0 P (bodyPostM (VC none) 0 P fn R) { tmps:=args++Array.replicate (fn.ntmps-args.size) undef,defers:=[] } w):Calls P f args w R:=
 zm7 (callsIn_of_wp_marks (F:=VC none) hf hb trivial h rfl)
end Go.Proofs.YtclpmgfpjeaibaaGreat
