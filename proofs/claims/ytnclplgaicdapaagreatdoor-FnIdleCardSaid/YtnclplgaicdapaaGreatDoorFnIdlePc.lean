/- Part 3 of what the law FnIdle needs. -/
import Derived.Test.YtnclplgaicdapaaGreatDoorFnIdlePb
import Derived.Deep.AppendSrc
import Derived.Deep.Upon
import Derived.Laws.MakeOwn
import Derived.Laws.CopyRow
import Derived.Laws.AppendOwn
set_option linter.unusedVariables false
set_option linter.unusedSimpArgs false
set_option maxRecDepth 100000
set_option maxHeartbeats 8000000
namespace Go.Proofs.YtnclplgaicdapaaGreatDoor
open Go.RowKit
theorem Xc{α:Type}{enc:α->List Va}{z:Nat}(hz:∀x,(enc x).length=z):∀l:List α,(l.flatMap enc).length=l.length*z
 | []=>by simp
 | x::r=>by rw[List.flatMap_cons,Io,hz,Xc hz r,List.length_cons,Nat.succ_mul]; omega
theorem FZ{α:Type}{enc:α->List Va}{z:Nat}(hz:∀x,(enc x).length=z):∀(l:List α) (i j:Nat) (hi:i<l.length),j<z->(l.flatMap enc)[i*z+j]? = (enc l[i])[j]?
 | x::r,0,j,_,hj=>by
  rw[List.flatMap_cons,Ip (by rw[hz]; omega)];simp
 | x::r,i+1,j,hi,hj=>by
  rw[List.flatMap_cons,List.getElem?_append_right (by rw[hz,Nat.succ_mul]; omega),hz];have e:(i+1)*z+j-z=i*z+j:=by rw[Nat.succ_mul]; omega
  rw[e,FZ hz r i j (by simpa using hi) hj];simp
theorem zdi{α:Type}{enc:α->List Va}{z:Nat}(hz:∀x,(enc x).length=z)(x:α):∀(l:List α) (i:Nat) (_:i<l.length),((l.set i x).flatMap enc)=(l.flatMap enc).take (i*z)++enc x++(l.flatMap enc).drop ((i+1)*z)
 | y::r,0,_=>by
  simp only[List.set_cons_zero,List.flatMap_cons,Nat.zero_mul,List.take_zero,List.nil_append,Nat.zero_add,Nat.one_mul];rw[List.drop_append_of_le_length (by rw[hz]; exact I7 _),List.drop_eq_nil_iff.2 (by rw[hz]; exact I7 _),List.nil_append]
 | y::r,i+1,hi=>by
  simp only[List.set_cons_succ,List.flatMap_cons];rw[zdi hz x r i (by simpa using hi)];have e1:(i+1)*z=z+i*z:=by rw[Nat.succ_mul]; omega
  have e2:(i+1+1)*z=z+(i+1)*z:=by rw[Nat.succ_mul (i+1)]; omega
  have hy:(enc y).length=z:=hz y
  have t1:(enc y++r.flatMap enc).take ((i+1)*z)=enc y++(r.flatMap enc).take (i*z):=by
   rw[e1,List.take_append,List.take_of_length_le Qo,hy,show z+i*z-z=i*z by omega]
  have t2:(enc y++r.flatMap enc).drop ((i+1+1)*z)=(r.flatMap enc).drop ((i+1)*z):=by
   rw[e2,List.drop_append,List.drop_eq_nil_iff.2 Qo,List.nil_append,hy,show z+(i+1)*z-z=(i+1)*z by omega]
  rw[t1,t2];simp[List.append_assoc]
def V3{α:Type}(enc:α->List Va)(z:Nat)(ty:TypeId)(base:Nat)(w:Wo)(o:OA)(cap:Nat)(l:List α):Prop:=
 (cap=0/\l=[]/\o=none)\/∃(b:Nat) (sp:List Va),o=some ⟨b,0,none⟩/\base<=b/\w.heap[b]? = some (.cells (l.flatMap enc++sp).toArray ty (0,0))/\(l.flatMap enc++sp).length=cap*z/\l.length<=cap
def QL(o:OA):List Nat:=match o with
 | some a=>[a.block]
 | none=>[]
theorem V3.ext{α:Type}{enc:α->List Va}{z:Nat}{ty:TypeId}{base:Nat}{w w':Wo}{o:OA}{cap:Nat}{l:List α}{bs:List Nat}(h:V3 enc z ty base w o cap l)(hx:Q0 bs w w')(hd:∀b∈QL o,b∉bs):V3 enc z ty base w' o cap l:=by
 rcases h with h | ⟨b,sp,rfl,h1,h2,h3,h4⟩
 ·exact .inl h
 ·exact .inr ⟨b,sp,rfl,h1,QB h2 hx (hd b (by simp[QL])),h3,h4⟩
theorem V3.Wt{α:Type}{enc:α->List Va}{z:Nat}{ty:TypeId}{base:Nat}{w w':Wo}{o:OA}{cap:Nat}{l:List α}(h:V3 enc z ty base w o cap l)(hx:Q0 [] w w'):V3 enc z ty base w' o cap l:=h.ext hx Qs
theorem V3.lt{α:Type}{enc:α->List Va}{z:Nat}{ty:TypeId}{base:Nat}{w:Wo}{o:OA}{cap:Nat}{l:List α}(h:V3 enc z ty base w o cap l):∀b∈QL o,base<=b/\b<w.heap.size:=by
 rcases h with ⟨_,_,rfl⟩ | ⟨b,sp,rfl,h1,h2,h3,h4⟩
 ·simp[QL]
 ·intro x hx;simp only[QL,IA] at hx;subst hx;exact⟨h1,JG h2⟩
theorem V3.U'{α β:Type}{enc:α->List Va}{Cn1:β->List Va}{z z':Nat}{ty ty':TypeId}{base aC:Nat}{w:Wo}{o o':OA}{cap qB:Nat}{l:List α}{l':List β}(h:V3 enc z ty base w o cap l)(h':V3 Cn1 z' ty' aC w o' qB l')(ht:ty≠ty'):∀b∈QL o,b∉QL o':=by
 rcases h with ⟨_,_,rfl⟩ | ⟨b,sp,rfl,h1,h2,h3,h4⟩
 ·simp[QL]
 ·rcases h' with ⟨_,_,rfl⟩ | ⟨b',sp',rfl,h1',h2',h3',h4'⟩
  ·simp[QL]
  ·intro x hx dZ;simp only[QL,IA] at hx dZ;subst hx;subst dZ;rw[h2] at h2';simp only[I0,Obj.cells.injEq] at h2';exact ht h2'.2.1
theorem V3.mono{α:Type}{enc:α->List Va}{z:Nat}{ty:TypeId}{base aC:Nat}{w:Wo}{o:OA}{cap:Nat}{l:List α}(h:V3 enc z ty base w o cap l)(hb:aC<=base):V3 enc z ty aC w o cap l:=by
 rcases h with h | ⟨b,sp,rfl,h1,h2,h3,h4⟩
 ·exact .inl h
 ·exact .inr ⟨b,sp,rfl,IB hb h1,h2,h3,h4⟩
theorem V3.rd{α:Type}[Inhabited α]{enc:α->List Va}{z:Nat}{ty:TypeId}{base:Nat}{w:Wo}{o:OA}{cap:Nat}{l:List α}(h:V3 enc z ty base w o cap l)(hz:∀x,(enc x).length=z){bs:List Nat}(hb:∀b∈QL o,b∉bs):Rd enc z bs w o l:=by
 intro i h0 hi;rcases h with ⟨_,rfl,_⟩ | ⟨b,sp,rfl,h1,h2,h3,h4⟩
 ·simp at hi; omega
 ·obtain⟨k,rfl⟩:=Int.eq_ofNat_of_zero_le h0;have hk:k<l.length:=Qo;refine VQ h2 (hb b (by simp[QL])) (k0:=0) λj v hj=>?_
  have hjz:j<z:=by
   have:=(I8.1 hj).1;rw[hz] at this; exact this
  rw[JX hk] at hj;have oG:=Xc hz l
  have IN:k*z+j<(l.flatMap enc).length:=by
   rw[oG];have:=Nat.mul_le_mul_right z hk;rw[Nat.succ_mul] at this;omega
  rw[Ig,Nat.zero_add,Ip IN,FZ hz l k j hk hjz];exact hj
theorem V3.ix{α:Type}{enc:α->List Va}{z:Nat}{ty:TypeId}{base:Nat}{w:Wo}{o:OA}{cap:Nat}{l:List α}(h:V3 enc z ty base w o cap l){i:Int}(h0:0<=i)(h1:i<(l.length:Int)):Ix o l.length i:=by
 rcases h with ⟨_,rfl,_⟩ | ⟨b,sp,rfl,_⟩
 ·simp at h1; omega
 ·exact⟨h0,h1,rfl⟩
theorem V3.wr{α:Type}{enc:α->List Va}{z:Nat}{ty:TypeId}{base:Nat}{w:Wo}{o:OA}{cap:Nat}{l:List α}(h:V3 enc z ty base w o cap l)(hz:∀x,(enc x).length=z){bs:List Nat}(hb:∀b∈QL o,b∉bs){i:Int}(h0:0<=i)(h1:i<(l.length:Int)){j n:Nat}(hj:j+n<=z):Xm bs w o (Int.toNat i*z+j) n:=by
 rcases h with ⟨_,rfl,_⟩ | ⟨b,sp,rfl,cJ,h2,h3,h4⟩
 ·simp at h1; omega
 ·refine M5 h2 (hb b (by simp[QL])) ?_;have hk:i.toNat<l.length:=Qo;have:=Nat.mul_le_mul_right z hk;rw[Nat.succ_mul] at this;rw[Io,Xc hz l];omega
theorem V3.R9{α:Type}[Inhabited α]{enc:α->List Va}{z:Nat}{ty:TypeId}{base:Nat}{w:Wo}{o:OA}{cap:Nat}{l:List α}(h:V3 enc z ty base w o cap l)(hz:∀x,(enc x).length=z){i:Int}(h0:0<=i)(h1:i<(l.length:Int)){j:Nat}{vs:List Va}{x:α}(he:enc x=(enc (gi l i)).take j++vs++(enc (gi l i)).drop (j+vs.length))(hj:j+vs.length<=z) :
  V3 enc z ty base (YtnclplgaicdapaaGreatDoor.R9 w o (Int.toNat i*z+j) vs) o cap (l.set i.toNat x):=by
 rcases h with ⟨_,rfl,_⟩ | ⟨b,sp,rfl,cJ,h2,h3,h4⟩
 ·simp at h1; omega
 ·obtain⟨k,rfl⟩:=Int.eq_ofNat_of_zero_le h0;have hk:k<l.length:=Qo;have oG:=Xc hz l;have hmul:=Nat.mul_le_mul_right z hk;rw[Nat.succ_mul] at hmul;refine .inr ⟨b,sp,rfl,cJ,?_,?_,by simpa using h4⟩
  ·rw[M3 h2,Nat.zero_add,Ig,HQ _ _ _ (by rw[Io,oG]; omega),zdi hz x l k hk,he,JX hk];have hlk:(enc l[k]).length=z:=hz _
   have CA3:l.flatMap enc=(l.flatMap enc).take (k*z)++enc l[k]++(l.flatMap enc).drop ((k+1)*z):=by
    have:=zdi hz l[k] l k hk
    rwa[List.set_getElem_self] at this
   have ht:((l.flatMap enc).take (k*z)).length=k*z:=by rw[List.length_take,oG]; omega
   generalize (l.flatMap enc).take (k*z)=A at *;generalize (l.flatMap enc).drop ((k+1)*z)=B at *;rw[CA3]
   have e1:(A++enc l[k]++B++sp).take (k*z+j)=A++(enc l[k]).take j:=by
    simp only[List.append_assoc];rw[List.take_append,List.take_of_length_le Qo,ht,List.take_append,show k*z+j-k*z=j by omega];rw[show j-(enc l[k]).length=0 by omega,List.take_zero,List.append_nil]
   have e2:(A++enc l[k]++B++sp).drop (k*z+j+vs.length)=(enc l[k]).drop (j+vs.length)++B++sp:=by
    simp only[List.append_assoc];rw[List.drop_append,List.drop_eq_nil_iff.2 Qo,List.nil_append,ht,List.drop_append,show k*z+j+vs.length-k*z=j+vs.length by omega];rw[show j+vs.length-(enc l[k]).length=0 by omega,List.drop_zero]
   rw[e1,e2];simp only[List.append_assoc]
  ·rw[Io,Xc hz,E',<-Xc hz l,<-Io]; exact h3
theorem V3.qW{α:Type}{enc:α->List Va}{z:Nat}{ty:TypeId}{base:Nat}{w:Wo}{o:OA}{cap:Nat}{l:List α}(_:V3 enc z ty base w o cap l)(n:Nat)(vs:List Va):Q0 (QL o) w (YtnclplgaicdapaaGreatDoor.R9 w o n vs):=
 JS λa ha=>by rw[ha]; simp[QL]
theorem V3.CZ1{α:Type}{enc:α->List Va}{z:Nat}{ty:TypeId}{base:Nat}{w:Wo}{o:OA}{cap:Nat}{l:List α}(h:V3 enc z ty base w o cap l)(n:Nat)(vs:List Va){w0:Wo}(hx:Q0 [] w0 w)(hb:w0.heap.size<=base):Q0 [] w0 (YtnclplgaicdapaaGreatDoor.R9 w o n vs):=
 hx.fresh (h.qW n vs) λx hm=>.inl (IB hb (h.lt x hm).1)
theorem Ys{w w':Wo}:Q9 [] w w':=λ_ h=>by cases h
theorem Qf{w w':Wo}{B:List Nat}(h:Q0 [] w w')(hs:∀b∈B,b<w.heap.size):Q9 B w w':=λb hb=>h.block b (hs b hb) Qs
theorem zuu{α:Type}{enc:α->List Va}{z:Nat}(zc:Array Va)(x:α)(hx:enc x=zc.toList)(hz:(enc x).length=z)(n:Nat):(madeCells zc (n*z)).toList=(List.replicate n x).flatMap enc:=by
 have hzs:zc.size=z:=by rw[<-hz,hx]; simp
 apply List.ext_getElem?
 intro q;have mX:(madeCells zc (n*z)).toList.length=n*z:=by simp[madeCells]
 by_cases hz0:z=0
 ·subst hz0;have h1:(madeCells zc (n*0)).toList=[]:=List.eq_nil_of_length_eq_zero (by rw[mX]; simp)
  have h2:(List.replicate n x).flatMap enc=[]:=by
   have:=List.eq_nil_of_length_eq_zero hz;rw[List.flatMap_replicate]; simp[this]
  rw[h1,h2]
 ·have oG:((List.replicate n x).flatMap enc).length=n*z:=by
   clear mX
   induction n with
   | zero=>simp
   | succ n ih=>rw[List.replicate_succ,List.flatMap_cons,Io,ih,hz,Nat.succ_mul]; omega
  by_cases hq:q<n*z
  ·have e1:(madeCells zc (n*z)).toList[q]? = some (zc[q % zc.size]!):=by
    simp[madeCells,hq]
   have hdiv:q / z<n:=Nat.div_lt_of_lt_mul (by rw[Nat.mul_comm]; exact hq);have CR3:q % z<z:=Nat.mod_lt _ (Nat.pos_of_ne_zero hz0)
   have e2:((List.replicate n x).flatMap enc)[q]? = (enc x)[q % z]? := by
    clear mX oG e1
    have key:∀n i,i<n->((List.replicate n x).flatMap enc)[i*z+q % z]? = (enc x)[q % z]? := by
     intro n
     induction n with
     | zero=>intro i hi; omega
     | succ n ih=>
      intro i hi;rw[List.replicate_succ,List.flatMap_cons]
      cases i with
      | zero=>rw[Ip (by rw[hz]; omega)]; simp
      | succ i=>
       rw[List.getElem?_append_right (by rw[hz,Nat.succ_mul]; omega),hz];have:(i+1)*z+q % z-z=i*z+q % z:=by rw[Nat.succ_mul]; omega
       rw[this];exact ih i Qo
    have:=key n (q / z) hdiv
    rwa[Nat.mul_comm,Nat.div_add_mod] at this
   rw[e1,e2,hx,hzs];have:q % z<zc.size:=Qo;simp[this]
  ·rw[Iw Qo,Iw Qo]
structure zrr {α:Type} (P:Program) (enc:α->List Va) (z:Nat) (ty:TypeId) (bytes:Nat) (zero:α):Prop where
 info:∃(i:TypeInfo) (v:Va),P.info? ty=some i/\i.zero=some v/\i.size=z/\i.bytes=bytes/\v.cells.toList=enc zero
 len:∀x,(enc x).length=z
def z4q{α:Type}(P:Program)(enc:α->List Va)(z:Nat)(ty:TypeId)(bytes:Nat)(zero:α):Option (Nat×Nat×List Va):=match P.info? ty with
 | some i=>match i.zero with
  | some v=>some (i.size,i.bytes,v.cells.toList)
  | none=>none
 | none=>none
theorem Ev{α:Type}{P:Program}{enc:α->List Va}{z:Nat}{ty:TypeId}{bytes:Nat}{zero:α}(h:z4q P enc z ty bytes zero=some (z,bytes,enc zero))(hl:∀x,(enc x).length=z):zrr P enc z ty bytes zero:=by
 refine⟨?_,hl⟩;unfold z4q at h
 split at h
 ·rename_i i hi
  split at h
  ·rename_i v hv;simp only[I0,Prod.mk.injEq] at h;exact⟨i,v,hi,hv,h.1,h.2.1,h.2.2⟩
  ·cases h
 ·cases h
theorem KF{α:Type}{P:Program}{enc:α->List Va}{z:Nat}{ty t:TypeId}{bytes:Nat}{zero:α}(E:zrr P enc z ty bytes zero)(ht:P.underlying t=some (.slice ty))(n:Nat)(hb:bytes*n<=281474976710656)(hn:n<=maxLen)(w:Wo) :
  (Instr.makeSlice t (I (n:Int)) (I (n:Int))).run P w=.ok (.slice (some ⟨w.heap.size,0,none⟩) n n) (w.alloc (.cells ((List.replicate n zero).flatMap enc).toArray ty)):=by
 obtain⟨i,v,hi,hz,hs,hby,hv⟩:=E.info;have DK9:maxLen<=9223372036854775807:=by unfold maxLen; omega
 have:=run_make (P:=P) w t ty i v ht hi hz .i64 .i64 (n:Int) (n:Int) Qo (I2 _) (by
  rw[hby];have:((bytes*n:Nat):Int)<=281474976710656:=Qo
  rwa[Int.natCast_mul] at this) Qo
 rw[this];simp only[Ig]
 congr 2
 rw[hs,<-zuu v.cells zero hv.symm (E.len zero) n,Array.toArray_toList]
theorem Vv{α:Type}{enc:α->List Va}{z:Nat}(hz:∀x,(enc x).length=z)(ty:TypeId)(n:Nat)(zero:α)(w:Wo):V3 enc z ty w.heap.size (w.alloc (.cells ((List.replicate n zero).flatMap enc).toArray ty)) (some ⟨w.heap.size,0,none⟩) n (List.replicate n zero):=
 .inr ⟨w.heap.size,[],rfl,I7 _,by rw[List.append_nil]; exact Array.getElem?_push_size ..,by rw[List.append_nil,Xc hz,List.length_replicate],Qs⟩
theorem Z7(w:Wo)(o:Obj):Q0 [] w (w.alloc o):=(Q0.refl [] w).alloc o
theorem ZV:4194304<=maxLen:=by simp[maxLen]
theorem zy3{α:Type}[Inhabited α]{P:Program}{enc:α->List Va}{z:Nat}(hz:∀x,(enc x).length=z)(Bi9:∀x,Zl (enc x)=true){tx e':TypeId}(hk:P.underlying tx=some (.slice e')){w:Wo}{o:OA}{c:Nat}{l:List α}(h:Rd enc z [] w o l)(hz0:0<z):Src P z tx (.slice o l.length c) l.length (l.flatMap enc) w:=by
 cases l with
 | nil=>
  cases o with
  | none=>exact Src.ofNil w hk c
  | some a=>exact Src.ofSlice w hk a 0 c [] Qs Qs Qs
 | cons x r=>
  have hs:=(h 0 (I2 _) (by rw[List.length_cons]; omega))
  obtain⟨a,rfl⟩:∃a,o=some a:=by
   have hx:∃v q,enc (gi (x::r) 0)=v::q:=by
    have:=hz (gi (x::r) 0)
    cases hq:enc (gi (x::r) 0) with
    | nil=>rw[hq] at this; simp at this; omega
    | cons v q=>exact⟨v,q,rfl⟩
   obtain⟨v,q,e⟩:=hx;rw[e] at hs;exact Option.isSome_iff_exists.1 hs.some
  refine Src.ofSlice w hk a _ c _ (Xc hz _) (λj u hu=>?_) (λu hu=>?_)
  ·have hjl:=(I8.1 hu).1;rw[Xc hz] at hjl;have hdiv:j / z<(x::r).length:=Nat.div_lt_of_lt_mul (by rw[Nat.mul_comm]; exact hjl);have CR3:j % z<z:=Nat.mod_lt _ hz0;have e:j=j / z*z+j % z:=by rw[Nat.mul_comm]; exact(Nat.div_add_mod j z).symm
   rw[e] at hu ⊢;rw[FZ hz _ _ _ hdiv CR3] at hu;have:=(h ((j / z:Nat):Int) (Int.natCast_nonneg _) (Int.ofNat_lt.2 hdiv)).get (j % z) u (by rw[JX hdiv]; exact hu);obtain⟨a',ha',_,hc⟩:=this
   cases ha'
   rw[Ig] at hc;exact hc
  ·obtain⟨y,_,hy⟩:=List.mem_flatMap.1 hu;exact U5 (Bi9 y) u hy
theorem zs9{α:Type}[Inhabited α]{P:Program}{enc:α->List Va}{z:Nat}{ty t tx:TypeId}{bytes:Nat}{zero:α}(E:zrr P enc z ty bytes zero)(ht:P.underlying t=some (.slice ty)){base:Nat}{w:Wo}{o:OA}{cap:Nat}{l m:List α}{x:Va}(hO:V3 enc z ty base w o cap l)(hS:Src P z tx x m.length (m.flatMap enc) w)(hb:(2*(l.length+m.length))*bytes<=281474976710656)(hn:l.length+m.length<=4194304)(tr:TypeId)(sR:base<=w.heap.size) :
  ∃o' qB w',(Builtin.append_ #[t,tx] tr #[.slice o l.length cap,x]).run P w=.ok (.slice o' (l.length+m.length) qB) w'/\V3 enc z ty base w' o' qB (l++m)/\Q0 (QL o) w w'/\(o'=o\/o'=some ⟨w.heap.size,0,none⟩):=by
 obtain⟨i,v,hi,hz,hs,hby,hv⟩:=E.info;subst hs
 by_cases AA8:l.length+m.length<=cap
 ·rcases hO with ⟨hc0,hl0,ho0⟩ | ⟨b,sp,rfl,h1,h2,h3,h4⟩
  ·subst hl0; subst hc0; subst ho0;have hm:m=[]:=List.eq_nil_of_length_eq_zero (by simp only[List.length_nil] at AA8; omega);subst hm;have hk:=run_append_nothing (P:=P) w t tx tr ty i ht hi none 0 0 (I7 _) x hS;exact⟨none,0,w,by simpa using hk,.inl ⟨rfl,rfl,rfl⟩,Q0.refl _ _,.inl rfl⟩
  ·have oG:=Xc E.len l;have hfm:=Xc E.len m
   have hsp:(m.flatMap enc).length<=sp.length:=by
    rw[Io,oG] at h3;have:=Nat.mul_le_mul_right i.size AA8;rw[Nat.add_mul] at this;omega
   have hr:=run_append_room_src (P:=P) w t tx tr ty i ht hi b 0 l.length cap x m.length (m.flatMap enc) hS AA8 (λj hj=>by
     rw[Tt h2];have:0+l.length*i.size+j<(l.flatMap enc++sp).length:=by rw[Io,oG]; omega
     rw[List.getElem?_toArray,Il this]; rfl) (λj hj=>by simp[World.frozen?,h2])
   refine⟨_,_,_,hr,?_,?_,.inl rfl⟩
   ·refine .inr ⟨b,sp.drop (m.flatMap enc).length,rfl,h1,?_,?_,by rw[Io]; exact AA8⟩
    ·have oH:w.setCells b (0+l.length*i.size) (m.flatMap enc)=YtnclplgaicdapaaGreatDoor.R9 w (some ⟨b,0,none⟩) (0+l.length*i.size) (m.flatMap enc):=by
      generalize m.flatMap enc=vs;generalize 0+l.length*i.size=n;simp only[YtnclplgaicdapaaGreatDoor.R9]
      induction vs generalizing w n with
      | nil=>rfl
      | cons u r ih=>
       have ih':∀(w:Wo) (n:Nat),w.setCells b n r=dL w ⟨b,0,none⟩ n r:=by
        clear ih
        induction r with
        | nil=>intro w n; rfl
        | cons u' r' ih2=>intro w n; simp only[World.setCells,dL]; rw[ih2,Addr.add_lit,Nat.zero_add]
       simp only[World.setCells,dL];rw[ih',Addr.add_lit,Nat.zero_add]
     rw[oH,M3 h2,HQ _ _ _ (by rw[Io,oG]; omega)]
     have e1:(l.flatMap enc++sp).take (0+(0+l.length*i.size))=l.flatMap enc:=by
      rw[List.take_append_of_le_length (by rw[oG]; omega),List.take_of_length_le (by rw[oG]; omega)]
     have e2:(l.flatMap enc++sp).drop (0+(0+l.length*i.size)+(m.flatMap enc).length)=sp.drop (m.flatMap enc).length:=by
      rw[List.drop_append,List.drop_eq_nil_iff.2 (by rw[oG]; omega),List.nil_append,oG]
      congr 1
      omega
     rw[e1,e2,List.flatMap_append]
    ·rw[List.flatMap_append,Io,Io,List.length_drop];rw[Io] at h3;omega
   ·have:∀(vs:List Va) (w:Wo) (n:Nat),Q0 [b] w (w.setCells b n vs):=by
     intro vs
     induction vs with
     | nil=>intro w n; exact Q0.refl _ _
     | cons u r ih=>intro w n; exact((Q0.refl [b] w).setCell (p:=⟨b,n,none⟩) (.inr Qs) u).trans (ih _ _)
    exact this _ _ _
 ·have AA8:cap<l.length+m.length:=Qo
  have BM1:Builtin.nextslicecap (l.length+m.length) cap<=2*(l.length+m.length):=by
   unfold Builtin.nextslicecap
   have hg:∀(r c N:Nat),c<=N->256<=c->Builtin.growBy N r c<=2*N:=by
    intro r
    induction r with
    | zero=>intro c N hc _; simp only[Builtin.growBy]; omega
    | succ r ih=>
     intro c N hc DF4;simp only[Builtin.growBy];split
     ·omega
     ·by_cases hle:c+(c+768) / 4<=N
      ·exact ih _ _ hle Qo
      ·cases r with
       | zero=>simp only[Builtin.growBy]; omega
       | succ r=>simp only[Builtin.growBy]; split <;> omega
   split
   ·omega
   ·split
    ·omega
    ·exact hg 4 cap _ Qo Qo
  have hold:(Builtin.firstCells i.size l.length (.slice o l.length cap)).run P w.drew=.ok (l.flatMap enc).toArray w.drew:=by
   rcases hO with ⟨hc0,hl0,ho0⟩ | ⟨b,sp,rfl,h1,h2,h3,h4⟩
   ·subst hl0; subst ho0
    simpa using run_firstCells_none (P:=P) w.drew i.size 0 0 cap
   ·refine run_firstCells_some (P:=P) w.drew i.size l.length ⟨b,0,none⟩ l.length cap _ (Xc E.len l) λj u hu=>?_
    have IN:=(I8.1 hu).1
    have:w.cell? ((⟨b,0,none⟩:Addr).add j)=some u:=by
     rw[Addr.add_lit,Nat.zero_add,Tt h2];simp only[List.getElem?_toArray];rw[Ip IN];exact hu
    simpa using this
  have hr:=run_append_grow_src (P:=P) w t tx tr ty i v ht hi hz o l.length cap (l.flatMap enc) hold x m.length (m.flatMap enc) hS AA8 Qo (by
   rw[hby];exact IB (Nat.mul_le_mul_right bytes BM1) hb)
  refine⟨_,_,_,hr,?_,?_,.inr rfl⟩
  ·have Rx:=grownCap_ge w (l.length+m.length) cap ty;generalize grownCap w (l.length+m.length) cap ty=g at *;refine .inr ⟨w.heap.size,(Builtin.zeroCells v.cells (g-(l.length+m.length))).toList,rfl,sR,?_,?_,by rw[Io]; exact Rx⟩
   ·simp only[World.alloc];show (w.drew.heap.push _)[w.heap.size]? = _;have:w.drew.heap=w.heap:=rfl;rw[this,Array.getElem?_push_size,List.flatMap_append]
    congr 2
    apply Array.ext'
    simp
   ·have hvs:v.cells.size=i.size:=by
     have:=E.len zero;rw[<-hv] at this
     simpa using this
    rw[Io,Xc E.len,Io];simp only[Builtin.zeroCells,Array.length_toList,Array.size_map,Array.size_range];rw[hvs,<-Nat.add_mul]
    congr 1
    omega
  ·exact((Q0.refl _ w).drew).alloc _
theorem zcr{P:Program}{ts:Array TypeId}{t:TypeId}{cs:Array Bool}{args:Array Va}{w w':Wo}{v:Va}(h:(Builtin.append_ ts t args).run P w=.ok v w'):(builtin .append ts t cs args).run P w=.ok (.value v) w':=by
 simp only[builtin,Sem.run_bind,h,Result.andThen_ok,Sem.run_pure]
theorem LS{P:Program}{ts:Array TypeId}{t:TypeId}{cs:Array Bool}{args:Array Va}{w w':Wo}{v:Va}(h:(Builtin.copy_ ts t args).run P w=.ok v w'):(builtin .copy ts t cs args).run P w=.ok (.value v) w':=by
 simp only[builtin,Sem.run_bind,h,Result.andThen_ok,Sem.run_pure]
theorem zyv{α:Type}[Inhabited α]{P:Program}{enc:α->List Va}{z:Nat}{ty t:TypeId}{bytes:Nat}{zero:α}(E:zrr P enc z ty bytes zero)(ht:P.underlying t=some (.slice ty)){base:Nat}{w:Wo}{o:OA}{cap:Nat}{l:List α}(hO:V3 enc z ty base w o cap l){x:α}{b:Nat}{t':TypeId}{fz:Nat×Nat}(hb:w.heap[b]? = some (.cells (enc x).toArray t' fz))(h1:Zl (enc x)=true)(hby:(2*(l.length+1))*bytes<=281474976710656)(hn:l.length+1<=4194304)(tr:TypeId)(cs:Array Bool)(sR:base<=w.heap.size) :
  ∃o' qB w',(builtin .append #[t,t] tr cs #[.slice o l.length cap,.slice (some ⟨b,0,none⟩) 1 1]).run P w=.ok (.value (.slice o' (l++[x]).length qB)) w'/\V3 enc z ty base w' o' qB (l++[x])/\Q0 (QL o) w w'/\(o'=o\/o'=some ⟨w.heap.size,0,none⟩):=by
 have hS:Src P z t (.slice (some ⟨b,0,none⟩) 1 1) [x].length ([x].flatMap enc) w:=by
  refine Src.ofSlice w ht ⟨b,0,none⟩ 1 1 _ (by simp[E.len]) (λj u hu=>?_) (λu hu=>?_)
  ·rw[Addr.add_lit,Nat.zero_add,Tt hb]
   simpa using hu
  ·exact U5 h1 u (by simpa using hu)
 obtain⟨o',qB,w',h1,h2,h3,h4⟩:=zs9 E ht hO hS (by simpa using hby) (by simpa using hn) tr sR;exact⟨o',qB,w',zcr (by simpa using h1),h2,h3,h4⟩
theorem zta{α:Type}[Inhabited α]{P:Program}{enc:α->List Va}{z:Nat}{ty t:TypeId}{bytes:Nat}{zero:α}(E:zrr P enc z ty bytes zero)(ht:P.underlying t=some (.slice ty))(Bi9:∀x,Zl (enc x)=true)(hz0:0<z){base:Nat}{w:Wo}{o o2:OA}{cap c2:Nat}{l m:List α}(hO:V3 enc z ty base w o cap l)(hR:Rd enc z [] w o2 m)(hlen:m.length=l.length)(tr:TypeId)(cs:Array Bool) :
  ∃(n:Int) (w':Wo),(builtin .copy #[t,t] tr cs #[.slice o l.length cap,.slice o2 m.length c2]).run P w=.ok (.value (I n)) w'/\V3 enc z ty base w' o cap m/\Q0 (QL o) w w':=by
 obtain⟨i,v,hi,hz,hs,hby,hv⟩:=E.info;have CA4:=zy3 (P:=P) E.len Bi9 ht hR (c:=c2) hz0;have hfm:=Xc E.len m;have CR2:Nat.min m.length l.length=m.length:=by rw[hlen]; exact Nat.min_self _
 have rH:P.info? ty=some i:=hi;rcases hO with ⟨hc0,hl0,ho0⟩ | ⟨b,sp,rfl,h1,h2,h3,h4⟩
 ·subst hl0; subst hc0; subst ho0;have hm:m=[]:=List.eq_nil_of_length_eq_zero (by simpa using hlen);subst hm;refine⟨0,w,LS ?_,.inl ⟨rfl,rfl,rfl⟩,Q0.refl _ _⟩;have hc:=CA4.cells;simp only[List.length_nil] at hc;rw[<-hs] at hc;simp[Builtin.copy_,run_underlying ht,Builtin.lenOf,sizeOf,typeInfo,rH,hc,goInt]
 ·refine⟨(m.length:Int),w.setRow b ((l.flatMap enc++sp).toArray.toList.take 0++m.flatMap enc++(l.flatMap enc++sp).toArray.toList.drop (0+(m.flatMap enc).length)).toArray,LS ?_,?_,?_⟩
  ·have oH:=run_storeCells_at P b 0 ty (m.flatMap enc) 0 (l.flatMap enc++sp).toArray w h2 (by
    simp only[List.size_toArray,Io];rw[Xc E.len l,hfm,hlen]; omega) CA4.one
   have hc:=CA4.cells;rw[<-hs] at hc;simp only[Nat.add_zero] at oH;simp only[Builtin.copy_,Sem.run_bind,run_underlying ht,Builtin.lenOf,sizeOf,typeInfo,rH,Result.andThen_ok,Sem.run_pure,CR2,hc,oH,goInt,List.getElem?_toArray,Ie,List.getElem?_cons_succ];simp[rH,CR2,hc,oH,run_underlying ht,goInt]
  ·refine .inr ⟨b,sp,rfl,h1,?_,?_,Qo⟩
   ·rw[setRow_heap w b _ _ ty (0,0) h2];simp only[List.take_zero,List.nil_append,Nat.zero_add]
    congr 3
    rw[hfm,hlen,<-Xc E.len l,List.drop_left]
   ·rw[Io,hfm,hlen,<-Xc E.len l,<-Io]; exact h3
  ·refine⟨rfl,rfl,rfl,by simp[World.setRow],λk hk hb=>?_⟩;have bT:b≠k:=λe=>hb (by rw[e]; exact IA.2 rfl)
   simp only[World.setRow,Array.getElem?_modify,B' bT]
theorem z3u(x:LR):Zl (Po x)=true:=rfl
theorem z43(x:Lm):Zl (XS x)=true:=rfl
theorem z3t(x:KI):Zl (Ge x)=true:=rfl
theorem zu0(x:Int):Zl (Jz x)=true:=rfl
theorem z41(x:Bool):Zl (MY x)=true:=rfl
def zny:List (Nat×Va)->PT SV
 | []=>.leaf
 | p::r=>PT.set 12 (zny r) p.1 (.un (.v p.2))
def UF(ins:List (Nat×Va)):St:={ F:=zny ins,L:=[],B:=[],old:=0,lk:=[],r:=1 }
theorem NM:∀{ins:List (Nat×Va)} {i:Nat} {sv:SV},(∀p∈ins,p.1<4000)->(zny ins).get i=some sv->∃v,(i,v)∈ins/\sv=.un (.v v)
 | [],i,sv,_,h=>by simp[zny,PT.get] at h
 | p::r,i,sv,hl,h=>by
  have hp:=hl p (I9 ..);simp only[zny] at h;rw[PT.kD _ 12 _ _ _ (by have:(2:Nat) ^ 12=4096:=rfl; omega)] at h
  by_cases he:p.1=i
  ·rw[C' he] at h;cases h;exact⟨p.2,by rw[<-he]; exact I9 ..,rfl⟩
  ·rw[B' he] at h;obtain⟨v,hv,hs⟩:=NM (λq hq=>hl q (I1 _ hq)) h;exact⟨v,I1 _ hv,hs⟩
def GP(ins:List (Nat×Va))(a:Act):Prop:=∀p∈ins,p.1<4000/\a.tmps.getD p.1 undef=p.2
theorem znz{n:Nat}{ins:List (Nat×Va)}{a:Act}(hn:a.tmps.size=n)(sZ:GP ins a):O6 n (UF ins) a:=by
 refine⟨hn,λi x hx=>?_,λi r pc x hx=>?_⟩
 ·obtain⟨v,hv,he⟩:=NM (λp hp=>(sZ p hp).1) hx;cases he;exact(sZ _ hv).2
 ·obtain⟨v,hv,he⟩:=NM (λp hp=>(sZ p hp).1) hx;cases he
theorem zn0(ins:List (Nat×Va))(w:Wo):Zn (UF ins) w w:=⟨Q0.refl _ _,λid t cs hl=>by simp[UF] at hl,rfl,List.nodup_nil,λid b _ hb=>by simp[UF] at hb⟩
theorem zsd(ins:List (Nat×Va)):Gb (UF ins):=⟨Ic _,λid aS=>by cases aS⟩
theorem zu1{n:Nat}{S:St}{a:Act}(hf:O6 n S a){xs:List Operand}{vs:List Va}(h:L8 S [] xs=some vs):xs.map a.eval=vs:=by
 induction xs generalizing vs with
 | nil=>simp only[L8,I0] at h; subst h; rfl
 | cons x r ih=>
  simp only[L8] at h
  split at h
  ·rename_i v l hv hl;simp only[I0] at h; subst h;unfold Hd at hv
   split at hv
   ·rename_i e he;rw[List.map_cons,ih hl,za8 hv (Bq hf he)]
   ·cases hv
  ·cases h
def KR(outs:List Nat)(R:Exit->List Va->Wo->Prop)(e:Exit)(S:St)(w:Wo):Prop:=match L8 S [] (outs.map .tmp) with
 | some vs=>∀wr,Q0 S.bs w wr->R e vs wr
 | none=>False
def zra:List Code->Code->Code
 | [],x=>x
 | c::l,x=>.seq c (zra l x)
def z4s(C:UQ)(sps:List (Nat×Yi)):List Code->St->Wo->(Exit->St->Wo->Prop)->Prop
 | [],S,w,K=>K .normal S w
 | c::l,S,w,K=>NH C sps c S w λe S' w'=>match e with
  | .normal=>z4s C sps l S' w' K
  | e=>K e S' w'
def Pn:List Code->List Nat
 | []=>[]
 | c::l=>Xo c++Pn l
theorem zjk{C:UQ}(E:zrs C){sps:List (Nat×Yi)}{Q:Exit->Act->Wo->Prop}{X:Code}:∀(l:List Code) (S:St) (w wr:Wo) (a:Act) (K:Exit->St->Wo->Prop),z4s C sps l S w K->O6 C.n S a->Zn S w wr->Gb S->
  (∀S' w' a' Wh,K .normal S' w'->Mc C S w (Pn l) a S' w' a' Wh->X.wpIn (Tk C.rd) 0 C.P Q a' Wh)->(∀e S' w' a' Wh,e≠.normal->K e S' w'->Mc C S w (Pn l) a S' w' a' Wh->Q e a' Wh)->(zra l X).wpIn (Tk C.rd) 0 C.P Q a wr
 | [],S,w,wr,a,K,h,hf,hw,WC,hN,_=>hN _ _ _ _ h (Mc.refl _ hf hw WC)
 | c::l,S,w,wr,a,K,h,hf,hw,WC,hN,hE=>by
  have Aw0:∀z∈Xo c,z∈Pn (c::l):=λz hz=>Ia _ hz
  have BY7:∀z∈Pn l,z∈Pn (c::l):=λz hz=>Iy _ hz
  refine wpIn_seq (Yp E c S w wr a _ _ h hf hw WC λe S' w' a' Wh hK he=>?_)
  cases e with
  | normal=>exact zjk E l S' w' Wh a' K hK he.fit he.rel he.wf (λS2 w2 a2 M' fK aR=>hN _ _ _ _ fK (he.trans aR Aw0 BY7)) λe2 S2 w2 a2 M' bT fK aR=>hE _ _ _ _ _ bT fK (he.trans aR Aw0 BY7)
  | _=>exact hE _ _ _ _ _ (λh=>by cases h) hK (he.mono Aw0)
structure zrt (ds outs:List Nat) (a a':Act) (vs:List Va):Prop where
 defers:a'.defers=a.defers
 size:a'.tmps.size=a.tmps.size
 kept:∀i,i∉ds->a'.tmps.getD i undef=a.tmps.getD i undef
 out:outs.map (λt=>a'.tmps.getD t undef)=vs
theorem zqd{C:UQ}{S S':St}{w w' Wh:Wo}{ds outs:List Nat}{a a':Act}{vs:List Va}(he:Mc C S w ds a S' w' a' Wh)(ho:L8 S' [] (outs.map .tmp)=some vs):zrt ds outs a a' vs:=
 ⟨he.fra.1,he.fra.2.1,he.fra.2.2,by
  have:=zu1 he.fit ho;rw[List.map_map] at this;exact this⟩
theorem zjo{C:UQ}(E:zrs C){sps:List (Nat×Yi)}{code:Code}{ins:List (Nat×Va)}{outs:List Nat}{w:Wo}{a:Act}{R:Exit->List Va->Wo->Prop}{Q:Exit->Act->Wo->Prop}(hn:a.tmps.size=C.n)(sZ:GP ins a)(h:NH C sps code (UF ins) w (KR outs R))(hQ:∀e vs a' w',R e vs w'->zrt (Xo code) outs a a' vs->Q e a' w'):code.wpIn (Tk C.rd) 0 C.P Q a w:=
 Yp E code (UF ins) w w a _ Q h (znz hn sZ) (zn0 ins w) (zsd ins) λe S' w' a' Wh hK he=>by
  unfold KR at hK
  split at hK
  ·rename_i vs ho;exact hQ e vs a' Wh (hK Wh he.rel.ext) (zqd he ho)
  ·exact hK.elim
theorem z2d{C:UQ}(E:zrs C){sps:List (Nat×Yi)}{l:List Code}{X:Code}{ins:List (Nat×Va)}{outs:List Nat}{w:Wo}{a:Act}{R:Exit->List Va->Wo->Prop}{Q:Exit->Act->Wo->Prop}(hn:a.tmps.size=C.n)(sZ:GP ins a)(h:z4s C sps l (UF ins) w (KR outs R))(hX:∀vs a' w',R .normal vs w'->zrt (Pn l) outs a a' vs->X.wpIn (Tk C.rd) 0 C.P Q a' w')(hQ:∀e vs a' w',e≠.normal->R e vs w'->zrt (Pn l) outs a a' vs->Q e a' w'):(zra l X).wpIn (Tk C.rd) 0 C.P Q a w:=
 zjk E l (UF ins) w w a _ h (znz hn sZ) (zn0 ins w) (zsd ins) (λS' w' a' Wh hK he=>by
  unfold KR at hK
  split at hK
  ·rename_i vs ho;exact hX vs a' Wh (hK Wh he.rel.ext) (zqd he ho)
  ·exact hK.elim) λe S' w' a' Wh bT hK he=>by
  unfold KR at hK
  split at hK
  ·rename_i vs ho;exact hQ e vs a' Wh bT (hK Wh he.rel.ext) (zqd he ho)
  ·exact hK.elim
def cL:Code->Code
 | .seq a _=>a
 | c=>c
def cR:Code->Code
 | .seq _ b=>b
 | c=>c
def cB:Code->Code
 | .block _ b=>b
 | c=>c
def z50:Code->Code
 | .rangeFunc _ _ a _=>a
 | c=>c
def z51:Code->Code
 | .rangeFunc _ _ _ b=>b
 | c=>c
theorem Yz(w:Wo)(l:Nat)(o:Obj):Q0 [l] w (w.putObj l o):=
 ⟨rfl,rfl,rfl,Qs,λk _ hk=>World.putObj_heap_other (by simpa using hk)⟩
theorem zng{P:Program}{l:Nat}{vs:List Va}{w:Wo}:(zct (.func (.yield l) #[] #[]) vs).run P w=(Instr.yield l vs.toArray).run P w:=by
 simp[zct,Deferred.ofValue,invoke]
def z5e{β:Type}(n:Nat)(J:β->Wo->Prop):Prop:=∀k W W' ys,J k W->Q0 ys W W'->(∀y∈ys,n<=y)->J k W'
def z3z(n:Nat)(I:Nat->Wo->Prop)(Ix:Code->Wo->Prop)(k:Nat)(W:Wo):Exit->Act->Wo->Prop:=λe _ W3=>
 (∃X,Q0 X W W3/\∀x∈X,x<n)/\(match e with
  | .normal=>I (k+1) W3
  | .ret=>Ix .ret W3
  | .exit i=>Ix (.exit i) W3
  | .goto t=>Ix (.goto t) W3
  | _=>False)
abbrev A8(D:Nat):Deferred:={ target:=.collected D,args:=#[] }
theorem EG{P:Program}{fn:Func}{R:Ending->Wo->Prop}{a:Act}{w:Wo}{D:Nat}{v:Va}(hd:a.defers=[A8 D])(hD:w.heap[D]? = some (.deferred (some [])))(hr:∀w',(results fn a.tmps).run P w'=.ok v w')(h:∀w',Q0 [D] w w'->R (.returned v) w') :
  bodyPostM (Tk none) 0 P fn R .normal a w/\bodyPostM (Tk none) 0 P fn R .ret a w:=by
 have:LeavesInM (Tk none) 0 P fn a.tmps R a.defers .returning w:=by
  rw[hd];exact⟨Qs,.inl ⟨_,_,rfl,run_takeDeferred hD,⟨v,hr _,h _ (Yz _ _ _)⟩⟩⟩
 exact⟨this,this⟩
theorem znh{P:Program}{f:FuncId}{fn:Func}{body:Code}{args:Array Va}{w:Wo}{R:Ending->Wo->Prop}(hf:P.funcs[f]? = some fn)(hb:fn.body=some body)(h:body.wpIn (Tk none) 0 P (bodyPostM (Tk none) 0 P fn R) { tmps:=args++Array.replicate (fn.ntmps-args.size) undef,defers:=[] } w):Calls P f args w R:=
 zsb (callsIn_of_wp_marks (F:=Tk none) hf hb trivial h rfl)
end Go.Proofs.YtnclplgaicdapaaGreatDoor
