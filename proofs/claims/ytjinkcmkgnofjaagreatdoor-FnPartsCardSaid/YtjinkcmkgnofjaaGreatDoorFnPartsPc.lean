/- Part 3 of what the law FnParts needs. -/
import Derived.Test.YtjinkcmkgnofjaaGreatDoorFnPartsPb
import Derived.Deep.AppendSrc
import Derived.Deep.Upon
import Derived.Laws.MakeOwn
import Derived.Laws.CopyRow
import Derived.Laws.AppendOwn
set_option linter.all false
set_option maxRecDepth 100000
set_option maxHeartbeats 8000000
namespace Go.Proofs.YtjinkcmkgnofjaaGreatDoor
open Go.RowKit
def X3{α:Type}{enc:α->List Va}{z:Nat}(hz:∀x,(enc x).length=z):∀l:List α,(l.flatMap enc).length=l.length*z
 |[]=>by simp
 |x::r=>by rw[List.flatMap_cons,Io,hz,X3 hz r,List.length_cons,Nat.succ_mul];omega
def FI{α:Type}{enc:α->List Va}{z:Nat}(hz:∀x,(enc x).length=z):∀(l:List α) (i j:Nat) (hi:i<l.length),j<z->(l.flatMap enc)[i*z+j]? = (enc l[i])[j]?
 |x::r,0,j,_,hj=>by
  rw[List.flatMap_cons,Ip (by rw[hz];omega)];simp
 |x::r,i+1,j,hi,hj=>by
  rw[List.flatMap_cons,List.getElem?_append_right (by rw[hz,Nat.succ_mul];omega),hz];have e:(i+1)*z+j-z=i*z+j:=by rw[Nat.succ_mul];omega
  rw[e,FI hz r i j (by simpa using hi) hj];simp
def zdf{α:Type}{enc:α->List Va}{z:Nat}(hz:∀x,(enc x).length=z)(x:α):∀(l:List α) (i:Nat) (_:i<l.length),((l.set i x).flatMap enc)=(l.flatMap enc).take (i*z)++enc x++(l.flatMap enc).drop ((i+1)*z)
 |y::r,0,_=>by
  simp only[List.set_cons_zero,List.flatMap_cons,Nat.zero_mul,List.take_zero,List.nil_append,Nat.zero_add,Nat.one_mul];rw[List.drop_append_of_le_length (by rw[hz];exact I7 _),List.drop_eq_nil_iff.2 (by rw[hz];exact I7 _),List.nil_append]
 |y::r,i+1,hi=>by
  simp only[List.set_cons_succ,List.flatMap_cons];rw[zdf hz x r i (by simpa using hi)];have e1:(i+1)*z=z+i*z:=by rw[Nat.succ_mul];omega
  have e2:(i+1+1)*z=z+(i+1)*z:=by rw[Nat.succ_mul (i+1)];omega
  have hy:(enc y).length=z:=hz y
  have t1:(enc y++r.flatMap enc).take ((i+1)*z)=enc y++(r.flatMap enc).take (i*z):=by
   rw[e1,List.take_append,List.take_of_length_le Qo,hy,show z+i*z-z=i*z by omega]
  have t2:(enc y++r.flatMap enc).drop ((i+1+1)*z)=(r.flatMap enc).drop ((i+1)*z):=by
   rw[e2,List.drop_append,List.drop_eq_nil_iff.2 Qo,List.nil_append,hy,show z+(i+1)*z-z=(i+1)*z by omega]
  rw[t1,t2];simp[List.append_assoc]
def UD{α:Type}(enc:α->List Va)(z:Nat)(ty:TypeId)(base:Nat)(w:Wo)(o:OA)(cap:Nat)(l:List α):Prop:=
 (cap=0/\l=[]/\o=none)\/∃(b:Nat) (sp:List Va),o=some ⟨b,0,none⟩/\base<=b/\w.heap[b]? = some (.cells (l.flatMap enc++sp).toArray ty (0,0))/\(l.flatMap enc++sp).length=cap*z/\l.length<=cap
def QL(o:OA):List Nat:=match o with
 |some a=>[a.block]
 |none=>[]
def UD.ext{α:Type}{enc:α->List Va}{z:Nat}{ty:TypeId}{base:Nat}{w w':Wo}{o:OA}{cap:Nat}{l:List α}{bs:List Nat}(h:UD enc z ty base w o cap l)(hx:Q0 bs w w')(hd:∀b∈QL o,b∉bs):UD enc z ty base w' o cap l:=by
 rcases h with h|⟨b,sp,rfl,h1,h2,h3,h4⟩
 ·exact .inl h
 ·exact .inr ⟨b,sp,rfl,h1,QP h2 hx (hd b (by simp[QL])),h3,h4⟩
def UD.WH{α:Type}{enc:α->List Va}{z:Nat}{ty:TypeId}{base:Nat}{w w':Wo}{o:OA}{cap:Nat}{l:List α}(h:UD enc z ty base w o cap l)(hx:Q0 [] w w'):UD enc z ty base w' o cap l:=h.ext hx Qs
def UD.lt{α:Type}{enc:α->List Va}{z:Nat}{ty:TypeId}{base:Nat}{w:Wo}{o:OA}{cap:Nat}{l:List α}(h:UD enc z ty base w o cap l):∀b∈QL o,base<=b/\b<w.heap.size:=by
 rcases h with ⟨_,_,rfl⟩|⟨b,sp,rfl,h1,h2,h3,h4⟩
 ·simp[QL]
 ·intro x hx;simp only[QL,IA] at hx;subst hx;exact⟨h1,V3 h2⟩
def UD.Wd{α β:Type}{enc:α->List Va}{Cs4:β->List Va}{z z':Nat}{ty ty':TypeId}{base aP:Nat}{w:Wo}{o o':OA}{cap qO:Nat}{l:List α}{l':List β}(h:UD enc z ty base w o cap l)(h':UD Cs4 z' ty' aP w o' qO l')(ht:ty≠ty'):∀b∈QL o,b∉QL o':=by
 rcases h with ⟨_,_,rfl⟩|⟨b,sp,rfl,h1,h2,h3,h4⟩
 ·simp[QL]
 ·rcases h' with ⟨_,_,rfl⟩|⟨b',sp',rfl,h1',h2',h3',h4'⟩
  ·simp[QL]
  ·intro x hx eJ;simp only[QL,IA] at hx eJ;subst hx;subst eJ;rw[h2] at h2';simp only[I0,Obj.cells.injEq] at h2';exact ht h2'.2.1
def UD.mono{α:Type}{enc:α->List Va}{z:Nat}{ty:TypeId}{base aP:Nat}{w:Wo}{o:OA}{cap:Nat}{l:List α}(h:UD enc z ty base w o cap l)(hb:aP<=base):UD enc z ty aP w o cap l:=by
 rcases h with h|⟨b,sp,rfl,h1,h2,h3,h4⟩
 ·exact .inl h
 ·exact .inr ⟨b,sp,rfl,IB hb h1,h2,h3,h4⟩
def UD.rd{α:Type}[Inhabited α]{enc:α->List Va}{z:Nat}{ty:TypeId}{base:Nat}{w:Wo}{o:OA}{cap:Nat}{l:List α}(h:UD enc z ty base w o cap l)(hz:∀x,(enc x).length=z){bs:List Nat}(hb:∀b∈QL o,b∉bs):Rd enc z bs w o l:=by
 intro i h0 hi;rcases h with ⟨_,rfl,_⟩|⟨b,sp,rfl,h1,h2,h3,h4⟩
 ·simp at hi;omega
 ·obtain⟨k,rfl⟩:=Int.eq_ofNat_of_zero_le h0;have hk:k<l.length:=Qo;refine VE h2 (hb b (by simp[QL])) (k0:=0) λj v hj=>?_
  have hjz:j<z:=by
   have:=(I8.1 hj).1;rw[hz] at this;exact this
  rw[Ju hk] at hj;have qV:=X3 hz l
  have IW:k*z+j<(l.flatMap enc).length:=by
   rw[qV];have:=Nat.mul_le_mul_right z hk;rw[Nat.succ_mul] at this;omega
  rw[Ig,Nat.zero_add,Ip IW,FI hz l k j hk hjz];exact hj
def UD.ix{α:Type}{enc:α->List Va}{z:Nat}{ty:TypeId}{base:Nat}{w:Wo}{o:OA}{cap:Nat}{l:List α}(h:UD enc z ty base w o cap l){i:Int}(h0:0<=i)(h1:i<(l.length:Int)):Ix o l.length i:=by
 rcases h with ⟨_,rfl,_⟩|⟨b,sp,rfl,_⟩
 ·simp at h1;omega
 ·exact⟨h0,h1,rfl⟩
def UD.wr{α:Type}{enc:α->List Va}{z:Nat}{ty:TypeId}{base:Nat}{w:Wo}{o:OA}{cap:Nat}{l:List α}(h:UD enc z ty base w o cap l)(hz:∀x,(enc x).length=z){bs:List Nat}(hb:∀b∈QL o,b∉bs){i:Int}(h0:0<=i)(h1:i<(l.length:Int)){j n:Nat}(hj:j+n<=z):Xh bs w o (Int.toNat i*z+j) n:=by
 rcases h with ⟨_,rfl,_⟩|⟨b,sp,rfl,bY,h2,h3,h4⟩
 ·simp at h1;omega
 ·refine BD h2 (hb b (by simp[QL])) ?_;have hk:i.toNat<l.length:=Qo;have:=Nat.mul_le_mul_right z hk;rw[Nat.succ_mul] at this;rw[Io,X3 hz l];omega
def UD.Rw{α:Type}[Inhabited α]{enc:α->List Va}{z:Nat}{ty:TypeId}{base:Nat}{w:Wo}{o:OA}{cap:Nat}{l:List α}(h:UD enc z ty base w o cap l)(hz:∀x,(enc x).length=z){i:Int}(h0:0<=i)(h1:i<(l.length:Int)){j:Nat}{vs:List Va}{x:α}(he:enc x=(enc (gi l i)).take j++vs++(enc (gi l i)).drop (j+vs.length))(hj:j+vs.length<=z) :
  UD enc z ty base (YtjinkcmkgnofjaaGreatDoor.Rw w o (Int.toNat i*z+j) vs) o cap (l.set i.toNat x):=by
 rcases h with ⟨_,rfl,_⟩|⟨b,sp,rfl,bY,h2,h3,h4⟩
 ·simp at h1;omega
 ·obtain⟨k,rfl⟩:=Int.eq_ofNat_of_zero_le h0;have hk:k<l.length:=Qo;have qV:=X3 hz l;have hmul:=Nat.mul_le_mul_right z hk;rw[Nat.succ_mul] at hmul;refine .inr ⟨b,sp,rfl,bY,?_,?_,by simpa using h4⟩
  ·rw[Kg h2,Nat.zero_add,Ig,D0 _ _ _ (by rw[Io,qV];omega),zdf hz x l k hk,he,Ju hk];have hlk:(enc l[k]).length=z:=hz _
   have CJ0:l.flatMap enc=(l.flatMap enc).take (k*z)++enc l[k]++(l.flatMap enc).drop ((k+1)*z):=by
    have:=zdf hz l[k] l k hk
    rwa[List.set_getElem_self] at this
   have ht:((l.flatMap enc).take (k*z)).length=k*z:=by rw[List.length_take,qV];omega
   generalize (l.flatMap enc).take (k*z)=A at *;generalize (l.flatMap enc).drop ((k+1)*z)=B at *;rw[CJ0]
   have e1:(A++enc l[k]++B++sp).take (k*z+j)=A++(enc l[k]).take j:=by
    simp only[List.append_assoc];rw[List.take_append,List.take_of_length_le Qo,ht,List.take_append,show k*z+j-k*z=j by omega];rw[show j-(enc l[k]).length=0 by omega,List.take_zero,List.append_nil]
   have e2:(A++enc l[k]++B++sp).drop (k*z+j+vs.length)=(enc l[k]).drop (j+vs.length)++B++sp:=by
    simp only[List.append_assoc];rw[List.drop_append,List.drop_eq_nil_iff.2 Qo,List.nil_append,ht,List.drop_append,show k*z+j+vs.length-k*z=j+vs.length by omega];rw[show j+vs.length-(enc l[k]).length=0 by omega,List.drop_zero]
   rw[e1,e2];simp only[List.append_assoc]
  ·rw[Io,X3 hz,E',<-X3 hz l,<-Io];exact h3
def UD.rP{α:Type}{enc:α->List Va}{z:Nat}{ty:TypeId}{base:Nat}{w:Wo}{o:OA}{cap:Nat}{l:List α}(_:UD enc z ty base w o cap l)(n:Nat)(vs:List Va):Q0 (QL o) w (YtjinkcmkgnofjaaGreatDoor.Rw w o n vs):=
 TR λa ha=>by rw[ha];simp[QL]
def UD.Cf2{α:Type}{enc:α->List Va}{z:Nat}{ty:TypeId}{base:Nat}{w:Wo}{o:OA}{cap:Nat}{l:List α}(h:UD enc z ty base w o cap l)(n:Nat)(vs:List Va){w0:Wo}(hx:Q0 [] w0 w)(hb:w0.heap.size<=base):Q0 [] w0 (YtjinkcmkgnofjaaGreatDoor.Rw w o n vs):=
 hx.fresh (h.rP n vs) λx hm=>.inl (IB hb (h.lt x hm).1)
def Xm{w w':Wo}:Q9 [] w w':=λ_ h=>by cases h
def Qi{w w':Wo}{B:List Nat}(h:Q0 [] w w')(hs:∀b∈B,b<w.heap.size):Q9 B w w':=λb hb=>h.block b (hs b hb) Qs
def zu3{α:Type}{enc:α->List Va}{z:Nat}(zc:Array Va)(x:α)(hx:enc x=zc.toList)(hz:(enc x).length=z)(n:Nat):(madeCells zc (n*z)).toList=(List.replicate n x).flatMap enc:=by
 have hzs:zc.size=z:=by rw[<-hz,hx];simp
 apply List.ext_getElem?
 intro q;have uG:(madeCells zc (n*z)).toList.length=n*z:=by simp[madeCells]
 by_cases hz0:z=0
 ·subst hz0;have h1:(madeCells zc (n*0)).toList=[]:=List.eq_nil_of_length_eq_zero (by rw[uG];simp)
  have h2:(List.replicate n x).flatMap enc=[]:=by
   have:=List.eq_nil_of_length_eq_zero hz;rw[List.flatMap_replicate];simp[this]
  rw[h1,h2]
 ·have qV:((List.replicate n x).flatMap enc).length=n*z:=by
   clear uG
   induction n with
   |zero=>simp
   |succ n ih=>rw[List.replicate_succ,List.flatMap_cons,Io,ih,hz,Nat.succ_mul];omega
  by_cases hq:q<n*z
  ·have e1:(madeCells zc (n*z)).toList[q]? = some (zc[q % zc.size]!):=by
    simp[madeCells,hq]
   have hdiv:q / z<n:=Nat.div_lt_of_lt_mul (by rw[Nat.mul_comm];exact hq);have CY2:q % z<z:=Nat.mod_lt _ (Nat.pos_of_ne_zero hz0)
   have e2:((List.replicate n x).flatMap enc)[q]? = (enc x)[q % z]? := by
    clear uG qV e1
    have key:∀n i,i<n->((List.replicate n x).flatMap enc)[i*z+q % z]? = (enc x)[q % z]? := by
     intro n
     induction n with
     |zero=>intro i hi;omega
     |succ n ih=>
      intro i hi;rw[List.replicate_succ,List.flatMap_cons]
      cases i with
      |zero=>rw[Ip (by rw[hz];omega)];simp
      |succ i=>
       rw[List.getElem?_append_right (by rw[hz,Nat.succ_mul];omega),hz];have:(i+1)*z+q % z-z=i*z+q % z:=by rw[Nat.succ_mul];omega
       rw[this];exact ih i Qo
    have:=key n (q / z) hdiv
    rwa[Nat.mul_comm,Nat.div_add_mod] at this
   rw[e1,e2,hx,hzs];have:q % z<zc.size:=Qo;simp[this]
  ·rw[Iw Qo,Iw Qo]
structure zpl {α:Type} (P:Program) (enc:α->List Va) (z:Nat) (ty:TypeId) (bytes:Nat) (zero:α):Prop where
 info:∃(i:TypeInfo) (v:Va),P.info? ty=some i/\i.zero=some v/\i.size=z/\i.bytes=bytes/\v.cells.toList=enc zero
 len:∀x,(enc x).length=z
def z6e{α:Type}(P:Program)(enc:α->List Va)(z:Nat)(ty:TypeId)(bytes:Nat)(zero:α):Option (Nat×Nat×List Va):=match P.info? ty with
 |some i=>match i.zero with
  |some v=>some (i.size,i.bytes,v.cells.toList)
  |none=>none
 |none=>none
def H3{α:Type}{P:Program}{enc:α->List Va}{z:Nat}{ty:TypeId}{bytes:Nat}{zero:α}(h:z6e P enc z ty bytes zero=some (z,bytes,enc zero))(hl:∀x,(enc x).length=z):zpl P enc z ty bytes zero:=by
 refine⟨?_,hl⟩;unfold z6e at h
 split at h
 ·rename_i i hi
  split at h
  ·rename_i v hv;simp only[I0,Prod.mk.injEq] at h;exact⟨i,v,hi,hv,h.1,h.2.1,h.2.2⟩
  ·cases h
 ·cases h
def KI{α:Type}{P:Program}{enc:α->List Va}{z:Nat}{ty t:TypeId}{bytes:Nat}{zero:α}(E:zpl P enc z ty bytes zero)(ht:P.underlying t=some (.slice ty))(n:Nat)(hb:bytes*n<=281474976710656)(hn:n<=maxLen)(w:Wo) :
  (Instr.makeSlice t (I (n:Int)) (I (n:Int))).run P w=.ok (.slice (some ⟨w.heap.size,0,none⟩) n n) (w.alloc (.cells ((List.replicate n zero).flatMap enc).toArray ty)):=by
 obtain⟨i,v,hi,hz,hs,hby,hv⟩:=E.info;have DV6:maxLen<=9223372036854775807:=by unfold maxLen;omega
 have:=run_make (P:=P) w t ty i v ht hi hz .i64 .i64 (n:Int) (n:Int) Qo (I2 _) (by
  rw[hby];have:((bytes*n:Nat):Int)<=281474976710656:=Qo
  rwa[Int.natCast_mul] at this) Qo
 rw[this];simp only[Ig]
 congr 2
 rw[hs,<-zu3 v.cells zero hv.symm (E.len zero) n,Array.toArray_toList]
def Vj{α:Type}{enc:α->List Va}{z:Nat}(hz:∀x,(enc x).length=z)(ty:TypeId)(n:Nat)(zero:α)(w:Wo):UD enc z ty w.heap.size (w.alloc (.cells ((List.replicate n zero).flatMap enc).toArray ty)) (some ⟨w.heap.size,0,none⟩) n (List.replicate n zero):=
 .inr ⟨w.heap.size,[],rfl,I7 _,by rw[List.append_nil];exact Array.getElem?_push_size ..,by rw[List.append_nil,X3 hz,List.length_replicate],Qs⟩
def Zc(w:Wo)(o:Obj):Q0 [] w (w.alloc o):=(Q0.refl [] w).alloc o
def Y5:4194304<=maxLen:=by simp[maxLen]
def zzo{α:Type}[Inhabited α]{P:Program}{enc:α->List Va}{z:Nat}(hz:∀x,(enc x).length=z)(Bp6:∀x,Zk (enc x)){tx e':TypeId}(hk:P.underlying tx=some (.slice e')){w:Wo}{o:OA}{c:Nat}{l:List α}(h:Rd enc z [] w o l)(hz0:0<z):Src P z tx (.slice o l.length c) l.length (l.flatMap enc) w:=by
 cases l with
 |nil=>
  cases o with
  |none=>exact Src.ofNil w hk c
  |some a=>exact Src.ofSlice w hk a 0 c [] Qs Qs Qs
 |cons x r=>
  have hs:=(h 0 (I2 _) (by rw[List.length_cons];omega))
  obtain⟨a,rfl⟩:∃a,o=some a:=by
   have hx:∃v q,enc (gi (x::r) 0)=v::q:=by
    have:=hz (gi (x::r) 0)
    cases hq:enc (gi (x::r) 0) with
    |nil=>rw[hq] at this;simp at this;omega
    |cons v q=>exact⟨v,q,rfl⟩
   obtain⟨v,q,e⟩:=hx;rw[e] at hs;exact Option.isSome_iff_exists.1 hs.some
  refine Src.ofSlice w hk a _ c _ (X3 hz _) (λj u hu=>?_) (λu hu=>?_)
  ·have hjl:=(I8.1 hu).1;rw[X3 hz] at hjl;have hdiv:j / z<(x::r).length:=Nat.div_lt_of_lt_mul (by rw[Nat.mul_comm];exact hjl);have CY2:j % z<z:=Nat.mod_lt _ hz0;have e:j=j / z*z+j % z:=by rw[Nat.mul_comm];exact(Nat.div_add_mod j z).symm
   rw[e] at hu ⊢;rw[FI hz _ _ _ hdiv CY2] at hu;have:=(h ((j / z:Nat):Int) (Int.natCast_nonneg _) (Int.ofNat_lt.2 hdiv)).get (j % z) u (by rw[Ju hdiv];exact hu);obtain⟨a',ha',_,hc⟩:=this
   cases ha'
   rw[Ig] at hc;exact hc
  ·obtain⟨y,_,hy⟩:=List.mem_flatMap.1 hu;exact JV (Bp6 y) u hy
def zte{α:Type}[Inhabited α]{P:Program}{enc:α->List Va}{z:Nat}{ty t tx:TypeId}{bytes:Nat}{zero:α}(E:zpl P enc z ty bytes zero)(ht:P.underlying t=some (.slice ty)){base:Nat}{w:Wo}{o:OA}{cap:Nat}{l m:List α}{x:Va}(hO:UD enc z ty base w o cap l)(hS:Src P z tx x m.length (m.flatMap enc) w)(hb:(2*(l.length+m.length))*bytes<=281474976710656)(hn:l.length+m.length<=4194304)(tr:TypeId)(tE:base<=w.heap.size) :
  ∃o' qO w',(Builtin.append_ #[t,tx] tr #[.slice o l.length cap,x]).run P w=.ok (.slice o' (l.length+m.length) qO) w'/\UD enc z ty base w' o' qO (l++m)/\Q0 (QL o) w w'/\(o'=o\/o'=some ⟨w.heap.size,0,none⟩):=by
 obtain⟨i,v,hi,hz,hs,hby,hv⟩:=E.info;subst hs
 by_cases AB9:l.length+m.length<=cap
 ·rcases hO with ⟨hc0,hl0,ho0⟩|⟨b,sp,rfl,h1,h2,h3,h4⟩
  ·subst hl0;subst hc0;subst ho0;have hm:m=[]:=List.eq_nil_of_length_eq_zero (by simp only[List.length_nil] at AB9;omega);subst hm;have hk:=run_append_nothing (P:=P) w t tx tr ty i ht hi none 0 0 (I7 _) x hS;exact⟨none,0,w,by simpa using hk,.inl ⟨rfl,rfl,rfl⟩,Q0.refl _ _,.inl rfl⟩
  ·have qV:=X3 E.len l;have hfm:=X3 E.len m
   have hsp:(m.flatMap enc).length<=sp.length:=by
    rw[Io,qV] at h3;have:=Nat.mul_le_mul_right i.size AB9;rw[Nat.add_mul] at this;omega
   have hr:=run_append_room_src (P:=P) w t tx tr ty i ht hi b 0 l.length cap x m.length (m.flatMap enc) hS AB9 (λj hj=>by
     rw[Ti h2];have:0+l.length*i.size+j<(l.flatMap enc++sp).length:=by rw[Io,qV];omega
     rw[List.getElem?_toArray,Il this];rfl) (λj hj=>by simp[World.frozen?,h2])
   refine⟨_,_,_,hr,?_,?_,.inl rfl⟩
   ·refine .inr ⟨b,sp.drop (m.flatMap enc).length,rfl,h1,?_,?_,by rw[Io];exact AB9⟩
    ·have kE:w.setCells b (0+l.length*i.size) (m.flatMap enc)=YtjinkcmkgnofjaaGreatDoor.Rw w (some ⟨b,0,none⟩) (0+l.length*i.size) (m.flatMap enc):=by
      generalize m.flatMap enc=vs;generalize 0+l.length*i.size=n;simp only[YtjinkcmkgnofjaaGreatDoor.Rw]
      induction vs generalizing w n with
      |nil=>rfl
      |cons u r ih=>
       have ih':∀(w:Wo) (n:Nat),w.setCells b n r=dV w ⟨b,0,none⟩ n r:=by
        clear ih
        induction r with
        |nil=>intro w n;rfl
        |cons u' r' ih2=>intro w n;simp only[World.setCells,dV];rw[ih2,Addr.add_lit,Nat.zero_add]
       simp only[World.setCells,dV];rw[ih',Addr.add_lit,Nat.zero_add]
     rw[kE,Kg h2,D0 _ _ _ (by rw[Io,qV];omega)]
     have e1:(l.flatMap enc++sp).take (0+(0+l.length*i.size))=l.flatMap enc:=by
      rw[List.take_append_of_le_length (by rw[qV];omega),List.take_of_length_le (by rw[qV];omega)]
     have e2:(l.flatMap enc++sp).drop (0+(0+l.length*i.size)+(m.flatMap enc).length)=sp.drop (m.flatMap enc).length:=by
      rw[List.drop_append,List.drop_eq_nil_iff.2 (by rw[qV];omega),List.nil_append,qV]
      congr 1
      omega
     rw[e1,e2,List.flatMap_append]
    ·rw[List.flatMap_append,Io,Io,List.length_drop];rw[Io] at h3;omega
   ·have:∀(vs:List Va) (w:Wo) (n:Nat),Q0 [b] w (w.setCells b n vs):=by
     intro vs
     induction vs with
     |nil=>intro w n;exact Q0.refl _ _
     |cons u r ih=>intro w n;exact((Q0.refl [b] w).setCell (p:=⟨b,n,none⟩) (.inr Qs) u).trans (ih _ _)
    exact this _ _ _
 ·have AB9:cap<l.length+m.length:=Qo
  have AB8:Builtin.nextslicecap (l.length+m.length) cap<=2*(l.length+m.length):=by
   unfold Builtin.nextslicecap
   have hg:∀(r c N:Nat),c<=N->256<=c->Builtin.growBy N r c<=2*N:=by
    intro r
    induction r with
    |zero=>intro c N hc _;simp only[Builtin.growBy];omega
    |succ r ih=>
     intro c N hc DQ0;simp only[Builtin.growBy];split
     ·omega
     ·by_cases hle:c+(c+768) / 4<=N
      ·exact ih _ _ hle Qo
      ·cases r with
       |zero=>simp only[Builtin.growBy];omega
       |succ r=>simp only[Builtin.growBy];split <;> omega
   split
   ·omega
   ·split
    ·omega
    ·exact hg 4 cap _ Qo Qo
  have hold:(Builtin.firstCells i.size l.length (.slice o l.length cap)).run P w.drew=.ok (l.flatMap enc).toArray w.drew:=by
   rcases hO with ⟨hc0,hl0,ho0⟩|⟨b,sp,rfl,h1,h2,h3,h4⟩
   ·subst hl0;subst ho0
    simpa using run_firstCells_none (P:=P) w.drew i.size 0 0 cap
   ·refine run_firstCells_some (P:=P) w.drew i.size l.length ⟨b,0,none⟩ l.length cap _ (X3 E.len l) λj u hu=>?_
    have IW:=(I8.1 hu).1
    have:w.cell? ((⟨b,0,none⟩:Addr).add j)=some u:=by
     rw[Addr.add_lit,Nat.zero_add,Ti h2];simp only[List.getElem?_toArray];rw[Ip IW];exact hu
    simpa using this
  have hr:=run_append_grow_src (P:=P) w t tx tr ty i v ht hi hz o l.length cap (l.flatMap enc) hold x m.length (m.flatMap enc) hS AB9 Qo (by
   rw[hby];exact IB (Nat.mul_le_mul_right bytes AB8) hb)
  refine⟨_,_,_,hr,?_,?_,.inr rfl⟩
  ·have RM:=grownCap_ge w (l.length+m.length) cap ty;generalize grownCap w (l.length+m.length) cap ty=g at *;refine .inr ⟨w.heap.size,(Builtin.zeroCells v.cells (g-(l.length+m.length))).toList,rfl,tE,?_,?_,by rw[Io];exact RM⟩
   ·simp only[World.alloc];show (w.drew.heap.push _)[w.heap.size]? = _;have:w.drew.heap=w.heap:=rfl;rw[this,Array.getElem?_push_size,List.flatMap_append]
    congr 2
    apply Array.ext'
    simp
   ·have hvs:v.cells.size=i.size:=by
     have:=E.len zero;rw[<-hv] at this
     simpa using this
    rw[Io,X3 E.len,Io];simp only[Builtin.zeroCells,Array.length_toList,Array.size_map,Array.size_range];rw[hvs,<-Nat.add_mul]
    congr 1
    omega
  ·exact((Q0.refl _ w).drew).alloc _
def zcn{P:Program}{ts:Array TypeId}{t:TypeId}{cs:Array Bool}{args:Array Va}{w w':Wo}{v:Va}(h:(Builtin.append_ ts t args).run P w=.ok v w'):(builtin .append ts t cs args).run P w=.ok (.value v) w':=by
 simp only[builtin,Sem.run_bind,h,Result.andThen_ok,Sem.run_pure]
def Gf{P:Program}{ts:Array TypeId}{t:TypeId}{cs:Array Bool}{args:Array Va}{w w':Wo}{v:Va}(h:(Builtin.copy_ ts t args).run P w=.ok v w'):(builtin .copy ts t cs args).run P w=.ok (.value v) w':=by
 simp only[builtin,Sem.run_bind,h,Result.andThen_ok,Sem.run_pure]
def zzg{α:Type}[Inhabited α]{P:Program}{enc:α->List Va}{z:Nat}{ty t:TypeId}{bytes:Nat}{zero:α}(E:zpl P enc z ty bytes zero)(ht:P.underlying t=some (.slice ty)){base:Nat}{w:Wo}{o:OA}{cap:Nat}{l:List α}(hO:UD enc z ty base w o cap l){x:α}{b:Nat}{t':TypeId}{fz:Nat×Nat}(hb:w.heap[b]? = some (.cells (enc x).toArray t' fz))(h1:Zk (enc x))(hby:(2*(l.length+1))*bytes<=281474976710656)(hn:l.length+1<=4194304)(tr:TypeId)(cs:Array Bool)(tE:base<=w.heap.size) :
  ∃o' qO w',(builtin .append #[t,t] tr cs #[.slice o l.length cap,.slice (some ⟨b,0,none⟩) 1 1]).run P w=.ok (.value (.slice o' (l++[x]).length qO)) w'/\UD enc z ty base w' o' qO (l++[x])/\Q0 (QL o) w w'/\(o'=o\/o'=some ⟨w.heap.size,0,none⟩):=by
 have hS:Src P z t (.slice (some ⟨b,0,none⟩) 1 1) [x].length ([x].flatMap enc) w:=by
  refine Src.ofSlice w ht ⟨b,0,none⟩ 1 1 _ (by simp[E.len]) (λj u hu=>?_) (λu hu=>?_)
  ·rw[Addr.add_lit,Nat.zero_add,Ti hb]
   simpa using hu
  ·exact JV h1 u (by simpa using hu)
 obtain⟨o',qO,w',h1,h2,h3,h4⟩:=zte E ht hO hS (by simpa using hby) (by simpa using hn) tr tE;exact⟨o',qO,w',zcn (by simpa using h1),h2,h3,h4⟩
def ztf{α:Type}[Inhabited α]{P:Program}{enc:α->List Va}{z:Nat}{ty t:TypeId}{bytes:Nat}{zero:α}(E:zpl P enc z ty bytes zero)(ht:P.underlying t=some (.slice ty))(Bp6:∀x,Zk (enc x))(hz0:0<z){base:Nat}{w:Wo}{o o2:OA}{cap c2:Nat}{l m:List α}(hO:UD enc z ty base w o cap l)(hR:Rd enc z [] w o2 m)(hlen:m.length=l.length)(tr:TypeId)(cs:Array Bool) :
  ∃(n:Int) (w':Wo),(builtin .copy #[t,t] tr cs #[.slice o l.length cap,.slice o2 m.length c2]).run P w=.ok (.value (I n)) w'/\UD enc z ty base w' o cap m/\Q0 (QL o) w w':=by
 obtain⟨i,v,hi,hz,hs,hby,hv⟩:=E.info;have CJ2:=zzo (P:=P) E.len Bp6 ht hR (c:=c2) hz0;have hfm:=X3 E.len m;have Bd1:Nat.min m.length l.length=m.length:=by rw[hlen];exact Nat.min_self _
 have sI:P.info? ty=some i:=hi;rcases hO with ⟨hc0,hl0,ho0⟩|⟨b,sp,rfl,h1,h2,h3,h4⟩
 ·subst hl0;subst hc0;subst ho0;have hm:m=[]:=List.eq_nil_of_length_eq_zero (by simpa using hlen);subst hm;refine⟨0,w,Gf ?_,.inl ⟨rfl,rfl,rfl⟩,Q0.refl _ _⟩;have hc:=CJ2.cells;simp only[List.length_nil] at hc;rw[<-hs] at hc;simp[Builtin.copy_,run_underlying ht,Builtin.lenOf,sizeOf,typeInfo,sI,hc,goInt]
 ·refine⟨(m.length:Int),w.setRow b ((l.flatMap enc++sp).toArray.toList.take 0++m.flatMap enc++(l.flatMap enc++sp).toArray.toList.drop (0+(m.flatMap enc).length)).toArray,Gf ?_,?_,?_⟩
  ·have kE:=run_storeCells_at P b 0 ty (m.flatMap enc) 0 (l.flatMap enc++sp).toArray w h2 (by
    simp only[List.size_toArray,Io];rw[X3 E.len l,hfm,hlen];omega) CJ2.one
   have hc:=CJ2.cells;rw[<-hs] at hc;simp only[Nat.add_zero] at kE;simp only[Builtin.copy_,Sem.run_bind,run_underlying ht,Builtin.lenOf,sizeOf,typeInfo,sI,Result.andThen_ok,Sem.run_pure,Bd1,hc,kE,goInt,List.getElem?_toArray,Ie,List.getElem?_cons_succ];simp[sI,Bd1,hc,kE,run_underlying ht,goInt]
  ·refine .inr ⟨b,sp,rfl,h1,?_,?_,Qo⟩
   ·rw[setRow_heap w b _ _ ty (0,0) h2];simp only[List.take_zero,List.nil_append,Nat.zero_add]
    congr 3
    rw[hfm,hlen,<-X3 E.len l,List.drop_left]
   ·rw[Io,hfm,hlen,<-X3 E.len l,<-Io];exact h3
  ·refine⟨rfl,rfl,rfl,by simp[World.setRow],λk hk hb=>?_⟩;have cU:b≠k:=λe=>hb (by rw[e];exact IA.2 rfl)
   simp only[World.setRow,Array.getElem?_modify,B' cU]
def z46(x:KM):Zk (T9 x):=rfl
def z6r(x:PS):Zk (Xc x):=rfl
def z44(x:PP):Zk (Gv x):=rfl
def z45(x:Int):Zk (U2 x):=rfl
def z6p(x:Bool):Zk (K3 x):=rfl
def znp:List (Nat×Va)->PT SV
 |[]=>.leaf
 |p::r=>PT.set 12 (znp r) p.1 (.un (.v p.2))
def VT(ins:List (Nat×Va)):St:={ F:=znp ins,L:=[],B:=[],old:=0,lk:=[],r:=1 }
def Np:∀{ins:List (Nat×Va)} {i:Nat} {sv:SV},(∀p∈ins,p.1<4000)->(znp ins).get i=some sv->∃v,(i,v)∈ins/\sv=.un (.v v)
 |[],i,sv,_,h=>by simp[znp,PT.get] at h
 |p::r,i,sv,hl,h=>by
  have hp:=hl p (I9 ..);simp only[znp] at h;rw[PT.kM _ 12 _ _ _ (by have:(2:Nat) ^ 12=4096:=rfl;omega)] at h
  by_cases he:p.1=i
  ·rw[C' he] at h;cases h;exact⟨p.2,by rw[<-he];exact I9 ..,rfl⟩
  ·rw[B' he] at h;obtain⟨v,hv,hs⟩:=Np (λq hq=>hl q (I1 _ hq)) h;exact⟨v,I1 _ hv,hs⟩
def FM(ins:List (Nat×Va))(a:Act):Prop:=∀p∈ins,p.1<4000/\a.tmps.getD p.1 undef=p.2
def znq{n:Nat}{ins:List (Nat×Va)}{a:Act}(hn:a.tmps.size=n)(hin:FM ins a):TZ n (VT ins) a:=by
 refine⟨hn,λi x hx=>?_,λi r pc x hx=>?_⟩
 ·obtain⟨v,hv,he⟩:=Np (λp hp=>(hin p hp).1) hx;cases he;exact(hin _ hv).2
 ·obtain⟨v,hv,he⟩:=Np (λp hp=>(hin p hp).1) hx;cases he
def znr(ins:List (Nat×Va))(w:Wo):Zs (VT ins) w w:=⟨Q0.refl _ _,λid t cs hl=>by simp[VT] at hl,rfl,List.nodup_nil,λid b _ hb=>by simp[VT] at hb⟩
def zse(ins:List (Nat×Va)):Gt (VT ins):=⟨Ic _,λid bB=>by cases bB⟩
def zva{n:Nat}{S:St}{a:Act}(hf:TZ n S a){xs:List Operand}{vs:List Va}(h:Lh S [] xs=some vs):xs.map a.eval=vs:=by
 induction xs generalizing vs with
 |nil=>simp only[Lh,I0] at h;subst h;rfl
 |cons x r ih=>
  simp only[Lh] at h
  split at h
  ·rename_i v l hv hl;simp only[I0] at h;subst h;unfold Ho at hv
   split at hv
   ·rename_i e he;rw[List.map_cons,ih hl,za1 hv (B7 hf he)]
   ·cases hv
  ·cases h
def H6(outs:List Nat)(R:Exit->List Va->Wo->Prop)(e:Exit)(S:St)(w:Wo):Prop:=match Lh S [] (outs.map .tmp) with
 |some vs=>∀wr,Q0 S.bs w wr->R e vs wr
 |none=>False
def zzi:List Code->Code->Code
 |[],x=>x
 |c::l,x=>.seq c (zzi l x)
def z7a(C:V1)(sps:List (Nat×Yw)):List Code->St->Wo->(Exit->St->Wo->Prop)->Prop
 |[],S,w,K=>K .normal S w
 |c::l,S,w,K=>As C sps c S w λe S' w'=>match e with
  |.normal=>z7a C sps l S' w' K
  |e=>K e S' w'
def Ks:List Code->List Nat
 |[]=>[]
 |c::l=>Xp c++Ks l
def ziv{C:V1}(E:zr0 C){sps:List (Nat×Yw)}{Q:Exit->Act->Wo->Prop}{X:Code}:∀(l:List Code) (S:St) (w wr:Wo) (a:Act) (K:Exit->St->Wo->Prop),z7a C sps l S w K->TZ C.n S a->Zs S w wr->Gt S->
  (∀S' w' a' Wp,K .normal S' w'->Mc C S w (Ks l) a S' w' a' Wp->X.wpIn (M7 C.rd) 0 C.P Q a' Wp)->(∀e S' w' a' Wp,e≠.normal->K e S' w'->Mc C S w (Ks l) a S' w' a' Wp->Q e a' Wp)->(zzi l X).wpIn (M7 C.rd) 0 C.P Q a wr
 |[],S,w,wr,a,K,h,hf,hw,WK,hN,_=>hN _ _ _ _ h (Mc.refl _ hf hw WK)
 |c::l,S,w,wr,a,K,h,hf,hw,WK,hN,hE=>by
  have Az2:∀z∈Xp c,z∈Ks (c::l):=λz hz=>Ia _ hz
  have Bf0:∀z∈Ks l,z∈Ks (c::l):=λz hz=>Iy _ hz
  refine wpIn_seq (Yx E c S w wr a _ _ h hf hw WK λe S' w' a' Wp hK he=>?_)
  cases e with
  |normal=>exact ziv E l S' w' Wp a' K hK he.fit he.rel he.wf (λS2 w2 a2 R6 fZ bH=>hN _ _ _ _ fZ (he.trans bH Az2 Bf0)) λe2 S2 w2 a2 R6 cU fZ bH=>hE _ _ _ _ _ cU fZ (he.trans bH Az2 Bf0)
  |_=>exact hE _ _ _ _ _ (λh=>by cases h) hK (he.mono Az2)
structure zwd (ds outs:List Nat) (a a':Act) (vs:List Va):Prop where
 defers:a'.defers=a.defers
 size:a'.tmps.size=a.tmps.size
 kept:∀i,i∉ds->a'.tmps.getD i undef=a.tmps.getD i undef
 out:outs.map (λt=>a'.tmps.getD t undef)=vs
def zqb{C:V1}{S S':St}{w w' Wp:Wo}{ds outs:List Nat}{a a':Act}{vs:List Va}(he:Mc C S w ds a S' w' a' Wp)(ho:Lh S' [] (outs.map .tmp)=some vs):zwd ds outs a a' vs:=
 ⟨he.fra.1,he.fra.2.1,he.fra.2.2,by
  have:=zva he.fit ho;rw[List.map_map] at this;exact this⟩
def zno{C:V1}(E:zr0 C){sps:List (Nat×Yw)}{code:Code}{ins:List (Nat×Va)}{outs:List Nat}{w:Wo}{a:Act}{R:Exit->List Va->Wo->Prop}{Q:Exit->Act->Wo->Prop}(hn:a.tmps.size=C.n)(hin:FM ins a)(h:As C sps code (VT ins) w (H6 outs R))(hQ:∀e vs a' w',R e vs w'->zwd (Xp code) outs a a' vs->Q e a' w'):code.wpIn (M7 C.rd) 0 C.P Q a w:=
 Yx E code (VT ins) w w a _ Q h (znq hn hin) (znr ins w) (zse ins) λe S' w' a' Wp hK he=>by
  unfold H6 at hK
  split at hK
  ·rename_i vs ho;exact hQ e vs a' Wp (hK Wp he.rel.ext) (zqb he ho)
  ·exact hK.elim
def z6i{C:V1}(E:zr0 C){sps:List (Nat×Yw)}{l:List Code}{X:Code}{ins:List (Nat×Va)}{outs:List Nat}{w:Wo}{a:Act}{R:Exit->List Va->Wo->Prop}{Q:Exit->Act->Wo->Prop}(hn:a.tmps.size=C.n)(hin:FM ins a)(h:z7a C sps l (VT ins) w (H6 outs R))(hX:∀vs a' w',R .normal vs w'->zwd (Ks l) outs a a' vs->X.wpIn (M7 C.rd) 0 C.P Q a' w')(hQ:∀e vs a' w',e≠.normal->R e vs w'->zwd (Ks l) outs a a' vs->Q e a' w'):(zzi l X).wpIn (M7 C.rd) 0 C.P Q a w:=
 ziv E l (VT ins) w w a _ h (znq hn hin) (znr ins w) (zse ins) (λS' w' a' Wp hK he=>by
  unfold H6 at hK
  split at hK
  ·rename_i vs ho;exact hX vs a' Wp (hK Wp he.rel.ext) (zqb he ho)
  ·exact hK.elim) λe S' w' a' Wp cU hK he=>by
  unfold H6 at hK
  split at hK
  ·rename_i vs ho;exact hQ e vs a' Wp cU (hK Wp he.rel.ext) (zqb he ho)
  ·exact hK.elim
def cL:Code->Code
 |.seq a _=>a
 |c=>c
def cR:Code->Code
 |.seq _ b=>b
 |c=>c
def cB:Code->Code
 |.block _ b=>b
 |c=>c
end Go.Proofs.YtjinkcmkgnofjaaGreatDoor
