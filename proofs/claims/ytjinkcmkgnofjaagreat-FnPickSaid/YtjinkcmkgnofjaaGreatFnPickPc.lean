/- Part 3 of what the law FnPick needs. -/
import Derived.Test.YtjinkcmkgnofjaaGreatFnPickPb
import Derived.Deep.AppendSrc
import Derived.Deep.Upon
import Derived.Laws.MakeOwn
import Derived.Laws.CopyRow
import Derived.Laws.AppendOwn
set_option linter.all false
set_option maxRecDepth 100000
set_option maxHeartbeats 8000000
namespace Go.Proofs.YtjinkcmkgnofjaaGreat
open Go.RowKit
def JF{α:Type}{enc:α->List Va}{z:Nat}(hz:∀x,(enc x).length=z):∀l:List α,(l.flatMap enc).length=l.length*z
 |[]=>by simp
 |x::r=>by rw[List.flatMap_cons,Iq,hz,JF hz r,List.length_cons,Nat.succ_mul];omega
def Am{α:Type}{enc:α->List Va}{z:Nat}(hz:∀x,(enc x).length=z):∀(l:List α) (i j:Nat) (hi:i<l.length),j<z->(l.flatMap enc)[i*z+j]? = (enc l[i])[j]?
 |x::r,0,j,_,hj=>by
  rw[List.flatMap_cons,Ir (by rw[hz];omega)];simp
 |x::r,i+1,j,hi,hj=>by
  rw[List.flatMap_cons,List.getElem?_append_right (by rw[hz,Nat.succ_mul];omega),hz];have e:(i+1)*z+j-z=i*z+j:=by rw[Nat.succ_mul];omega
  rw[e,Am hz r i j (by simpa using hi) hj];simp
def An{α:Type}{enc:α->List Va}{z:Nat}(hz:∀x,(enc x).length=z)(x:α):∀(l:List α) (i:Nat) (_:i<l.length),((l.set i x).flatMap enc)=(l.flatMap enc).take (i*z)++enc x++(l.flatMap enc).drop ((i+1)*z)
 |y::r,0,_=>by
  simp only[List.set_cons_zero,List.flatMap_cons,Nat.zero_mul,List.take_zero,List.nil_append,Nat.zero_add,Nat.one_mul];rw[List.drop_append_of_le_length (by rw[hz];exact I9 _),List.drop_eq_nil_iff.2 (by rw[hz];exact I9 _),List.nil_append]
 |y::r,i+1,hi=>by
  simp only[List.set_cons_succ,List.flatMap_cons];rw[An hz x r i (by simpa using hi)];have e1:(i+1)*z=z+i*z:=by rw[Nat.succ_mul];omega
  have e2:(i+1+1)*z=z+(i+1)*z:=by rw[Nat.succ_mul (i+1)];omega
  have hy:(enc y).length=z:=hz y
  have t1:(enc y++r.flatMap enc).take ((i+1)*z)=enc y++(r.flatMap enc).take (i*z):=by
   rw[e1,List.take_append,List.take_of_length_le Qo,hy,show z+i*z-z=i*z by omega]
  have t2:(enc y++r.flatMap enc).drop ((i+1+1)*z)=(r.flatMap enc).drop ((i+1)*z):=by
   rw[e2,List.drop_append,List.drop_eq_nil_iff.2 Qo,List.nil_append,hy,show z+(i+1)*z-z=(i+1)*z by omega]
  rw[t1,t2];simp[List.append_assoc]
def Jy{α:Type}(enc:α->List Va)(z:Nat)(ty:TypeId)(base:Nat)(w:Wo)(o:OA)(cap:Nat)(l:List α):Prop:=
 (cap=0/\l=[]/\o=none)\/∃(b:Nat) (sp:List Va),o=some ⟨b,0,none⟩/\base<=b/\w.heap[b]? = some (.cells (l.flatMap enc++sp).toArray ty (0,0))/\(l.flatMap enc++sp).length=cap*z/\l.length<=cap
def QE(o:OA):List Nat:=match o with
 |some a=>[a.block]
 |none=>[]
def Jy.ext{α:Type}{enc:α->List Va}{z:Nat}{ty:TypeId}{base:Nat}{w w':Wo}{o:OA}{cap:Nat}{l:List α}{bs:List Nat}(h:Jy enc z ty base w o cap l)(hx:Q0 bs w w')(hd:∀b∈QE o,b∉bs):Jy enc z ty base w' o cap l:=by
 rcases h with h|⟨b,sp,rfl,h1,h2,h3,h4⟩
 ·exact .inl h
 ·exact .inr ⟨b,sp,rfl,h1,Ts h2 hx (hd b (by simp[QE])),h3,h4⟩
def Jy.gG{α:Type}{enc:α->List Va}{z:Nat}{ty:TypeId}{base:Nat}{w w':Wo}{o:OA}{cap:Nat}{l:List α}(h:Jy enc z ty base w o cap l)(hx:Q0 [] w w'):Jy enc z ty base w' o cap l:=h.ext hx Qs
def Jy.lt{α:Type}{enc:α->List Va}{z:Nat}{ty:TypeId}{base:Nat}{w:Wo}{o:OA}{cap:Nat}{l:List α}(h:Jy enc z ty base w o cap l):∀b∈QE o,base<=b/\b<w.heap.size:=by
 rcases h with ⟨_,_,rfl⟩|⟨b,sp,rfl,h1,h2,h3,h4⟩
 ·simp[QE]
 ·intro x hx;simp only[QE,IB] at hx;subst hx;exact⟨h1,VV h2⟩
def Jy.WX{α β:Type}{enc:α->List Va}{Cd0:β->List Va}{z z':Nat}{ty ty':TypeId}{base aO:Nat}{w:Wo}{o o':OA}{cap mH:Nat}{l:List α}{l':List β}(h:Jy enc z ty base w o cap l)(h':Jy Cd0 z' ty' aO w o' mH l')(ht:ty≠ty'):∀b∈QE o,b∉QE o':=by
 rcases h with ⟨_,_,rfl⟩|⟨b,sp,rfl,h1,h2,h3,h4⟩
 ·simp[QE]
 ·rcases h' with ⟨_,_,rfl⟩|⟨b',sp',rfl,h1',h2',h3',h4'⟩
  ·simp[QE]
  ·intro x hx eJ;simp only[QE,IB] at hx eJ;subst hx;subst eJ;rw[h2] at h2';simp only[I2,Obj.cells.injEq] at h2';exact ht h2'.2.1
def Jy.mono{α:Type}{enc:α->List Va}{z:Nat}{ty:TypeId}{base aO:Nat}{w:Wo}{o:OA}{cap:Nat}{l:List α}(h:Jy enc z ty base w o cap l)(hb:aO<=base):Jy enc z ty aO w o cap l:=by
 rcases h with h|⟨b,sp,rfl,h1,h2,h3,h4⟩
 ·exact .inl h
 ·exact .inr ⟨b,sp,rfl,IC hb h1,h2,h3,h4⟩
def Jy.le{α:Type}{enc:α->List Va}{z:Nat}{ty:TypeId}{base:Nat}{w:Wo}{o:OA}{cap:Nat}{l:List α}(h:Jy enc z ty base w o cap l):l.length<=cap:=by
 rcases h with ⟨_,rfl,_⟩|⟨b,sp,rfl,h1,h2,h3,h4⟩
 ·exact Ig _
 ·exact h4
def Jy.rd{α:Type}[Inhabited α]{enc:α->List Va}{z:Nat}{ty:TypeId}{base:Nat}{w:Wo}{o:OA}{cap:Nat}{l:List α}(h:Jy enc z ty base w o cap l)(hz:∀x,(enc x).length=z){bs:List Nat}(hb:∀b∈QE o,b∉bs):Rd enc z bs w o l:=by
 intro i h0 hi;rcases h with ⟨_,rfl,_⟩|⟨b,sp,rfl,h1,h2,h3,h4⟩
 ·simp at hi;omega
 ·obtain⟨k,rfl⟩:=Int.eq_ofNat_of_zero_le h0;have hk:k<l.length:=Qo;refine Mp h2 (hb b (by simp[QE])) (k0:=0) λj v hj=>?_
  have hjz:j<z:=by
   have:=(Ia.1 hj).1;rw[hz] at this;exact this
  rw[XT hk] at hj;have pY:=JF hz l
  have IX:k*z+j<(l.flatMap enc).length:=by
   rw[pY];have:=Nat.mul_le_mul_right z hk;rw[Nat.succ_mul] at this;omega
  rw[Ii,Nat.zero_add,Ir IX,Am hz l k j hk hjz];exact hj
def Jy.ix{α:Type}{enc:α->List Va}{z:Nat}{ty:TypeId}{base:Nat}{w:Wo}{o:OA}{cap:Nat}{l:List α}(h:Jy enc z ty base w o cap l){i:Int}(h0:0<=i)(h1:i<(l.length:Int)):Ix o l.length i:=by
 rcases h with ⟨_,rfl,_⟩|⟨b,sp,rfl,_⟩
 ·simp at h1;omega
 ·exact⟨h0,h1,rfl⟩
def Jy.wr{α:Type}{enc:α->List Va}{z:Nat}{ty:TypeId}{base:Nat}{w:Wo}{o:OA}{cap:Nat}{l:List α}(h:Jy enc z ty base w o cap l)(hz:∀x,(enc x).length=z){bs:List Nat}(hb:∀b∈QE o,b∉bs){i:Int}(h0:0<=i)(h1:i<(l.length:Int)){j n:Nat}(hj:j+n<=z):Xx bs w o (Int.toNat i*z+j) n:=by
 rcases h with ⟨_,rfl,_⟩|⟨b,sp,rfl,fI,h2,h3,h4⟩
 ·simp at h1;omega
 ·refine zfw h2 (hb b (by simp[QE])) ?_;have hk:i.toNat<l.length:=Qo;have:=Nat.mul_le_mul_right z hk;rw[Nat.succ_mul] at this;rw[Iq,JF hz l];omega
def Jy.RN{α:Type}[Inhabited α]{enc:α->List Va}{z:Nat}{ty:TypeId}{base:Nat}{w:Wo}{o:OA}{cap:Nat}{l:List α}(h:Jy enc z ty base w o cap l)(hz:∀x,(enc x).length=z){i:Int}(h0:0<=i)(h1:i<(l.length:Int)){j:Nat}{vs:List Va}{x:α}(he:enc x=(enc (gi l i)).take j++vs++(enc (gi l i)).drop (j+vs.length))(hj:j+vs.length<=z) :
  Jy enc z ty base (YtjinkcmkgnofjaaGreat.RN w o (Int.toNat i*z+j) vs) o cap (l.set i.toNat x):=by
 rcases h with ⟨_,rfl,_⟩|⟨b,sp,rfl,fI,h2,h3,h4⟩
 ·simp at h1;omega
 ·obtain⟨k,rfl⟩:=Int.eq_ofNat_of_zero_le h0;have hk:k<l.length:=Qo;have pY:=JF hz l;have hmul:=Nat.mul_le_mul_right z hk;rw[Nat.succ_mul] at hmul;refine .inr ⟨b,sp,rfl,fI,?_,?_,by simpa using h4⟩
  ·rw[Nu h2,Nat.zero_add,Ii,Ll _ _ _ (by rw[Iq,pY];omega),An hz x l k hk,he,XT hk];have hlk:(enc l[k]).length=z:=hz _
   have B93:l.flatMap enc=(l.flatMap enc).take (k*z)++enc l[k]++(l.flatMap enc).drop ((k+1)*z):=by
    have:=An hz l[k] l k hk
    rwa[List.set_getElem_self] at this
   have ht:((l.flatMap enc).take (k*z)).length=k*z:=by rw[List.length_take,pY];omega
   generalize (l.flatMap enc).take (k*z)=A at *;generalize (l.flatMap enc).drop ((k+1)*z)=B at *;rw[B93]
   have e1:(A++enc l[k]++B++sp).take (k*z+j)=A++(enc l[k]).take j:=by
    simp only[List.append_assoc];rw[List.take_append,List.take_of_length_le Qo,ht,List.take_append,show k*z+j-k*z=j by omega];rw[show j-(enc l[k]).length=0 by omega,List.take_zero,List.append_nil]
   have e2:(A++enc l[k]++B++sp).drop (k*z+j+vs.length)=(enc l[k]).drop (j+vs.length)++B++sp:=by
    simp only[List.append_assoc];rw[List.drop_append,List.drop_eq_nil_iff.2 Qo,List.nil_append,ht,List.drop_append,show k*z+j+vs.length-k*z=j+vs.length by omega];rw[show j+vs.length-(enc l[k]).length=0 by omega,List.drop_zero]
   rw[e1,e2];simp only[List.append_assoc]
  ·rw[Iq,JF hz,I0,<-JF hz l,<-Iq];exact h3
def Jy.tN{α:Type}{enc:α->List Va}{z:Nat}{ty:TypeId}{base:Nat}{w:Wo}{o:OA}{cap:Nat}{l:List α}(_:Jy enc z ty base w o cap l)(n:Nat)(vs:List Va):Q0 (QE o) w (YtjinkcmkgnofjaaGreat.RN w o n vs):=
 MH λa ha=>by rw[ha];simp[QE]
def Jy.CR2{α:Type}{enc:α->List Va}{z:Nat}{ty:TypeId}{base:Nat}{w:Wo}{o:OA}{cap:Nat}{l:List α}(h:Jy enc z ty base w o cap l)(n:Nat)(vs:List Va){w0:Wo}(hx:Q0 [] w0 w)(hb:w0.heap.size<=base):Q0 [] w0 (YtjinkcmkgnofjaaGreat.RN w o n vs):=
 hx.fresh (h.tN n vs) λx hm=>.inl (IC hb (h.lt x hm).1)
def Uj{w w':Wo}:Q9 [] w w':=λ_ h=>by cases h
def Qf{w w':Wo}{B:List Nat}(h:Q0 [] w w')(hs:∀b∈B,b<w.heap.size):Q9 B w w':=λb hb=>h.block b (hs b hb) Qs
def zms{α:Type}{enc:α->List Va}{z:Nat}(zc:Array Va)(x:α)(hx:enc x=zc.toList)(hz:(enc x).length=z)(n:Nat):(madeCells zc (n*z)).toList=(List.replicate n x).flatMap enc:=by
 have hzs:zc.size=z:=by rw[<-hz,hx];simp
 apply List.ext_getElem?
 intro q;have yS:(madeCells zc (n*z)).toList.length=n*z:=by simp[madeCells]
 by_cases hz0:z=0
 ·subst hz0;have h1:(madeCells zc (n*0)).toList=[]:=List.eq_nil_of_length_eq_zero (by rw[yS];simp)
  have h2:(List.replicate n x).flatMap enc=[]:=by
   have:=List.eq_nil_of_length_eq_zero hz;rw[List.flatMap_replicate];simp[this]
  rw[h1,h2]
 ·have pY:((List.replicate n x).flatMap enc).length=n*z:=by
   clear yS
   induction n with
   |zero=>simp
   |succ n ih=>rw[List.replicate_succ,List.flatMap_cons,Iq,ih,hz,Nat.succ_mul];omega
  by_cases hq:q<n*z
  ·have e1:(madeCells zc (n*z)).toList[q]? = some (zc[q % zc.size]!):=by
    simp[madeCells,hq]
   have hdiv:q / z<n:=Nat.div_lt_of_lt_mul (by rw[Nat.mul_comm];exact hq);have DB3:q % z<z:=Nat.mod_lt _ (Nat.pos_of_ne_zero hz0)
   have e2:((List.replicate n x).flatMap enc)[q]? = (enc x)[q % z]? := by
    clear yS pY e1
    have key:∀n i,i<n->((List.replicate n x).flatMap enc)[i*z+q % z]? = (enc x)[q % z]? := by
     intro n
     induction n with
     |zero=>intro i hi;omega
     |succ n ih=>
      intro i hi;rw[List.replicate_succ,List.flatMap_cons]
      cases i with
      |zero=>rw[Ir (by rw[hz];omega)];simp
      |succ i=>
       rw[List.getElem?_append_right (by rw[hz,Nat.succ_mul];omega),hz];have:(i+1)*z+q % z-z=i*z+q % z:=by rw[Nat.succ_mul];omega
       rw[this];exact ih i Qo
    have:=key n (q / z) hdiv
    rwa[Nat.mul_comm,Nat.div_add_mod] at this
   rw[e1,e2,hx,hzs];have:q % z<zc.size:=Qo;simp[this]
  ·rw[List.getElem?_eq_none Qo,List.getElem?_eq_none Qo]
structure zj2 {α:Type} (P:Program) (enc:α->List Va) (z:Nat) (ty:TypeId) (bytes:Nat) (zero:α):Prop where
 info:∃(i:TypeInfo) (v:Va),P.info? ty=some i/\i.zero=some v/\i.size=z/\i.bytes=bytes/\v.cells.toList=enc zero
 len:∀x,(enc x).length=z
def zvx{α:Type}(P:Program)(enc:α->List Va)(z:Nat)(ty:TypeId)(bytes:Nat)(zero:α):Option (Nat×Nat×List Va):=match P.info? ty with
 |some i=>match i.zero with
  |some v=>some (i.size,i.bytes,v.cells.toList)
  |none=>none
 |none=>none
def Mr{α:Type}{P:Program}{enc:α->List Va}{z:Nat}{ty:TypeId}{bytes:Nat}{zero:α}(h:zvx P enc z ty bytes zero=some (z,bytes,enc zero))(hl:∀x,(enc x).length=z):zj2 P enc z ty bytes zero:=by
 refine⟨?_,hl⟩;unfold zvx at h
 split at h
 ·rename_i i hi
  split at h
  ·rename_i v hv;simp only[I2,Prod.mk.injEq] at h;exact⟨i,v,hi,hv,h.1,h.2.1,h.2.2⟩
  ·cases h
 ·cases h
def KR{α:Type}{P:Program}{enc:α->List Va}{z:Nat}{ty t:TypeId}{bytes:Nat}{zero:α}(E:zj2 P enc z ty bytes zero)(ht:P.underlying t=some (.slice ty))(n:Nat)(hb:bytes*n<=281474976710656)(hn:n<=maxLen)(w:Wo) :
  (Instr.makeSlice t (I (n:Int)) (I (n:Int))).run P w=.ok (.slice (some ⟨w.heap.size,0,none⟩) n n) (w.alloc (.cells ((List.replicate n zero).flatMap enc).toArray ty)):=by
 obtain⟨i,v,hi,hz,hs,hby,hv⟩:=E.info;have DB2:maxLen<=9223372036854775807:=by unfold maxLen;omega
 have:=run_make (P:=P) w t ty i v ht hi hz .i64 .i64 (n:Int) (n:Int) Qo (I4 _) (by
  rw[hby];have:((bytes*n:Nat):Int)<=281474976710656:=Qo
  rwa[Int.natCast_mul] at this) Qo
 rw[this];simp only[Ii]
 congr 2
 rw[hs,<-zms v.cells zero hv.symm (E.len zero) n,Array.toArray_toList]
def TO{α:Type}{enc:α->List Va}{z:Nat}(hz:∀x,(enc x).length=z)(ty:TypeId)(n:Nat)(zero:α)(w:Wo):Jy enc z ty w.heap.size (w.alloc (.cells ((List.replicate n zero).flatMap enc).toArray ty)) (some ⟨w.heap.size,0,none⟩) n (List.replicate n zero):=
 .inr ⟨w.heap.size,[],rfl,I9 _,by rw[List.append_nil];exact Array.getElem?_push_size ..,by rw[List.append_nil,JF hz,List.length_replicate],Qs⟩
def Zj(w:Wo)(o:Obj):Q0 [] w (w.alloc o):=(Q0.refl [] w).alloc o
def Zp:4194304<=maxLen:=by simp[maxLen]
def ztc{α:Type}[Inhabited α]{P:Program}{enc:α->List Va}{z:Nat}{ty t tx:TypeId}{bytes:Nat}{zero:α}(E:zj2 P enc z ty bytes zero)(ht:P.underlying t=some (.slice ty)){base:Nat}{w:Wo}{o:OA}{cap:Nat}{l m:List α}{x:Va}(hO:Jy enc z ty base w o cap l)(hS:Src P z tx x m.length (m.flatMap enc) w)(hb:(2*(l.length+m.length))*bytes<=281474976710656)(hn:l.length+m.length<=4194304)(tr:TypeId)(rQ:base<=w.heap.size) :
  ∃o' mH w',(Builtin.append_ #[t,tx] tr #[.slice o l.length cap,x]).run P w=.ok (.slice o' (l.length+m.length) mH) w'/\Jy enc z ty base w' o' mH (l++m)/\Q0 (QE o) w w'/\(o'=o\/o'=some ⟨w.heap.size,0,none⟩):=by
 obtain⟨i,v,hi,hz,hs,hby,hv⟩:=E.info;subst hs
 by_cases yY:l.length+m.length<=cap
 ·rcases hO with ⟨hc0,hl0,ho0⟩|⟨b,sp,rfl,h1,h2,h3,h4⟩
  ·subst hl0;subst hc0;subst ho0;have hm:m=[]:=List.eq_nil_of_length_eq_zero (by simp only[List.length_nil] at yY;omega);subst hm;have hk:=run_append_nothing (P:=P) w t tx tr ty i ht hi none 0 0 (I9 _) x hS;exact⟨none,0,w,by simpa using hk,.inl ⟨rfl,rfl,rfl⟩,Q0.refl _ _,.inl rfl⟩
  ·have pY:=JF E.len l;have hfm:=JF E.len m
   have hsp:(m.flatMap enc).length<=sp.length:=by
    rw[Iq,pY] at h3;have:=Nat.mul_le_mul_right i.size yY;rw[Nat.add_mul] at this;omega
   have hr:=run_append_room_src (P:=P) w t tx tr ty i ht hi b 0 l.length cap x m.length (m.flatMap enc) hS yY (λj hj=>by
     rw[PN h2];have:0+l.length*i.size+j<(l.flatMap enc++sp).length:=by rw[Iq,pY];omega
     rw[List.getElem?_toArray,Io this];rfl) (λj hj=>by simp[World.frozen?,h2])
   refine⟨_,_,_,hr,?_,?_,.inl rfl⟩
   ·refine .inr ⟨b,sp.drop (m.flatMap enc).length,rfl,h1,?_,?_,by rw[Iq];exact yY⟩
    ·have lA:w.setCells b (0+l.length*i.size) (m.flatMap enc)=YtjinkcmkgnofjaaGreat.RN w (some ⟨b,0,none⟩) (0+l.length*i.size) (m.flatMap enc):=by
      generalize m.flatMap enc=vs;generalize 0+l.length*i.size=n;simp only[YtjinkcmkgnofjaaGreat.RN]
      induction vs generalizing w n with
      |nil=>rfl
      |cons u r ih=>
       have ih':∀(w:Wo) (n:Nat),w.setCells b n r=eY w ⟨b,0,none⟩ n r:=by
        clear ih
        induction r with
        |nil=>intro w n;rfl
        |cons u' r' ih2=>intro w n;simp only[World.setCells,eY];rw[ih2,Addr.add_lit,Nat.zero_add]
       simp only[World.setCells,eY];rw[ih',Addr.add_lit,Nat.zero_add]
     rw[lA,Nu h2,Ll _ _ _ (by rw[Iq,pY];omega)]
     have e1:(l.flatMap enc++sp).take (0+(0+l.length*i.size))=l.flatMap enc:=by
      rw[List.take_append_of_le_length (by rw[pY];omega),List.take_of_length_le (by rw[pY];omega)]
     have e2:(l.flatMap enc++sp).drop (0+(0+l.length*i.size)+(m.flatMap enc).length)=sp.drop (m.flatMap enc).length:=by
      rw[List.drop_append,List.drop_eq_nil_iff.2 (by rw[pY];omega),List.nil_append,pY]
      congr 1
      omega
     rw[e1,e2,List.flatMap_append]
    ·rw[List.flatMap_append,Iq,Iq,List.length_drop];rw[Iq] at h3;omega
   ·have:∀(vs:List Va) (w:Wo) (n:Nat),Q0 [b] w (w.setCells b n vs):=by
     intro vs
     induction vs with
     |nil=>intro w n;exact Q0.refl _ _
     |cons u r ih=>intro w n;exact((Q0.refl [b] w).setCell (p:=⟨b,n,none⟩) (.inr Qs) u).trans (ih _ _)
    exact this _ _ _
 ·have yY:cap<l.length+m.length:=Qo
  have BO6:Builtin.nextslicecap (l.length+m.length) cap<=2*(l.length+m.length):=by
   unfold Builtin.nextslicecap
   have hg:∀(r c N:Nat),c<=N->256<=c->Builtin.growBy N r c<=2*N:=by
    intro r
    induction r with
    |zero=>intro c N hc _;simp only[Builtin.growBy];omega
    |succ r ih=>
     intro c N hc C64;simp only[Builtin.growBy];split
     ·omega
     ·by_cases hle:c+(c+768) / 4<=N
      ·exact ih _ _ hle Qo
      ·cases r with
       |zero=>simp only[Builtin.growBy];omega
       |succ r=>simp only[Builtin.growBy];split <;> omega
   split
   ·omega
   ·split
    ·omega
    ·exact hg 4 cap _ Qo Qo
  have hold:(Builtin.firstCells i.size l.length (.slice o l.length cap)).run P w.drew=.ok (l.flatMap enc).toArray w.drew:=by
   rcases hO with ⟨hc0,hl0,ho0⟩|⟨b,sp,rfl,h1,h2,h3,h4⟩
   ·subst hl0;subst ho0
    simpa using run_firstCells_none (P:=P) w.drew i.size 0 0 cap
   ·refine run_firstCells_some (P:=P) w.drew i.size l.length ⟨b,0,none⟩ l.length cap _ (JF E.len l) λj u hu=>?_
    have IX:=(Ia.1 hu).1
    have:w.cell? ((⟨b,0,none⟩:Addr).add j)=some u:=by
     rw[Addr.add_lit,Nat.zero_add,PN h2];simp only[List.getElem?_toArray];rw[Ir IX];exact hu
    simpa using this
  have hr:=run_append_grow_src (P:=P) w t tx tr ty i v ht hi hz o l.length cap (l.flatMap enc) hold x m.length (m.flatMap enc) hS yY Qo (by
   rw[hby];exact IC (Nat.mul_le_mul_right bytes BO6) hb)
  refine⟨_,_,_,hr,?_,?_,.inr rfl⟩
  ·have RX:=grownCap_ge w (l.length+m.length) cap ty;generalize grownCap w (l.length+m.length) cap ty=g at *;refine .inr ⟨w.heap.size,(Builtin.zeroCells v.cells (g-(l.length+m.length))).toList,rfl,rQ,?_,?_,by rw[Iq];exact RX⟩
   ·simp only[World.alloc];show (w.drew.heap.push _)[w.heap.size]? = _;have:w.drew.heap=w.heap:=rfl;rw[this,Array.getElem?_push_size,List.flatMap_append]
    congr 2
    apply Array.ext'
    simp
   ·have hvs:v.cells.size=i.size:=by
     have:=E.len zero;rw[<-hv] at this
     simpa using this
    rw[Iq,JF E.len,Iq];simp only[Builtin.zeroCells,Array.length_toList,Array.size_map,Array.size_range];rw[hvs,<-Nat.add_mul]
    congr 1
    omega
  ·exact((Q0.refl _ w).drew).alloc _
def zih{P:Program}{ts:Array TypeId}{t:TypeId}{cs:Array Bool}{args:Array Va}{w w':Wo}{v:Va}(h:(Builtin.append_ ts t args).run P w=.ok v w'):(builtin .append ts t cs args).run P w=.ok (.value v) w':=by
 simp only[builtin,Sem.run_bind,h,Result.andThen_ok,Sem.run_pure]
def zhl{α:Type}[Inhabited α]{P:Program}{enc:α->List Va}{z:Nat}{ty t:TypeId}{bytes:Nat}{zero:α}(E:zj2 P enc z ty bytes zero)(ht:P.underlying t=some (.slice ty)){base:Nat}{w:Wo}{o:OA}{cap:Nat}{l:List α}(hO:Jy enc z ty base w o cap l){x:α}{b:Nat}{t':TypeId}{fz:Nat×Nat}(hb:w.heap[b]? = some (.cells (enc x).toArray t' fz))(h1:Ze (enc x))(hby:(2*(l.length+1))*bytes<=281474976710656)(hn:l.length+1<=4194304)(tr:TypeId)(cs:Array Bool)(rQ:base<=w.heap.size) :
  ∃o' mH w',(builtin .append #[t,t] tr cs #[.slice o l.length cap,.slice (some ⟨b,0,none⟩) 1 1]).run P w=.ok (.value (.slice o' (l++[x]).length mH)) w'/\Jy enc z ty base w' o' mH (l++[x])/\Q0 (QE o) w w'/\(o'=o\/o'=some ⟨w.heap.size,0,none⟩):=by
 have hS:Src P z t (.slice (some ⟨b,0,none⟩) 1 1) [x].length ([x].flatMap enc) w:=by
  refine Src.ofSlice w ht ⟨b,0,none⟩ 1 1 _ (by simp[E.len]) (λj u hu=>?_) (λu hu=>?_)
  ·rw[Addr.add_lit,Nat.zero_add,PN hb]
   simpa using hu
  ·exact Ul h1 u (by simpa using hu)
 obtain⟨o',mH,w',h1,h2,h3,h4⟩:=ztc E ht hO hS (by simpa using hby) (by simpa using hn) tr rQ;exact⟨o',mH,w',zih (by simpa using h1),h2,h3,h4⟩
def zv9(x:MK):Ze (TY x):=rfl
def zwz(x:Pv):Ze (Ys x):=rfl
def zv7(x:Pe):Ze (K5 x):=rfl
def zv8(x:Int):Ze (Jk x):=rfl
def zwx(x:Bool):Ze (K4 x):=rfl
end Go.Proofs.YtjinkcmkgnofjaaGreat
