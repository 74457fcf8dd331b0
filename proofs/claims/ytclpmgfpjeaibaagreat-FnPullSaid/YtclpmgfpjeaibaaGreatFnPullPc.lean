/- Part 3 of what the law FnPull needs: the engine, the functions' propositions, the contracts. -/
import Derived.Test.YtclpmgfpjeaibaaGreatFnPullPb
namespace Go.Proofs.YtclpmgfpjeaibaaGreat
open Go.RowKit
set_option linter.unusedVariables false
set_option linter.unusedSimpArgs false
set_option maxHeartbeats 8000000
theorem znh{n:Nat}{S S':St}{sp:ZN}{w w' wr wr':Wo}{ds:List Nat}{a a':Act}(hs:Dk S sp ds)(hf:Td n S a)(hw:Z8 S w wr)(hwf:KJ S)(hf':Td n S' a')(hw':Z8 S' w' wr')(hfa:Ho ds a a')(hfr:Mc { S with lk:=Hh S sp } S'){xs ys zs:List Va}(hx:G2 S' sp.chg=some xs)(hy:MZ S' sp.chgL=some ys)(hz:ze6 S' S.L.length sp.newL=some zs)(hp:zfe S' S.L.length sp.newL.length sp.ptr=true) :
  ((S'.B.drop S.B.length).take sp.newL.length).length=sp.newL.length/\(∀b∈S.B++(S'.B.drop S.B.length).take sp.newL.length,b∈S'.B)/\
  Td n (Ha S sp (xs++ys) zs ((S'.B.drop S.B.length).take sp.newL.length)) a'/\KJ (Ha S sp (xs++ys) zs ((S'.B.drop S.B.length).take sp.newL.length))/\Mc S (Ha S sp (xs++ys) zs ((S'.B.drop S.B.length).take sp.newL.length))/\
  Z8 (Ha S sp (xs++ys) zs ((S'.B.drop S.B.length).take sp.newL.length)).aged wr' wr'/\(w'=w->S'.old=S.old->Z8 (Ha S sp (xs++ys) zs ((S'.B.drop S.B.length).take sp.newL.length)) w wr'):=by
 obtain⟨n1,n2,n3⟩:=ze7 hz;have hB:∀(id b:Nat),S.B[id]? = some b->S'.B[id]? = some b:=hfr.B;have hpre:=zpu hB;have hlenS:=hw.len;have hlenS':=hw'.len
 have hk:S.B.length+sp.newL.length<=S'.B.length:=by
  rcases Nat.eq_zero_or_pos sp.newL.length with h0 | h0
  ·have:S.B.length<=S'.B.length:=by
    have:=congrArg List.length hpre;rw[List.length_take] at this;omega
   omega
  ·have:=n2 (sp.newL.length-1) (by omega);omega
 have hbl:((S'.B.drop S.B.length).take sp.newL.length).length=sp.newL.length:=by rw[List.length_take,List.length_drop]; omega
 have hGB:S.B++(S'.B.drop S.B.length).take sp.newL.length=S'.B.take (S.B.length+sp.newL.length):=by
  rw[List.take_add,hpre]
 have hGget:∀(id b:Nat),id<S.B.length+sp.newL.length->S'.B[id]? = some b->(S.B++(S'.B.drop S.B.length).take sp.newL.length)[id]? = some b:=fun id b hid hb=>by
  rw[hGB,List.getElem?_take,if_pos hid]; exact hb
 have hGback:∀(id b:Nat),(S.B++(S'.B.drop S.B.length).take sp.newL.length)[id]? = some b->S'.B[id]? = some b:=fun id b hb=>by
  rw[hGB,List.getElem?_take] at hb
  split at hb
  ·exact hb
  ·cases hb
 obtain⟨t1,t2⟩:=MX (L:=S.L) hs.nd hy hfr.ty;have hlk:∀id,id<S.L.length->id∉sp.chgL.map (·.1)->S'.L[id]? = S.L[id]? := fun id hid hm=>(hfr.lk id (P5.2 ⟨hid,hm⟩)).2
 have hxl:=(Uf hx).1;obtain⟨g1,g2⟩:=CY hs hw hw' hB hfr.ty hlk hxl hy;have hhf:=CX (ys:=ys) hs hf hf' hfa hx;have hdr:(xs++ys).drop sp.chg.length=ys:=by rw[<-hxl]; exact List.drop_left
 have hL:(Yl S sp (xs++ys)).L=UI S.L sp.chgL ys:=by simp only[Yl,hdr]
 have hpp:=zlx hp
 have hfit:Td n (Ha S sp (xs++ys) zs ((S'.B.drop S.B.length).take sp.newL.length)) a':=by
  have hmono:∀(id b:Nat),(Yl S sp (xs++ys)).B[id]? = some b->(Ha S sp (xs++ys) zs ((S'.B.drop S.B.length).take sp.newL.length)).B[id]? = some b:=fun id b hb=>by
   have hb':S.B[id]? = some b:=hb;exact hGget id b (by have:=(List.getElem?_eq_some_iff.1 hb').1; omega) (hB id b hb')
  refine⟨hhf.size,fun i x h=>?_,fun i r pc x h=>?_⟩
  ·rcases Bq (fun p hp=>(hpp p hp).1) h with ⟨j,h1,h2⟩ | h1
   ·obtain⟨_,hj,hF⟩:=hpp (i,j) h1;have hd:=hf'.fits i _ hF;cases h2;obtain⟨b,hb,hv⟩:=hd;exact⟨b,hGget _ _ (by simp only at hj; omega) hb,hv⟩
   ·exact EV.den_mono (S:=Yl S sp (xs++ys)) hmono (hhf.fits i x h1)
  ·rcases Bq (fun p hp=>(hpp p hp).1) h with ⟨j,h1,h2⟩ | h1
   ·cases h2
   ·exact hhf.old i r pc x h1
 have hloc:∀(id:Nat) (t:TypeId) (cs:List Va),((Yl S sp (xs++ys)).L++LF sp.newL zs)[id]? = some (t,cs)->∃b,(S.B++(S'.B.drop S.B.length).take sp.newL.length)[id]? = some b/\wr'.heap[b]? = some (Obj.cells cs.toArray t (0,0)):=fun id t cs hc=>by
  by_cases hid:id<S.L.length
  ·rw[List.getElem?_append_left (by rw[g1]; exact hid)] at hc;obtain⟨b,h1,h2⟩:=g2 id t cs hc;exact⟨b,hGget id b (by omega) (hB id b h1),h2⟩
  ·rw[List.getElem?_append_right (by rw[g1]; omega),g1,n3] at hc
   split at hc
   ·rename_i hlt;have e:S.L.length+(id-S.L.length)=id:=by omega
    rw[e] at hc;obtain⟨b,h1,h2⟩:=hw'.loc id t cs hc;exact⟨b,hGget id b (by omega) h1,h2⟩
   ·cases hc
 have hlen:((Yl S sp (xs++ys)).L++LF sp.newL zs).length=(S.B++(S'.B.drop S.B.length).take sp.newL.length).length:=by
  rw[List.length_append,List.length_append,g1,n1,hbl,hlenS]
 have hnd:(S.B++(S'.B.drop S.B.length).take sp.newL.length).Nodup:=by
  rw[hGB]; exact hw'.dist.sublist (List.take_sublist _ _)
 refine⟨hbl,fun b hb=>by rw[hGB] at hb; exact List.mem_of_mem_take hb,hfit,⟨?_,fun id hid=>?_⟩,⟨fun id b hb=>?_,fun id t cs hc=>?_,fun id hid=>⟨hid,?_⟩⟩,⟨?_,hloc,hlen,hnd,fun id b hid hb=>?_⟩,fun e1 e2=>⟨?_,hloc,hlen,hnd,fun id b hid hb=>?_⟩⟩
 ·show S.old<=(S.B++(S'.B.drop S.B.length).take sp.newL.length).length;have:=hwf.old;rw[List.length_append]; omega
 ·show id<((Yl S sp (xs++ys)).L++LF sp.newL zs).length;have:=hwf.lk id hid;rw[List.length_append,g1]; omega
 ·exact hGget id b (by have:=(List.getElem?_eq_some_iff.1 hb).1; omega) (hB id b hb)
 ·have hid:id<S.L.length:=(List.getElem?_eq_some_iff.1 hc).1;obtain⟨u1,u2⟩:(∀(id:Nat) (t:TypeId) (cs:List Va),id∈sp.chgL.map (·.1)->(UI S.L sp.chgL ys)[id]? = some (t,cs)->S'.L[id]? = some (t,cs))/\True:=⟨t2.2,trivial⟩;have hlt:id<(UI S.L sp.chgL ys).length:=by rw[t1]; exact hid
  have hg:(UI S.L sp.chgL ys)[id]? = some (((UI S.L sp.chgL ys)[id]).1,((UI S.L sp.chgL ys)[id]).2):=List.getElem?_eq_getElem hlt;show ∃cs',((Yl S sp (xs++ys)).L++LF sp.newL zs)[id]? = some (t,cs');rw[List.getElem?_append_left (by rw[g1]; exact hid),hL]
  by_cases hm:id∈sp.chgL.map (·.1)
  ·have h4:=u1 id _ _ hm hg;obtain⟨cs',h5⟩:=hfr.ty id t cs hc;rw[h5] at h4;simp only[Option.some.injEq,Prod.mk.injEq] at h4;exact⟨((UI S.L sp.chgL ys)[id]).2,by rw[hg,<-h4.1]⟩
  ·exact⟨cs,by rw[t2.1 id hm]; exact hc⟩
 ·have hlt:=hwf.lk id hid;show ((Yl S sp (xs++ys)).L++LF sp.newL zs)[id]? = S.L[id]?;rw[List.getElem?_append_left (by rw[g1]; exact hlt),hL,t2.1 id fun hm=>hs.chgL id hm hid]
 ·exact Q0.refl _ _
 ·have h1:id<(S.B++(S'.B.drop S.B.length).take sp.newL.length).length:=(List.getElem?_eq_some_iff.1 hb).1;have h2:(S.B++(S'.B.drop S.B.length).take sp.newL.length).length<=id:=hid;omega
 ·have hbs:(Ha S sp (xs++ys) zs ((S'.B.drop S.B.length).take sp.newL.length)).bs=S'.bs:=by
   show (S.B++(S'.B.drop S.B.length).take sp.newL.length).take S.old=S'.B.take S'.old;rw[e2];have h1:=hwf.old;rw[hGB,List.take_take,Nat.min_eq_left (by omega)]
  rw[hbs,<-e1]; exact hw'.ext
 ·have h1:S'.B[id]? = some b:=hGback id b hb;have:=hw'.fresh id b (by rw[e2]; exact hid) h1;rw[e1] at this;exact this
structure ztk (C:U3) (S:St) (w:Wo) (ds:List Nat) (a:Act) (sp:ZN) (vs:List Va) (w1:Wo) (a':Act) (wr':Wo):Prop where
 fit:Td C.n (Yl S sp vs) a'
 rel:Z8 (Yl S sp vs) w1 wr'
 wf:KJ (Yl S sp vs)
 fra:Ho ds a a'
theorem CZ{S S':St}{sp:ZN}(hnd:(sp.chgL.map (·.1)).Nodup)(hty:∀(id:Nat) (t:TypeId) (cs:List Va),S.L[id]? = some (t,cs)->∃cs',S'.L[id]? = some (t,cs')){xs ys:List Va}(hxl:xs.length=sp.chg.length)(hy:MZ S' sp.chgL=some ys) :
  (∀(id:Nat) (t:TypeId) (cs:List Va),S.L[id]? = some (t,cs)->∃cs',(Yl S sp (xs++ys)).L[id]? = some (t,cs'))/\(∀id,id∉sp.chgL.map (·.1)->(Yl S sp (xs++ys)).L[id]? = S.L[id]?):=by
 have hdr:(xs++ys).drop sp.chg.length=ys:=by rw[<-hxl]; exact List.drop_left
 obtain⟨h1,h2,h3⟩:=MX (L:=S.L) hnd hy hty;have hL:(Yl S sp (xs++ys)).L=UI S.L sp.chgL ys:=by simp only[Yl,hdr]
 rw[hL];refine⟨fun id t cs hc=>?_,h2⟩;have hid:id<(UI S.L sp.chgL ys).length:=by rw[h1]; exact(List.getElem?_eq_some_iff.1 hc).1
 by_cases hm:id∈sp.chgL.map (·.1)
 ·have hg:(UI S.L sp.chgL ys)[id]? = some (((UI S.L sp.chgL ys)[id]).1,((UI S.L sp.chgL ys)[id]).2):=List.getElem?_eq_getElem hid;have h4:=h3 id _ _ hm hg;obtain⟨cs',h5⟩:=hty id t cs hc;rw[h5] at h4;simp only[Option.some.injEq,Prod.mk.injEq] at h4;exact⟨((UI S.L sp.chgL ys)[id]).2,by rw[hg,<-h4.1]⟩
 ·exact⟨cs,by rw[h2 id hm]; exact hc⟩
theorem El{n:Nat}{S:St}{a:Act}(hf:Td n S a){x:Operand}{e:EV}(hb:zb0 S [] x=some e):EV.den S e (a.eval x):=by
 have:=ZM (ops:=#[]) (hf.enter #[] (fun _=>False)).fit (pc:=[]) (fun p hp=>by cases hp) (S:={ S with r:=S.r+1 }) (x:=x) (e:=e) (by
  cases x with
  | tmp t=>
   simp only[zb0] at hb ⊢
   split at hb
   ·exact hb
   ·rename_i r pc' y hg
    cases hb2:Nat.beq r S.r&&za7 pc' [] with
    | false=>rw[hb2] at hb; cases hb
    | true=>
     simp only[Bool.and_eq_true] at hb2;have:=Nat.eq_of_beq_eq_true hb2.1;have h2:=hf.old t r pc' y hg;omega
   ·cases hb
  | const v=>exact hb
  | global g=>exact hb
  | func f=>exact hb)
 exact EV.den_mono (S:={ S with r:=S.r+1 }) (fun _ _ h=>h) this
theorem zhz(S:St)(c:Operand)(x:Bool):(setB S c x).L=S.L/\(setB S c x).B=S.B/\(setB S c x).old=S.old/\(setB S c x).lk=S.lk/\(setB S c x).r=S.r:=by
 unfold setB;split
 ·cases Nat.blt _ 4000 <;> exact⟨rfl,rfl,rfl,rfl,rfl⟩
 ·exact⟨rfl,rfl,rfl,rfl,rfl⟩
theorem Td.setB{n:Nat}{S:St}{a:Act}(hf:Td n S a){c:Operand}{x:Bool}(hc:a.eval c=.bool x):Td n (setB S c x) a:=by
 unfold YtclpmgfpjeaibaaGreat.setB;split
 ·rename_i t
  cases hl:Nat.blt t 4000 with
  | false=>exact hf
  | true=>
   have hlt:t<4000:=Nat.le_of_ble_eq_true hl;have hg:∀i,(PT.set 12 S.F t (.un (.kb x))).get i=if t=i then some (.un (.kb x)) else S.F.get i:=fun i=>PT.get_set _ 12 S.F t i (by have h1 : @LT.lt Nat _ t 4000:=hlt; show @LT.lt Nat _ (t+1) (2 ^ 12); omega)
   refine⟨hf.size,fun i y hy=>?_,fun i r pc y hy=>?_⟩
   ·have hy:(PT.set 12 S.F t (.un (.kb x))).get i=some (.un y):=hy;rw[hg i] at hy
    by_cases hti:t=i
    ·subst hti;rw[if_pos rfl] at hy;simp only[Option.some.injEq,SV.un.injEq] at hy;subst hy;exact hc
    ·rw[if_neg hti] at hy;exact EV.den_mono (S:=S) (fun _ _ h=>h) (hf.fits i y hy)
   ·have hy:(PT.set 12 S.F t (.un (.kb x))).get i=some (.gd r pc y):=hy;rw[hg i] at hy
    by_cases hti:t=i
    ·rw[if_pos hti] at hy; cases hy
    ·rw[if_neg hti] at hy; exact hf.old i r pc y hy
 ·exact hf
theorem zj6{S:St}{w wr:Wo}{c:Operand}{x:Bool}(h:Z8 S w wr):Z8 (setB S c x) w wr:=by
 obtain⟨h1,h2,h3,h4,h5⟩:=zhz S c x;refine⟨?_,?_,?_,?_,?_⟩
 ·unfold St.bs; rw[h2,h3]; exact h.ext
 ·rw[h1,h2]; exact h.loc
 ·rw[h1,h2]; exact h.len
 ·rw[h2]; exact h.dist
 ·rw[h2,h3]; exact h.fresh
theorem zn2{S:St}{c:Operand}{x:Bool}(h:KJ S):KJ (setB S c x):=by
 obtain⟨h1,h2,h3,h4,h5⟩:=zhz S c x;exact⟨by rw[h2,h3]; exact h.old,by rw[h1,h4]; exact h.lk⟩
theorem zj5{C:U3}{S:St}{w:Wo}{ds:List Nat}{a:Act}{S':St}{w':Wo}{a':Act}{wr':Wo}{c:Operand}{x:Bool}(h:P6 C (setB S c x) w ds a S' w' a' wr'):P6 C S w ds a S' w' a' wr':=by
 obtain⟨h1,h2,h3,h4,h5⟩:=zhz S c x;refine⟨h.fit,h.rel,h.wf,⟨?_,?_,?_⟩,h.fra,?_⟩
 ·have:=h.fr.B; rw[h2] at this; exact this
 ·have:=h.fr.ty; rw[h1] at this; exact this
 ·have:=h.fr.lk; rw[h1,h4] at this; exact this
 ·have:=h.pm; rw[h3] at this; exact this
theorem Y0{C:U3}(E:zmp C){sps:List (Nat×ZN)}:∀(c:Code) (S:St) (w wr:Wo) (a:Act) (K:Exit->St->Wo->Prop) (Q:Exit->Act->Wo->Prop),Fv C sps c S w K->Td C.n S a->Z8 S w wr->KJ S->
  (∀e S' w' a' wr',K e S' w'->P6 C S w (YQ c) a S' w' a' wr'->Q e a' wr')->c.wpIn (VC C.rd) 0 C.P Q a wr
 | .skip,S,w,wr,a,K,Q,h,hf,hw,hwf,hQ=>wpIn_skip (hQ _ _ _ _ _ h (P6.refl _ hf hw hwf))
 | .label _,S,w,wr,a,K,Q,h,hf,hw,hwf,hQ=>wpIn_label (hQ _ _ _ _ _ h (P6.refl _ hf hw hwf))
 | .exit _,S,w,wr,a,K,Q,h,hf,hw,hwf,hQ=>wpIn_exit (hQ _ _ _ _ _ h (P6.refl _ hf hw hwf))
 | .ret,S,w,wr,a,K,Q,h,hf,hw,hwf,hQ=>wpIn_ret (hQ _ _ _ _ _ h (P6.refl _ hf hw hwf))
 | .region _ ops d,S,w,wr,a,K,Q,h,hf,hw,hwf,hQ=>zit E h hf hw hwf fun S' w' a' wr' hK he=>hQ _ _ _ _ _ hK he
 | .seq x y,S,w,wr,a,K,Q,h,hf,hw,hwf,hQ=>by
  have sub1:∀z∈YQ x,z∈YQ (.seq x y):=fun z hz=>List.mem_append_left _ hz
  have sub2:∀z∈YQ y,z∈YQ (.seq x y):=fun z hz=>List.mem_append_right _ hz
  simp only[Fv] at h
  split at h
  ·refine wpIn_seq (Y0 E x S w wr a _ _ h hf hw hwf fun e S' w' a' wr' hK he=>?_)
   cases e with
   | normal=>exact Y0 E y S' w' wr' a' _ _ hK he.fit he.rel he.wf fun e2 S2 w2 a2 wr2 hK2 he2=>hQ _ _ _ _ _ hK2 (he.trans he2 sub1 sub2)
   | _=>exact hQ _ _ _ _ _ hK (he.mono sub1)
  ·rename_i sp _
   cases hok:zp1 S sp (YQ x) with
   | false=>rw[hok] at h; exact h.elim
   | true=>
    rw[hok] at h;simp only[cond_true] at h;have hs:=zbj hok;have hf0:Td C.n { S with lk:=Hh S sp } a:=⟨hf.size,hf.fits,hf.old⟩;have hw0:Z8 { S with lk:=Hh S sp } w wr:=⟨hw.ext,hw.loc,hw.len,hw.dist,hw.fresh⟩;have hwf0:KJ { S with lk:=Hh S sp }:=⟨hwf.old,fun id hid=>(P5.1 hid).1⟩
    have out:∀{S':St} {w':Wo} {a':Act} {wr':Wo},P6 C { S with lk:=Hh S sp } w (YQ x) a S' w' a' wr'->P6 C S w (YQ (.seq x y)) a { S' with lk:=S.lk } w' a' wr':=fun {S' w' a' wr'} he=>by
     have f1:Mc S { S' with lk:=S.lk }:=⟨he.fr.B,he.fr.ty,fun id hid=>⟨hid,(he.fr.lk id (P5.2 ⟨hwf.lk id hid,fun hm=>hs.chgL id hm hid⟩)).2⟩⟩
     exact⟨⟨he.fit.size,he.fit.fits,he.fit.old⟩,⟨he.rel.ext,he.rel.loc,he.rel.len,he.rel.dist,he.rel.fresh⟩,⟨he.wf.old,fun id hid=>by
      obtain⟨cs',hc'⟩:=f1.ty id (S.L[id]'(hwf.lk id hid)).1 (S.L[id]'(hwf.lk id hid)).2 (List.getElem?_eq_getElem _);exact(List.getElem?_eq_some_iff.1 hc').1⟩,f1,he.fra.mono sub1,he.pm⟩
    cases hpm:C.pm with
    | true=>
     rw[hpm] at h;simp only[cond_true] at h;obtain⟨Mid,h1,h2⟩:=h;refine wpIn_seq (Y0 E x _ w wr a _ _ h1 hf0 hw0 hwf0 fun e S' w' a' wr' hK he=>?_)
     cases e with
     | normal=>
      obtain⟨xs,ys,zs,g1,g2,g3,g4,g5,g6,g7⟩:=zey hK;obtain⟨j1,j2,j3,j4,j5,j6,j7⟩:=znh hs hf hw hwf he.fit he.rel he.fra he.fr g1 g2 g3 g6;obtain⟨p1,p2⟩:=he.pm hpm;refine Y0 E y _ w wr' a' _ _ (Fg (Tn (Tn h2 g4) g5) j1 g7) j3 (j7 p1 p2) j4 fun e2 S2 w2 a2 wr2 hK2 he2=>hQ _ _ _ _ _ hK2 ⟨he2.fit,he2.rel,he2.wf,j5.trans he2.fr,(he.fra.mono sub1).trans (he2.fra.mono sub2),fun hp=>he2.pm hp⟩
     | _=>exact hQ _ _ _ _ _ hK (out he)
    | false=>
     rw[hpm] at h;simp only[cond_false] at h;obtain⟨Mid,h1,h2⟩:=h;refine wpIn_seq (Y0 E x _ w wr a _ _ h1 hf0 hw0 hwf0 fun e S' w' a' wr' hK he=>?_)
     cases e with
     | normal=>
      obtain⟨xs,ys,zs,g1,g2,g3,g4,g5,g6,g7⟩:=zey (hK wr' he.rel.ext he.rel.lt);obtain⟨j1,j2,j3,j4,j5,j6,j7⟩:=znh hs hf hw hwf he.fit he.rel he.fra he.fr g1 g2 g3 g6;refine Y0 E y _ wr' wr' a' _ _ (Fg (Tn (Tn h2 g4) g5) j1 wr' (fun b hb=>he.rel.lt b (j2 b hb)) g7) ⟨j3.size,j3.fits,j3.old⟩ j6 ⟨Nat.le_refl _,j4.lk⟩ fun e2 S2 w2 a2 wr2 hK2 he2=>hQ _ _ _ _ _ hK2 ⟨he2.fit,he2.rel,he2.wf,j5.trans ⟨he2.fr.B,he2.fr.ty,he2.fr.lk⟩,(he.fra.mono sub1).trans (he2.fra.mono sub2),fun hp=>by rw[hpm] at hp; cases hp⟩
     | _=>exact hQ _ _ _ _ _ hK (out he)
 | .cond c x y,S,w,wr,a,K,Q,h,hf,hw,hwf,hQ=>by
  simp only[Fv] at h
  split at h
  ·rename_i hb;have hc:a.eval c=.bool true:=El hf hb;refine wpIn_cond_split hc (fun hb=>?_) (fun hb=>by cases hb);exact Y0 E x S w wr a _ _ h hf hw hwf fun e S' w' a' wr' hK he=>hQ _ _ _ _ _ hK (he.mono fun z hz=>List.mem_append_left _ hz)
  ·rename_i hb;have hc:a.eval c=.bool false:=El hf hb;refine wpIn_cond_split hc (fun hb=>by cases hb) (fun hb=>?_);exact Y0 E y S w wr a _ _ h hf hw hwf fun e S' w' a' wr' hK he=>hQ _ _ _ _ _ hK (he.mono fun z hz=>List.mem_append_right _ hz)
  ·rename_i b hb;have hc:a.eval c=.bool b:=El hf hb;refine wpIn_cond_split hc (fun hb=>?_) (fun hb=>?_)
   ·subst hb;exact Y0 E x (setB S c true) w wr a _ _ (h.1 rfl) (hf.setB hc) (zj6 hw) (zn2 hwf) fun e S' w' a' wr' hK he=>hQ _ _ _ _ _ hK ((zj5 he).mono fun z hz=>List.mem_append_left _ hz)
   ·subst hb;exact Y0 E y (setB S c false) w wr a _ _ (h.2 rfl) (hf.setB hc) (zj6 hw) (zn2 hwf) fun e S' w' a' wr' hK he=>hQ _ _ _ _ _ hK ((zj5 he).mono fun z hz=>List.mem_append_right _ hz)
  ·exact h.elim
 | .scope b,S,w,wr,a,K,Q,h,hf,hw,hwf,hQ=>by
  refine H1 (Y0 E b S w wr a _ _ h hf hw hwf fun e S' w' a' wr' hK he=>?_)
  cases e with
  | goto l=>exact hK.elim
  | _=>exact hQ _ _ _ _ _ hK he
 | .block id b,S,w,wr,a,K,Q,h,hf,hw,hwf,hQ=>by
  refine wpIn_block (Y0 E b S w wr a _ _ h hf hw hwf fun e S' w' a' wr' hK he=>?_)
  cases e with
  | exit id'=>
   simp only[Exit.inBlock]
   dsimp only at hK
   cases hb:Nat.beq id' id with
   | true=>
    rw[hb] at hK;rw[if_pos (Nat.eq_of_beq_eq_true hb)];exact hQ _ _ _ _ _ hK he
   | false=>
    rw[hb] at hK;rw[if_neg (fun e=>by rw[e,Nat.beq_refl] at hb; cases hb)];exact hQ _ _ _ _ _ hK he
  | _=>exact hQ _ _ _ _ _ hK he
 | .loop b,S,w,wr,a,K,Q,h,hf,hw,hwf,hQ=>by
  simp only[Fv] at h
  split at h
  ·exact h.elim
  ·rename_i key hkey
   split at h
   ·exact h.elim
   ·rename_i sp hsp
    cases hok:zp1 S sp (YQ b) with
    | false=>rw[hok] at h; exact h.elim
    | true=>
     rw[hok] at h;simp only[cond_true] at h;have hs:=zbj hok
     cases hpm:C.pm with
     | true=>
      rw[hpm] at h;simp only[cond_true] at h;obtain⟨J5,μ,hinit,hall⟩:=h
      have mk:∀(S':St) (a':Act) (wr':Wo) (xs ys:List Va),Td C.n S' a'->Z8 S' w wr'->S'.old=S.old->Ho (YQ b) a a'->(∀(id b:Nat),S.B[id]? = some b->S'.B[id]? = some b)->
        (∀(id:Nat) (t:TypeId) (cs:List Va),S.L[id]? = some (t,cs)->∃cs',S'.L[id]? = some (t,cs'))->(∀id,id<S.L.length->id∉sp.chgL.map (·.1)->S'.L[id]? = S.L[id]?)->
        G2 S' sp.chg=some xs->MZ S' sp.chgL=some ys->ztk C S w (YQ b) a sp (xs++ys) w a' wr':=by
       intro S' a' wr' xs ys h1 h2 h3 h4 h5 h6 h7 h8 h9;obtain⟨g1,g2⟩:=CY hs hw h2 h5 h6 h7 (Uf h8).1 h9;refine⟨CX hs hf h1 h4 h8,⟨?_,g2,by rw[g1]; exact hw.len,hw.dist,hw.fresh⟩,⟨hwf.old,fun id hid=>by rw[g1]; exact(P5.1 hid).1⟩,h4⟩;have hbs:S'.bs=S.bs:=by unfold St.bs; rw[h3]; exact zfs hwf.old h5
       have:=h2.ext;rw[hbs] at this;exact this
      obtain⟨xs,ys,hx,hy,hk,hI⟩:=MI hinit
      refine EN (fun n a' wr'=>∃xs ys S',μ (xs++ys)=n/\J5 (xs++ys)/\JF sp.ks (xs++ys)=true/\xs.length=sp.chg.length/\MZ S' sp.chgL=some ys/\(∀(id:Nat) (t:TypeId) (cs:List Va),S.L[id]? = some (t,cs)->∃cs',S'.L[id]? = some (t,cs'))/\ztk C S w (YQ b) a sp (xs++ys) w a' wr')
       (m:=μ (xs++ys)) ⟨xs,ys,S,rfl,hI,hk,(Uf hx).1,hy,fun _ _ cs h=>⟨cs,h⟩,mk S a wr xs ys hf hw rfl (Ho.refl _ _) (fun _ _ h=>h) (fun _ _ cs h=>⟨cs,h⟩) (fun _ _ _=>rfl) hx hy⟩ ?_
      rintro n a' wr' ⟨xs,ys,S',rfl,hI,hk,hxl,hyl,hty,hH⟩;obtain⟨t1,t2⟩:=CZ hs.nd hty hxl hyl
      have hlen:(Yl S sp (xs++ys)).L.length=S.L.length:=by
       have:=hH.rel.len;rw[this]; exact hw.len.symm
      refine Y0 E b _ w wr' a' _ _ (Tn hall hk hI) hH.fit hH.rel hH.wf fun e S2 w2 a2 wr2 hK he=>?_
      obtain⟨f1,f2⟩:=zi8 hs hwf hlen t1 t2 he.fr;obtain⟨p1,p2⟩:=he.pm hpm;subst p1
      cases e with
      | normal=>
       obtain⟨xs',ys',hx',hy',hk',hI',hlt⟩:=MI hK;refine⟨μ (xs'++ys'),hlt,xs',ys',S2,rfl,hI',hk',(Uf hx').1,hy',f1.ty,?_⟩;exact mk S2 a2 wr2 xs' ys' he.fit he.rel p2 (hH.fra.trans he.fra) f1.B f1.ty f2 hx' hy'
      | _=>
       exact hQ _ _ _ _ _ hK ⟨⟨he.fit.size,he.fit.fits,he.fit.old⟩,⟨he.rel.ext,he.rel.loc,he.rel.len,he.rel.dist,he.rel.fresh⟩,
        ⟨he.wf.old,fun id hid=>by
         obtain⟨cs',hc'⟩:=f1.ty id (S.L[id]'(hwf.lk id hid)).1 (S.L[id]'(hwf.lk id hid)).2 (List.getElem?_eq_getElem _);exact(List.getElem?_eq_some_iff.1 hc').1⟩,f1,hH.fra.trans he.fra,fun _=>⟨rfl,p2⟩⟩
     | false=>
      rw[hpm] at h;simp only[cond_false] at h;obtain⟨J5,μ,hinit,hall⟩:=h
      have mk:∀(S':St) (w':Wo) (a':Act) (wr':Wo) (xs ys:List Va),Td C.n S' a'->Z8 S' w' wr'->Ho (YQ b) a a'->(∀(id b:Nat),S.B[id]? = some b->S'.B[id]? = some b)->
        (∀(id:Nat) (t:TypeId) (cs:List Va),S.L[id]? = some (t,cs)->∃cs',S'.L[id]? = some (t,cs'))->(∀id,id<S.L.length->id∉sp.chgL.map (·.1)->S'.L[id]? = S.L[id]?)->
        G2 S' sp.chg=some xs->MZ S' sp.chgL=some ys->ztk C S.aged wr' (YQ b) a sp (xs++ys) wr' a' wr':=by
       intro S' w' a' wr' xs ys h1 h2 h4 h5 h6 h7 h8 h9;obtain⟨g1,g2⟩:=CY hs hw h2 h5 h6 h7 (Uf h8).1 h9;have hf1:=CX (ys:=ys) hs hf h1 h4 h8;refine⟨⟨hf1.size,hf1.fits,hf1.old⟩,⟨Q0.refl _ _,g2,by show (Yl S sp (xs++ys)).L.length=_; rw[g1]; exact hw.len,hw.dist,fun id b hid hb=>?_⟩,⟨Nat.le_refl _,fun id hid=>by show id<(Yl S sp (xs++ys)).L.length; rw[g1]; exact(P5.1 hid).1⟩,h4⟩;have:id<S.B.length:=(List.getElem?_eq_some_iff.1 hb).1;have hid':S.B.length<=id:=hid;omega
      obtain⟨xs,ys,hx,hy,hk,hI⟩:=MI (hinit wr hw.ext hw.lt)
      refine EN (fun n a' wr'=>∃xs ys S',μ (xs++ys) wr'=n/\J5 (xs++ys) wr'/\JF sp.ks (xs++ys)=true/\xs.length=sp.chg.length/\MZ S' sp.chgL=some ys/\(∀(id:Nat) (t:TypeId) (cs:List Va),S.L[id]? = some (t,cs)->∃cs',S'.L[id]? = some (t,cs'))/\ztk C S.aged wr' (YQ b) a sp (xs++ys) wr' a' wr')
       (m:=μ (xs++ys) wr) ⟨xs,ys,S,rfl,hI,hk,(Uf hx).1,hy,fun _ _ cs h=>⟨cs,h⟩,mk S w a wr xs ys hf hw (Ho.refl _ _) (fun _ _ h=>h) (fun _ _ cs h=>⟨cs,h⟩) (fun _ _ _=>rfl) hx hy⟩ ?_
      rintro n a' wr' ⟨xs,ys,S',rfl,hI,hk,hxl,hyl,hty,hH⟩;obtain⟨t1,t2⟩:=CZ hs.nd hty hxl hyl
      have hlen:(Yl S sp (xs++ys)).L.length=S.L.length:=by
       have:(Yl S.aged sp (xs++ys)).L.length=S.B.length:=hH.rel.len;rw[<-hw.len] at this;exact this
      refine Y0 E b _ wr' wr' a' _ _ (Tn hall hk wr' hH.rel.lt hI) hH.fit hH.rel hH.wf fun e S2 w2 a2 wr2 hK he=>?_
      have hfr':Mc (Yl S sp (xs++ys)) S2:=⟨he.fr.B,he.fr.ty,he.fr.lk⟩;obtain⟨f1,f2⟩:=zi8 hs hwf hlen t1 t2 hfr'
      cases e with
      | normal=>
       obtain⟨xs',ys',hx',hy',hk',hI',hlt⟩:=MI (hK wr2 he.rel.ext he.rel.lt);refine⟨μ (xs'++ys') wr2,hlt,xs',ys',S2,rfl,hI',hk',(Uf hx').1,hy',f1.ty,?_⟩;exact mk S2 w2 a2 wr2 xs' ys' he.fit he.rel (hH.fra.trans he.fra) f1.B f1.ty f2 hx' hy'
      | _=>
       exact hQ _ _ _ _ _ hK ⟨⟨he.fit.size,he.fit.fits,he.fit.old⟩,⟨he.rel.ext,he.rel.loc,he.rel.len,he.rel.dist,he.rel.fresh⟩,
        ⟨he.wf.old,fun id hid=>by
         obtain⟨cs',hc'⟩:=f1.ty id (S.L[id]'(hwf.lk id hid)).1 (S.L[id]'(hwf.lk id hid)).2 (List.getElem?_eq_getElem _);exact(List.getElem?_eq_some_iff.1 hc').1⟩,f1,hH.fra.trans he.fra,fun hp=>by rw[hpm] at hp; cases hp⟩
 | .rangeFunc _ _ _ _,_,_,_,_,_,_,h,_,_,_,_=>h.elim
 | .goto _,_,_,_,_,_,_,h,_,_,_,_=>h.elim
 | .refuse _,_,_,_,_,_,_,h,_,_,_,_=>h.elim
def zja:List Va->Nat->PT SV
 | [],_=>.leaf
 | v::r,i=>PT.set 12 (zja r (i+1)) i (.un (.v v))
theorem zew:∀{l:List Va} {k i:Nat} {sv:SV},k+l.length<=4000->(zja l k).get i=some sv->∃v,l[i-k]? = some v/\k<=i/\sv=.un (.v v)
 | [],k,i,sv,_,h=>by simp[zja,PT.get] at h
 | v::r,k,i,sv,hl,h=>by
  simp only[zja] at h;simp only[List.length_cons] at hl;rw[PT.get_set _ 12 _ _ _ (by show @LT.lt Nat _ (k+1) (2 ^ 12); have e:(2:Nat) ^ 12=4096:=rfl; omega)] at h
  by_cases hk:k=i
  ·subst hk;rw[if_pos rfl] at h;simp only[Option.some.injEq] at h;exact⟨v,by simp,Nat.le_refl _,h.symm⟩
  ·rw[if_neg hk] at h;obtain⟨u,h1,h2,h3⟩:=zew (by omega) h;refine⟨u,?_,by omega,h3⟩;have:i-k=(i-(k+1))+1:=by omega
   rw[this]; simpa using h1
def HP(args:List Va):St:={ F:=zja args 0,L:=[],B:=[],old:=0,lk:=[],r:=1 }
def zjz(C:U3)(S:St)(w:Wo):List ResultVar->(List Va->Prop)->Prop
 | [],K=>K []
 | .tmp t::r,K=>match LI S [] (.tmp t) with
  | some v=>zjz C S w r fun l=>K (v::l)
  | none=>False
 | .cell p t::r,K=>match C.T t,zb0 S [] (.tmp p) with
  | some ty,some (.loc id 0)=>match S.L[id]? with
   | some (_,cs)=>bif Nat.beq cs.length ty.ks.length then
     (match ty.val cs with
      | some v=>zjz C S w r fun l=>K (v::l)
      | none=>False)
    else False
   | none=>False
  | some ty,some (.el o n)=>ziv ty.ks fun vs=>match ty.val vs with
   | some v=>Q2 S.bs w o n vs/\zjz C S w r fun l=>K (v::l)
   | none=>False
  | _,_=>False
def zmi:List Va->Va
 | [v]=>v
 | l=>.tuple l.toArray
def zq4(C:U3)(sps:List (Nat×ZN))(args:List Va)(body:Code)(res:List ResultVar)(w:Wo)(R:Va->Wo->Prop):Prop:=
 Fv C sps body (HP args) w fun e S w'=>match e with
  | .normal | .ret=>zjz C S w' res fun l=>bif C.pm then R (zmi l) w' else ∀wr,Q0 S.bs w' wr->R (zmi l) wr
  | _=>False
theorem zsk{C:U3}(E:zmp C){S:St}{w wr:Wo}{a:Act}(hf:Td C.n S a)(hw:Z8 S w wr):∀{res:List ResultVar} {K:List Va->Prop},zjz C S w res K->
  ∃l,K l/\l.length=res.length/\(res.mapM (m:=Sem) fun
   | .tmp t=>pure (a.tmps.getD t undef)
   | .cell p t=>do loadVar t (<-asAddr (a.tmps.getD p undef))).run C.P wr=.ok l wr:=by
 have hd:∀{x:Operand} {e:EV},zb0 S [] x=some e->EV.den S e (a.eval x):=fun {x e} hb=>by
  have:=ZM (ops:=#[]) (hf.enter #[] (fun _=>False)).fit (pc:=[]) (fun p hp=>by cases hp) (S:={ S with r:=S.r+1 }) (x:=x) (e:=e) (by
   cases x with
   | tmp t=>
    simp only[zb0] at hb ⊢
    split at hb
    ·exact hb
    ·rename_i r pc' y hg
     cases hb2:Nat.beq r S.r&&za7 pc' [] with
     | false=>rw[hb2] at hb; cases hb
     | true=>
      simp only[Bool.and_eq_true] at hb2;have:=Nat.eq_of_beq_eq_true hb2.1;have h2:=hf.old t r pc' y hg;omega
    ·cases hb
   | const v=>exact hb
   | global g=>exact hb
   | func f=>exact hb)
  exact EV.den_mono (S:={ S with r:=S.r+1 }) (fun _ _ h=>h) this
 intro res
 induction res with
 | nil=>intro K h; exact⟨[],h,rfl,by simp⟩
 | cons x r ih=>
  intro K h
  cases x with
  | tmp t=>
   simp only[zjz] at h
   split at h
   ·rename_i v hv;obtain⟨l,h1,h2,h3⟩:=ih h
    have hv':a.tmps.getD t undef=v:=by
     unfold LI at hv
     split at hv
     ·rename_i e he;exact At hv (hd he)
     ·cases hv
    refine⟨v::l,h1,by simp[h2],?_⟩;simp only[List.mapM_cons,Sem.run_bind,Sem.run_pure,Result.andThen_ok,h3,hv']
   ·exact h.elim
  | cell p t=>
   simp only[zjz] at h
   split at h
   ·rename_i ty id ht he;obtain⟨b,hb,hx⟩:=hd he;simp only[Act.eval] at hx
    split at h
    ·rename_i t' cs hl
     cases hc:Nat.beq cs.length ty.ks.length with
     | false=>rw[hc] at h; exact h.elim
     | true=>
      rw[hc] at h;simp only[cond_true] at h
      split at h
      ·rename_i v hv;obtain⟨l,h1,h2,h3⟩:=ih h
       have hl2:=TK E.T ht hv (Nat.eq_of_beq_eq_true hc) (a:=⟨b,0,none⟩) (w:=wr) (fun j y hy=>by
        rw[Addr.add_lit,LA hw hl hb,Nat.zero_add]; exact hy)
       refine⟨v::l,h1,by simp[h2],?_⟩;have ha:(asAddr (a.tmps.getD p undef)).run C.P wr=.ok ⟨b,0,none⟩ wr:=by rw[hx]; rfl
       simp only[List.mapM_cons,Sem.run_bind,ha,Sem.run_pure,Result.andThen_ok,hl2,h3]
      ·exact h.elim
    ·exact h.elim
   ·rename_i ty o n ht he;obtain⟨ad,ho,hx⟩:=hd he;simp only[Act.eval] at hx;obtain⟨vs,hlen,h⟩:=Oc h
    split at h
    ·rename_i v hv;obtain⟨hcx,h⟩:=h;obtain⟨l,h1,h2,h3⟩:=ih h;have hl2:=TK E.T ht hv hlen (a:=ad.add n) (w:=wr) (hcx.cells hw.ext ho);refine⟨v::l,h1,by simp[h2],?_⟩;have ha:(asAddr (a.tmps.getD p undef)).run C.P wr=.ok (ad.add n) wr:=by rw[hx]; rfl
     simp only[List.mapM_cons,Sem.run_bind,ha,Sem.run_pure,Result.andThen_ok,hl2,h3]
    ·exact h.elim
   ·exact h.elim
theorem BI{C:U3}(E:zmp C){sps:List (Nat×ZN)}{f:FuncId}{fn:Func}{body:Code}{args:List Va}{w:Wo}{R:Va->Wo->Prop}(hf:C.P.funcs[f]? = some fn)(hb:fn.body=some body)(hn:fn.ntmps=C.n)(hargs:args.length<=C.n)(hn4:C.n<=4000)(hrd:C.rd=none)(h:zq4 C sps args body fn.results.toList w R):Calls C.P f args.toArray w fun e w'=>∃v wv,e=.returned v/\(C.pm=true->wv=w/\Q0 [] w w')/\(C.pm=true->R v wv)/\(C.pm=false->R v w'):=by
 refine(callsIn_wide (n:=0)).1 (callsIn_of_wp hf hb trivial ?_);have hF:VC C.rd=Fence.wide:=by rw[hrd]; rfl
 rw[<-hF]
 have hfit:Td C.n (HP args) { tmps:=args.toArray++Array.replicate (fn.ntmps-args.toArray.size) undef,defers:=[] }:=by
  have hget:∀i sv,(HP args).F.get i=some sv->∃v,args[i]? = some v/\sv=.un (.v v):=fun i sv hs=>by
   obtain⟨v,h1,_,h3⟩:=zew (by omega) hs;exact⟨v,by simpa using h1,h3⟩
  refine⟨by simp[hn]; omega,fun i x hx=>?_,fun i r pc x hx=>?_⟩
  ·obtain⟨v,h1,h2⟩:=hget i _ hx;cases h2;show _=v;rw[Array.getD_eq_getD_getElem?,Array.getElem?_append_left (by simpa using (List.getElem?_eq_some_iff.1 h1).1)];simp[h1]
  ·obtain⟨v,h1,h2⟩:=hget i _ hx;cases h2
 have hrel:Z8 (HP args) w w:=⟨Q0.refl _ _,fun id t cs hl=>by simp[HP] at hl,rfl,List.nodup_nil,fun id b _ hb=>by simp[HP] at hb⟩;refine Y0 E body (HP args) w w _ _ _ h hfit hrel ⟨Nat.zero_le _,fun id hid=>by cases hid⟩ fun e S w' a' wr' hK he=>?_
 have fin:zjz C S w' fn.results.toList (fun l=>bif C.pm then R (zmi l) w' else ∀wr,Q0 S.bs w' wr->R (zmi l) wr)->a'.defers=[]/\∃v,(results fn a'.tmps).run C.P wr'=.ok v wr'/\∃v' wv,Ending.returned v=.returned v'/\(C.pm=true->wv=w/\Q0 [] w wr')/\(C.pm=true->R v' wv)/\(C.pm=false->R v' wr'):=fun hr=>by
  obtain⟨l,h1,h2,h3⟩:=zsk E he.fit he.rel hr;refine⟨he.fra.1,zmi l,?_,zmi l,w',rfl,fun hp=>?_,fun hp=>?_,fun hp=>?_⟩
  ·simp only[results,Sem.run_bind,Array.mapM_eq_mapM_toList,Sem.run_map];refine(congrArg (fun r:Result (List Va)=>(r.andThen fun a w'=>Result.ok a.toArray w').andThen fun vs w'=>(Pure.pure (if h:vs.size=1 then vs[0] else .tuple vs):Sem Va).run C.P w') h3).trans ?_;simp only[Result.andThen_ok,Sem.run_pure]
   congr 1
   cases l with
   | nil=>rfl
   | cons x r=>
    cases r with
    | nil=>rfl
    | cons y q=>simp[zmi]
  ·obtain⟨p1,p2⟩:=he.pm hp;refine⟨p1,?_⟩;have hx:=he.rel.ext;rw[<-p1];have hbs:S.bs=[]:=by unfold St.bs; rw[p2]; rfl
   rw[hbs] at hx;exact hx
  ·rw[hp] at h1; exact h1
  ·rw[hp] at h1; exact h1 wr' he.rel.ext
 cases e with
 | normal=>exact fin hK
 | ret=>exact fin hK
 | _=>exact hK.elim
theorem zlz{C:U3}(E:zmp C){sps:List (Nat×ZN)}{f:FuncId}{fn:Func}{body:Code}{args:List Va}{w:Wo}{bs:List Nat}{r:Va}(hf:C.P.funcs[f]? = some fn)(hb:fn.body=some body)(hn:fn.ntmps=C.n)(hargs:args.length<=C.n)(hn4:C.n<=4000)(hpm:C.pm=true)(hrd:C.rd=none)(h:∀wr,Q0 bs w wr->zq4 C sps args body fn.results.toList wr fun v _=>v=r):Q3 bs C.P f args.toArray w r:=fun wr hx=>
 (BI E hf hb hn hargs hn4 hrd (h wr hx)).mono fun e w' ⟨v,_,he,h1,h2,_⟩=>by
  have:=h2 hpm;subst this;exact⟨he,(h1 hpm).2⟩
theorem zov{C:U3}(E:zmp C){sps:List (Nat×ZN)}{f:FuncId}{fn:Func}{body:Code}{args:List Va}{w:Wo}{R:Va->Wo->Prop}(hf:C.P.funcs[f]? = some fn)(hb:fn.body=some body)(hn:fn.ntmps=C.n)(hargs:args.length<=C.n)(hn4:C.n<=4000)(hpm:C.pm=false)(hrd:C.rd=none)(h:zq4 C sps args body fn.results.toList w R):Calls C.P f args.toArray w fun e w'=>∃v,e=.returned v/\R v w':=
 (BI E hf hb hn hargs hn4 hrd h).mono fun e w' ⟨v,_,he,_,_,h3⟩=>⟨v,he,h3 hpm⟩
theorem Oa{w:Wo}{b:Nat}{cs:Array Va}{t:TypeId}{fz:Nat×Nat}(h:w.heap[b]? = some (.cells cs t fz))(k:Nat):w.cell? ⟨b,k,none⟩=cs[k]? := by
 simp[World.cell?,h]
theorem Ur{w:Wo}{b:Nat}{o:Obj}(h:w.heap[b]? = some o):b<w.heap.size:=by
 rcases Nat.lt_or_ge b w.heap.size with hl | hl
 ·exact hl
 ·rw[Array.getElem?_eq_none_iff.2 hl] at h; cases h
theorem MA{bs:List Nat}{w:Wo}{b k0:Nat}{cs:List Va}{t:TypeId}{fz:Nat×Nat}(h:w.heap[b]? = some (.cells cs.toArray t fz))(hb:b∉bs){k:Nat}{v:Va}(hk:cs[k0+k]? = some v):Uz bs w (some ⟨b,k0,none⟩) k v:=
 ⟨⟨b,k0,none⟩,rfl,hb,by rw[Addr.add_lit,Oa h]; simpa using hk⟩
theorem XJ{bs:List Nat}{w:Wo}{o:OA}{n:Nat}{v:Va}(h:Uz bs w o n v):Q2 bs w o n [v]:=h
theorem Vs{bs:List Nat}{w:Wo}{o:OA}:∀{n:Nat} {vs:List Va},(∀j v,vs[j]? = some v->Uz bs w o (n+j) v)->Q2 bs w o n vs
 | _,[],_=>trivial
 | n,[v],h=>h 0 v rfl
 | n,v::u::r,h=>⟨h 0 v rfl,Vs (vs:=u::r) fun j x hj=>by
   have:=h (j+1) x (by simpa using hj);rw[show n+1+j=n+(j+1) by omega]; exact this⟩
theorem Pa{bs:List Nat}{w:Wo}{b k0:Nat}{cs:List Va}{t:TypeId}{fz:Nat×Nat}(h:w.heap[b]? = some (.cells cs.toArray t fz))(hb:b∉bs){n:Nat}{vs:List Va}(hk:∀j v,vs[j]? = some v->cs[k0+(n+j)]? = some v):Q2 bs w (some ⟨b,k0,none⟩) n vs:=
 Vs fun j v hj=>MA h hb (hk j v hj)
theorem Q2.ext{bs:List Nat}{w w':Wo}{o:OA}{n:Nat}{vs:List Va}(h:Q2 bs w o n vs)(hx:Q0 bs w w'):Q2 bs w' o n vs:=
 Vs fun j v hj=>(h.get j v hj).ext hx
theorem Q2.less{bs cs:List Nat}{w:Wo}{o:OA}{n:Nat}{vs:List Va}(h:Q2 bs w o n vs)(hs:∀x∈cs,x∈bs):Q2 cs w o n vs:=
 Vs fun j v hj=>(h.get j v hj).less hs
theorem Zd{bs:List Nat}{w w':Wo}{b:Nat}{o:Obj}(h:w.heap[b]? = some o)(hx:Q0 bs w w')(hb:b∉bs):w'.heap[b]? = some o:=by
 rw[hx.block b (Ur h) hb]; exact h
theorem Km{w:Wo}{b k n:Nat}{cs vs:List Va}{t:TypeId}{fz:Nat×Nat}(h:w.heap[b]? = some (.cells cs.toArray t fz)):(sto w (some ⟨b,k,none⟩) n vs).heap[b]? = some (.cells (zh0 cs (k+n) vs).toArray t fz):=Da vs w b k n cs t fz h
theorem zke(bs:List Nat)(a:Addr):∀(vs:List Va) (w:Wo) (n:Nat),a.block∈bs->Q0 bs w (stoL w a n vs)
 | [],w,n,_=>Q0.refl _ _
 | v::r,w,n,h=>((Q0.refl bs w).setCell (p:=a.add n) (.inr (by rw[Zq]; exact h)) v).trans (zke bs a r _ _ h)
theorem UZ{bs:List Nat}{w:Wo}{o:OA}{n:Nat}{vs:List Va}(h:∀a,o=some a->a.block∈bs):Q0 bs w (sto w o n vs):=by
 cases o with
 | none=>exact Q0.refl _ _
 | some a=>exact zke bs a vs w n (h a rfl)
theorem Ma{bs:List Nat}{w:Wo}{b k0 n k:Nat}{cs:List Va}{t:TypeId}(h:w.heap[b]? = some (.cells cs.toArray t (0,0)))(hb:b∉bs)(hk:k0+(n+k)<=cs.length):Xr bs w (some ⟨b,k0,none⟩) n k:=
 ⟨⟨b,k0,none⟩,rfl,hb,fun j h1 h2=>by
  rw[Addr.add_lit,Oa h];refine⟨⟨cs[k0+j]'(by omega),by simp⟩,?_⟩;simp[World.frozen?,h]⟩
theorem Q0.fresh{bs cs:List Nat}{w0 w w':Wo}(h:Q0 bs w0 w)(k:Q0 cs w w')(hc:∀x∈cs,w0.heap.size<=x\/x∈bs):Q0 bs w0 w':=
 ⟨k.os.trans h.os,k.tape.trans h.tape,k.output.trans h.output,Nat.le_trans h.size k.size,fun i hi hb=>(k.block i (Nat.lt_of_lt_of_le hi h.size) (fun hx=>by
  rcases hc i hx with h1 | h1
  ·omega
  ·exact hb h1)).trans (h.block i hi hb)⟩
theorem Oi{bs:List Nat}{P:Program}{f:FuncId}{args:Array Va}{w:Wo}{v:Va}(h:∀wr,Q0 bs w wr->Calls P f args wr fun e w'=>∃v0,e=.returned v0/\(v0=v/\Q0 [] wr w')):Q3 bs P f args w v:=
 fun wr hx=>(h wr hx).mono fun e w' ⟨v0,he,hv,hx'⟩=>⟨by rw[he,hv],hx'⟩
structure KE where
 floor:Int
 on:Bool
 v:Int
 w:Int
 sum:Int
 deriving DecidableEq,Inhabited
structure JH where
 quota:Int
 pool:Int
 spent:Int
 locals:List Int
 dry:List Bool
 deriving DecidableEq,Inhabited
structure ZF where
 used:Bool
 parent:Int
 name:ByteArray
 weight:Int
 cpus:Int
 period:Int
 next:Int
 sum:Int
 band:JH
 shelves:List KE
 deriving DecidableEq,Inhabited
structure Mw where
 state:Int
 group:Int
 cpu:Int
 nice:Int
 mask:Int
 v:Int
 sum:Int
 used:Int
 load:Int
 deriving DecidableEq,Inhabited
structure M0 where
 up:Bool
 cur:Int
 ran:Int
 busy:Int
 idle:Int
 deriving DecidableEq,Inhabited
structure Q8 where
 now:Int
 cpus:List M0
 tasks:List Mw
 groups:List ZF
 deriving DecidableEq,Inhabited
structure zvv where
 kind:Int
 at':Int
 n:Int
 deriving DecidableEq,Inhabited
def gi{α:Type}[Inhabited α](l:List α)(i:Int):α:=l.getD i.toNat default
theorem zrb{α:Type}[Inhabited α](l:List α)(k:Nat):gi l (k:Int)=l.getD k default:=rfl
theorem J2{α:Type}[Inhabited α]{l:List α}{k:Nat}(h:k<l.length):gi l (k:Int)=l[k]:=by
 simp[zrb,List.getD_eq_getElem?_getD,h]
theorem zt5{α:Type}[Inhabited α]{l:List α}{k:Nat}(h:k<l.length):l[k]? = some (gi l (k:Int)):=by
 rw[J2 h]; simp[h]
theorem FB{α:Type}[Inhabited α]{l:List α}{i:Int}(h0:0<=i)(h1:i<l.length):gi l i∈l:=by
 obtain⟨k,rfl⟩:=Int.eq_ofNat_of_zero_le h0;have:k<l.length:=by omega
 rw[J2 this]; exact List.getElem_mem this
theorem zra{α:Type}[Inhabited α]{l m:List α}(hl:l.length=m.length)(h:∀k:Nat,k<l.length->gi l (k:Int)=gi m (k:Int)):l=m:=by
 refine List.ext_getElem hl fun k h1 h2=>?_
 have:=h k h1
 rwa[J2 h1,J2 h2] at this
theorem QA{α:Type}[Inhabited α](l:List α)(x:α){i j:Int}(h0:0<=i)(hi:i<(l.length:Int))(hj:0<=j):gi (l.set i.toNat x) j=if i=j then x else gi l j:=by
 obtain⟨k,rfl⟩:=Int.eq_ofNat_of_zero_le h0;obtain⟨q,rfl⟩:=Int.eq_ofNat_of_zero_le hj;simp only[zrb,Int.toNat_natCast,List.getD_eq_getElem?_getD,List.getElem?_set]
 by_cases hkq:k=q
 ·subst hkq;have:k<l.length:=by omega
  simp[this]
 ·have:¬((k:Int)=q):=by omega
  simp[hkq,this]
def MD(s:KE):List Va:=[.int .i64 s.floor,.bool s.on,.int .i64 s.v,.int .i64 s.w,.int .i64 s.sum]
def X7(t:Mw):List Va:=[.int .i64 t.state,.int .i64 t.group,.int .i64 t.cpu,.int .i64 t.nice,.int .i64 t.mask,.int .i64 t.v,.int .i64 t.sum,.int .i64 t.used,.int .i64 t.load]
def KN(c:M0):List Va:=[.bool c.up,.int .i64 c.cur,.int .i64 c.ran,.int .i64 c.busy,.int .i64 c.idle]
def zq3(o:zvv):List Va:=[.int .i64 o.kind,.int .i64 o.at',.int .i64 o.n]
def Ji(n:Int):List Va:=[.int .i64 n]
def KM(b:Bool):List Va:=[.bool b]
structure MG where
 lO:OA
 lC:Nat
 dO:OA
 dC:Nat
 sO:OA
 sC:Nat
 deriving Inhabited
def YF(g:ZF)(m:MG):List Va:=[.bool g.used,.int .i64 g.parent,.string g.name,.int .i64 g.weight,.int .i64 g.cpus,.int .i64 g.period,.int .i64 g.next,.int .i64 g.sum,
 .int .i64 g.band.quota,.int .i64 g.band.pool,.int .i64 g.band.spent,.slice m.lO g.band.locals.length m.lC,.slice m.dO g.band.dry.length m.dC,.slice m.sO g.shelves.length m.sC]
def Rd{α:Type}[Inhabited α](enc:α->List Va)(z:Nat)(bs:List Nat)(w:Wo)(o:OA)(l:List α):Prop:=
 ∀i:Int,0<=i->i<(l.length:Int)->Q2 bs w o (Int.toNat i*z) (enc (gi l i))
theorem Rd.ext{α:Type}[Inhabited α]{enc:α->List Va}{z:Nat}{bs:List Nat}{w w':Wo}{o:OA}{l:List α}(h:Rd enc z bs w o l)(hx:Q0 bs w w'):Rd enc z bs w' o l:=
 fun i h0 h1=>(h i h0 h1).ext hx
theorem Rd.less{α:Type}[Inhabited α]{enc:α->List Va}{z:Nat}{bs cs:List Nat}{w:Wo}{o:OA}{l:List α}(h:Rd enc z bs w o l)(hs:∀x∈cs,x∈bs):Rd enc z cs w o l:=
 fun i h0 h1=>(h i h0 h1).less hs
theorem Uz.wide{bs cs:List Nat}{w:Wo}{o:OA}{n:Nat}{v:Va}(h:Uz bs w o n v)(hs:∀x∈cs,x∈bs\/w.heap.size<=x):Uz cs w o n v:=by
 obtain⟨a,ho,hb,hc⟩:=h;refine⟨a,ho,fun hx=>?_,hc⟩;have hlt:=World.block_lt_of_cell? w _ hc;rw[Zq] at hlt;rcases hs _ hx with h1 | h1
 ·exact hb h1
 ·omega
theorem Q2.wide{bs cs:List Nat}{w:Wo}{o:OA}{n:Nat}{vs:List Va}(h:Q2 bs w o n vs)(hs:∀x∈cs,x∈bs\/w.heap.size<=x):Q2 cs w o n vs:=
 Vs fun j v hj=>(h.get j v hj).wide hs
theorem Rd.wide{α:Type}[Inhabited α]{enc:α->List Va}{z:Nat}{bs cs:List Nat}{w:Wo}{o:OA}{l:List α}(h:Rd enc z bs w o l)(hs:∀x∈cs,x∈bs\/w.heap.size<=x):Rd enc z cs w o l:=
 fun i h0 h1=>(h i h0 h1).wide hs
theorem Q2.some{bs:List Nat}{w:Wo}{o:OA}{n:Nat}{v:Va}{r:List Va}(h:Q2 bs w o n (v::r)):o.isSome=true:=by
 obtain⟨a,rfl,_,_⟩:=h.get 0 v rfl;rfl
theorem Rd.ix{α:Type}[Inhabited α]{enc:α->List Va}{z:Nat}{bs:List Nat}{w:Wo}{o:OA}{l:List α}(h:Rd enc z bs w o l)(he:∀x,∃v r,enc x=v::r){i:Int}(h0:0<=i)(h1:i<(l.length:Int)):Ix o l.length i:=by
 obtain⟨v,r,e⟩:=he (gi l i);have:=h i h0 h1;rw[e] at this;exact⟨h0,h1,this.some⟩
theorem ZQ(x:KE):∃v r,MD x=v::r:=⟨_,_,rfl⟩
theorem Qy(x:Mw):∃v r,X7 x=v::r:=⟨_,_,rfl⟩
theorem ZH(x:M0):∃v r,KN x=v::r:=⟨_,_,rfl⟩
theorem VI(x:Int):∃v r,Ji x=v::r:=⟨_,_,rfl⟩
theorem CE(x:Bool):∃v r,KM x=v::r:=⟨_,_,rfl⟩
abbrev zkn:=Rd MD 5
abbrev ztd:=Rd X7 9
abbrev zx3:=Rd KN 5
abbrev zok:=Rd Ji 1
abbrev ztl:=Rd KM 1
structure KD (bs:List Nat) (w:Wo) (o:OA) (gs:List ZF) (ms:Nat->MG):Prop where
 cells:∀i:Int,0<=i->i<(gs.length:Int)->Q2 bs w o (Int.toNat i*14) (YF (gi gs i) (ms i.toNat))
 locals:∀i:Int,0<=i->i<(gs.length:Int)->zok bs w (ms i.toNat).lO (gi gs i).band.locals
 dry:∀i:Int,0<=i->i<(gs.length:Int)->ztl bs w (ms i.toNat).dO (gi gs i).band.dry
 shelves:∀i:Int,0<=i->i<(gs.length:Int)->zkn bs w (ms i.toNat).sO (gi gs i).shelves
theorem KD.ext{bs:List Nat}{w w':Wo}{o:OA}{gs:List ZF}{ms:Nat->MG}(h:KD bs w o gs ms)(hx:Q0 bs w w'):KD bs w' o gs ms:=
 ⟨fun i a b=>(h.cells i a b).ext hx,fun i a b=>(h.locals i a b).ext hx,fun i a b=>(h.dry i a b).ext hx,fun i a b=>(h.shelves i a b).ext hx⟩
theorem KD.less{bs cs:List Nat}{w:Wo}{o:OA}{gs:List ZF}{ms:Nat->MG}(h:KD bs w o gs ms)(hs:∀x∈cs,x∈bs):KD cs w o gs ms:=
 ⟨fun i a b=>(h.cells i a b).less hs,fun i a b=>(h.locals i a b).less hs,fun i a b=>(h.dry i a b).less hs,fun i a b=>(h.shelves i a b).less hs⟩
theorem KD.wide{bs cs:List Nat}{w:Wo}{o:OA}{gs:List ZF}{ms:Nat->MG}(h:KD bs w o gs ms)(hs:∀x∈cs,x∈bs\/w.heap.size<=x):KD cs w o gs ms:=
 ⟨fun i a b=>(h.cells i a b).wide hs,fun i a b=>(h.locals i a b).wide hs,fun i a b=>(h.dry i a b).wide hs,fun i a b=>(h.shelves i a b).wide hs⟩
theorem KD.ix{bs:List Nat}{w:Wo}{o:OA}{gs:List ZF}{ms:Nat->MG}(h:KD bs w o gs ms){i:Int}(h0:0<=i)(h1:i<(gs.length:Int)):Ix o gs.length i:=
 ⟨h0,h1,(h.cells i h0 h1).some⟩
def ZZ(p:Nat)(vs:List Va):Int:=match vs[p]? with
 | some (.int _ i)=>i
 | _=>0
def zos(I:Nat->Prop)(vs:List Va):Prop:=∃k:Nat,I k/\vs=[.int .i64 (k:Int)]
def Jh(n:Nat)(p:Nat)(vs:List Va):Nat:=((n:Int)+1-ZZ p vs).toNat
theorem Xi{B:(List Va->Prop)->(List Va->Nat)->Int->Prop}(n:Nat){si:Int}(s:Nat)(hs:si=s)(I:Nat->Prop)(h0:I s)(hB:∀k:Nat,I k->B (zos I) (Jh n 0) (k:Int)) :
  ∃(xInv:List Va->Prop) (mu:List Va->Nat),xInv [.int .i64 si]/\∀i:Int,xInv [.int .i64 i]->B xInv mu i:=by
 refine⟨zos I,Jh n 0,⟨s,h0,by rw[hs]⟩,?_⟩;rintro i ⟨k,hI,he⟩;simp only[List.cons.injEq,Value.int.injEq,true_and,and_true] at he;subst he;exact hB k hI
theorem Qs{n k:Nat}{I:Nat->Prop}(hk:k<n)(hI:I (k+1)):zos I [.int .i64 ((k:Int)+1)]/\Jh n 0 [.int .i64 ((k:Int)+1)]<Jh n 0 [.int .i64 (k:Int)]:=by
 refine⟨⟨k+1,hI,by simp⟩,?_⟩;simp only[Jh,ZZ,List.getElem?_cons_zero];omega
def zqy(I:Nat->Wo->Prop)(vs:List Va)(w:Wo):Prop:=∃k:Nat,I k w/\vs=[.int .i64 (k:Int)]
def Zu(n:Nat)(p:Nat)(vs:List Va)(_:Wo):Nat:=Jh n p vs
theorem TM{B:(List Va->Wo->Prop)->(List Va->Wo->Nat)->Int->Wo->Prop}{bs L:List Nat}{wv:Wo}(n:Nat){si:Int}(s:Nat)(hs:si=s)(I:Nat->Wo->Prop)(h0:∀wr,Q0 bs wv wr->(∀bq∈L,bq<wr.heap.size)->I s wr)(hB:∀(k:Nat) (w1:Wo),(∀bq∈L,bq<w1.heap.size)->I k w1->B (zqy I) (Zu n 0) (k:Int) w1) :
  ∃(xInv:List Va->Wo->Prop) (mu:List Va->Wo->Nat),(∀wr,Q0 bs wv wr->(∀bq∈L,bq<wr.heap.size)->xInv [.int .i64 si] wr)/\∀(i:Int) (w1:Wo),(∀bq∈L,bq<w1.heap.size)->xInv [.int .i64 i] w1->B xInv mu i w1:=by
 refine⟨zqy I,Zu n 0,fun wr hx hq=>⟨s,h0 wr hx hq,by rw[hs]⟩,?_⟩;rintro i w1 hq ⟨k,hI,he⟩;simp only[List.cons.injEq,Value.int.injEq,true_and,and_true] at he;subst he;exact hB k w1 hq hI
theorem QM{n k:Nat}{I:Nat->Wo->Prop}{wr w1:Wo}(hk:k<n)(hI:I (k+1) wr):zqy I [.int .i64 ((k:Int)+1)] wr/\Zu n 0 [.int .i64 ((k:Int)+1)] wr<Zu n 0 [.int .i64 (k:Int)] w1:=by
 refine⟨⟨k+1,hI,by simp⟩,?_⟩;simp only[Zu,Jh,ZZ,List.getElem?_cons_zero];omega
def zqx(I:Int->Nat->Prop)(vs:List Va):Prop:=∃(x:Int) (k:Nat),I x k/\vs=[.int .i64 x,.int .i64 (k:Int)]
theorem T3{B:(List Va->Prop)->(List Va->Nat)->Int->Int->Prop}(n:Nat){xi si:Int}(s:Nat)(hs:si=s)(I:Int->Nat->Prop)(h0:I xi s)(hB:∀(x:Int) (k:Nat),I x k->B (zqx I) (Jh n 1) x (k:Int)) :
  ∃(xInv:List Va->Prop) (mu:List Va->Nat),xInv [.int .i64 xi,.int .i64 si]/\∀(x i:Int),xInv [.int .i64 x,.int .i64 i]->B xInv mu x i:=by
 refine⟨zqx I,Jh n 1,⟨xi,s,h0,by rw[hs]⟩,?_⟩;rintro x i ⟨x',k,hI,he⟩;simp only[List.cons.injEq,Value.int.injEq,true_and,and_true] at he;obtain⟨rfl,rfl⟩:=he;exact hB x k hI
theorem Qw{n k:Nat}{I:Int->Nat->Prop}{x x':Int}(hk:k<n)(hI:I x' (k+1)):zqx I [.int .i64 x',.int .i64 ((k:Int)+1)]/\Jh n 1 [.int .i64 x',.int .i64 ((k:Int)+1)]<Jh n 1 [.int .i64 x,.int .i64 (k:Int)]:=by
 refine⟨⟨x',k+1,hI,by simp⟩,?_⟩;simp only[Jh,ZZ,List.getElem?_cons_zero,List.getElem?_cons_succ];omega
theorem Xb:maxLen<=9223372036854775807:=by simp[maxLen]
theorem zne{k n:Nat}(h:(k:Int)<(n:Int))(hn:n<=maxLen):Qj .i64 ((k:Int)+1):=by
 have:=Xb;exact⟨by omega,by omega⟩
end Go.Proofs.YtclpmgfpjeaibaaGreat
