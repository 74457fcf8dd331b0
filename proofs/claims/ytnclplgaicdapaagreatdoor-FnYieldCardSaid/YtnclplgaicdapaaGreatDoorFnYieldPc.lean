/- Part 3 of what the law FnYield needs: the engine, the functions' propositions, the contracts. -/
import Derived.Test.YtnclplgaicdapaaGreatDoorFnYieldPb
namespace Go.Proofs.YtnclplgaicdapaaGreatDoor
open Go.RowKit
set_option linter.unusedVariables false
set_option linter.unusedSimpArgs false
set_option maxHeartbeats 8000000
theorem zkc{n:Nat}{S S':St}{sp:YY}{w w' wr wr':Wo}{ds:List Nat}{a a':Act}(hs:GQ S sp ds)(hf:TG n S a)(hw:Ze S w wr)(hwf:K6 S)(hf':TG n S' a')(hw':Ze S' w' wr')(hfa:LR ds a a')(hfr:Pk { S with lk:=LM S sp } S'){xs ys zs:List Va}(hx:KJ S' sp.chg=some xs)(hy:M5 S' sp.chgL=some ys)(hz:zby S' S.L.length sp.newL=some zs)(hp:zb6 S' S.L.length sp.newL.length sp.ptr=true) :
  ((S'.B.drop S.B.length).take sp.newL.length).length=sp.newL.length/\(∀b∈S.B++(S'.B.drop S.B.length).take sp.newL.length,b∈S'.B)/\
  TG n (LF S sp (xs++ys) zs ((S'.B.drop S.B.length).take sp.newL.length)) a'/\K6 (LF S sp (xs++ys) zs ((S'.B.drop S.B.length).take sp.newL.length))/\Pk S (LF S sp (xs++ys) zs ((S'.B.drop S.B.length).take sp.newL.length))/\
  Ze (LF S sp (xs++ys) zs ((S'.B.drop S.B.length).take sp.newL.length)).aged wr' wr'/\(w'=w->S'.old=S.old->Ze (LF S sp (xs++ys) zs ((S'.B.drop S.B.length).take sp.newL.length)) w wr'):=by
 obtain⟨n1,n2,n3⟩:=zbz hz;have hB:∀(id b:Nat),S.B[id]? = some b->S'.B[id]? = some b:=hfr.B;have hpre:=zmt hB;have hlenS:=hw.len;have hlenS':=hw'.len
 have hk:S.B.length+sp.newL.length<=S'.B.length:=by
  rcases Nat.eq_zero_or_pos sp.newL.length with h0 | h0
  ·have:S.B.length<=S'.B.length:=by
    have:=congrArg List.length hpre;rw[List.length_take] at this;omega
   omega
  ·have:=n2 (sp.newL.length-1) (by omega);omega
 have hbl:((S'.B.drop S.B.length).take sp.newL.length).length=sp.newL.length:=by rw[List.length_take,List.length_drop]; omega
 have hGB:S.B++(S'.B.drop S.B.length).take sp.newL.length=S'.B.take (S.B.length+sp.newL.length):=by
  rw[List.take_add,hpre]
 have hGget:∀(id b:Nat),id<S.B.length+sp.newL.length->S'.B[id]? = some b->(S.B++(S'.B.drop S.B.length).take sp.newL.length)[id]? = some b:=fun id b hid hb=>by
  rw[hGB,List.getElem?_take,if_pos hid]; exact hb
 have hGback:∀(id b:Nat),(S.B++(S'.B.drop S.B.length).take sp.newL.length)[id]? = some b->S'.B[id]? = some b:=fun id b hb=>by
  rw[hGB,List.getElem?_take] at hb
  split at hb
  ·exact hb
  ·cases hb
 obtain⟨t1,t2⟩:=M2 (L:=S.L) hs.nd hy hfr.ty;have hlk:∀id,id<S.L.length->id∉sp.chgL.map (·.1)->S'.L[id]? = S.L[id]? := fun id hid hm=>(hfr.lk id (Oe.2 ⟨hid,hm⟩)).2
 have hxl:=(JQ hx).1;obtain⟨g1,g2⟩:=NX hs hw hw' hB hfr.ty hlk hxl hy;have hhf:=NW (ys:=ys) hs hf hf' hfa hx;have hdr:(xs++ys).drop sp.chg.length=ys:=by rw[<-hxl]; exact List.drop_left
 have hL:(Y9 S sp (xs++ys)).L=Ua S.L sp.chgL ys:=by simp only[Y9,hdr]
 have hpp:=ziy hp
 have hfit:TG n (LF S sp (xs++ys) zs ((S'.B.drop S.B.length).take sp.newL.length)) a':=by
  have hmono:∀(id b:Nat),(Y9 S sp (xs++ys)).B[id]? = some b->(LF S sp (xs++ys) zs ((S'.B.drop S.B.length).take sp.newL.length)).B[id]? = some b:=fun id b hb=>by
   have hb':S.B[id]? = some b:=hb;exact hGget id b (by have:=(List.getElem?_eq_some_iff.1 hb').1; omega) (hB id b hb')
  refine⟨hhf.size,fun i x h=>?_,fun i r pc x h=>?_⟩
  ·rcases Ez (fun p hp=>(hpp p hp).1) h with ⟨j,h1,h2⟩ | h1
   ·obtain⟨_,hj,hF⟩:=hpp (i,j) h1;have hd:=hf'.fits i _ hF;cases h2;obtain⟨b,hb,hv⟩:=hd;exact⟨b,hGget _ _ (by simp only at hj; omega) hb,hv⟩
   ·exact EV.den_mono (S:=Y9 S sp (xs++ys)) hmono (hhf.fits i x h1)
  ·rcases Ez (fun p hp=>(hpp p hp).1) h with ⟨j,h1,h2⟩ | h1
   ·cases h2
   ·exact hhf.old i r pc x h1
 have hloc:∀(id:Nat) (t:TypeId) (cs:List Va),((Y9 S sp (xs++ys)).L++Ku sp.newL zs)[id]? = some (t,cs)->∃b,(S.B++(S'.B.drop S.B.length).take sp.newL.length)[id]? = some b/\wr'.heap[b]? = some (Obj.cells cs.toArray t (0,0)):=fun id t cs hc=>by
  by_cases hid:id<S.L.length
  ·rw[List.getElem?_append_left (by rw[g1]; exact hid)] at hc;obtain⟨b,h1,h2⟩:=g2 id t cs hc;exact⟨b,hGget id b (by omega) (hB id b h1),h2⟩
  ·rw[List.getElem?_append_right (by rw[g1]; omega),g1,n3] at hc
   split at hc
   ·rename_i hlt;have e:S.L.length+(id-S.L.length)=id:=by omega
    rw[e] at hc;obtain⟨b,h1,h2⟩:=hw'.loc id t cs hc;exact⟨b,hGget id b (by omega) h1,h2⟩
   ·cases hc
 have hlen:((Y9 S sp (xs++ys)).L++Ku sp.newL zs).length=(S.B++(S'.B.drop S.B.length).take sp.newL.length).length:=by
  rw[List.length_append,List.length_append,g1,n1,hbl,hlenS]
 have hnd:(S.B++(S'.B.drop S.B.length).take sp.newL.length).Nodup:=by
  rw[hGB]; exact hw'.dist.sublist (List.take_sublist _ _)
 refine⟨hbl,fun b hb=>by rw[hGB] at hb; exact List.mem_of_mem_take hb,hfit,⟨?_,fun id hid=>?_⟩,⟨fun id b hb=>?_,fun id t cs hc=>?_,fun id hid=>⟨hid,?_⟩⟩,⟨?_,hloc,hlen,hnd,fun id b hid hb=>?_⟩,fun e1 e2=>⟨?_,hloc,hlen,hnd,fun id b hid hb=>?_⟩⟩
 ·show S.old<=(S.B++(S'.B.drop S.B.length).take sp.newL.length).length;have:=hwf.old;rw[List.length_append]; omega
 ·show id<((Y9 S sp (xs++ys)).L++Ku sp.newL zs).length;have:=hwf.lk id hid;rw[List.length_append,g1]; omega
 ·exact hGget id b (by have:=(List.getElem?_eq_some_iff.1 hb).1; omega) (hB id b hb)
 ·have hid:id<S.L.length:=(List.getElem?_eq_some_iff.1 hc).1;obtain⟨u1,u2⟩:(∀(id:Nat) (t:TypeId) (cs:List Va),id∈sp.chgL.map (·.1)->(Ua S.L sp.chgL ys)[id]? = some (t,cs)->S'.L[id]? = some (t,cs))/\True:=⟨t2.2,trivial⟩;have hlt:id<(Ua S.L sp.chgL ys).length:=by rw[t1]; exact hid
  have hg:(Ua S.L sp.chgL ys)[id]? = some (((Ua S.L sp.chgL ys)[id]).1,((Ua S.L sp.chgL ys)[id]).2):=List.getElem?_eq_getElem hlt;show ∃cs',((Y9 S sp (xs++ys)).L++Ku sp.newL zs)[id]? = some (t,cs');rw[List.getElem?_append_left (by rw[g1]; exact hid),hL]
  by_cases hm:id∈sp.chgL.map (·.1)
  ·have h4:=u1 id _ _ hm hg;obtain⟨cs',h5⟩:=hfr.ty id t cs hc;rw[h5] at h4;simp only[Option.some.injEq,Prod.mk.injEq] at h4;exact⟨((Ua S.L sp.chgL ys)[id]).2,by rw[hg,<-h4.1]⟩
  ·exact⟨cs,by rw[t2.1 id hm]; exact hc⟩
 ·have hlt:=hwf.lk id hid;show ((Y9 S sp (xs++ys)).L++Ku sp.newL zs)[id]? = S.L[id]?;rw[List.getElem?_append_left (by rw[g1]; exact hlt),hL,t2.1 id fun hm=>hs.chgL id hm hid]
 ·exact Q0.refl _ _
 ·have h1:id<(S.B++(S'.B.drop S.B.length).take sp.newL.length).length:=(List.getElem?_eq_some_iff.1 hb).1;have h2:(S.B++(S'.B.drop S.B.length).take sp.newL.length).length<=id:=hid;omega
 ·have hbs:(LF S sp (xs++ys) zs ((S'.B.drop S.B.length).take sp.newL.length)).bs=S'.bs:=by
   show (S.B++(S'.B.drop S.B.length).take sp.newL.length).take S.old=S'.B.take S'.old;rw[e2];have h1:=hwf.old;rw[hGB,List.take_take,Nat.min_eq_left (by omega)]
  rw[hbs,<-e1]; exact hw'.ext
 ·have h1:S'.B[id]? = some b:=hGback id b hb;have:=hw'.fresh id b (by rw[e2]; exact hid) h1;rw[e1] at this;exact this
structure zqt (C:VI) (S:St) (w:Wo) (ds:List Nat) (a:Act) (sp:YY) (vs:List Va) (w1:Wo) (a':Act) (wr':Wo):Prop where
 fit:TG C.n (Y9 S sp vs) a'
 rel:Ze (Y9 S sp vs) w1 wr'
 wf:K6 (Y9 S sp vs)
 fra:LR ds a a'
theorem NY{S S':St}{sp:YY}(hnd:(sp.chgL.map (·.1)).Nodup)(hty:∀(id:Nat) (t:TypeId) (cs:List Va),S.L[id]? = some (t,cs)->∃cs',S'.L[id]? = some (t,cs')){xs ys:List Va}(hxl:xs.length=sp.chg.length)(hy:M5 S' sp.chgL=some ys) :
  (∀(id:Nat) (t:TypeId) (cs:List Va),S.L[id]? = some (t,cs)->∃cs',(Y9 S sp (xs++ys)).L[id]? = some (t,cs'))/\(∀id,id∉sp.chgL.map (·.1)->(Y9 S sp (xs++ys)).L[id]? = S.L[id]?):=by
 have hdr:(xs++ys).drop sp.chg.length=ys:=by rw[<-hxl]; exact List.drop_left
 obtain⟨h1,h2,h3⟩:=M2 (L:=S.L) hnd hy hty;have hL:(Y9 S sp (xs++ys)).L=Ua S.L sp.chgL ys:=by simp only[Y9,hdr]
 rw[hL];refine⟨fun id t cs hc=>?_,h2⟩;have hid:id<(Ua S.L sp.chgL ys).length:=by rw[h1]; exact(List.getElem?_eq_some_iff.1 hc).1
 by_cases hm:id∈sp.chgL.map (·.1)
 ·have hg:(Ua S.L sp.chgL ys)[id]? = some (((Ua S.L sp.chgL ys)[id]).1,((Ua S.L sp.chgL ys)[id]).2):=List.getElem?_eq_getElem hid;have h4:=h3 id _ _ hm hg;obtain⟨cs',h5⟩:=hty id t cs hc;rw[h5] at h4;simp only[Option.some.injEq,Prod.mk.injEq] at h4;exact⟨((Ua S.L sp.chgL ys)[id]).2,by rw[hg,<-h4.1]⟩
 ·exact⟨cs,by rw[h2 id hm]; exact hc⟩
theorem Av{n:Nat}{S:St}{a:Act}(hf:TG n S a){x:Operand}{e:EV}(hb:Cf S [] x=some e):EV.den S e (a.eval x):=by
 have:=ZI (ops:=#[]) (hf.enter #[] (fun _=>False)).fit (pc:=[]) (fun p hp=>by cases hp) (S:={ S with r:=S.r+1 }) (x:=x) (e:=e) (by
  cases x with
  | tmp t=>
   simp only[Cf] at hb ⊢
   split at hb
   ·exact hb
   ·rename_i r pc' y hg
    cases hb2:Nat.beq r S.r&&AO pc' [] with
    | false=>rw[hb2] at hb; cases hb
    | true=>
     simp only[Bool.and_eq_true] at hb2;have:=Nat.eq_of_beq_eq_true hb2.1;have h2:=hf.old t r pc' y hg;omega
   ·cases hb
  | const v=>exact hb
  | global g=>exact hb
  | func f=>exact hb)
 exact EV.den_mono (S:={ S with r:=S.r+1 }) (fun _ _ h=>h) this
theorem zet(S:St)(c:Operand)(x:Bool):(setB S c x).L=S.L/\(setB S c x).B=S.B/\(setB S c x).old=S.old/\(setB S c x).lk=S.lk/\(setB S c x).r=S.r:=by
 unfold setB;split
 ·cases Nat.blt _ 4000 <;> exact⟨rfl,rfl,rfl,rfl,rfl⟩
 ·exact⟨rfl,rfl,rfl,rfl,rfl⟩
theorem TG.setB{n:Nat}{S:St}{a:Act}(hf:TG n S a){c:Operand}{x:Bool}(hc:a.eval c=.bool x):TG n (setB S c x) a:=by
 unfold YtnclplgaicdapaaGreatDoor.setB;split
 ·rename_i t
  cases hl:Nat.blt t 4000 with
  | false=>exact hf
  | true=>
   have hlt:t<4000:=Nat.le_of_ble_eq_true hl;have hg:∀i,(PT.set 12 S.F t (.un (.kb x))).get i=if t=i then some (.un (.kb x)) else S.F.get i:=fun i=>PT.get_set _ 12 S.F t i (by have h1 : @LT.lt Nat _ t 4000:=hlt; show @LT.lt Nat _ (t+1) (2 ^ 12); omega)
   refine⟨hf.size,fun i y hy=>?_,fun i r pc y hy=>?_⟩
   ·have hy:(PT.set 12 S.F t (.un (.kb x))).get i=some (.un y):=hy;rw[hg i] at hy
    by_cases hti:t=i
    ·subst hti;rw[if_pos rfl] at hy;simp only[Option.some.injEq,SV.un.injEq] at hy;subst hy;exact hc
    ·rw[if_neg hti] at hy;exact EV.den_mono (S:=S) (fun _ _ h=>h) (hf.fits i y hy)
   ·have hy:(PT.set 12 S.F t (.un (.kb x))).get i=some (.gd r pc y):=hy;rw[hg i] at hy
    by_cases hti:t=i
    ·rw[if_pos hti] at hy; cases hy
    ·rw[if_neg hti] at hy; exact hf.old i r pc y hy
 ·exact hf
theorem zg1{S:St}{w wr:Wo}{c:Operand}{x:Bool}(h:Ze S w wr):Ze (setB S c x) w wr:=by
 obtain⟨h1,h2,h3,h4,h5⟩:=zet S c x;refine⟨?_,?_,?_,?_,?_⟩
 ·unfold St.bs; rw[h2,h3]; exact h.ext
 ·rw[h1,h2]; exact h.loc
 ·rw[h1,h2]; exact h.len
 ·rw[h2]; exact h.dist
 ·rw[h2,h3]; exact h.fresh
theorem zkz{S:St}{c:Operand}{x:Bool}(h:K6 S):K6 (setB S c x):=by
 obtain⟨h1,h2,h3,h4,h5⟩:=zet S c x;exact⟨by rw[h2,h3]; exact h.old,by rw[h1,h4]; exact h.lk⟩
theorem zg0{C:VI}{S:St}{w:Wo}{ds:List Nat}{a:Act}{S':St}{w':Wo}{a':Act}{wr':Wo}{c:Operand}{x:Bool}(h:M8 C (setB S c x) w ds a S' w' a' wr'):M8 C S w ds a S' w' a' wr':=by
 obtain⟨h1,h2,h3,h4,h5⟩:=zet S c x;refine⟨h.fit,h.rel,h.wf,⟨?_,?_,?_⟩,h.fra,?_⟩
 ·have:=h.fr.B; rw[h2] at this; exact this
 ·have:=h.fr.ty; rw[h1] at this; exact this
 ·have:=h.fr.lk; rw[h1,h4] at this; exact this
 ·have:=h.pm; rw[h3] at this; exact this
theorem Yd{C:VI}(E:znc C){sps:List (Nat×YY)}:∀(c:Code) (S:St) (w wr:Wo) (a:Act) (K:Exit->St->Wo->Prop) (Q:Exit->Act->Wo->Prop),zdu C sps c S w K->TG C.n S a->Ze S w wr->K6 S->
  (∀e S' w' a' wr',K e S' w'->M8 C S w (Je c) a S' w' a' wr'->Q e a' wr')->c.wpIn (Gf C.rd) 0 C.P Q a wr
 | .skip,S,w,wr,a,K,Q,h,hf,hw,hwf,hQ=>wpIn_skip (hQ _ _ _ _ _ h (M8.refl _ hf hw hwf))
 | .label _,S,w,wr,a,K,Q,h,hf,hw,hwf,hQ=>wpIn_label (hQ _ _ _ _ _ h (M8.refl _ hf hw hwf))
 | .exit _,S,w,wr,a,K,Q,h,hf,hw,hwf,hQ=>wpIn_exit (hQ _ _ _ _ _ h (M8.refl _ hf hw hwf))
 | .ret,S,w,wr,a,K,Q,h,hf,hw,hwf,hQ=>wpIn_ret (hQ _ _ _ _ _ h (M8.refl _ hf hw hwf))
 | .region _ ops d,S,w,wr,a,K,Q,h,hf,hw,hwf,hQ=>zfp E h hf hw hwf fun S' w' a' wr' hK he=>hQ _ _ _ _ _ hK he
 | .seq x y,S,w,wr,a,K,Q,h,hf,hw,hwf,hQ=>by
  have sub1:∀z∈Je x,z∈Je (.seq x y):=fun z hz=>List.mem_append_left _ hz
  have sub2:∀z∈Je y,z∈Je (.seq x y):=fun z hz=>List.mem_append_right _ hz
  simp only[zdu] at h
  split at h
  ·refine wpIn_seq (Yd E x S w wr a _ _ h hf hw hwf fun e S' w' a' wr' hK he=>?_)
   cases e with
   | normal=>exact Yd E y S' w' wr' a' _ _ hK he.fit he.rel he.wf fun e2 S2 w2 a2 wr2 hK2 he2=>hQ _ _ _ _ _ hK2 (he.trans he2 sub1 sub2)
   | _=>exact hQ _ _ _ _ _ hK (he.mono sub1)
  ·rename_i sp _
   cases hok:zm0 S sp (Je x) with
   | false=>rw[hok] at h; exact h.elim
   | true=>
    rw[hok] at h;simp only[cond_true] at h;have hs:=C3 hok;have hf0:TG C.n { S with lk:=LM S sp } a:=⟨hf.size,hf.fits,hf.old⟩;have hw0:Ze { S with lk:=LM S sp } w wr:=⟨hw.ext,hw.loc,hw.len,hw.dist,hw.fresh⟩;have hwf0:K6 { S with lk:=LM S sp }:=⟨hwf.old,fun id hid=>(Oe.1 hid).1⟩
    have out:∀{S':St} {w':Wo} {a':Act} {wr':Wo},M8 C { S with lk:=LM S sp } w (Je x) a S' w' a' wr'->M8 C S w (Je (.seq x y)) a { S' with lk:=S.lk } w' a' wr':=fun {S' w' a' wr'} he=>by
     have f1:Pk S { S' with lk:=S.lk }:=⟨he.fr.B,he.fr.ty,fun id hid=>⟨hid,(he.fr.lk id (Oe.2 ⟨hwf.lk id hid,fun hm=>hs.chgL id hm hid⟩)).2⟩⟩
     exact⟨⟨he.fit.size,he.fit.fits,he.fit.old⟩,⟨he.rel.ext,he.rel.loc,he.rel.len,he.rel.dist,he.rel.fresh⟩,⟨he.wf.old,fun id hid=>by
      obtain⟨cs',hc'⟩:=f1.ty id (S.L[id]'(hwf.lk id hid)).1 (S.L[id]'(hwf.lk id hid)).2 (List.getElem?_eq_getElem _);exact(List.getElem?_eq_some_iff.1 hc').1⟩,f1,he.fra.mono sub1,he.pm⟩
    cases hpm:C.pm with
    | true=>
     rw[hpm] at h;simp only[cond_true] at h;obtain⟨Mid,h1,h2⟩:=h;refine wpIn_seq (Yd E x _ w wr a _ _ h1 hf0 hw0 hwf0 fun e S' w' a' wr' hK he=>?_)
     cases e with
     | normal=>
      obtain⟨xs,ys,zs,g1,g2,g3,g4,g5,g6,g7⟩:=zbq hK;obtain⟨j1,j2,j3,j4,j5,j6,j7⟩:=zkc hs hf hw hwf he.fit he.rel he.fra he.fr g1 g2 g3 g6;obtain⟨p1,p2⟩:=he.pm hpm;refine Yd E y _ w wr' a' _ _ (DA (VL (VL h2 g4) g5) j1 g7) j3 (j7 p1 p2) j4 fun e2 S2 w2 a2 wr2 hK2 he2=>hQ _ _ _ _ _ hK2 ⟨he2.fit,he2.rel,he2.wf,j5.trans he2.fr,(he.fra.mono sub1).trans (he2.fra.mono sub2),fun hp=>he2.pm hp⟩
     | _=>exact hQ _ _ _ _ _ hK (out he)
    | false=>
     rw[hpm] at h;simp only[cond_false] at h;obtain⟨Mid,h1,h2⟩:=h;refine wpIn_seq (Yd E x _ w wr a _ _ h1 hf0 hw0 hwf0 fun e S' w' a' wr' hK he=>?_)
     cases e with
     | normal=>
      obtain⟨xs,ys,zs,g1,g2,g3,g4,g5,g6,g7⟩:=zbq (hK wr' he.rel.ext he.rel.lt);obtain⟨j1,j2,j3,j4,j5,j6,j7⟩:=zkc hs hf hw hwf he.fit he.rel he.fra he.fr g1 g2 g3 g6;refine Yd E y _ wr' wr' a' _ _ (DA (VL (VL h2 g4) g5) j1 wr' (fun b hb=>he.rel.lt b (j2 b hb)) g7) ⟨j3.size,j3.fits,j3.old⟩ j6 ⟨Nat.le_refl _,j4.lk⟩ fun e2 S2 w2 a2 wr2 hK2 he2=>hQ _ _ _ _ _ hK2 ⟨he2.fit,he2.rel,he2.wf,j5.trans ⟨he2.fr.B,he2.fr.ty,he2.fr.lk⟩,(he.fra.mono sub1).trans (he2.fra.mono sub2),fun hp=>by rw[hpm] at hp; cases hp⟩
     | _=>exact hQ _ _ _ _ _ hK (out he)
 | .cond c x y,S,w,wr,a,K,Q,h,hf,hw,hwf,hQ=>by
  simp only[zdu] at h
  split at h
  ·rename_i hb;have hc:a.eval c=.bool true:=Av hf hb;refine wpIn_cond_split hc (fun hb=>?_) (fun hb=>by cases hb);exact Yd E x S w wr a _ _ h hf hw hwf fun e S' w' a' wr' hK he=>hQ _ _ _ _ _ hK (he.mono fun z hz=>List.mem_append_left _ hz)
  ·rename_i hb;have hc:a.eval c=.bool false:=Av hf hb;refine wpIn_cond_split hc (fun hb=>by cases hb) (fun hb=>?_);exact Yd E y S w wr a _ _ h hf hw hwf fun e S' w' a' wr' hK he=>hQ _ _ _ _ _ hK (he.mono fun z hz=>List.mem_append_right _ hz)
  ·rename_i b hb;have hc:a.eval c=.bool b:=Av hf hb;refine wpIn_cond_split hc (fun hb=>?_) (fun hb=>?_)
   ·subst hb;exact Yd E x (setB S c true) w wr a _ _ (h.1 rfl) (hf.setB hc) (zg1 hw) (zkz hwf) fun e S' w' a' wr' hK he=>hQ _ _ _ _ _ hK ((zg0 he).mono fun z hz=>List.mem_append_left _ hz)
   ·subst hb;exact Yd E y (setB S c false) w wr a _ _ (h.2 rfl) (hf.setB hc) (zg1 hw) (zkz hwf) fun e S' w' a' wr' hK he=>hQ _ _ _ _ _ hK ((zg0 he).mono fun z hz=>List.mem_append_right _ hz)
  ·exact h.elim
 | .scope b,S,w,wr,a,K,Q,h,hf,hw,hwf,hQ=>by
  refine Lw (Yd E b S w wr a _ _ h hf hw hwf fun e S' w' a' wr' hK he=>?_)
  cases e with
  | goto l=>exact hK.elim
  | _=>exact hQ _ _ _ _ _ hK he
 | .block id b,S,w,wr,a,K,Q,h,hf,hw,hwf,hQ=>by
  refine wpIn_block (Yd E b S w wr a _ _ h hf hw hwf fun e S' w' a' wr' hK he=>?_)
  cases e with
  | exit id'=>
   simp only[Exit.inBlock]
   dsimp only at hK
   cases hb:Nat.beq id' id with
   | true=>
    rw[hb] at hK;rw[if_pos (Nat.eq_of_beq_eq_true hb)];exact hQ _ _ _ _ _ hK he
   | false=>
    rw[hb] at hK;rw[if_neg (fun e=>by rw[e,Nat.beq_refl] at hb; cases hb)];exact hQ _ _ _ _ _ hK he
  | _=>exact hQ _ _ _ _ _ hK he
 | .loop b,S,w,wr,a,K,Q,h,hf,hw,hwf,hQ=>by
  simp only[zdu] at h
  split at h
  ·exact h.elim
  ·rename_i key hkey
   split at h
   ·exact h.elim
   ·rename_i sp hsp
    cases hok:zm0 S sp (Je b) with
    | false=>rw[hok] at h; exact h.elim
    | true=>
     rw[hok] at h;simp only[cond_true] at h;have hs:=C3 hok
     cases hpm:C.pm with
     | true=>
      rw[hpm] at h;simp only[cond_true] at h;obtain⟨XU,μ,hinit,hall⟩:=h
      have mk:∀(S':St) (a':Act) (wr':Wo) (xs ys:List Va),TG C.n S' a'->Ze S' w wr'->S'.old=S.old->LR (Je b) a a'->(∀(id b:Nat),S.B[id]? = some b->S'.B[id]? = some b)->
        (∀(id:Nat) (t:TypeId) (cs:List Va),S.L[id]? = some (t,cs)->∃cs',S'.L[id]? = some (t,cs'))->(∀id,id<S.L.length->id∉sp.chgL.map (·.1)->S'.L[id]? = S.L[id]?)->
        KJ S' sp.chg=some xs->M5 S' sp.chgL=some ys->zqt C S w (Je b) a sp (xs++ys) w a' wr':=by
       intro S' a' wr' xs ys h1 h2 h3 h4 h5 h6 h7 h8 h9;obtain⟨g1,g2⟩:=NX hs hw h2 h5 h6 h7 (JQ h8).1 h9;refine⟨NW hs hf h1 h4 h8,⟨?_,g2,by rw[g1]; exact hw.len,hw.dist,hw.fresh⟩,⟨hwf.old,fun id hid=>by rw[g1]; exact(Oe.1 hid).1⟩,h4⟩;have hbs:S'.bs=S.bs:=by unfold St.bs; rw[h3]; exact zcl hwf.old h5
       have:=h2.ext;rw[hbs] at this;exact this
      obtain⟨xs,ys,hx,hy,hk,hI⟩:=PK hinit
      refine D9 (fun n a' wr'=>∃xs ys S',μ (xs++ys)=n/\XU (xs++ys)/\Jn sp.ks (xs++ys)=true/\xs.length=sp.chg.length/\M5 S' sp.chgL=some ys/\(∀(id:Nat) (t:TypeId) (cs:List Va),S.L[id]? = some (t,cs)->∃cs',S'.L[id]? = some (t,cs'))/\zqt C S w (Je b) a sp (xs++ys) w a' wr')
       (m:=μ (xs++ys)) ⟨xs,ys,S,rfl,hI,hk,(JQ hx).1,hy,fun _ _ cs h=>⟨cs,h⟩,mk S a wr xs ys hf hw rfl (LR.refl _ _) (fun _ _ h=>h) (fun _ _ cs h=>⟨cs,h⟩) (fun _ _ _=>rfl) hx hy⟩ ?_
      rintro n a' wr' ⟨xs,ys,S',rfl,hI,hk,hxl,hyl,hty,hH⟩;obtain⟨t1,t2⟩:=NY hs.nd hty hxl hyl
      have hlen:(Y9 S sp (xs++ys)).L.length=S.L.length:=by
       have:=hH.rel.len;rw[this]; exact hw.len.symm
      refine Yd E b _ w wr' a' _ _ (VL hall hk hI) hH.fit hH.rel hH.wf fun e S2 w2 a2 wr2 hK he=>?_
      obtain⟨f1,f2⟩:=zf2 hs hwf hlen t1 t2 he.fr;obtain⟨p1,p2⟩:=he.pm hpm;subst p1
      cases e with
      | normal=>
       obtain⟨xs',ys',hx',hy',hk',hI',hlt⟩:=PK hK;refine⟨μ (xs'++ys'),hlt,xs',ys',S2,rfl,hI',hk',(JQ hx').1,hy',f1.ty,?_⟩;exact mk S2 a2 wr2 xs' ys' he.fit he.rel p2 (hH.fra.trans he.fra) f1.B f1.ty f2 hx' hy'
      | _=>
       exact hQ _ _ _ _ _ hK ⟨⟨he.fit.size,he.fit.fits,he.fit.old⟩,⟨he.rel.ext,he.rel.loc,he.rel.len,he.rel.dist,he.rel.fresh⟩,
        ⟨he.wf.old,fun id hid=>by
         obtain⟨cs',hc'⟩:=f1.ty id (S.L[id]'(hwf.lk id hid)).1 (S.L[id]'(hwf.lk id hid)).2 (List.getElem?_eq_getElem _);exact(List.getElem?_eq_some_iff.1 hc').1⟩,f1,hH.fra.trans he.fra,fun _=>⟨rfl,p2⟩⟩
     | false=>
      rw[hpm] at h;simp only[cond_false] at h;obtain⟨XU,μ,hinit,hall⟩:=h
      have mk:∀(S':St) (w':Wo) (a':Act) (wr':Wo) (xs ys:List Va),TG C.n S' a'->Ze S' w' wr'->LR (Je b) a a'->(∀(id b:Nat),S.B[id]? = some b->S'.B[id]? = some b)->
        (∀(id:Nat) (t:TypeId) (cs:List Va),S.L[id]? = some (t,cs)->∃cs',S'.L[id]? = some (t,cs'))->(∀id,id<S.L.length->id∉sp.chgL.map (·.1)->S'.L[id]? = S.L[id]?)->
        KJ S' sp.chg=some xs->M5 S' sp.chgL=some ys->zqt C S.aged wr' (Je b) a sp (xs++ys) wr' a' wr':=by
       intro S' w' a' wr' xs ys h1 h2 h4 h5 h6 h7 h8 h9;obtain⟨g1,g2⟩:=NX hs hw h2 h5 h6 h7 (JQ h8).1 h9;have hf1:=NW (ys:=ys) hs hf h1 h4 h8;refine⟨⟨hf1.size,hf1.fits,hf1.old⟩,⟨Q0.refl _ _,g2,by show (Y9 S sp (xs++ys)).L.length=_; rw[g1]; exact hw.len,hw.dist,fun id b hid hb=>?_⟩,⟨Nat.le_refl _,fun id hid=>by show id<(Y9 S sp (xs++ys)).L.length; rw[g1]; exact(Oe.1 hid).1⟩,h4⟩;have:id<S.B.length:=(List.getElem?_eq_some_iff.1 hb).1;have hid':S.B.length<=id:=hid;omega
      obtain⟨xs,ys,hx,hy,hk,hI⟩:=PK (hinit wr hw.ext hw.lt)
      refine D9 (fun n a' wr'=>∃xs ys S',μ (xs++ys) wr'=n/\XU (xs++ys) wr'/\Jn sp.ks (xs++ys)=true/\xs.length=sp.chg.length/\M5 S' sp.chgL=some ys/\(∀(id:Nat) (t:TypeId) (cs:List Va),S.L[id]? = some (t,cs)->∃cs',S'.L[id]? = some (t,cs'))/\zqt C S.aged wr' (Je b) a sp (xs++ys) wr' a' wr')
       (m:=μ (xs++ys) wr) ⟨xs,ys,S,rfl,hI,hk,(JQ hx).1,hy,fun _ _ cs h=>⟨cs,h⟩,mk S w a wr xs ys hf hw (LR.refl _ _) (fun _ _ h=>h) (fun _ _ cs h=>⟨cs,h⟩) (fun _ _ _=>rfl) hx hy⟩ ?_
      rintro n a' wr' ⟨xs,ys,S',rfl,hI,hk,hxl,hyl,hty,hH⟩;obtain⟨t1,t2⟩:=NY hs.nd hty hxl hyl
      have hlen:(Y9 S sp (xs++ys)).L.length=S.L.length:=by
       have:(Y9 S.aged sp (xs++ys)).L.length=S.B.length:=hH.rel.len;rw[<-hw.len] at this;exact this
      refine Yd E b _ wr' wr' a' _ _ (VL hall hk wr' hH.rel.lt hI) hH.fit hH.rel hH.wf fun e S2 w2 a2 wr2 hK he=>?_
      have hfr':Pk (Y9 S sp (xs++ys)) S2:=⟨he.fr.B,he.fr.ty,he.fr.lk⟩;obtain⟨f1,f2⟩:=zf2 hs hwf hlen t1 t2 hfr'
      cases e with
      | normal=>
       obtain⟨xs',ys',hx',hy',hk',hI',hlt⟩:=PK (hK wr2 he.rel.ext he.rel.lt);refine⟨μ (xs'++ys') wr2,hlt,xs',ys',S2,rfl,hI',hk',(JQ hx').1,hy',f1.ty,?_⟩;exact mk S2 w2 a2 wr2 xs' ys' he.fit he.rel (hH.fra.trans he.fra) f1.B f1.ty f2 hx' hy'
      | _=>
       exact hQ _ _ _ _ _ hK ⟨⟨he.fit.size,he.fit.fits,he.fit.old⟩,⟨he.rel.ext,he.rel.loc,he.rel.len,he.rel.dist,he.rel.fresh⟩,
        ⟨he.wf.old,fun id hid=>by
         obtain⟨cs',hc'⟩:=f1.ty id (S.L[id]'(hwf.lk id hid)).1 (S.L[id]'(hwf.lk id hid)).2 (List.getElem?_eq_getElem _);exact(List.getElem?_eq_some_iff.1 hc').1⟩,f1,hH.fra.trans he.fra,fun hp=>by rw[hpm] at hp; cases hp⟩
 | .rangeFunc _ _ _ _,_,_,_,_,_,_,h,_,_,_,_=>h.elim
 | .goto _,_,_,_,_,_,_,h,_,_,_,_=>h.elim
 | .refuse _,_,_,_,_,_,_,h,_,_,_,_=>h.elim
def zf4:List Va->Nat->PT SV
 | [],_=>.leaf
 | v::r,i=>PT.set 12 (zf4 r (i+1)) i (.un (.v v))
theorem zbo:∀{l:List Va} {k i:Nat} {sv:SV},k+l.length<=4000->(zf4 l k).get i=some sv->∃v,l[i-k]? = some v/\k<=i/\sv=.un (.v v)
 | [],k,i,sv,_,h=>by simp[zf4,PT.get] at h
 | v::r,k,i,sv,hl,h=>by
  simp only[zf4] at h;simp only[List.length_cons] at hl;rw[PT.get_set _ 12 _ _ _ (by show @LT.lt Nat _ (k+1) (2 ^ 12); have e:(2:Nat) ^ 12=4096:=rfl; omega)] at h
  by_cases hk:k=i
  ·subst hk;rw[if_pos rfl] at h;simp only[Option.some.injEq] at h;exact⟨v,by simp,Nat.le_refl _,h.symm⟩
  ·rw[if_neg hk] at h;obtain⟨u,h1,h2,h3⟩:=zbo (by omega) h;refine⟨u,?_,by omega,h3⟩;have:i-k=(i-(k+1))+1:=by omega
   rw[this]; simpa using h1
def Gi(args:List Va):St:={ F:=zf4 args 0,L:=[],B:=[],old:=0,lk:=[],r:=1 }
def zgt(C:VI)(S:St)(w:Wo):List ResultVar->(List Va->Prop)->Prop
 | [],K=>K []
 | .tmp t::r,K=>match KW S [] (.tmp t) with
  | some v=>zgt C S w r fun l=>K (v::l)
  | none=>False
 | .cell p t::r,K=>match C.T t,Cf S [] (.tmp p) with
  | some ty,some (.loc id 0)=>match S.L[id]? with
   | some (_,cs)=>bif Nat.beq cs.length ty.ks.length then
     (match ty.val cs with
      | some v=>zgt C S w r fun l=>K (v::l)
      | none=>False)
    else False
   | none=>False
  | some ty,some (.el o n)=>zfr ty.ks fun vs=>match ty.val vs with
   | some v=>Q2 S.bs w o n vs/\zgt C S w r fun l=>K (v::l)
   | none=>False
  | _,_=>False
def zjg:List Va->Va
 | [v]=>v
 | l=>.tuple l.toArray
def zob(C:VI)(sps:List (Nat×YY))(args:List Va)(body:Code)(res:List ResultVar)(w:Wo)(R:Va->Wo->Prop):Prop:=
 zdu C sps body (Gi args) w fun e S w'=>match e with
  | .normal | .ret=>zgt C S w' res fun l=>bif C.pm then R (zjg l) w' else ∀wr,Q0 S.bs w' wr->R (zjg l) wr
  | _=>False
theorem zpu{C:VI}(E:znc C){S:St}{w wr:Wo}{a:Act}(hf:TG C.n S a)(hw:Ze S w wr):∀{res:List ResultVar} {K:List Va->Prop},zgt C S w res K->
  ∃l,K l/\l.length=res.length/\(res.mapM (m:=Sem) fun
   | .tmp t=>pure (a.tmps.getD t undef)
   | .cell p t=>do loadVar t (<-asAddr (a.tmps.getD p undef))).run C.P wr=.ok l wr:=by
 have hd:∀{x:Operand} {e:EV},Cf S [] x=some e->EV.den S e (a.eval x):=fun {x e} hb=>by
  have:=ZI (ops:=#[]) (hf.enter #[] (fun _=>False)).fit (pc:=[]) (fun p hp=>by cases hp) (S:={ S with r:=S.r+1 }) (x:=x) (e:=e) (by
   cases x with
   | tmp t=>
    simp only[Cf] at hb ⊢
    split at hb
    ·exact hb
    ·rename_i r pc' y hg
     cases hb2:Nat.beq r S.r&&AO pc' [] with
     | false=>rw[hb2] at hb; cases hb
     | true=>
      simp only[Bool.and_eq_true] at hb2;have:=Nat.eq_of_beq_eq_true hb2.1;have h2:=hf.old t r pc' y hg;omega
    ·cases hb
   | const v=>exact hb
   | global g=>exact hb
   | func f=>exact hb)
  exact EV.den_mono (S:={ S with r:=S.r+1 }) (fun _ _ h=>h) this
 intro res
 induction res with
 | nil=>intro K h; exact⟨[],h,rfl,by simp⟩
 | cons x r ih=>
  intro K h
  cases x with
  | tmp t=>
   simp only[zgt] at h
   split at h
   ·rename_i v hv;obtain⟨l,h1,h2,h3⟩:=ih h
    have hv':a.tmps.getD t undef=v:=by
     unfold KW at hv
     split at hv
     ·rename_i e he;exact zc7 hv (hd he)
     ·cases hv
    refine⟨v::l,h1,by simp[h2],?_⟩;simp only[List.mapM_cons,Sem.run_bind,Sem.run_pure,Result.andThen_ok,h3,hv']
   ·exact h.elim
  | cell p t=>
   simp only[zgt] at h
   split at h
   ·rename_i ty id ht he;obtain⟨b,hb,hx⟩:=hd he;simp only[Act.eval] at hx
    split at h
    ·rename_i t' cs hl
     cases hc:Nat.beq cs.length ty.ks.length with
     | false=>rw[hc] at h; exact h.elim
     | true=>
      rw[hc] at h;simp only[cond_true] at h
      split at h
      ·rename_i v hv;obtain⟨l,h1,h2,h3⟩:=ih h
       have hl2:=T6 E.T ht hv (Nat.eq_of_beq_eq_true hc) (a:=⟨b,0,none⟩) (w:=wr) (fun j y hy=>by
        rw[Addr.add_lit,Kr hw hl hb,Nat.zero_add]; exact hy)
       refine⟨v::l,h1,by simp[h2],?_⟩;have ha:(asAddr (a.tmps.getD p undef)).run C.P wr=.ok ⟨b,0,none⟩ wr:=by rw[hx]; rfl
       simp only[List.mapM_cons,Sem.run_bind,ha,Sem.run_pure,Result.andThen_ok,hl2,h3]
      ·exact h.elim
    ·exact h.elim
   ·rename_i ty o n ht he;obtain⟨ad,ho,hx⟩:=hd he;simp only[Act.eval] at hx;obtain⟨vs,hlen,h⟩:=Tq h
    split at h
    ·rename_i v hv;obtain⟨hcx,h⟩:=h;obtain⟨l,h1,h2,h3⟩:=ih h;have hl2:=T6 E.T ht hv hlen (a:=ad.add n) (w:=wr) (hcx.cells hw.ext ho);refine⟨v::l,h1,by simp[h2],?_⟩;have ha:(asAddr (a.tmps.getD p undef)).run C.P wr=.ok (ad.add n) wr:=by rw[hx]; rfl
     simp only[List.mapM_cons,Sem.run_bind,ha,Sem.run_pure,Result.andThen_ok,hl2,h3]
    ·exact h.elim
   ·exact h.elim
theorem EP{C:VI}(E:znc C){sps:List (Nat×YY)}{f:FuncId}{fn:Func}{body:Code}{args:List Va}{w:Wo}{R:Va->Wo->Prop}(hf:C.P.funcs[f]? = some fn)(hb:fn.body=some body)(hn:fn.ntmps=C.n)(hargs:args.length<=C.n)(hn4:C.n<=4000)(hrd:C.rd=none)(h:zob C sps args body fn.results.toList w R):Calls C.P f args.toArray w fun e w'=>∃v wv,e=.returned v/\(C.pm=true->wv=w/\Q0 [] w w')/\(C.pm=true->R v wv)/\(C.pm=false->R v w'):=by
 refine(callsIn_wide (n:=0)).1 (callsIn_of_wp hf hb trivial ?_);have hF:Gf C.rd=Fence.wide:=by rw[hrd]; rfl
 rw[<-hF]
 have hfit:TG C.n (Gi args) { tmps:=args.toArray++Array.replicate (fn.ntmps-args.toArray.size) undef,defers:=[] }:=by
  have hget:∀i sv,(Gi args).F.get i=some sv->∃v,args[i]? = some v/\sv=.un (.v v):=fun i sv hs=>by
   obtain⟨v,h1,_,h3⟩:=zbo (by omega) hs;exact⟨v,by simpa using h1,h3⟩
  refine⟨by simp[hn]; omega,fun i x hx=>?_,fun i r pc x hx=>?_⟩
  ·obtain⟨v,h1,h2⟩:=hget i _ hx;cases h2;show _=v;rw[Array.getD_eq_getD_getElem?,Array.getElem?_append_left (by simpa using (List.getElem?_eq_some_iff.1 h1).1)];simp[h1]
  ·obtain⟨v,h1,h2⟩:=hget i _ hx;cases h2
 have hrel:Ze (Gi args) w w:=⟨Q0.refl _ _,fun id t cs hl=>by simp[Gi] at hl,rfl,List.nodup_nil,fun id b _ hb=>by simp[Gi] at hb⟩;refine Yd E body (Gi args) w w _ _ _ h hfit hrel ⟨Nat.zero_le _,fun id hid=>by cases hid⟩ fun e S w' a' wr' hK he=>?_
 have fin:zgt C S w' fn.results.toList (fun l=>bif C.pm then R (zjg l) w' else ∀wr,Q0 S.bs w' wr->R (zjg l) wr)->a'.defers=[]/\∃v,(results fn a'.tmps).run C.P wr'=.ok v wr'/\∃v' wv,Ending.returned v=.returned v'/\(C.pm=true->wv=w/\Q0 [] w wr')/\(C.pm=true->R v' wv)/\(C.pm=false->R v' wr'):=fun hr=>by
  obtain⟨l,h1,h2,h3⟩:=zpu E he.fit he.rel hr;refine⟨he.fra.1,zjg l,?_,zjg l,w',rfl,fun hp=>?_,fun hp=>?_,fun hp=>?_⟩
  ·simp only[results,Sem.run_bind,Array.mapM_eq_mapM_toList,Sem.run_map];refine(congrArg (fun r:Result (List Va)=>(r.andThen fun a w'=>Result.ok a.toArray w').andThen fun vs w'=>(Pure.pure (if h:vs.size=1 then vs[0] else .tuple vs):Sem Va).run C.P w') h3).trans ?_;simp only[Result.andThen_ok,Sem.run_pure]
   congr 1
   cases l with
   | nil=>rfl
   | cons x r=>
    cases r with
    | nil=>rfl
    | cons y q=>simp[zjg]
  ·obtain⟨p1,p2⟩:=he.pm hp;refine⟨p1,?_⟩;have hx:=he.rel.ext;rw[<-p1];have hbs:S.bs=[]:=by unfold St.bs; rw[p2]; rfl
   rw[hbs] at hx;exact hx
  ·rw[hp] at h1; exact h1
  ·rw[hp] at h1; exact h1 wr' he.rel.ext
 cases e with
 | normal=>exact fin hK
 | ret=>exact fin hK
 | _=>exact hK.elim
theorem zi0{C:VI}(E:znc C){sps:List (Nat×YY)}{f:FuncId}{fn:Func}{body:Code}{args:List Va}{w:Wo}{bs:List Nat}{r:Va}(hf:C.P.funcs[f]? = some fn)(hb:fn.body=some body)(hn:fn.ntmps=C.n)(hargs:args.length<=C.n)(hn4:C.n<=4000)(hpm:C.pm=true)(hrd:C.rd=none)(h:∀wr,Q0 bs w wr->zob C sps args body fn.results.toList wr fun v _=>v=r):Q4 bs C.P f args.toArray w r:=fun wr hx=>
 (EP E hf hb hn hargs hn4 hrd (h wr hx)).mono fun e w' ⟨v,_,he,h1,h2,_⟩=>by
  have:=h2 hpm;subst this;exact⟨he,(h1 hpm).2⟩
theorem zlw{C:VI}(E:znc C){sps:List (Nat×YY)}{f:FuncId}{fn:Func}{body:Code}{args:List Va}{w:Wo}{R:Va->Wo->Prop}(hf:C.P.funcs[f]? = some fn)(hb:fn.body=some body)(hn:fn.ntmps=C.n)(hargs:args.length<=C.n)(hn4:C.n<=4000)(hpm:C.pm=false)(hrd:C.rd=none)(h:zob C sps args body fn.results.toList w R):Calls C.P f args.toArray w fun e w'=>∃v,e=.returned v/\R v w':=
 (EP E hf hb hn hargs hn4 hrd h).mono fun e w' ⟨v,_,he,_,_,h3⟩=>⟨v,he,h3 hpm⟩
theorem Oh{w:Wo}{b:Nat}{cs:Array Va}{t:TypeId}{fz:Nat×Nat}(h:w.heap[b]? = some (.cells cs t fz))(k:Nat):w.cell? ⟨b,k,none⟩=cs[k]? := by
 simp[World.cell?,h]
theorem VM{w:Wo}{b:Nat}{o:Obj}(h:w.heap[b]? = some o):b<w.heap.size:=by
 rcases Nat.lt_or_ge b w.heap.size with hl | hl
 ·exact hl
 ·rw[Array.getElem?_eq_none_iff.2 hl] at h; cases h
theorem UO{bs:List Nat}{w:Wo}{b k0:Nat}{cs:List Va}{t:TypeId}{fz:Nat×Nat}(h:w.heap[b]? = some (.cells cs.toArray t fz))(hb:b∉bs){k:Nat}{v:Va}(hk:cs[k0+k]? = some v):Ju bs w (some ⟨b,k0,none⟩) k v:=
 ⟨⟨b,k0,none⟩,rfl,hb,by rw[Addr.add_lit,Oh h]; simpa using hk⟩
theorem Ut{bs:List Nat}{w:Wo}{o:OA}{n:Nat}{v:Va}(h:Ju bs w o n v):Q2 bs w o n [v]:=h
theorem UP{bs:List Nat}{w:Wo}{o:OA}:∀{n:Nat} {vs:List Va},(∀j v,vs[j]? = some v->Ju bs w o (n+j) v)->Q2 bs w o n vs
 | _,[],_=>trivial
 | n,[v],h=>h 0 v rfl
 | n,v::u::r,h=>⟨h 0 v rfl,UP (vs:=u::r) fun j x hj=>by
   have:=h (j+1) x (by simpa using hj);rw[show n+1+j=n+(j+1) by omega]; exact this⟩
theorem Oi{bs:List Nat}{w:Wo}{b k0:Nat}{cs:List Va}{t:TypeId}{fz:Nat×Nat}(h:w.heap[b]? = some (.cells cs.toArray t fz))(hb:b∉bs){n:Nat}{vs:List Va}(hk:∀j v,vs[j]? = some v->cs[k0+(n+j)]? = some v):Q2 bs w (some ⟨b,k0,none⟩) n vs:=
 UP fun j v hj=>UO h hb (hk j v hj)
theorem Q2.ext{bs:List Nat}{w w':Wo}{o:OA}{n:Nat}{vs:List Va}(h:Q2 bs w o n vs)(hx:Q0 bs w w'):Q2 bs w' o n vs:=
 UP fun j v hj=>(h.get j v hj).ext hx
theorem Q2.less{bs cs:List Nat}{w:Wo}{o:OA}{n:Nat}{vs:List Va}(h:Q2 bs w o n vs)(hs:∀x∈cs,x∈bs):Q2 cs w o n vs:=
 UP fun j v hj=>(h.get j v hj).less hs
theorem ZP{bs:List Nat}{w w':Wo}{b:Nat}{o:Obj}(h:w.heap[b]? = some o)(hx:Q0 bs w w')(hb:b∉bs):w'.heap[b]? = some o:=by
 rw[hx.block b (VM h) hb]; exact h
theorem L7{w:Wo}{b k n:Nat}{cs vs:List Va}{t:TypeId}{fz:Nat×Nat}(h:w.heap[b]? = some (.cells cs.toArray t fz)):(sto w (some ⟨b,k,none⟩) n vs).heap[b]? = some (.cells (zeu cs (k+n) vs).toArray t fz):=GF vs w b k n cs t fz h
theorem zha(bs:List Nat)(a:Addr):∀(vs:List Va) (w:Wo) (n:Nat),a.block∈bs->Q0 bs w (stoL w a n vs)
 | [],w,n,_=>Q0.refl _ _
 | v::r,w,n,h=>((Q0.refl bs w).setCell (p:=a.add n) (.inr (by rw[Zl]; exact h)) v).trans (zha bs a r _ _ h)
theorem Pc{bs:List Nat}{w:Wo}{o:OA}{n:Nat}{vs:List Va}(h:∀a,o=some a->a.block∈bs):Q0 bs w (sto w o n vs):=by
 cases o with
 | none=>exact Q0.refl _ _
 | some a=>exact zha bs a vs w n (h a rfl)
theorem BW{bs:List Nat}{w:Wo}{b k0 n k:Nat}{cs:List Va}{t:TypeId}(h:w.heap[b]? = some (.cells cs.toArray t (0,0)))(hb:b∉bs)(hk:k0+(n+k)<=cs.length):YX bs w (some ⟨b,k0,none⟩) n k:=
 ⟨⟨b,k0,none⟩,rfl,hb,fun j h1 h2=>by
  rw[Addr.add_lit,Oh h];refine⟨⟨cs[k0+j]'(by omega),by simp⟩,?_⟩;simp[World.frozen?,h]⟩
theorem Q0.fresh{bs cs:List Nat}{w0 w w':Wo}(h:Q0 bs w0 w)(k:Q0 cs w w')(hc:∀x∈cs,w0.heap.size<=x\/x∈bs):Q0 bs w0 w':=
 ⟨k.os.trans h.os,k.tape.trans h.tape,k.output.trans h.output,Nat.le_trans h.size k.size,fun i hi hb=>(k.block i (Nat.lt_of_lt_of_le hi h.size) (fun hx=>by
  rcases hc i hx with h1 | h1
  ·omega
  ·exact hb h1)).trans (h.block i hi hb)⟩
theorem HU{bs:List Nat}{P:Program}{f:FuncId}{args:Array Va}{w:Wo}{v:Va}(h:∀wr,Q0 bs w wr->Calls P f args wr fun e w'=>∃v0,e=.returned v0/\(v0=v/\Q0 [] wr w')):Q4 bs P f args w v:=
 fun wr hx=>(h wr hx).mono fun e w' ⟨v0,he,hv,hx'⟩=>⟨by rw[he,hv],hx'⟩
theorem zk6{w:Wo}{o:OA}{n k:Nat}{vs:List Va}:sto w (o.map (·.add n)) k vs=sto w o (n+k) vs:=by
 cases o with
 | none=>rfl
 | some a=>
  simp only[Option.map_some,sto]
  induction vs generalizing w k with
  | nil=>rfl
  | cons v r ih=>
   simp only[stoL];rw[Xt,ih];rfl
theorem zlg{bs:List Nat}{w:Wo}{o:OA}{n k m:Nat}:YX bs w (o.map (·.add n)) k m↔YX bs w o (n+k) m:=by
 cases o with
 | none=>
  constructor <;> (rintro⟨a,ha,_⟩; cases ha)
 | some p=>
  constructor
  ·rintro⟨a,ha,hb,hc⟩;simp only[Option.map_some,Option.some.injEq] at ha;subst ha;refine⟨p,rfl,by rwa[Zl] at hb,fun j h1 h2=>?_⟩;have:=hc (j-n) (by omega) (by omega)
   rwa[Xt,show n+(j-n)=j by omega] at this
  ·rintro⟨a,ha,hb,hc⟩;cases ha;refine⟨p.add n,rfl,by rwa[Zl],fun j h1 h2=>?_⟩;rw[Xt];exact hc (n+j) (by omega) (by omega)
structure Mx where
 floor:Int
 on:Bool
 v:Int
 w:Int
 sum:Int
 deriving DecidableEq,Inhabited
structure Jb where
 quota:Int
 pool:Int
 spent:Int
 locals:List Int
 dry:List Bool
 deriving DecidableEq,Inhabited
structure ZA where
 used:Bool
 parent:Int
 name:ByteArray
 weight:Int
 cpus:Int
 period:Int
 next:Int
 sum:Int
 band:Jb
 shelves:List Mx
 deriving DecidableEq,Inhabited
structure P5 where
 state:Int
 group:Int
 cpu:Int
 nice:Int
 mask:Int
 v:Int
 sum:Int
 used:Int
 load:Int
 deriving DecidableEq,Inhabited
structure OY where
 up:Bool
 cur:Int
 ran:Int
 busy:Int
 idle:Int
 deriving DecidableEq,Inhabited
structure Q7 where
 now:Int
 cpus:List OY
 tasks:List P5
 groups:List ZA
 deriving DecidableEq,Inhabited
structure zs1 where
 kind:Int
 at':Int
 n:Int
 deriving DecidableEq,Inhabited
def gi{α:Type}[Inhabited α](l:List α)(i:Int):α:=l.getD i.toNat default
theorem zoi{α:Type}[Inhabited α](l:List α)(k:Nat):gi l (k:Int)=l.getD k default:=rfl
theorem J0{α:Type}[Inhabited α]{l:List α}{k:Nat}(h:k<l.length):gi l (k:Int)=l[k]:=by
 simp[zoi,List.getD_eq_getElem?_getD,h]
theorem zrf{α:Type}[Inhabited α]{l:List α}{k:Nat}(h:k<l.length):l[k]? = some (gi l (k:Int)):=by
 rw[J0 h]; simp[h]
theorem zib{α:Type}[Inhabited α]{l:List α}{i:Int}(h0:0<=i)(h1:i<l.length):gi l i∈l:=by
 obtain⟨k,rfl⟩:=Int.eq_ofNat_of_zero_le h0;have:k<l.length:=by omega
 rw[J0 this]; exact List.getElem_mem this
theorem zia{α:Type}[Inhabited α]{l m:List α}(hl:l.length=m.length)(h:∀k:Nat,k<l.length->gi l (k:Int)=gi m (k:Int)):l=m:=by
 refine List.ext_getElem hl fun k h1 h2=>?_
 have:=h k h1
 rwa[J0 h1,J0 h2] at this
theorem Qw{α:Type}[Inhabited α](l:List α)(x:α){i j:Int}(h0:0<=i)(hi:i<(l.length:Int))(hj:0<=j):gi (l.set i.toNat x) j=if i=j then x else gi l j:=by
 obtain⟨k,rfl⟩:=Int.eq_ofNat_of_zero_le h0;obtain⟨q,rfl⟩:=Int.eq_ofNat_of_zero_le hj;simp only[zoi,Int.toNat_natCast,List.getD_eq_getElem?_getD,List.getElem?_set]
 by_cases hkq:k=q
 ·subst hkq;have:k<l.length:=by omega
  simp[this]
 ·have:¬((k:Int)=q):=by omega
  simp[hkq,this]
def P1(s:Mx):List Va:=[.int .i64 s.floor,.bool s.on,.int .i64 s.v,.int .i64 s.w,.int .i64 s.sum]
def YM(t:P5):List Va:=[.int .i64 t.state,.int .i64 t.group,.int .i64 t.cpu,.int .i64 t.nice,.int .i64 t.mask,.int .i64 t.v,.int .i64 t.sum,.int .i64 t.used,.int .i64 t.load]
def P0(c:OY):List Va:=[.bool c.up,.int .i64 c.cur,.int .i64 c.ran,.int .i64 c.busy,.int .i64 c.idle]
def zoa(o:zs1):List Va:=[.int .i64 o.kind,.int .i64 o.at',.int .i64 o.n]
def Xu(n:Int):List Va:=[.int .i64 n]
def Ol(b:Bool):List Va:=[.bool b]
structure MG where
 lO:OA
 lC:Nat
 dO:OA
 dC:Nat
 sO:OA
 sC:Nat
 deriving Inhabited
def Yc(g:ZA)(m:MG):List Va:=[.bool g.used,.int .i64 g.parent,.string g.name,.int .i64 g.weight,.int .i64 g.cpus,.int .i64 g.period,.int .i64 g.next,.int .i64 g.sum,
 .int .i64 g.band.quota,.int .i64 g.band.pool,.int .i64 g.band.spent,.slice m.lO g.band.locals.length m.lC,.slice m.dO g.band.dry.length m.dC,.slice m.sO g.shelves.length m.sC]
def Rd{α:Type}[Inhabited α](enc:α->List Va)(z:Nat)(bs:List Nat)(w:Wo)(o:OA)(l:List α):Prop:=
 ∀i:Int,0<=i->i<(l.length:Int)->Q2 bs w o (Int.toNat i*z) (enc (gi l i))
theorem Rd.ext{α:Type}[Inhabited α]{enc:α->List Va}{z:Nat}{bs:List Nat}{w w':Wo}{o:OA}{l:List α}(h:Rd enc z bs w o l)(hx:Q0 bs w w'):Rd enc z bs w' o l:=
 fun i h0 h1=>(h i h0 h1).ext hx
theorem Rd.less{α:Type}[Inhabited α]{enc:α->List Va}{z:Nat}{bs cs:List Nat}{w:Wo}{o:OA}{l:List α}(h:Rd enc z bs w o l)(hs:∀x∈cs,x∈bs):Rd enc z cs w o l:=
 fun i h0 h1=>(h i h0 h1).less hs
theorem Ju.wide{bs cs:List Nat}{w:Wo}{o:OA}{n:Nat}{v:Va}(h:Ju bs w o n v)(hs:∀x∈cs,x∈bs\/w.heap.size<=x):Ju cs w o n v:=by
 obtain⟨a,ho,hb,hc⟩:=h;refine⟨a,ho,fun hx=>?_,hc⟩;have hlt:=World.block_lt_of_cell? w _ hc;rw[Zl] at hlt;rcases hs _ hx with h1 | h1
 ·exact hb h1
 ·omega
theorem Q2.wide{bs cs:List Nat}{w:Wo}{o:OA}{n:Nat}{vs:List Va}(h:Q2 bs w o n vs)(hs:∀x∈cs,x∈bs\/w.heap.size<=x):Q2 cs w o n vs:=
 UP fun j v hj=>(h.get j v hj).wide hs
theorem Rd.wide{α:Type}[Inhabited α]{enc:α->List Va}{z:Nat}{bs cs:List Nat}{w:Wo}{o:OA}{l:List α}(h:Rd enc z bs w o l)(hs:∀x∈cs,x∈bs\/w.heap.size<=x):Rd enc z cs w o l:=
 fun i h0 h1=>(h i h0 h1).wide hs
theorem Q2.some{bs:List Nat}{w:Wo}{o:OA}{n:Nat}{v:Va}{r:List Va}(h:Q2 bs w o n (v::r)):o.isSome=true:=by
 obtain⟨a,rfl,_,_⟩:=h.get 0 v rfl;rfl
theorem Rd.ix{α:Type}[Inhabited α]{enc:α->List Va}{z:Nat}{bs:List Nat}{w:Wo}{o:OA}{l:List α}(h:Rd enc z bs w o l)(he:∀x,∃v r,enc x=v::r){i:Int}(h0:0<=i)(h1:i<(l.length:Int)):Ix o l.length i:=by
 obtain⟨v,r,e⟩:=he (gi l i);have:=h i h0 h1;rw[e] at this;exact⟨h0,h1,this.some⟩
theorem ZD(x:Mx):∃v r,P1 x=v::r:=⟨_,_,rfl⟩
theorem QI(x:P5):∃v r,YM x=v::r:=⟨_,_,rfl⟩
theorem Zh(x:OY):∃v r,P0 x=v::r:=⟨_,_,rfl⟩
theorem Uv(x:Int):∃v r,Xu x=v::r:=⟨_,_,rfl⟩
theorem Gc(x:Bool):∃v r,Ol x=v::r:=⟨_,_,rfl⟩
abbrev ze8:=Rd P1 5
abbrev zqo:=Rd YM 9
abbrev zu8:=Rd P0 5
abbrev zfa:=Rd Xu 1
abbrev zjp:=Rd Ol 1
structure Mw (bs:List Nat) (w:Wo) (o:OA) (gs:List ZA) (ms:Nat->MG):Prop where
 cells:∀i:Int,0<=i->i<(gs.length:Int)->Q2 bs w o (Int.toNat i*14) (Yc (gi gs i) (ms i.toNat))
 locals:∀i:Int,0<=i->i<(gs.length:Int)->zfa bs w (ms i.toNat).lO (gi gs i).band.locals
 dry:∀i:Int,0<=i->i<(gs.length:Int)->zjp bs w (ms i.toNat).dO (gi gs i).band.dry
 shelves:∀i:Int,0<=i->i<(gs.length:Int)->ze8 bs w (ms i.toNat).sO (gi gs i).shelves
theorem Mw.ext{bs:List Nat}{w w':Wo}{o:OA}{gs:List ZA}{ms:Nat->MG}(h:Mw bs w o gs ms)(hx:Q0 bs w w'):Mw bs w' o gs ms:=
 ⟨fun i a b=>(h.cells i a b).ext hx,fun i a b=>(h.locals i a b).ext hx,fun i a b=>(h.dry i a b).ext hx,fun i a b=>(h.shelves i a b).ext hx⟩
theorem Mw.less{bs cs:List Nat}{w:Wo}{o:OA}{gs:List ZA}{ms:Nat->MG}(h:Mw bs w o gs ms)(hs:∀x∈cs,x∈bs):Mw cs w o gs ms:=
 ⟨fun i a b=>(h.cells i a b).less hs,fun i a b=>(h.locals i a b).less hs,fun i a b=>(h.dry i a b).less hs,fun i a b=>(h.shelves i a b).less hs⟩
theorem Mw.wide{bs cs:List Nat}{w:Wo}{o:OA}{gs:List ZA}{ms:Nat->MG}(h:Mw bs w o gs ms)(hs:∀x∈cs,x∈bs\/w.heap.size<=x):Mw cs w o gs ms:=
 ⟨fun i a b=>(h.cells i a b).wide hs,fun i a b=>(h.locals i a b).wide hs,fun i a b=>(h.dry i a b).wide hs,fun i a b=>(h.shelves i a b).wide hs⟩
theorem Mw.ix{bs:List Nat}{w:Wo}{o:OA}{gs:List ZA}{ms:Nat->MG}(h:Mw bs w o gs ms){i:Int}(h0:0<=i)(h1:i<(gs.length:Int)):Ix o gs.length i:=
 ⟨h0,h1,(h.cells i h0 h1).some⟩
def Y5(p:Nat)(vs:List Va):Int:=match vs[p]? with
 | some (.int _ i)=>i
 | _=>0
def zls(I:Nat->Prop)(vs:List Va):Prop:=∃k:Nat,I k/\vs=[.int .i64 (k:Int)]
def XK(n:Nat)(p:Nat)(vs:List Va):Nat:=((n:Int)+1-Y5 p vs).toNat
theorem YE{B:(List Va->Prop)->(List Va->Nat)->Int->Prop}(n:Nat){si:Int}(s:Nat)(hs:si=s)(I:Nat->Prop)(h0:I s)(hB:∀k:Nat,I k->B (zls I) (XK n 0) (k:Int)) :
  ∃(xInv:List Va->Prop) (mu:List Va->Nat),xInv [.int .i64 si]/\∀i:Int,xInv [.int .i64 i]->B xInv mu i:=by
 refine⟨zls I,XK n 0,⟨s,h0,by rw[hs]⟩,?_⟩;rintro i ⟨k,hI,he⟩;simp only[List.cons.injEq,Value.int.injEq,true_and,and_true] at he;subst he;exact hB k hI
theorem Qr{n k:Nat}{I:Nat->Prop}(hk:k<n)(hI:I (k+1)):zls I [.int .i64 ((k:Int)+1)]/\XK n 0 [.int .i64 ((k:Int)+1)]<XK n 0 [.int .i64 (k:Int)]:=by
 refine⟨⟨k+1,hI,by simp⟩,?_⟩;simp only[XK,Y5,List.getElem?_cons_zero];omega
def zn3(I:Nat->Wo->Prop)(vs:List Va)(w:Wo):Prop:=∃k:Nat,I k w/\vs=[.int .i64 (k:Int)]
def Zu(n:Nat)(p:Nat)(vs:List Va)(_:Wo):Nat:=XK n p vs
theorem OM{B:(List Va->Wo->Prop)->(List Va->Wo->Nat)->Int->Wo->Prop}{bs L:List Nat}{wv:Wo}(n:Nat){si:Int}(s:Nat)(hs:si=s)(I:Nat->Wo->Prop)(h0:∀wr,Q0 bs wv wr->(∀bq∈L,bq<wr.heap.size)->I s wr)(hB:∀(k:Nat) (w1:Wo),(∀bq∈L,bq<w1.heap.size)->I k w1->B (zn3 I) (Zu n 0) (k:Int) w1) :
  ∃(xInv:List Va->Wo->Prop) (mu:List Va->Wo->Nat),(∀wr,Q0 bs wv wr->(∀bq∈L,bq<wr.heap.size)->xInv [.int .i64 si] wr)/\∀(i:Int) (w1:Wo),(∀bq∈L,bq<w1.heap.size)->xInv [.int .i64 i] w1->B xInv mu i w1:=by
 refine⟨zn3 I,Zu n 0,fun wr hx hq=>⟨s,h0 wr hx hq,by rw[hs]⟩,?_⟩;rintro i w1 hq ⟨k,hI,he⟩;simp only[List.cons.injEq,Value.int.injEq,true_and,and_true] at he;subst he;exact hB k w1 hq hI
theorem Z0{n k:Nat}{I:Nat->Wo->Prop}{wr w1:Wo}(hk:k<n)(hI:I (k+1) wr):zn3 I [.int .i64 ((k:Int)+1)] wr/\Zu n 0 [.int .i64 ((k:Int)+1)] wr<Zu n 0 [.int .i64 (k:Int)] w1:=by
 refine⟨⟨k+1,hI,by simp⟩,?_⟩;simp only[Zu,XK,Y5,List.getElem?_cons_zero];omega
def zn2(I:Int->Nat->Prop)(vs:List Va):Prop:=∃(x:Int) (k:Nat),I x k/\vs=[.int .i64 x,.int .i64 (k:Int)]
theorem Tx{B:(List Va->Prop)->(List Va->Nat)->Int->Int->Prop}(n:Nat){xi si:Int}(s:Nat)(hs:si=s)(I:Int->Nat->Prop)(h0:I xi s)(hB:∀(x:Int) (k:Nat),I x k->B (zn2 I) (XK n 1) x (k:Int)) :
  ∃(xInv:List Va->Prop) (mu:List Va->Nat),xInv [.int .i64 xi,.int .i64 si]/\∀(x i:Int),xInv [.int .i64 x,.int .i64 i]->B xInv mu x i:=by
 refine⟨zn2 I,XK n 1,⟨xi,s,h0,by rw[hs]⟩,?_⟩;rintro x i ⟨x',k,hI,he⟩;simp only[List.cons.injEq,Value.int.injEq,true_and,and_true] at he;obtain⟨rfl,rfl⟩:=he;exact hB x k hI
theorem QA{n k:Nat}{I:Int->Nat->Prop}{x x':Int}(hk:k<n)(hI:I x' (k+1)):zn2 I [.int .i64 x',.int .i64 ((k:Int)+1)]/\XK n 1 [.int .i64 x',.int .i64 ((k:Int)+1)]<XK n 1 [.int .i64 x,.int .i64 (k:Int)]:=by
 refine⟨⟨x',k+1,hI,by simp⟩,?_⟩;simp only[XK,Y5,List.getElem?_cons_zero,List.getElem?_cons_succ];omega
theorem Xa:maxLen<=9223372036854775807:=by simp[maxLen]
theorem zka{k n:Nat}(h:(k:Int)<(n:Int))(hn:n<=maxLen):Qn .i64 ((k:Int)+1):=by
 have:=Xa;exact⟨by omega,by omega⟩
end Go.Proofs.YtnclplgaicdapaaGreatDoor
