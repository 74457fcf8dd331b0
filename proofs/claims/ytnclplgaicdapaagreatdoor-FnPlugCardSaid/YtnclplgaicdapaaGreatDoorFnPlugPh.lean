/- Part 8 of what the law FnPlug needs. -/
import Derived.Test.YtnclplgaicdapaaGreatDoorFnPlugPg
import Derived.Laws.StructEq
set_option linter.unusedVariables false
set_option linter.unusedSimpArgs false
set_option maxRecDepth 100000
set_option maxHeartbeats 8000000
namespace Go.Proofs.YtnclplgaicdapaaGreatDoor
open Go.RowKit
def Ni (P:Program):List Field->Nat->List Va->List Va->Option Bool
 | [],_,[],[]=>some true
 | f :: r, k, x :: xs, y :: ys => bif decide (f.name ≠ "_") && Nat.beq f.offset k then
   (match Ni P r (k+1) xs ys with
   | some q=>(match P.underlying f.type,x,y with
    | some (.int _),.int a n,.int b m=>bif decide (a=b) then some ((n==m)&&q) else none
    | some .bool,.bool n,.bool m=>some ((n==m)&&q)
    | some .string,.string n,.string m=>some (Zy n m&&q)
    | _,_,_=>none)
   | none=>none) else none
 | _,_,_,_=>none
theorem Fs {P:Program} (d:Nat) (w:Wo) (xs ys:List Va):∀(fs:List Field) (k:Nat) (b:Bool),Ni P fs k (xs.drop k) (ys.drop k)=some b->(Op.eqFields (d+1) xs.toArray ys.toArray fs).run P w=.ok b w
 | [],k,b,h=>by
  have hb:some true=some b:=by
   cases ex:xs.drop k with
   | nil=>
    cases ey:ys.drop k with
    | nil=>rw[ex,ey] at h; exact h
    | cons y ys'=>rw[ex,ey] at h; cases h
   | cons x xs'=>rw[ex] at h; cases h
  simp only[I0] at hb
  subst hb
  simp[Op.eqFields]
 | f::r,k,b,h=>by
  have hx:∀{l:List Va} {x:Va} {q:List Va},l.drop k=x::q->l[k]? = some x/\l.drop (k+1)=q:=fun {l x q} e=>by
   have h1:l[k]? = (l.drop k)[0]? := by simp
   have h2:l.drop (k+1)=(l.drop k).drop 1:=Qs
   rw[h1,h2,e]; simp
  cases exx:xs.drop k with
  | nil=>rw[exx] at h; cases h
  | cons x xs'=>
  cases eyy:ys.drop k with
  | nil=>rw[exx,eyy] at h; cases h
  | cons y ys'=>
   rw[exx,eyy] at h
   simp only[Ni] at h
   obtain⟨gx,dx⟩:=hx exx
   obtain⟨gy,dy⟩:=hx eyy
   cases hc : (decide (f.name ≠ "_") && Nat.beq f.offset k) with
   | false=>rw[hc] at h; cases h
   | true=>
    rw[hc] at h
    simp only[cond_true] at h
    simp only[A',Ij] at hc
    have hof:=Ib hc.2
    split at h
    ·rename_i q hq
     have ih:=Fs d w xs ys r (k+1) q (by rw[dx,dy]; exact hq)
     have Ba9:∀{D:TypeDesc},P.underlying f.type=some D->MU D=false->(part f.type xs.toArray f.offset).run P w=.ok x w/\(part f.type ys.toArray f.offset).run P w=.ok y w:=fun {D} hu hD=>by
      rw[hof]
      simp[part,VB hu,hD,gx,gy]
     split at h
     ·rename_i K a n b' m hu
      cases hab:decide (a=b') with
      | false=>rw[hab] at h; cases h
      | true=>
       have:=Ot hab
       subst this
       rw[hab] at h
       simp only[cond_true,I0] at h
       subst h
       obtain⟨p1,p2⟩:=Ba9 hu rfl
       simp only[Op.eqFields,C' hc.1,Sem.run_bind,p1,p2,Result.andThen_ok,run_equalIn_int w d f.type a K n m hu,Sem.run_ite]
       cases n==m <;> simp[ih]
     ·rename_i n m hu
      simp only[I0] at h
      subst h
      obtain⟨p1,p2⟩:=Ba9 hu rfl
      simp only[Op.eqFields,C' hc.1,Sem.run_bind,p1,p2,Result.andThen_ok,run_equalIn_bool' w d f.type n m hu,Sem.run_ite]
      cases n==m <;> simp[ih]
     ·rename_i n m hu
      simp only[I0] at h
      subst h
      obtain⟨p1,p2⟩:=Ba9 hu rfl
      simp only[Op.eqFields,C' hc.1,Sem.run_bind,p1,p2,Result.andThen_ok,run_equalIn_string w d f.type n m hu,Sem.run_ite]
      unfold Zy
      cases n.toList==m.toList <;> simp[ih]
     ·cases h
    ·cases h
structure zj2 (P:Program) (t:TypeId):Prop where
 u:P.underlying t=some (.struct (P.fieldsOf t))
 s:P.stoodInHeld t=false
 g:P.eqGuardType P.depth t=false
theorem KS{P:Program}{t:TypeId}(F:zj2 P t){xs ys:List Va}{b:Bool}(h:Ni P (P.fieldsOf t).toList 0 xs ys=some b)(w:Wo):(Op.equal t (.agg xs.toArray) (.agg ys.toArray)).run P w=.ok b w:=by
 have:=run_equalIn_struct (P:=P) w 9999 t xs.toArray ys.toArray F.u F.s;rw[Fs 9998 w xs ys _ 0 b (by simpa using h)] at this;exact this
theorem zcw{P:Program}{t:TypeId}(F:zj2 P t){xs ys:List Va}{b:Bool}(h:Ni P (P.fieldsOf t).toList 0 xs ys=some b)(x y:Operand)(w:Wo):((do eqGuard .eql t x y (.agg xs.toArray) (.agg ys.toArray); binOp .eql t (.agg xs.toArray) (.agg ys.toArray)):Sem Va).run P w=.ok (.bool b) w:=by
 have:=KS F h w;simp only[Op.equal,Op.maxDepth] at this;simp only[Sem.run_bind,run_eqGuard_agg w .eql t x y _ _ F.g,Result.andThen_ok,run_eql_struct,this]
theorem zn4{P:Program}{t:TypeId}(F:zj2 P t){xs ys:List Va}{b:Bool}(h:Ni P (P.fieldsOf t).toList 0 xs ys=some b)(x y:Operand)(w:Wo):((do eqGuard .neq t x y (.agg xs.toArray) (.agg ys.toArray); binOp .neq t (.agg xs.toArray) (.agg ys.toArray)):Sem Va).run P w=.ok (.bool (!b)) w:=by
 have:=KS F h w;simp only[Op.equal,Op.maxDepth] at this;simp only[Sem.run_bind,run_eqGuard_agg w .neq t x y _ _ F.g,Result.andThen_ok,run_neq_struct,this]
theorem Pm:zj2 Tryz.prog QO:=⟨Qk,Qk,Qk⟩
def Ub(p:Int)(n:ByteArray):Va:=.agg #[I p,.string n]
theorem zm2(p q:Int)(n m:ByteArray):Ni Tryz.prog (Tryz.prog.fieldsOf QO).toList 0 [I p,.string n] [I q,.string m]=some ((p==q)&&(Zy n m&&true)):=Qk
theorem zg5(p q:Int)(n m:ByteArray)(w:Wo):(Op.equal QO (Ub p n) (Ub q m)).run Tryz.prog w=.ok (decide (p=q/\n=m)) w:=by
 have:=KS Pm (zm2 p q n m) w
 have e:((p==q)&&(Zy n m&&true))=decide (p=q/\n=m):=by
  rw[Fu,Bool.and_true]
  by_cases h1:p=q <;> by_cases h2:n=m <;> simp[h1,h2]
 rw[e] at this;exact this
theorem zlv(p:Int)(n:ByteArray)(w:Wo):∀(es:List MapEntry) (i:Nat),(∀e∈es,∃q m v,e.key=Ub q m/\e.val=I v)->
  (∃(j:Nat) (v:Int),(Instr.findAsking QO (Ub p n) es i).run Tryz.prog w=.ok (some (j,I v)) w/\∃e∈es,e.key=Ub p n) \/
  ((Instr.findAsking QO (Ub p n) es i).run Tryz.prog w=.ok none w/\∀e∈es,e.key≠Ub p n)
 | [],i,_=>.inr ⟨by simp[Instr.findAsking],fun e he=>by cases he⟩
 | e::r,i,h=>by
  obtain⟨q,m,v,hk,hv⟩:=h e (I9 ..)
  by_cases hq:p=q/\n=m
  ·refine .inl ⟨i,v,?_,e,I9 ..,by rw[hk,hq.1,hq.2]⟩;simp only[Instr.findAsking,hk,Sem.run_bind,zg5,Ih hq,Result.andThen_ok,if_true,Sem.run_pure,hv]
  ·have bG:(Instr.findAsking QO (Ub p n) (e::r) i).run Tryz.prog w=(Instr.findAsking QO (Ub p n) r (i+1)).run Tryz.prog w:=by
    simp only[Instr.findAsking,hk,Sem.run_bind,zg5,decide_eq_false hq,Result.andThen_ok,Bool.false_eq_true,if_false]
   have dE:e.key≠Ub p n:=fun e'=>by
    rw[hk] at e';simp only[Ub,Value.agg.injEq,List.toArray_inj,Array.mk.injEq,I4,I5,true_and,Value.string.injEq,and_true] at e';exact hq ⟨e'.1.symm,e'.2.symm⟩
   rcases zlv p n w r (i+1) (fun x hx=>h x (I1 _ hx)) with ⟨j,v',h1,x,hx,h2⟩ | ⟨h1,h2⟩
   ·exact .inl ⟨j,v',by rw[bG]; exact h1,x,I1 _ hx,h2⟩
   ·exact .inr ⟨by rw[bG]; exact h1,fun x hx=>by
     rcases Ii.1 hx with rfl | hx
     ·exact dE
     ·exact h2 x hx⟩
theorem Nr(p:Int)(n:ByteArray)(w:Wo)(es:List MapEntry)(h:∀e∈es,∃q m v,e.key=Ub q m/\e.val=I v) :
  (∃(j:Nat) (v:Int),(Instr.findKey QO (Ub p n) es).run Tryz.prog w=.ok (some (j,I v)) w/\∃e∈es,e.key=Ub p n) \/
  ((Instr.findKey QO (Ub p n) es).run Tryz.prog w=.ok none w/\∀e∈es,e.key≠Ub p n):=by
 cases es with
 | nil=>exact .inr ⟨by simp[Instr.findKey,run_underlying Pm.u,Instr.findNow],fun e he=>by cases he⟩
 | cons e r=>
  have hs:(Instr.findKey QO (Ub p n) (e::r)).run Tryz.prog w=(Instr.findAsking QO (Ub p n) (e::r) 0).run Tryz.prog w:=by
   simp[Instr.findKey,run_underlying Pm.u,Instr.findNow,Instr.sameNow]
  rw[hs];exact zlv p n w (e::r) 0 h
theorem zau:∃a b:Field,(Tryz.prog.fieldsOf QO).toList=[a,b]/\a.type=Qb/\a.offset=0/\b.type=ZC/\b.offset=1:=⟨(Tryz.prog.fieldsOf QO)[0]!,(Tryz.prog.fieldsOf QO)[1]!,Qk,Qk,Qk,Qk,Qk⟩
theorem KR (em:Bool) (p:Int) (n:ByteArray) (w:Wo):(Instr.checkKey em 10000 QO (Ub p n)).run Tryz.prog w=.ok () w:=by
 obtain⟨a,b,hl,a1,a2,b1,b2⟩:=zau
 have p1:(part Qb #[.int .i64 p,.string n] 0).run Tryz.prog w=.ok (.int .i64 p) w:=by simp[part,VB zy6,MU]
 have p2:(part ZC #[.int .i64 p,.string n] 1).run Tryz.prog w=.ok (.string n) w:=by simp[part,VB zdb,MU]
 have c1:∀d:Nat,(Instr.checkKey em (d+1) Qb (.int .i64 p)).run Tryz.prog w=.ok () w:=fun d=>by simp[Instr.checkKey,run_underlying zy6]
 have c2:∀d:Nat,(Instr.checkKey em (d+1) ZC (.string n)).run Tryz.prog w=.ok () w:=fun d=>by simp[Instr.checkKey,run_underlying zdb]
 have key:∀d:Nat,(Instr.checkKey em (d+1+1) QO (Ub p n)).run Tryz.prog w=.ok () w:=fun d=>by
  rw[Instr.checkKey]
  simp only[Ub,Sem.run_bind,run_underlying Pm.u,Result.andThen_ok]
  rw[<-Array.forIn_toList,hl]
  by_cases ha : a.name ≠ "_" <;> by_cases hb : b.name ≠ "_" <;> simp [ha, hb, a1, a2, b1, b2, p1, p2, c1, c2]
 exact key 9998
theorem N8:Tryz.prog.underlying ZB=some (.map QO Qb):=Qk
theorem z1w(w:Wo):(zeroValue Qb).run Tryz.prog w=.ok (I 0) w:=by
 have h:(match Tryz.prog.info? Qb with | some i=>i.zero | none=>none)=some (I 0):=Qk
 cases hi:Tryz.prog.info? Qb with
 | none=>rw[hi] at h; cases h
 | some i=>
  rw[hi] at h;simp only at h;simp[zeroValue,JD hi,h]
def E2(w:Wo)(b:Nat)(es:Array MapEntry):Prop:=(∃c,w.heap[b]? = some (.map es c))/\∀e∈es.toList,∃q m v,e.key=Ub q m/\e.val=I v
theorem zvf{w:Wo}{b:Nat}{es:Array MapEntry}(h:E2 w b es)(p:Int)(n:ByteArray) :
  ∃(v:Int) (ok:Bool),(Instr.lookup ZB (.map (some b)) (Ub p n) true).run Tryz.prog w=.ok (.tuple #[I v,.bool ok]) w/\(ok=true↔∃e∈es.toList,e.key=Ub p n):=by
 obtain⟨⟨c,hc⟩,hes⟩:=h;have hg:(getObj b).run Tryz.prog w=.ok (.map es c) w:=by simp[getObj,Sem.run,hc]
 rcases Nr p n w es.toList hes with ⟨j,v,h1,h2⟩ | ⟨h1,h2⟩
 ·exact⟨v,true,by simp[Instr.lookup,run_underlying N8,hg,KR,h1],by simpa using h2⟩
 ·exact⟨0,false,by simp[Instr.lookup,run_underlying N8,hg,KR,h1,z1w],⟨fun h=>(by cases h),fun ⟨e,he,hk⟩=>Ir hk (h2 e he)⟩⟩
theorem zya{w:Wo}{b:Nat}{es:Array MapEntry}(h:E2 w b es){p:Int}{n:ByteArray}(iW:∀e∈es.toList,e.key≠Ub p n)(v:Int) :
  ∃w' c,((do Instr.mapUpdate ZB (.map (some b)) (Ub p n) (I v); pure undef):Sem Va).run Tryz.prog w=.ok undef w'/\Q0 [b] w w'/\E2 w' b (es.push { key:=Ub p n,val:=I v,born:=c }):=by
 obtain⟨⟨c,hc⟩,hes⟩:=h;have hg:(getObj b).run Tryz.prog w=.ok (.map es c) w:=by simp[getObj,Sem.run,hc]
 have hfk:(Instr.findKey QO (Ub p n) es.toList).run Tryz.prog w=.ok none w:=by
  rcases Nr p n w es.toList hes with ⟨j,v,_,e,he,hk⟩ | ⟨h1,_⟩
  ·exact Ir hk (iW e he)
  ·exact h1
 have hs:(setObj b (.map (es.push { key:=Ub p n,val:=I v,born:=c }) (c+1))).run Tryz.prog w=.ok () { w with heap:=w.heap.setIfInBounds b (.map (es.push { key:=Ub p n,val:=I v,born:=c }) (c+1)) }:=by
  simp[setObj,Sem.run,hc]
 have IS:=JF hc;refine⟨{ w with heap:=w.heap.setIfInBounds b (.map (es.push { key:=Ub p n,val:=I v,born:=c }) (c+1)) },c,by simp[Instr.mapUpdate,run_underlying N8,hg,KR,hfk,hs],⟨rfl,rfl,rfl,Qs,fun k _ hk=>?_⟩,⟨c+1,by simp[IS]⟩,fun e he=>?_⟩
 ·have:b≠k:=fun e=>hk (by simp[e])
  show (w.heap.setIfInBounds b _)[k]? = _;rw[Array.getElem?_setIfInBounds_ne this]
 ·rw[Array.toList_push,Im] at he;rcases he with he | he
  ·exact hes e he
  ·rw[Iz] at he;subst he;exact⟨p,n,v,rfl,rfl⟩
theorem E2.ext{w w':Wo}{b:Nat}{es:Array MapEntry}{bs:List Nat}(h:E2 w b es)(hx:Q0 bs w w')(hb:b∉bs):E2 w' b es:=by
 obtain⟨⟨c,hc⟩,hes⟩:=h;exact⟨⟨c,QM hc hx hb⟩,hes⟩
def zar(p:OA):List Va:=[.pointer p]
theorem PE:zom Tryz.prog zar 1 Yj 8 none:=Dp Qk fun _=>rfl
theorem zsm:Tryz.prog.underlying ME=some (.slice Yj):=Qk
def Vl(w:Wo)(b:Nat)(g:Int)(n:ByteArray)(up:OA):Prop:=w.heap[b]? = some (.cells ([I g,.string n,.pointer up]:List Va).toArray Fz (0,0))
theorem Vl.ext{w w':Wo}{b:Nat}{g:Int}{n:ByteArray}{up:OA}{bs:List Nat}(h:Vl w b g n up)(hx:Q0 bs w w')(hb:b∉bs):Vl w' b g n up:=QM h hx hb
theorem Vl.cells{w:Wo}{b:Nat}{g:Int}{n:ByteArray}{up:OA}(h:Vl w b g n up){bs:List Nat}(hb:b∉bs):Q1 bs w (some ⟨b,0,none⟩) 0 [I g,.string n,.pointer up]:=
 PC h hb fun j v hj=>by rw[Nat.zero_add,Nat.zero_add]; exact hj
def zoh(gs:List ZO)(nb:Int->Nat)(x:Int):OA:=if x=0 then none else some ⟨nb (gi gs x).parent,0,none⟩
structure Ns (bs:List Nat) (w:Wo) (gs:List ZO) (nb:Int->Nat):Prop where
 node:∀x:Int,Q6 gs x=true->Q1 bs w (some ⟨nb x,0,none⟩) 0 [I x,.string (gi gs x).name,.pointer (zoh gs nb x)]
 par:∀x:Int,x≠0->Q6 gs x=true->Q6 gs (gi gs x).parent=true
theorem Ns.ext{bs:List Nat}{w w':Wo}{gs:List ZO}{nb:Int->Nat}(h:Ns bs w gs nb)(hx:Q0 bs w w'):Ns bs w' gs nb:=⟨fun x hu=>(h.node x hu).ext hx,h.par⟩
theorem Ns.less{bs cs:List Nat}{w:Wo}{gs:List ZO}{nb:Int->Nat}(h:Ns bs w gs nb)(hs:∀x∈cs,x∈bs):Ns cs w gs nb:=⟨fun x hu=>(h.node x hu).less hs,h.par⟩
def zb2(gs:List ZO)(f:Nat)(x:Int)(s:Int):Int:=if dep f gs x<0 then -1 else s+dep f gs x
theorem zxg{gs:List ZO}{nb:Int->Nat}{w:Wo}{bs:List Nat}(h:Ns bs w gs nb){x:Int}(hu:Q6 gs x=true):PX bs Vq #[.pointer (some ⟨nb x,0,none⟩)] w (I (zb2 gs 3 x 0)):=
 Fg (some ⟨nb x,0,none⟩) fun wr hx=>by
  have h:=(h.ext hx).less (cs:=[]) Qs;refine⟨fun vs=>(∃(y:Int) (s:Nat),Q6 gs y=true/\s<=4/\vs=[.pointer (some ⟨nb y,0,none⟩),I (s:Int)]/\(s<=3->zb2 gs (3-s) y s=zb2 gs 3 x 0)/\(s=4->zb2 gs 3 x 0 = -1))\/∃s:Nat,s<=4/\vs=[.pointer none,I (s:Int)]/\zb2 gs 3 x 0 = -1,fun vs=>(5-ZR 1 vs).toNat,.inl ⟨x,0,hu,Qo,rfl,fun _=>rfl,fun h=>by omega⟩,?_⟩;rintro n1 st (⟨y,s,hy,hs,he,h1,h2⟩ | ⟨s,hs,he,h1⟩)
  ·simp only[I4,I5,Value.pointer.injEq,true_and,and_true] at he;obtain⟨rfl,rfl⟩:=he;refine⟨fun hc=>?_,fun hc=>?_⟩
   ·have dQ:s<=3:=by
     simp only[Option.isNone_some,Bool.not_false,Bool.true_and,Ij] at hc;omega
    have hn:=h.node y hy;refine⟨rfl,y,hn.get 0 _ rfl,fun hz=>?_,fun hz=>?_⟩
    ·have hz:y=0:=by simpa using hz
     rw[<-h1 dQ];subst hz;unfold zb2;rw[ZZ,B' Qo,Int.add_zero]
    ·have hz:y≠0:=by simpa using hz
     have hm:zoh gs nb y=some ⟨nb (gi gs y).parent,0,none⟩:=by unfold zoh; rw[B' hz]
     refine⟨⟨Qo,Qo⟩,rfl,_,by have:=hn.get 2 _ rfl; exact this,.inl ⟨(gi gs y).parent,s+1,h.par y hz hy,Qo,by rw[hm]; simp,fun hs'=>?_,fun hs'=>?_⟩,?_⟩
     ·rw[<-h1 dQ];have e:3-s=(3-(s+1))+1:=Qo;rw[e];unfold zb2;simp only[dep,B' hz]
      by_cases hd:dep (3-(s+1)) gs (gi gs y).parent<0
      ·rw[C' hd,C' hd,C' Qo]
      ·rw[B' hd,B' hd,B' Qo]; omega
     ·rw[<-h1 dQ];have e:3-s=0:=Qo;rw[e];unfold zb2;simp only[dep,B' hz];rfl
     ·show (5-((s:Int)+1)).toNat<(5-(s:Int)).toNat;omega
   ·have cJ:s=4:=by
     simp only[Option.isNone_some,Bool.not_false,Bool.true_and,decide_eq_false_iff_not] at hc;omega
    rw[h2 cJ]
  ·simp only[I4,I5,Value.pointer.injEq,true_and,and_true] at he;obtain⟨rfl,rfl⟩:=he;refine⟨fun hc=>by simp at hc,fun _=>by rw[h1]⟩
section
variable {gs:List ZO}{ms:Nat->MG}{o:OA}{c:Nat}{w:Wo}{bs:List Nat}
theorem Kd{g:Int}(h:KX bs w o gs ms)(hl:gs.length<=maxLen):PX bs JM #[.slice o gs.length c,I g] w (.bool (Q6 gs g)):=
 BN o gs.length c g fun wr hx=>by
  have h:=(h.ext hx).less (cs:=[]) Qs;have:=XA
  have e:YK g 0 ((gs.length:Int)-1)=(decide (g>=0)&&decide (g<(gs.length:Int))):=by
   unfold YK
   congr 1
   exact decide_eq_decide.2 Qo
  refine⟨⟨Qo,Qo⟩,_,QK,fun q=>?_,(gi gs g).used,fun q=>?_,by rw[e]; rfl⟩
  ·have q:=Qu.1 q;exact h.ix Qo Qo
  ·have q:=Qu.1 q;exact h.used Qo Qo
theorem zxh(h:KX [] w o gs ms)(hl:gs.length<=maxLen) :
  Cz MS #[.slice o gs.length c] w fun e w'=>∃(o':OA) (L C:Nat) (ok:Bool),e=.returned (.tuple #[.slice o' L C,.bool ok])/\ok=MD gs/\Q0 [] w w'/\
   (ok=false->L=0)/\(ok=true->L=8/\∃(pl:List (OA)) (nb:Int->Nat),pl.length=8/\Rd zar 1 [] w' o' pl/\(∀g:Int,0<=g->g<8->gi pl g=if (gi gs g).used then some ⟨nb g,0,none⟩ else none)/\Ns [] w' gs nb):=by
 refine(zih o gs.length c (R:=fun v w'=>∃(o':OA) (L C:Nat) (ok:Bool),v=.tuple #[.slice o' L C,.bool ok]/\ok=MD gs/\Q0 [] w w'/\
   (ok=false->L=0)/\(ok=true->L=8/\∃(pl:List (OA)) (nb:Int->Nat),pl.length=8/\Rd zar 1 [] w' o' pl/\(∀g:Int,0<=g->g<8->gi pl g=if (gi gs g).used then some ⟨nb g,0,none⟩ else none)/\Ns [] w' gs nb)) ?_).mono fun e w' ⟨v,he,o',L,C,ok,hv,hr⟩=>⟨o',L,C,ok,by rw[he,hv],hr⟩
 have bad:∀w',Q0 [] w w'->¬Y5 gs->∃(o':OA) (L C:Nat) (ok:Bool),Value.tuple #[.slice none 0 0,.bool false]=.tuple #[.slice o' L C,.bool ok]/\ok=MD gs/\Q0 [] w w'/\
   (ok=false->L=0)/\(ok=true->L=8/\∃(pl:List (OA)) (nb:Int->Nat),pl.length=8/\Rd zar 1 [] w' o' pl/\(∀g:Int,0<=g->g<8->gi pl g=if (gi gs g).used then some ⟨nb g,0,none⟩ else none)/\Ns [] w' gs nb):=fun w' hx iW=>
  ⟨none,0,0,false,rfl,(Fy iW).symm,hx,fun _=>rfl,fun h=>by cases h⟩
 have l8:((((gs.length:Nat):Int) != 8)=false)->gs.length=8:=fun q=>by have:=(bne_eq_false_iff_eq).1 q; omega
 have i0:∀q:(((gs.length:Nat):Int) != 8)=false,(0:Int)<(gs.length:Int):=fun q=>by have:=l8 q; omega
 refine⟨fun q=>h.ix (I2 _) (i0 q),(gi gs 0).used,fun q=>h.used (I2 _) (i0 q),fun q=>?_,(gi gs 0).parent,fun q=>?_,fun q=>?_,(gi gs 0).name,fun q=>?_,fun q=>?_,fun q=>?_⟩
 ·simp only[H'] at q; exact h.ix (I2 _) (i0 q.1)
 ·simp only[H'] at q; exact h.parent (I2 _) (i0 q.1)
 ·simp only[H'] at q; exact h.ix (I2 _) (i0 q.1.1)
 ·simp only[H'] at q; exact h.name (I2 _) (i0 q.1.1)
 ·intro w1 S9;refine bad w1 S9 fun ht=>?_
  have e:((gs.length:Nat):Int)=8:=by have:=ht.len; omega
  rw[e,ht.ru,ht.rp,ht.rn,Fu] at q;simp at q
 simp only[H',I6,bne_eq_false_iff_eq,Uw] at q;obtain⟨⟨⟨q1,ru⟩,rp⟩,rn⟩:=q;have hl8:gs.length=8:=Qo;intro wr hx _;refine⟨some ⟨wr.heap.size,0,none⟩,8,8,wr.alloc (.cells ((List.replicate 8 none).flatMap zar).toArray Yj),K3 PE zsm 8 Qd (by simp[maxLen]) wr,Yf,?_⟩;have hO0:=UV (enc:=zar) PE.len Yj 8 none wr;have hX0:Q0 [] wr (wr.alloc (.cells ((List.replicate 8 none).flatMap zar).toArray Yj)):=Z4 wr _;generalize wr.alloc (.cells ((List.replicate 8 (none:OA)).flatMap zar).toArray Yj)=wv at hO0 hX0
 refine Xx 8 0 rfl (fun k w1=>k<=8/\Q0 [] wr w1/\∃(pl:List (OA)) (nb:Int->Nat),pl.length=8/\Uz zar 1 Yj wr.heap.size w1 (some ⟨wr.heap.size,0,none⟩) 8 pl/\
   (∀g:Int,0<=g->g<8->gi pl g=if g<(k:Int)/\(gi gs g).used=true then some ⟨nb g,0,none⟩ else none)/\
   (∀g:Int,0<=g->g<(k:Int)->(gi gs g).used=true->wr.heap.size<=nb g/\Vl w1 (nb g) g (gi gs g).name none)/\
   (∀g g':Int,0<=g->g<(k:Int)->0<=g'->g'<(k:Int)->(gi gs g).used=true->(gi gs g').used=true->nb g=nb g'->g=g')) (fun w1 S9 _=>⟨Ic _,hX0.trans S9,List.replicate 8 none,fun _=>0,rfl,hO0.Wi S9,fun g h0 h1=>?_,fun g h0 h1=>by omega,fun g g' h0 h1=>by omega⟩) fun k w1 _ ⟨hk,hX,pl,nb,hpl,hO,hP,hN,Bm9⟩=>⟨fun IS=>?_,fun Ry=>?_⟩
 ·rw[B' (fun hc=>by omega)];exact List.eq_of_mem_replicate (zm9 h0 (by simpa using h1))
 ·have IS:=Ot IS;have hr:=(h.ext hx).ext hX;have cU:(0:Int)<=(k:Int):=Qo;refine⟨hr.ix cU IS,_,hr.used cU IS,fun hu=>⟨hr.ix cU IS,_,hr.name cU IS,fun b wb hxb hb hhb _=>?_⟩,fun hu=>⟨⟨Qo,Qo⟩,fun w2 R0 _=>Qm Qo ⟨Qo,hX.trans R0,pl,nb,hpl,hO.Wi R0,fun g h0 h1=>?_,fun g h0 h1 hg=>?_,fun g g' h0 h1 h0' h1' hg hg'=>?_⟩⟩⟩
  ·have hOb:=hO.Wi hxb;have qZ:(k:Int)<(pl.length:Int):=by rw[hpl]; omega
   have V':=hOb.ix cU qZ;rw[hpl] at V';refine⟨V',hOb.wr PE.len Qs cU qZ (j:=0) (n:=1) Qo,⟨Qo,Qo⟩,fun w2 R0 _=>Qm Qo ⟨Qo,?_,pl.set k (some ⟨b,0,none⟩),fun g=>if g=(k:Int) then b else nb g,by rw[E']; exact hpl,?_,fun g h0 h1=>?_,fun g h0 h1 hg=>?_,fun g g' h0 h1 h0' h1' hg hg' he=>?_⟩⟩
   ·exact(hOb.CQ0 _ _ (hX.trans hxb) (I7 _)).trans R0
   ·exact(hOb.Rl PE.len (i:=(k:Int)) cU qZ (j:=0) (vs:=[.pointer (some ⟨b,0,none⟩)]) (x:=some ⟨b,0,none⟩) rfl Qs).Wi R0
   ·have:=QE pl (some ⟨b,0,none⟩) (i:=(k:Int)) (j:=g) cU qZ h0;rw[Ig] at this;rw[this]
    by_cases qY:(k:Int)=g
    ·subst qY;rw[C' rfl,C' ⟨Qo,hu⟩]
     dsimp only
     rw[C' rfl]
    ·rw[B' qY,hP g h0 h1]
     dsimp only
     rw[show (if g=(k:Int) then b else nb g)=nb g from B' (fun e=>qY e.symm)]
     by_cases Rr:g<(k:Int)
     ·by_cases jA:(gi gs g).used=true
      ·rw[C' ⟨Rr,jA⟩,C' ⟨Qo,jA⟩]
      ·rw[B' (fun hc=>jA hc.2),B' (fun hc=>jA hc.2)]
     ·rw[B' (fun hc=>Rr hc.1),B' (fun hc=>by omega)]
   ·have qJ:Q0 (QI (some ⟨wr.heap.size,0,none⟩)) wb (Rl wb (some ⟨wr.heap.size,0,none⟩) (Int.toNat (k:Int)*1) [.pointer (some ⟨b,0,none⟩)]):=hOb.qC _ _
    have dE:∀q,Vl wb q g (gi gs g).name none->q∉QI (some (⟨wr.heap.size,0,none⟩:Addr)):=fun q hq hm=>by
     simp only[QI,Iz] at hm;subst hm;rcases hOb with ⟨hc,_⟩ | ⟨b',sp,he,_,h2,_⟩
     ·cases hc
     ·simp only[I0,Addr.mk.injEq,and_true] at he;subst he;unfold Vl at hq;rw[h2] at hq;simp only[I0,Obj.cells.injEq] at hq;exact Ir hq.2.1 Qd
    dsimp only
    by_cases qY:g=(k:Int)
    ·subst qY;rw[C' rfl];have hq:Vl wb b (k:Int) (gi gs (k:Int)).name none:=hhb;exact⟨IA hX.size hb,((hq.ext qJ (dE b hq)).ext R0 Qs)⟩
    ·rw[B' qY];obtain⟨n1,n2⟩:=hN g h0 Qo hg;have n3:=n2.ext hxb Qs;exact⟨n1,(n3.ext qJ (dE _ n3)).ext R0 Qs⟩
   ·have fresh:∀q:Int,0<=q->q<(k:Int)->(gi gs q).used=true->nb q≠b:=fun q a1 a2 a3 e=>by
     have:=JF (hN q a1 a2 a3).2;omega
    dsimp only at he
    by_cases qY:g=(k:Int)
    ·by_cases hgk':g'=(k:Int)
     ·rw[qY,hgk']
     ·rw[C' qY,B' hgk'] at he;exact Ir he.symm (fresh g' h0' Qo hg')
    ·by_cases hgk':g'=(k:Int)
     ·rw[B' qY,C' hgk'] at he;exact Ir he (fresh g h0 Qo hg)
     ·rw[B' qY,B' hgk'] at he;exact Bm9 g g' h0 Qo h0' Qo hg hg' he
  ·rw[hP g h0 h1]
   by_cases qY:g=(k:Int)
   ·subst qY;rw[B' (fun hc=>by omega),B' (fun hc=>by rw[hu] at hc; exact Ir hc.2 Qd)]
   ·by_cases Rr:g<(k:Int)
    ·by_cases jA:(gi gs g).used=true
     ·rw[C' ⟨Rr,jA⟩,C' ⟨Qo,jA⟩]
     ·rw[B' (fun hc=>jA hc.2),B' (fun hc=>jA hc.2)]
    ·rw[B' (fun hc=>Rr hc.1),B' (fun hc=>by omega)]
  ·by_cases qY:g=(k:Int)
   ·subst qY; rw[hu] at hg; cases hg
   ·obtain⟨n1,n2⟩:=hN g h0 Qo hg;exact⟨n1,n2.ext R0 Qs⟩
  ·have e1:g≠(k:Int):=fun e=>by subst e; rw[hu] at hg; cases hg
   have e2:g'≠(k:Int):=fun e=>by subst e; rw[hu] at hg'; cases hg'
   exact Bm9 g g' h0 Qo h0' Qo hg hg'
 ·have Ry:=Ou Ry;have hk8:k=8:=Qo;subst hk8;intro w2 R0 _;refine⟨.map (some w2.heap.size),w2.alloc (.map #[] 0),by simp[Instr.makeMap],Yf,?_⟩;have hM0:E2 (w2.alloc (.map #[] 0)) w2.heap.size #[]:=⟨⟨0,Array.getElem?_push_size ..⟩,fun e he=>by cases he⟩;have hX2:Q0 [] wr (w2.alloc (.map #[] 0)):=(hX.trans R0).trans (Z4 w2 _);have mD:=(hO.Wi R0).Wi (Z4 w2 (.map #[] 0))
  have hN2:∀g:Int,0<=g->g<8->(gi gs g).used=true->wr.heap.size<=nb g/\Vl (w2.alloc (.map #[] 0)) (nb g) g (gi gs g).name none:=fun g h0 h1 hg=>
   ⟨(hN g h0 Qo hg).1,((hN g h0 Qo hg).2.ext R0 Qs).ext (Z4 w2 _) Qs⟩
  have hP2:∀g:Int,0<=g->g<8->gi pl g=if (gi gs g).used=true then some ⟨nb g,0,none⟩ else none:=fun g h0 h1=>by
   rw[hP g h0 h1]
   by_cases jA:(gi gs g).used=true
   ·rw[C' ⟨Qo,jA⟩,C' jA]
   ·rw[B' (fun hc=>jA hc.2),B' jA]
  have CH0:∀g g':Int,0<=g->g<8->0<=g'->g'<8->(gi gs g).used=true->(gi gs g').used=true->nb g=nb g'->g=g':=fun g g' a b c d=>Bm9 g g' a Qo c Qo
  have hmb:wr.heap.size<=w2.heap.size:=(hX.trans R0).size;generalize w2.heap.size=mb at hM0 hmb;generalize w2.alloc (.map #[] 0)=w3 at hM0 hX2 mD hN2;clear hX hO hN hP Bm9
  refine Xx 8 1 rfl (fun k w1=>1<=k/\k<=8/\Q0 [] wr w1/\Uz zar 1 Yj wr.heap.size w1 (some ⟨wr.heap.size,0,none⟩) 8 pl/\
    (∀g:Int,0<=g->g<8->(gi gs g).used=true->Vl w1 (nb g) g (gi gs g).name (if g<(k:Int) then zoh gs nb g else none))/\
    (∃es,E2 w1 mb es/\(∀e∈es.toList,∃g:Int,1<=g/\g<(k:Int)/\(gi gs g).used=true/\e.key=Ub (gi gs g).parent (gi gs g).name)/\∀g:Int,1<=g->g<(k:Int)->(gi gs g).used=true->∃e∈es.toList,e.key=Ub (gi gs g).parent (gi gs g).name)/\
    (∀g:Int,1<=g->g<(k:Int)->(gi gs g).used=true->Ue (gi gs g).name=true/\Q6 gs (gi gs g).parent=true/\∀h:Int,1<=h->h<g->(gi gs h).used=true->¬((gi gs h).parent=(gi gs g).parent/\(gi gs h).name=(gi gs g).name)))
   (fun w4 SD _=>⟨I7 _,Qo,hX2.trans SD,mD.Wi SD,fun g h0 h1 hg=>?_,⟨#[],hM0.ext SD Qs,(fun e he=>by cases he),fun g h1 h2=>by omega⟩,fun g h1 h2=>by omega⟩) fun k w4 _ ⟨hk1,hk,hX,hO,hN,⟨es,hM,hE1,hE2⟩,hT⟩=>⟨fun IS=>?_,fun Ry=>?_⟩
  ·have:=(hN2 g h0 h1 hg).2.ext SD Qs
   by_cases hg1:g<((1:Nat):Int)
   ·rw[C' hg1];have:g=0:=Qo;subst this;exact this
   ·rw[B' hg1]; exact this
  ·have IS:=Ot IS;have hr:=(h.ext hx).ext hX;have cU:(0:Int)<=(k:Int):=Qo;have qZ:(k:Int)<(pl.length:Int):=Qo;have bM:(k:Int)<(gs.length:Int):=Qo;have hPl:=hO.rd PE.len (bs:=[]) Qs;have V':=hO.ix cU qZ;rw[hpl] at V';have hXw:Q0 [] w w4:=hx.trans hX;refine⟨V',gi pl (k:Int),hPl k cU qZ,fun iW=>?_,fun AH8=>?_⟩
   ·have hu:¬(gi gs (k:Int)).used=true:=fun hu=>by rw[hP2 k cU IS,C' hu] at iW; cases iW
    refine⟨⟨Qo,Qo⟩,fun w5 Sg _=>Qm Qo ⟨Qo,Qo,hX.trans Sg,hO.Wi Sg,fun g h0 h1 hg=>?_,⟨es,hM.ext Sg Qs,fun e he=>?_,fun g h1 h2 hg=>?_⟩,fun g h1 h2 hg=>?_⟩⟩
    ·have:=(hN g h0 h1 hg).ext Sg Qs;have qY:g≠(k:Int):=fun e=>hu (e▸hg)
     by_cases hg1:g<(k:Int)
     ·rw[C' hg1] at this; rw[C' Qo]; exact this
     ·rw[B' hg1] at this; rw[B' Qo]; exact this
    ·obtain⟨g,a1,a2,a3⟩:=hE1 e he;exact⟨g,a1,Qo,a3⟩
    ·have qY:g≠(k:Int):=fun e=>hu (e▸hg)
     exact hE2 g h1 Qo hg
    ·have qY:g≠(k:Int):=fun e=>hu (e▸hg)
     exact hT g h1 Qo hg
   ·have hu:(gi gs (k:Int)).used=true:=by
     cases hq:(gi gs (k:Int)).used with
     | true=>rfl
     | false=>rw[hP2 k cU IS,hq] at AH8; cases AH8
    have hpk:gi pl (k:Int)=some ⟨nb (k:Int),0,none⟩:=by rw[hP2 k cU IS,C' hu]
    refine⟨hr.ix cU bM,_,hr.name cU bM,_,zew,fun _=>hr.ix cU bM,(gi gs (k:Int)).parent,fun _=>hr.parent cU bM,Q6 gs (gi gs (k:Int)).parent,fun _=>Kd hr hl,fun q=>?_,fun q=>?_⟩
    ·intro w5 Sg;refine bad w5 (hXw.trans Sg) fun ht=>?_
     rw[ht.nm k Qo IS hu,ht.par k Qo IS hu] at q;cases q
    ·simp only[H',I6] at q;obtain⟨qn,qp⟩:=q;obtain⟨p0,p1,pu⟩:=Q4.1 qp;have p8:(gi gs (k:Int)).parent<8:=Qo;have CH3:=hO.ix p0 Qo;rw[hpl] at CH3;have hnk:=hN k cU IS hu;rw[B' Qo] at hnk;have hpp:gi pl (gi gs (k:Int)).parent=some ⟨nb (gi gs (k:Int)).parent,0,none⟩:=by rw[hP2 _ p0 p8,C' pu]
     have hnb:nb (k:Int)∉QI (some (⟨wr.heap.size,0,none⟩:Addr)):=fun hm=>by
      simp only[QI,Iz] at hm;rcases hO with ⟨hc,_⟩ | ⟨b',sp,he,_,h2,_⟩
      ·cases hc
      ·simp only[I0,Addr.mk.injEq,and_true] at he;subst he;unfold Vl at hnk;rw[hm,h2] at hnk;simp only[I0,Obj.cells.injEq] at hnk;exact Ir hnk.2.1 Qd
     have hWr:X0 [] w4 (some ⟨nb (k:Int),0,none⟩) (0+2) 1:=MH hnk Qs (by show 0+(0+2+1)<=3; omega);have hsx:Q0 [nb (k:Int)] w4 (Rl w4 (some ⟨nb (k:Int),0,none⟩) (0+2) [.pointer (some ⟨nb (gi gs (k:Int)).parent,0,none⟩)]):=JV fun a ha=>by cases ha; simp
     have hbk:wr.heap.size<=nb (k:Int):=(hN2 k cU IS hu).1;have hXs:Q0 [] wr (Rl w4 (some ⟨nb (k:Int),0,none⟩) (0+2) [.pointer (some ⟨nb (gi gs (k:Int)).parent,0,none⟩)]):=hX.fresh hsx fun x hm=>.inl (by rw[Iz.1 hm]; exact hbk)
     have hrs:=(h.ext hx).ext hXs;have hup:zoh gs nb (k:Int)=some ⟨nb (gi gs (k:Int)).parent,0,none⟩:=by unfold zoh; rw[B' Qo]
     have hNs:∀g:Int,0<=g->g<8->(gi gs g).used=true->Vl (Rl w4 (some ⟨nb (k:Int),0,none⟩) (0+2) [.pointer (some ⟨nb (gi gs (k:Int)).parent,0,none⟩)]) (nb g) g (gi gs g).name (if g<((k+1:Nat):Int) then zoh gs nb g else none):=fun g h0 h1 hg=>by
      by_cases qY:g=(k:Int)
      ·subst qY;rw[C' Qo,hup];exact Ol hnk
      ·have dE:nb g≠nb (k:Int):=fun e=>qY (CH0 g k h0 h1 cU IS hg hu e)
       have:=(hN g h0 h1 hg).ext hsx (by simpa using dE)
       by_cases hg1:g<(k:Int)
       ·rw[C' hg1] at this; rw[C' Qo]; exact this
       ·rw[B' hg1] at this; rw[B' Qo]; exact this
     have hOs:Uz zar 1 Yj wr.heap.size (Rl w4 (some ⟨nb (k:Int),0,none⟩) (0+2) [.pointer (some ⟨nb (gi gs (k:Int)).parent,0,none⟩)]) (some ⟨wr.heap.size,0,none⟩) 8 pl:=hO.ext hsx fun b hm fE=>hnb (by rw[Iz.1 fE] at hm; exact hm)
     have hMs:E2 (Rl w4 (some ⟨nb (k:Int),0,none⟩) (0+2) [.pointer (some ⟨nb (gi gs (k:Int)).parent,0,none⟩)]) mb es:=hM.ext hsx fun hm=>by
      rw[Iz] at hm;obtain⟨⟨cc,hc⟩,_⟩:=hM;unfold Vl at hnk;rw[<-hm,hc] at hnk;cases hnk
     refine⟨V',some ⟨nb (k:Int),0,none⟩,by rw[<-hpk]; exact hPl k cU qZ,hr.ix cU bM,_,hr.parent cU bM,CH3,some ⟨nb (gi gs (k:Int)).parent,0,none⟩,by rw[<-hpp]; exact hPl _ p0 Qo,rfl,hWr,?_⟩;generalize Rl w4 (some ⟨nb (k:Int),0,none⟩) (0+2) [.pointer (some ⟨nb (gi gs (k:Int)).parent,0,none⟩)]=w5 at hXs hrs hNs hOs hMs;refine⟨hrs.ix cU bM,_,hrs.parent cU bM,hrs.ix cU bM,_,hrs.name cU bM,fun b1 dI=>⟨hrs.name cU bM,hrs.parent cU bM,fun w6 aO hs6=>?_⟩⟩;have hM6:=hMs.ext aO Qs;obtain⟨v,okk,CI1,hok⟩:=zvf hM6 (gi gs (k:Int)).parent (gi gs (k:Int)).name;have B12:∀x∈[b1],wr.heap.size<=x\/x∈([]:List Nat):=fun x hm=>.inl (by rw[Iz.1 hm]; exact IA hXs.size dI)
     refine⟨v,okk,w6,CI1,fun _ _=>rfl,fun Cg0=>?_,fun Ao5 w7 jH hs7=>?_⟩
     ·intro w7 jH;refine bad w7 (hx.trans (((hXs.trans aO).fresh jH B12))) fun ht=>?_
      obtain⟨e,he,hk⟩:=hok.1 Cg0;obtain⟨g,a1,a2,a3,a4⟩:=hE1 e he;rw[a4] at hk;simp only[Ub,Value.agg.injEq,List.toArray_inj,Array.mk.injEq,I4,I5,true_and,Value.string.injEq,and_true] at hk;exact ht.uniq k g a1 a2 IS hu a3 hk
     ·have tY:=hM6.ext jH (fun hm=>by
       rw[Iz] at hm;obtain⟨⟨cc,hc⟩,_⟩:=hMs;have:=JF hc;omega)
      have CI9:¬∃e∈es.toList,e.key=Ub (gi gs (k:Int)).parent (gi gs (k:Int)).name:=fun hc=>by
       have:=hok.2 hc;rw[Ao5] at this; cases this
      obtain⟨w8,cc,Cl1,oZ,hM8⟩:=zya tY (fun e he hk=>CI9 ⟨e,he,hk⟩) (k:Int);have hmx:∀x∈[mb],wr.heap.size<=x\/x∈([]:List Nat):=fun x hm=>.inl (by rw[Iz.1 hm]; exact hmb)
      have hX7:Q0 [] wr w7:=(hXs.trans aO).fresh jH B12;have hX8:Q0 [] wr w8:=hX7.fresh oZ hmx;refine⟨w8,Cl1,fun x hm=>oZ.block x (hs7 x hm) (fun fE=>?_),⟨Qo,Qo⟩,fun w9 lB hs9=>Qm Qo ⟨Qo,Qo,hX8.fresh lB B12,?_,fun g h0 h1 hg=>?_,⟨_,hM8.ext lB ?_,fun e he=>?_,fun g h1 h2 hg=>?_⟩,fun g h1 h2 hg=>?_⟩⟩
      ·rw[Iz] at hm fE;subst fE;obtain⟨⟨c2,hc⟩,_⟩:=hMs;have:=JF hc;omega
      ·have hnm:∀b∈QI (some (⟨wr.heap.size,0,none⟩:Addr)),b∉[mb]:=fun b hm fE=>by
        simp only[QI,Iz] at hm fE;rcases hOs with ⟨hc,_⟩ | ⟨b',sp,he,_,h2,_⟩
        ·cases hc
        ·simp only[I0,Addr.mk.injEq,and_true] at he;subst he;obtain⟨⟨c2,hc⟩,_⟩:=hMs;rw[<-fE,hm,h2] at hc;cases hc
       have hn1:∀b∈QI (some (⟨wr.heap.size,0,none⟩:Addr)),b∉[b1]:=fun b hm fE=>by
        have:=(hOs.lt b hm).2;rw[Iz] at fE;omega
       exact(((hOs.Wi aO).ext jH hn1).ext oZ hnm).ext lB hn1
      ·have hq:=hNs g h0 h1 hg;have hql:=JF hq;have n1:nb g∉[b1]:=fun hm=>by rw[Iz] at hm; omega
       have n2:nb g∉[mb]:=fun hm=>by
        rw[Iz] at hm;obtain⟨⟨c2,hc⟩,_⟩:=hMs;unfold Vl at hq;rw[hm,hc] at hq;cases hq
       exact(((hq.ext aO Qs).ext jH n1).ext oZ n2).ext lB n1
      ·intro hm;rw[Iz] at hm;obtain⟨⟨c2,hc⟩,_⟩:=hMs;have:=JF hc;omega
      ·rw[Array.toList_push,Im] at he;rcases he with he | he
       ·obtain⟨g,a1,a2,a3⟩:=hE1 e he;exact⟨g,a1,Qo,a3⟩
       ·rw[Iz] at he;subst he;exact⟨k,Qo,Qo,hu,rfl⟩
      ·rw[Array.toList_push]
       by_cases qY:g=(k:Int)
       ·subst qY;exact⟨_,Iw _ (Iz.2 rfl),rfl⟩
       ·obtain⟨e,he,hk⟩:=hE2 g h1 Qo hg;exact⟨e,Ia _ he,hk⟩
      ·by_cases qY:g=(k:Int)
       ·subst qY;refine⟨qn,qp,fun q a1 a2 a3 a4=>CI9 ?_⟩;obtain⟨e,he,hk⟩:=hE2 q a1 a2 a3;exact⟨e,he,by rw[hk,a4.1,a4.2]⟩
       ·exact hT g h1 Qo hg
  ·have Ry:=Ou Ry;have hk8:k=8:=Qo;subst hk8;have hXw:Q0 [] w w4:=hx.trans hX
   have hNs:Ns [] w4 gs nb:=⟨fun x hu=>by
     obtain⟨a1,a2,a3⟩:=Q4.1 hu;have:=hN x a1 Qo a3;rw[C' Qo] at this;exact this.cells Qs,fun x hz hu=>by
     obtain⟨a1,a2,a3⟩:=Q4.1 hu;exact(hT x Qo Qo a3).2.1⟩
   refine Xx 8 0 rfl (fun j w5=>j<=8/\Q0 [] w4 w5/\∀g:Int,0<=g->g<(j:Int)->(gi gs g).used=true->0<=dep 3 gs g) (fun w5 Sg _=>⟨Ic _,Sg,fun g h0 h1=>by omega⟩) fun j w5 _ ⟨hj,hX5,hD⟩=>⟨fun IS=>?_,fun Ry=>?_⟩
   ·have IS:=Ot IS;have hj0:(0:Int)<=(j:Int):=Qo;have hjl:(j:Int)<(pl.length:Int):=Qo;have hO5:=hO.Wi hX5;have V':=hO5.ix hj0 hjl;rw[hpl] at V';refine⟨V',gi pl (j:Int),hO5.rd PE.len Qs j hj0 hjl,zb2 gs 3 (j:Int) 0,fun hs=>?_,fun hb=>?_,fun hb=>⟨⟨Qo,Qo⟩,fun w6 aO _=>Qm Qo ⟨Qo,hX5.trans aO,fun g h0 h1 hg=>?_⟩⟩⟩
    ·have hu:(gi gs (j:Int)).used=true:=by
      cases hq:(gi gs (j:Int)).used with
      | true=>rfl
      | false=>rw[hP2 j hj0 IS,hq] at hs; cases hs
     rw[hP2 j hj0 IS,C' hu];exact zxg (hNs.ext hX5) (Q4.2 ⟨hj0,Qo,hu⟩)
    ·intro w6 aO;refine bad w6 ((hXw.trans hX5).trans aO) fun ht=>?_
     simp only[A',Ij] at hb
     have hu:(gi gs (j:Int)).used=true:=by
      cases hq:(gi gs (j:Int)).used with
      | true=>rfl
      | false=>rw[hP2 j hj0 IS,hq] at hb; cases hb.1
     have hd:0<=dep 3 gs (j:Int):=by
      by_cases hj0':(j:Int)=0
      ·rw[hj0',ZZ]; omega
      ·exact ht.dp j Qo IS hu
     have:=hb.2;unfold zb2 at this;rw[B' Qo] at this;omega
    ·by_cases hgj:g=(j:Int)
     ·subst hgj;have hpj:gi pl (j:Int)=some ⟨nb (j:Int),0,none⟩:=by rw[hP2 j hj0 IS,C' hg]
      rw[hpj] at hb;simp only[Option.isNone_some,Bool.not_false,Bool.true_and,decide_eq_false_iff_not] at hb;unfold zb2 at hb;have:=TK gs 3 (j:Int)
      split at hb <;> omega
     ·exact hD g h0 Qo hg
   ·have Ry:=Ou Ry;have hj8:j=8:=Qo;subst hj8;have ht:Y5 gs:=⟨hl8,ru,rp,rn,fun g h1 h2 hg=>(hT g h1 h2 hg).1,fun g h1 h2 hg=>(hT g h1 h2 hg).2.1,fun g h1 h2 hg=>hD g Qo h2 hg,fun g q a1 a2 a3 a4 a5=>(hT g Qo a3 a4).2.2 q a1 a2 a5⟩;intro w6 aO;refine⟨some ⟨wr.heap.size,0,none⟩,8,8,true,rfl,(VK.2 ht).symm,(hXw.trans hX5).trans aO,fun h=>(by cases h),fun _=>⟨rfl,pl,nb,hpl,?_,hP2,(hNs.ext hX5).ext aO⟩⟩;exact((hO.Wi hX5).Wi aO).rd PE.len Qs
theorem zex{bs:List Nat}(h:KX bs w o gs ms)(hl:gs.length<=maxLen):PX bs PK #[.slice o gs.length c] w (.bool (MD gs)):=by
 refine Fk fun wr hx=>zel o gs.length c (R:=fun v w'=>v=.bool (MD gs)/\Q0 [] wr w') ?_
 have h:=(h.ext hx).less (cs:=[]) Qs;intro w1 S9 _;refine(zxh (h.ext S9) hl).mono fun e w2 ⟨o',L,C,ok,he,hok,R0,_⟩=>⟨_,_,_,_,he,Yf,fun w3 R4=>⟨by rw[hok],(S9.trans R0).trans R4⟩⟩
end
theorem Xk{n k:Int}{w:Wo}{bs:List Nat}:PX bs ZT #[I n,I k] w (I (Za n k)):=
 DO n k fun wr hx=>by
  refine⟨_,Jz,_,fun _=>Qp,fun h=>?_,fun h=>?_⟩
  ·congr 1; unfold Za; rw[B']; intro h2; simp only[A'] at h2; simp[h2] at h
  ·have h2:YK k 1 20=true/\YK n 0 100000000=true:=by simpa using h
   rw[Qu,Qu] at h2;have hm:=zi9 h2.2.1 h2.2.2 h2.1.1 h2.1.2;have hs:=zc7 h2.1.1 h2.1.2;unfold zhd at hm hs;refine⟨⟨Qo,JS Qo Qo⟩,JS Qo Qo,?_⟩;rw[OT h2.2.1 h2.2.2 h2.1.1 h2.1.2]; rfl
theorem Gj{k:Int}{w:Wo}{bs:List Nat}:PX bs V6 #[I k] w (I (ZD k)):=
 zcb k fun wr hx=>⟨_,Xk,rfl⟩
def Zx(a b:Int):Int:=if a<b then a else b
def zi5(a b:Int):Int:=if a>b then a else b
theorem Jt{a b:Int}{w:Wo}{bs:List Nat}:PX bs YC #[I a,I b] w (I (Zx a b)):=
 zje a b fun wr hx=>⟨fun h=>by rw[Zx,C' (Ot h)],fun h=>by rw[Zx,B' (Ou h)]⟩
theorem Tg{a b:Int}{w:Wo}{bs:List Nat}:PX bs YB #[I a,I b] w (I (zi5 a b)):=
 zjd a b fun wr hx=>⟨fun h=>by rw[zi5,C' (Ot h)],fun h=>by rw[zi5,B' (Ou h)]⟩
def Y9(l k:Int):Int:=if (if ZD k<l then ZD k else l)>0 then (if ZD k<l then ZD k else l) else 0
theorem Y3(k:Int):0<=ZD k/\ZD k<=34686091440:=by
 unfold ZD
 by_cases h:1<=k/\k<=20
 ·rw[OT Qd Qd h.1 h.2];have:=zc7 h.1 h.2;omega
 ·rw[Hh Qo]; omega
theorem ZQ(l k:Int):0<=Y9 l k/\Y9 l k<=ZD k:=by
 have:=Y3 k;unfold Y9; by_cases h1:ZD k<l <;> simp only[h1,if_true,if_false] <;> split <;> omega
theorem HM{l k:Int}{w:Wo}{bs:List Nat}:PX bs VU #[I l,I k] w (I (Y9 l k)):=
 zff l k fun wr hx=>⟨_,Ge,rfl⟩
theorem MY{l k:Int}{w:Wo}{bs:List Nat}:PX bs U8 #[I l,I k] w (I (Y9 l k)):=
 zfn l k fun wr hx=>by
  have hr:=Y3 k;refine⟨_,Jz,fun h=>?_,fun h=>⟨_,Tg,_,Gj,_,Jt,?_⟩⟩
  ·have h:YK k 1 20=false:=by simpa using h
   rw[zyu] at h;have h0:ZD k=0:=Hh Qo
   congr 1; unfold Y9; rw[h0]; by_cases h1:0<l <;> simp only[h1,if_true,if_false] <;> (repeat' split) <;> omega
  ·congr 1; unfold Y9 Zx zi5; by_cases h1:ZD k<l <;> simp only[h1,if_true,if_false] <;> by_cases h2:l>0 <;> simp only[h2,if_true,if_false] <;> (repeat' split) <;> omega
def Qf(n:Int):Int:=if YK n (-10) 9 then 10-n else 0
theorem P5{k:Int}{w:Wo}{bs:List Nat}:PX bs J0 #[I k] w (I (Qf k)):=
 AN k fun wr hx=>by
  refine⟨_,HO,fun h=>?_,fun h=>?_⟩
  ·have h:YK k (-10) 9=false:=by simpa using h
   rw[Qf,h]; rfl
  ·have h:YK k (-10) 9=true:=by simpa using h
   have h2:=Qu.1 h;refine⟨JS Qo Qo,?_⟩;rw[Qf,h]; rfl
structure Oe (b:Nat) (c:OA) (L N:Nat) (w:Wo):Prop where
 hd:∃(C:Nat) (p:Int),w.heap[b]? = some (.cells [.slice c L C,I p].toArray Om (0,0))/\0<=p/\p<=N
 bytes:∀i<L,∃(a:Addr) (x:Int),c=some a/\a.block≠b/\0<=x/\x<=255/\w.cell? (a.add i)=some (.int .u8 x)
theorem Oe.ext{b:Nat}{c:OA}{L N:Nat}{w w':Wo}{bs:List Nat}(h:Oe b c L N w)(hx:Q0 bs w w')(hb:b∉bs)(hc:∀a,c=some a->a.block∉bs\/L=0):Oe b c L N w':=by
 obtain⟨⟨C,p,h1,h2,h3⟩,hby⟩:=h;refine⟨⟨C,p,QM h1 hx hb,h2,h3⟩,fun i hi=>?_⟩;obtain⟨a,x,ha,dE,S9,R0,R4⟩:=hby i hi;refine⟨a,x,ha,dE,S9,R0,?_⟩
 have hbk:a.block∉bs:=by
  rcases hc a ha with h | h
  ·exact h
  ·omega
 obtain⟨a',e,_,h''⟩:=(show Jf bs w c i (.int .u8 x) from ⟨a,ha,hbk,R4⟩).ext hx;rw[ha] at e; cases e; exact h''
theorem Oe.Wi{b:Nat}{c:OA}{L N:Nat}{w w':Wo}(h:Oe b c L N w)(hx:Q0 [] w w'):Oe b c L N w':=h.ext hx Qs (fun _ _=>.inl Qs)
theorem Oe.mono{b:Nat}{c:OA}{L N M:Nat}{w:Wo}(h:Oe b c L N w)(hm:N<=M):Oe b c L M w:=by
 obtain⟨⟨C,p,h1,h2,h3⟩,hby⟩:=h;exact⟨⟨C,p,h1,h2,Qo⟩,hby⟩
theorem Oe.lt{b:Nat}{c:OA}{L N:Nat}{w:Wo}(h:Oe b c L N w):b<w.heap.size:=by
 obtain⟨⟨C,p,h1,h2,h3⟩,hby⟩:=h;exact JF h1
theorem Oe.ltc{b:Nat}{c:OA}{L N:Nat}{w:Wo}(h:Oe b c L N w)(a:Addr)(ha:c=some a):a.block<w.heap.size\/L=0:=by
 rcases Nat.eq_zero_or_pos L with h0 | h0
 ·exact .inr h0
 ·obtain⟨a',x,ha',dE,S9,R0,R4⟩:=h.bytes 0 h0;rw[ha] at ha'; cases ha';have:=World.block_lt_of_cell? w _ R4;rw[Zz] at this;exact .inl this
theorem Oe.Cc1{b:Nat}{c:OA}{L N M:Nat}{w0 w w':Wo}{bs:List Nat}(h0:Oe b c L M w0)(h:Oe b c L N w)(hx:Q0 bs w w')(hb:∀x∈bs,w0.heap.size<=x):Oe b c L N w':=
 h.ext hx (fun hm=>by have:=hb _ hm; have:=h0.lt; omega) fun a ha=>by
  rcases h0.ltc a ha with hl | hl
  ·exact .inl fun hm=>by have:=hb _ hm; omega
  ·exact .inr hl
def CF(n v:Int):Prop:=0<=v/\(n<1->v=0)/\(1<=n->v<n)
theorem zgx{x n:Int}(hx:0<=x)(hn:1<=n):CF n (Int.tmod x n):=by
 refine⟨Int.tmod_nonneg _ hx,Qo,fun _=>Int.tmod_lt_of_pos _ Qo⟩
theorem zok{x y:Int}(h1:0<=x)(h2:x<=9223372036854775807)(h3:0<=y)(h4:y<=9223372036854775807):0<=Tp .xor .i64 x y:=by
 have IS:(BitVec.ofInt 64 x ^^^ BitVec.ofInt 64 y).toNat<2 ^ 63:=by
  rw[BitVec.toNat_xor];refine Nat.xor_lt_two_pow ?_ ?_
  ·rw[BitVec.toNat_ofInt]; omega
  ·rw[BitVec.toNat_ofInt]; omega
 have h:=Qq.wrap (k:=.i64) (z:=((BitVec.ofInt 64 x ^^^ BitVec.ofInt 64 y).toNat:Int)) (JS Qo Qo);show 0<=IntKind.i64.wrap ((BitVec.ofInt 64 x ^^^ BitVec.ofInt 64 y).toNat:Int);rw[h]; omega
theorem zbj{b:Nat}{c:OA}{L N:Nat}{w:Wo}{n:Int}(h:Oe b c L N w)(hN:N<=1000000000000) :
  Cz Q3 #[.pointer (some ⟨b,0,none⟩),I n] w fun e w'=>∃v,e=.returned (I v)/\CF n v/\Oe b c L (N+1) w'/\Q0 [b] w w':=by
 refine(EE (some ⟨b,0,none⟩) n (R:=fun v w'=>∃x,v=I x/\CF n x/\Oe b c L (N+1) w'/\Q0 [b] w w') ?_).mono fun e w' ⟨v,he,x,hv,h1,h2,h3⟩=>⟨x,by rw[he,hv],h1,h2,h3⟩
 obtain⟨C,p,hh,hp0,hpN⟩:=h.hd;have hs:=Ol (k:=0) (n:=1) (vs:=[I (p+1)]) hh;have hxt:Q0 [b] w (Rl w (some ⟨b,0,none⟩) 1 [I (p+1)]):=JV fun a ha=>by cases ha; exact Iz.2 rfl
 generalize uA:Rl w (some ⟨b,0,none⟩) 1 [I (p+1)]=w1 at hs hxt;have hs:w1.heap[b]? = some (.cells [.slice c L C,I (p+1)].toArray Om (0,0)):=hs;have hc:Q1 [] w1 (some ⟨b,0,none⟩) (0+0) [.slice c L C]:=VF hs Qs rfl;have hpp:Q1 [] w1 (some ⟨b,0,none⟩) (0+1) [I (p+1)]:=VF hs Qs rfl
 have hby:∀i:Int,0<=i->i<L->∃x:Int,0<=x/\x<=255/\c.isSome=true/\Q1 [] w1 c (Int.toNat i*1) [.int .u8 x]:=fun i h0 hi=>by
  obtain⟨a,x,ha,dE,S9,R0,R4⟩:=h.bytes i.toNat Qo;refine⟨x,S9,R0,by rw[ha]; rfl,?_⟩;have:=(show Jf [b] w c i.toNat (.int .u8 x) from ⟨a,ha,by simpa using dE,R4⟩).ext hxt;rw[Nat.mul_one];exact Xh (this.less Qs)
 have fin:∀(v:Int),CF n v->∀wr,Q0 [] w1 wr->∃x,I v=I x/\CF n x/\Oe b c L (N+1) wr/\Q0 [b] w wr:=fun v hv wr hr=>
  ⟨v,rfl,hv,Oe.Wi ⟨⟨C,p+1,hs,Qo,Qo⟩,fun i hi=>by
   obtain⟨a,x,ha,dE,S9,R0,R4⟩:=h.bytes i hi;have:=(show Jf [b] w c i (.int .u8 x) from ⟨a,ha,by simpa using dE,R4⟩).ext hxt;obtain⟨a',ha',_,hc'⟩:=this;rw[ha] at ha'; cases ha';exact⟨a,x,ha,dE,S9,R0,hc'⟩⟩ hr,hxt.trans hr.of_nil⟩
 refine⟨rfl,p,VF hh Qs rfl,JS Qo Qo,rfl,MH hh Qs Qs,?_⟩;rw[show (0+1:Nat)=1 from rfl,uA];refine⟨fun _=>rfl,c,L,C,fun _=>hc,fun h=>?_,fun h=>?_⟩
 ·simp only[Iu,Ij,Is] at h;refine fin 0 ⟨Qo,Qo,fun hn=>by omega⟩
 ·have h:1<=n/\L≠0:=by simpa using h
  refine⟨rfl,p+1,hpp,JS Qo Qo,rfl,c,L,C,hc,fun IS=>?_,fun IS=>?_⟩
  ·have IS:=Ot IS;obtain⟨x,S9,R0,R4,SD⟩:=hby (p+1-1) Qo IS;exact⟨rfl,c,L,C,hc,⟨Qo,IS,R4⟩,x,SD,JS Qo Qo,Qo,fin _ (zgx S9 h.1)⟩
  ·have hLp:(0:Int)<(L:Int):=Qo;have hm1:=Int.tmod_nonneg (L:Int) (show 0<=p+1-1 by omega);have hm2:=Int.tmod_lt_of_pos (p+1-1) hLp;have hm3:=Int.tmod_nonneg (L:Int) (show 0<=(p+1-1)*7+3 by omega);have hm4:=Int.tmod_lt_of_pos ((p+1-1)*7+3) hLp;have hd1:0<=Int.tdiv (p+1-1) (L:Int):=Int.tdiv_nonneg Qo Qo
   have hd2:Int.tdiv (p+1-1) (L:Int)<=p+1-1:=by
    rw[Int.tdiv_eq_ediv_of_nonneg Qo]; exact Int.ediv_le_self _ Qo
   obtain⟨x1,S9,R0,R4,SD⟩:=hby _ hm1 hm2;obtain⟨x2,bE,Sn,fK,fL⟩:=hby _ hm3 hm4;have hX0:0<=(x1*131+x2*1117+(p+1-1)*29)+Int.tdiv (p+1-1) (L:Int)*53:=Qo;have hX1:(x1*131+x2*1117+(p+1-1)*29)+Int.tdiv (p+1-1) (L:Int)*53<=1000000000000000:=Qo;have hq0:=Int.tdiv_nonneg hX0 (show (0:Int)<=64 by decide)
   have hq1:Int.tdiv ((x1*131+x2*1117+(p+1-1)*29)+Int.tdiv (p+1-1) (L:Int)*53) 64<=(x1*131+x2*1117+(p+1-1)*29)+Int.tdiv (p+1-1) (L:Int)*53:=by
    rw[Int.tdiv_eq_ediv_of_nonneg hX0]; exact Int.ediv_le_self _ hX0
   refine⟨rfl,c,L,C,hc,rfl,c,L,C,hc,Qo,⟨hm1,hm2,R4⟩,x1,SD,JS Qo Qo,JS Qo Qo,rfl,c,L,C,hc,JS Qo Qo,JS Qo Qo,rfl,c,L,C,hc,Qo,⟨hm3,hm4,fK⟩,x2,fL,
    JS Qo Qo,JS Qo Qo,JS Qo Qo,JS Qo Qo,JS Qo Qo,rfl,c,L,C,hc,⟨Qo,JS Qo Qo⟩,JS Qo Qo,JS Qo Qo,⟨Qd,JS Qo Qo⟩,Qo,?_⟩
   exact fin _ (zgx (zok hX0 Qo hq0 Qo) h.1)
section
open Go.RowKit Go.ChangeShapes
section
variable {H:Type}{en:TypeId×Va->H}{w:Wo}{base:Nat}{spare:Nat->Bool}{held:Bool}{fuel:Nat}{cs:List Va}{x:DataW H×List MemPlace}
structure MW where
 cO:OA
 cC:Nat
 tO:OA
 tC:Nat
 gO:OA
 gC:Nat
 ms:Nat->MG
def Qa(W:Q8)(m:MW):List Va:=[.int .i64 W.now,.slice m.cO W.ID.length m.cC,.slice m.tO W.tasks.length m.tC,.slice m.gO W.IC.length m.gC]
structure XQ (bs:List Nat) (w:Wo) (W:Q8) (m:MW):Prop where
 c:z00 bs w m.cO W.ID
 t:zsq bs w m.tO W.tasks
 g:KX bs w m.gO W.IC m.ms
theorem XQ.ext{bs:List Nat}{w w':Wo}{W:Q8}{m:MW}(h:XQ bs w W m)(hx:Q0 bs w w'):XQ bs w' W m:=⟨h.c.ext hx,h.t.ext hx,h.g.ext hx⟩
theorem XQ.less{bs cs:List Nat}{w:Wo}{W:Q8}{m:MW}(h:XQ bs w W m)(hs:∀x∈cs,x∈bs):XQ cs w W m:=⟨h.c.less hs,h.t.less hs,h.g.less hs⟩
theorem XQ.wide{bs cs:List Nat}{w:Wo}{W:Q8}{m:MW}(h:XQ bs w W m)(hs:∀x∈cs,x∈bs\/w.heap.size<=x):XQ cs w W m:=⟨h.c.wide hs,h.t.wide hs,h.g.wide hs⟩
end
end
def JX(k:Nat):Int:=1*2 ^ (min (Int.toNat (k:Int)) 64)
def Po(m:Int):Bool:=YK m 0 15
def QX(m c:Int):Bool:=(Po m&&YK c 0 3)&&(Int.tmod (Int.fdiv m (2 ^ (min (Int.toNat c) 64))) 2==1)
def Ti(a b:Int):Int:=if Po a=true/\Po b=true then Tp .and .i64 a b else 0
def v9(a b:Int):Nat->Int
 | 0=>0
 | k+1=>if (QX a (k:Int)&&QX b (k:Int))=true then v9 a b k+JX k else v9 a b k
theorem Mw{m:Int}(h:Po m=true):∃f:Fin 16,m=(f.val:Int):=by
 have:=Qu.1 h;exact⟨⟨m.toNat,Qo⟩,by show m=((m.toNat:Nat):Int); omega⟩
theorem zs6:∀a b:Fin 16,v9 (a.val:Int) (b.val:Int) 4=Tp .and .i64 (a.val:Int) (b.val:Int):=by decide +kernel
theorem zs7:∀a b:Fin 16,0<=Tp .and .i64 (a.val:Int) (b.val:Int)/\Tp .and .i64 (a.val:Int) (b.val:Int)<=15:=by decide +kernel
theorem zs4:∀a b:Fin 16,Tp .and .i64 (a.val:Int) (b.val:Int)=Tp .and .i64 (b.val:Int) (a.val:Int):=by decide +kernel
theorem zs3:∀a b c:Fin 16,Tp .and .i64 (Tp .and .i64 (a.val:Int) (b.val:Int)) (c.val:Int)=Tp .and .i64 (a.val:Int) (Tp .and .i64 (b.val:Int) (c.val:Int)):=by decide +kernel
theorem zs5:∀(a b:Fin 16) (c:Fin 4),QX (Tp .and .i64 (a.val:Int) (b.val:Int)) (c.val:Int)=(QX (a.val:Int) (c.val:Int)&&QX (b.val:Int) (c.val:Int)):=by decide +kernel
theorem zs2:∀a:Fin 16,Tp .and .i64 (a.val:Int) 0=0:=by decide +kernel
theorem Cr(a b:Int):Po (Ti a b)=true:=by
 unfold Ti;split
 ·rename_i h;obtain⟨x,rfl⟩:=Mw h.1;obtain⟨y,rfl⟩:=Mw h.2;exact Qu.2 (zs7 x y)
 ·exact Qu.2 Qd
theorem Oj{a b:Int}(ha:Po a=true)(hb:Po b=true):Ti a b=Tp .and .i64 a b:=by unfold Ti; rw[C' ⟨ha,hb⟩]
theorem Xl{a b:Int}(h:Po a=false\/Po b=false):Ti a b=0:=by
 unfold Ti;rw[B'];rintro⟨h1,h2⟩;rcases h with h | h
 ·rw[h1] at h; cases h
 ·rw[h2] at h; cases h
theorem BF(a b:Int):Ti a b=Ti b a:=by
 cases ha:Po a with
 | false=>rw[Xl (.inl ha),Xl (.inr ha)]
 | true=>
  cases hb:Po b with
  | false=>rw[Xl (.inr hb),Xl (.inl hb)]
  | true=>
   rw[Oj ha hb,Oj hb ha];obtain⟨x,rfl⟩:=Mw ha;obtain⟨y,rfl⟩:=Mw hb;exact zs4 x y
theorem H6(a:Int):Ti a 0=0:=by
 cases ha:Po a with
 | false=>exact Xl (.inl ha)
 | true=>
  rw[Oj ha Qd];obtain⟨x,rfl⟩:=Mw ha;exact zs2 x
theorem znn(a b c:Int):Ti (Ti a b) c=Ti a (Ti b c):=by
 cases hb:Po b with
 | false=>rw[Xl (a:=a) (.inr hb),Xl (b:=c) (.inl hb),BF 0 c,H6,H6]
 | true=>
  cases ha:Po a with
  | false=>rw[Xl (b:=b) (.inl ha),Xl (b:=Ti b c) (.inl ha),BF,H6]
  | true=>
   cases hc:Po c with
   | false=>rw[Xl (a:=Ti a b) (.inr hc),Xl (a:=b) (.inr hc),H6]
   | true=>
    have h1:=Cr a b;have h2:=Cr b c;rw[Oj h1 hc,Oj ha h2,Oj ha hb,Oj hb hc];obtain⟨x,rfl⟩:=Mw ha;obtain⟨y,rfl⟩:=Mw hb;obtain⟨z,rfl⟩:=Mw hc;exact zs3 x y z
theorem O7{m c:Int}(h:QX m c=true):Po m=true/\0<=c/\c<=3:=by
 unfold QX at h;simp only[A'] at h;exact⟨h.1.1,Qu.1 h.1.2⟩
theorem zk9{a b c:Int}(h:QX (Ti a b) c=true):QX a c=true/\QX b c=true:=by
 have hr:=O7 h
 have hz:QX 0 c=false:=by
  have:c=0\/c=1\/c=2\/c=3:=Qo;rcases this with rfl | rfl | rfl | rfl <;> decide
 cases ha:Po a with
 | false=>rw[Xl (.inl ha),hz] at h; cases h
 | true=>
  cases hb:Po b with
  | false=>rw[Xl (.inr hb),hz] at h; cases h
  | true=>
   rw[Oj ha hb] at h;obtain⟨x,rfl⟩:=Mw ha;obtain⟨y,rfl⟩:=Mw hb;have:=zs5 x y ⟨c.toNat,Qo⟩;rw[show ((⟨c.toNat,Qo⟩:Fin 4).val:Int)=c by show ((c.toNat:Nat):Int)=c; omega] at this;rw[this] at h
   simpa using h
def Ux(cs:List Mj):Nat->Int
 | 0=>0
 | k+1=>if (gi cs (k:Int)).up=true then Ux cs k+JX k else Ux cs k
def Ju(cs:List Mj):Int:=Ux cs cs.length
theorem Hf(cs:List Mj):∀k:Nat,k<=4->0<=Ux cs k/\Ux cs k<JX k
 | 0,_=>by simp[Ux,JX]
 | k+1,h=>by
  have ih:=Hf cs k Qo
  have hb:JX (k+1)=2*JX k/\0<=JX k:=by
   have:k=0\/k=1\/k=2\/k=3:=Qo;rcases this with rfl | rfl | rfl | rfl <;> decide
  simp only[Ux]
  split <;> omega
theorem B7{k:Nat}(h:k<=4):1<=JX k/\JX k<=16:=by
 have:k=0\/k=1\/k=2\/k=3\/k=4:=Qo;rcases this with rfl | rfl | rfl | rfl | rfl <;> decide
theorem zyj{cs:List Mj}(h:cs.length<=4):Po (Ju cs)=true:=by
 have:=Hf cs cs.length h;have:=B7 h;exact Qu.2 (by unfold Ju; omega)
theorem z0e:∀(k:Fin 4) (s:Fin 8),(s.val:Int)<JX k.val->Tp .or .i64 (s.val:Int) (JX k.val)=(s.val:Int)+JX k.val:=by decide +kernel
theorem z0d{k:Nat}{s:Int}(hk:k<4)(h0:0<=s)(h1:s<JX k):Tp .or .i64 s (JX k)=s+JX k:=by
 have hb:JX k<=8:=by
  have:k=0\/k=1\/k=2\/k=3:=Qo;rcases this with rfl | rfl | rfl | rfl <;> decide
 have:=z0e ⟨k,hk⟩ ⟨s.toNat,Qo⟩;rw[show ((⟨s.toNat,Qo⟩:Fin 8).val:Int)=s by show ((s.toNat:Nat):Int)=s; omega] at this;exact this h1
theorem zkv:∀(k:Fin 4) (s:Fin 8) (c:Fin 4),(s.val:Int)<JX k.val->QX ((s.val:Int)+JX k.val) (c.val:Int)=(decide (c.val=k.val)||QX (s.val:Int) (c.val:Int)):=by decide +kernel
theorem CD(cs:List Mj){c:Int}:∀k:Nat,k<=4->QX (Ux cs k) c=true->c<(k:Int)/\(gi cs c).up=true
 | 0,_,h=>by
  have hr:=O7 h;have:c=0\/c=1\/c=2\/c=3:=Qo;rcases this with rfl | rfl | rfl | rfl <;> exact Ir h (by simp only[Ux]; decide)
 | k+1,hk,h=>by
  have hr:=O7 h;have ih:=CD cs (c:=c) k Qo;have hl:=Hf cs k Qo
  have hb:JX k<=8:=by
   have:k=0\/k=1\/k=2\/k=3:=Qo;rcases this with rfl | rfl | rfl | rfl <;> decide
  simp only[Ux] at h
  split at h
  ·rename_i hu;have:=zkv ⟨k,Qo⟩ ⟨(Ux cs k).toNat,Qo⟩ ⟨c.toNat,Qo⟩;rw[show ((⟨(Ux cs k).toNat,Qo⟩:Fin 8).val:Int)=Ux cs k by show (((Ux cs k).toNat:Nat):Int)=Ux cs k; omega,show ((⟨c.toNat,Qo⟩:Fin 4).val:Int)=c by show ((c.toNat:Nat):Int)=c; omega] at this;rw[this hl.2] at h;simp only[Iu,Ij] at h;rcases h with h | h
   ·have:c=(k:Int):=Qo;subst this;exact⟨Qo,hu⟩
   ·have:=ih h;exact⟨Qo,this.2⟩
  ·have:=ih h;exact⟨Qo,this.2⟩
def UA:Nat->List ZO->Int->List Int
 | 0,_,_=>[]
 | f+1,gs,g=>if g=0 then [] else g::UA f gs (gi gs g).parent
abbrev Z7(gs:List ZO)(g:Int):List Int:=UA 3 gs g
theorem Zl(gs:List ZO)(f:Nat):UA f gs 0=[]:=by cases f <;> simp[UA]
theorem zr1{gs:List ZO}(ht:Y5 gs):∀(f f':Nat) (h:Int),Q6 gs h=true->dep 3 gs h<=f->dep 3 gs h<=f'->UA f gs h=UA f' gs h:=by
 intro f
 induction f with
 | zero=>
  intro f' h hu h1 h2
  have hz:h=0:=Iq fun hz=>by
   obtain⟨_,_,_,d,e,_⟩:=Y6 ht hu hz;omega
  subst hz;rw[Zl,Zl]
 | succ f ih=>
  intro f' h hu h1 h2
  by_cases hz:h=0
  ·subst hz;rw[Zl,Zl]
  ·obtain⟨hp,_,_,d,e,e2,_⟩:=Y6 ht hu hz
   cases f' with
   | zero=>omega
   | succ f'=>
    simp only[UA];rw[B' hz,B' hz,ih f' (gi gs h).parent hp Qo Qo]
theorem Yz{gs:List ZO}(ht:Y5 gs){h:Int}(hu:Q6 gs h=true)(hz:h≠0):Z7 gs h=h::Z7 gs (gi gs h).parent:=by
 obtain⟨hp,_,_,d,e,e2,hd⟩:=Y6 ht hu hz;show UA 3 gs h=_;rw[show UA 3 gs h=if h=0 then [] else h::UA 2 gs (gi gs h).parent from rfl,B' hz,zr1 ht 2 3 _ hp Qo Qo]
theorem M6{gs:List ZO}(ht:Y5 gs){Q:Int->Prop}(h0:Q 0)(hs:∀h:Int,Q6 gs h=true->h≠0->Q (gi gs h).parent->Q h):∀h:Int,Q6 gs h=true->Q h:=by
 have key:∀(n:Nat) (h:Int),Q6 gs h=true->dep 3 gs h<=n->Q h:=by
  intro n
  induction n with
  | zero=>
   intro h hu hd
   by_cases hz:h=0
   ·subst hz; exact h0
   ·obtain⟨_,_,_,d,e,_⟩:=Y6 ht hu hz;omega
  | succ n ih=>
   intro h hu hd
   by_cases hz:h=0
   ·subst hz; exact h0
   ·obtain⟨hp,_,_,d,e,e2,_⟩:=Y6 ht hu hz;exact hs h hu hz (ih _ hp Qo)
 intro h hu;have:=TK gs 3 h;exact key 3 h hu Qo
theorem zu3{gs:List ZO}(ht:Y5 gs){h:Int}(hu:Q6 gs h=true):Z7 gs h++[0]=h::(Z7 gs h).map fun x=>(gi gs x).parent:=by
 refine M6 ht (Q:=fun h=>Z7 gs h++[0]=h::(Z7 gs h).map fun x=>(gi gs x).parent) (by simp[Z7,Zl]) (fun h hu hz ih=>?_) h hu;rw[Yz ht hu hz,List.cons_append,ih,List.map_cons]
def VN(gs:List ZO)(g u:Int):Int:=(Z7 gs g++[0]).foldl (fun s x=>Ti s (gi gs x).ID) u
def zl0(gs:List ZO)(g:Int):Int:=(Z7 gs g).foldl (fun s x=>Ti s (gi gs (gi gs x).parent).ID) (gi gs g).ID
theorem zkn(f:Int->Int):∀(l:List Int) (m u:Int),Ti (l.foldl (fun s x=>Ti s (f x)) m) u=l.foldl (fun s x=>Ti s (f x)) (Ti u m)
 | [],m,u=>BF m u
 | x::l,m,u=>by
  simp only[List.foldl_cons];rw[zkn f l,znn]
theorem zvm{gs:List ZO}(ht:Y5 gs){g u:Int}(hu:Q6 gs g=true):Ti (zl0 gs g) u=VN gs g u:=by
 unfold zl0 VN;rw[zu3 ht hu,List.foldl_cons,List.foldl_map,zkn (fun x=>(gi gs (gi gs x).parent).ID)]
theorem zpv{gs:List ZO}{g u c:Int}(h:QX (VN gs g u) c=true):QX u c=true:=by
 unfold VN at h
 revert h
 generalize Z7 gs g++[0]=l
 induction l generalizing u with
 | nil=>exact fun h=>h
 | cons x l ih=>
  intro h;rw[List.foldl_cons] at h;exact(zk9 (ih h)).1
def Qw(W:Q8)(g mask:Int):Int:=
 if Ti mask (VN W.IC g (Ju W.ID))≠0 then Ti mask (VN W.IC g (Ju W.ID)) else if VN W.IC g (Ju W.ID)≠0 then VN W.IC g (Ju W.ID) else Ju W.ID
theorem zhl{W:Q8}{g mask c:Int}(h:QX (Qw W g mask) c=true):QX (Ju W.ID) c=true:=by
 unfold Qw at h
 split at h
 ·exact zpv (zk9 h).2
 ·split at h
  ·exact zpv h
  ·exact h
def UY(l:List Int):Nat->Int
 | 0=>0
 | k+1=>UY l k+gi l (k:Int)
def Ts(p:Nat->Bool):Nat->Bool
 | 0=>false
 | k+1=>Ts p k||p k
theorem De{p:Nat->Bool}:∀{n:Nat},Ts p n=true↔∃j,j<n/\p j=true
 | 0=>by simp[Ts]
 | n+1=>by
  simp only[Ts,Iu,De (n:=n)];constructor
  ·rintro (⟨j,hj,h⟩ | h)
   ·exact⟨j,Qo,h⟩
   ·exact⟨n,Qo,h⟩
  ·rintro⟨j,hj,h⟩
   by_cases hjn:j=n
   ·subst hjn; exact .inr h
   ·exact .inl ⟨j,Qo,h⟩
theorem zh0{p:Nat->Bool}{n:Nat}(h:∀j,j<n->p j=false):Ts p n=false:=by
 cases ha:Ts p n with
 | false=>rfl
 | true=>
  obtain⟨j,hj,hp⟩:=De.1 ha;rw[h j hj] at hp; cases hp
noncomputable def JH(P:Prop):Bool:=@decide P (Classical.propDecidable P)
theorem Ql{P:Prop}:JH P=true↔P:=@decide_eq_true_iff P (Classical.propDecidable P)
theorem LX{P:Prop}:JH P=false↔¬P:=by
 constructor
 ·intro h hp;rw[Ql.2 hp] at h; cases h
 ·intro h
  cases hb:JH P with
  | false=>rfl
  | true=>exact Ir (Ql.1 hb) h
theorem Pe{b:Bool}{P:Prop}(h:b=true↔P):Value.bool b=.bool (JH P):=by
 have:b=JH P:=by
  cases hb:JH P with
  | true=>exact h.2 (Ql.1 hb)
  | false=>
   cases hc:b with
   | false=>rfl
   | true=>exact Ir (h.1 hc) (LX.1 hb)
 rw[this]
theorem Lt{P:Prop}(h:¬P):Value.bool false=.bool (JH P):=by rw[LX.2 h]
theorem zmf{P:Prop}(h:P):Value.bool true=.bool (JH P):=by rw[Ql.2 h]
def Q7(W:Q8)(t:Int):MM:=gi W.tasks t
def Qc(W:Q8)(g c:Int):LI:=gi (gi W.IC g).IE c
def ZI(v:Int):Bool:=YK v 0 100000000000000000
theorem YZ{v:Int}:ZI v=true↔0<=v/\v<=100000000000000000:=Qu
def O8(b:UM):Bool:=((((b.IW==0)&&(b.Rv==0))&&(b.Sl==0))&&(((b.locals.length:Nat):Int)==0))&&(((b.Rw.length:Nat):Int)==0)
structure Oq (b:UM):Prop where
 q1:1<=b.IW
 q2:b.IW<=10000
 l1:1<=b.locals.length
 l2:b.locals.length<=4
 dl:b.Rw.length=b.locals.length
 p1:0<=b.Rv
 p2:b.Rv<=b.IW
 s1:0<=b.Sl
 s2:b.Sl<=b.IW
 each:∀c:Int,0<=c->c<(b.locals.length:Int)->0<=gi b.locals c/\gi b.locals c<=b.IW/\(gi b.Rw c=true->gi b.locals c=0/\b.Rv=0)
 sum:b.Rv+b.Sl+UY b.locals b.locals.length=b.IW
structure zmk (W:Q8) (k:Int) (g:ZO):Prop where
 w1:1<=g.weight
 w2:g.weight<=20
 m:Po g.ID=true
 m0:g.ID≠0
 s:ZI g.sum=true
 len:g.IE.length=W.ID.length
 root:k=0->g.weight=10/\g.ID=15/\g.IQ.IW=0
 none:g.IQ.IW=0->O8 g.IQ=true/\g.period=0/\g.next=0
 IQ:g.IQ.IW≠0->Oq g.IQ/\g.IQ.locals.length=W.ID.length/\1<=g.period/\g.period<=1000/\W.now<g.next/\g.next-W.now<=g.period
structure zsv (g:ZO):Prop where
 p:g.parent=0
 n:g.name=⟨[].toArray⟩
 w:g.weight=0
 c:g.ID=0
 pe:g.period=0
 ne:g.next=0
 s:g.sum=0
 l:g.IE.length=0
 b:O8 g.IQ=true
def MK(W:Q8)(k:Int):Prop:=((gi W.IC k).used=false->zsv (gi W.IC k))/\((gi W.IC k).used=true->zmk W k (gi W.IC k))
structure WA (W:Q8):Prop where
 n1:0<=W.now
 n2:W.now<=100000000000000000
 c1:1<=W.ID.length
 c2:W.ID.length<=4
 t:W.tasks.length=12
 tree:Y5 W.IC
 sZ:Ju W.ID≠0
 grp:∀k:Int,0<=k->k<8->MK W k
def JY(W:Q8)(g c:Int):Bool:=decide ((gi W.IC g).IQ.IW>0)&&gi (gi W.IC g).IQ.Rw c
def OD(W:Q8)(g c:Int)(j:Nat):Bool:=(((gi W.tasks (j:Int)).state==1)&&((gi W.tasks (j:Int)).group==g))&&((gi W.tasks (j:Int)).IZ==c)
def XW(W:Q8)(g c:Int)(j:Nat):Bool:=(decide (1<=j)&&((gi W.IC (j:Int)).used&&((gi W.IC (j:Int)).parent==g)))&&(Qc W (j:Int) c).on
def QT(W:Q8)(g c:Int):Bool:=Ts (OD W g c) W.tasks.length||Ts (XW W g c) W.IC.length
def UU(W:Q8)(g c:Int):Bool:=(Z7 W.IC g).all fun x=>(Qc W x c).on
def ZA(W:Q8)(t:Int):Bool:=((Q7 W t).state==1)&&UU W (Q7 W t).group (Q7 W t).IZ
def K4(v f k:Int):Bool:=decide (v>=f)&&decide (IntKind.i64.wrap (v-f)<=ZD k)
def TH(W:Q8)(g c WH:Int):Bool:=(Z7 W.IC g).all fun x=>decide ((Qc W x c).v-(Qc W (gi W.IC x).parent c).floor<=Za WH (Qc W x c).w)
def Mc(W:Q8)(c:Int):Bool:=
 decide ((Q7 W (gi W.ID c).cur).v-(Qc W (Q7 W (gi W.ID c).cur).group c).floor<=Za (gi W.ID c).WH (Qf (Q7 W (gi W.ID c).cur).nice))&&TH W (Q7 W (gi W.ID c).cur).group c (gi W.ID c).WH
def TI:MM:=⟨0,0,0,0,0,0,0,0,0⟩
structure zwi (W:Q8) (x:MM):Prop where
 st:x.state=1\/x.state=2
 g:Q6 W.IC x.group=true
 n:Qf x.nice≠0
 m:Po x.mask=true
 m0:x.mask≠0
 v:ZI x.v=true
 s:ZI x.sum=true
 u:ZI x.used=true
 l1:0<=x.load
 l2:x.load<=8000000
 c:QX (Qw W x.group x.mask) x.IZ=true
 f:x.state=1->K4 x.v (Qc W x.group x.IZ).floor (Qf x.nice)=true
def Nx(W:Q8)(t:Int):Prop:=(Q7 W t).state=0/\Q7 W t=TI\/(Q7 W t).state≠0/\zwi W (Q7 W t)
structure ML (W:Q8) (k c:Int):Prop where
 f:ZI (Qc W k c).floor=true
 v:ZI (Qc W k c).v=true
 s:ZI (Qc W k c).sum=true
 w1:1<=(Qc W k c).w
 w2:(Qc W k c).w<=20
 root:k=0->(Qc W k c).on=false/\(Qc W k c).v=0/\(Qc W k c).w=10
 on:k≠0->(Qc W k c).on=(QT W k c && !JY W k c)
 st:k≠0->(Qc W k c).on=true->K4 (Qc W k c).v (Qc W (gi W.IC k).parent c).floor (Qc W k c).w=true
structure FI (W:Q8) (c:Int):Prop where
 b:ZI (gi W.ID c).busy=true
 i:ZI (gi W.ID c).idle=true
 c1 : -1<=(gi W.ID c).cur
 c2:(gi W.ID c).cur<(W.tasks.length:Int)
 no:(gi W.ID c).cur<0->(gi W.ID c).WH=0
 yes:0<=(gi W.ID c).cur->(gi W.ID c).up=true/\1<=(gi W.ID c).WH/\(gi W.ID c).WH<=149/\(Q7 W (gi W.ID c).cur).IZ=c/\ZA W (gi W.ID c).cur=true/\Mc W c=true
structure XS (W:Q8):Prop where
 a:WA W
 t:∀t:Int,0<=t->t<12->Nx W t
 s:∀k c:Int,0<=k->k<8->0<=c->c<((gi W.IC k).IE.length:Int)->ML W k c
 c:∀c:Int,0<=c->c<(W.ID.length:Int)->FI W c
noncomputable def Qx(W:Q8):Bool:=JH (XS W)
section
variable {W:Q8}
theorem WA.gl(h:WA W):W.IC.length=8:=h.tree.len
theorem WA.u(h:WA W){g:Int}(hu:Q6 W.IC g=true):0<=g/\g<8/\zmk W g (gi W.IC g):=by
 obtain⟨a,b,c⟩:=Q4.1 hu;have:=h.gl;exact⟨a,Qo,(h.grp g a Qo).2 c⟩
theorem WA.root(h:WA W):Q6 W.IC 0=true:=Q4.2 ⟨Qd,by have:=h.gl; omega,h.tree.ru⟩
theorem WA.sl(h:WA W){g:Int}(hu:Q6 W.IC g=true):(gi W.IC g).IE.length=W.ID.length:=(h.u hu).2.2.len
theorem WA.up(h:WA W){g:Int}(hu:Q6 W.IC g=true)(hz:g≠0):Q6 W.IC (gi W.IC g).parent=true:=(Y6 h.tree hu hz).1
theorem WA.dl(h:WA W){g:Int}(hu:Q6 W.IC g=true)(hq:(gi W.IC g).IQ.IW≠0):(gi W.IC g).IQ.Rw.length=W.ID.length/\(gi W.IC g).IQ.locals.length=W.ID.length:=by
 have hb:=(h.u hu).2.2.IQ hq;exact⟨by rw[hb.1.dl,hb.2.1],hb.2.1⟩
end
theorem YD{v:Int}{w:Wo}{bs:List Nat}:PX bs ZG #[I v] w (.bool (ZI v)):=zfs v fun wr hx=>⟨_,Qp,rfl⟩
theorem ZK{n:Int}{w:Wo}{bs:List Nat}:PX bs Zb #[I n] w (I (Qf n)):=
 AU n fun wr hx=>⟨_,Qp,fun g=>by
  unfold Qf; rw[B' (by simpa using g)],fun g=>by
  have g':YK n (-10) 9=true:=by simpa using g
  have:=Qu.1 g';refine⟨⟨Qo,Qo⟩,?_⟩;unfold Qf; rw[C' g']⟩
theorem Xa{m:Int}{w:Wo}{bs:List Nat}:PX bs Y0 #[I m] w (.bool (Po m)):=zfo m fun wr hx=>⟨_,Qp,rfl⟩
theorem Y2{m c:Int}{w:Wo}{bs:List Nat}:PX bs Zh #[I m,I c] w (.bool (QX m c)):=
 zcd m c fun wr hx=>by
  have hr:(Po m&&YK c 0 3)=true->0<=c/\c<=3:=fun g=>by
   simp only[A'] at g;exact Qu.1 g.2
  exact⟨_,Xa,_,fun _=>Qp,fun g=>by have:=hr g; exact⟨Qo,by show c<=18446744073709551615; omega⟩,fun g=>(hr g).1,fun _=>by decide,rfl⟩
theorem zor(a b:Int):∀k:Nat,k<=4->0<=v9 a b k/\v9 a b k<JX k
 | 0,_=>by simp[v9,JX]
 | k+1,h=>by
  have ih:=zor a b k Qo
  have hb:JX (k+1)=2*JX k/\0<=JX k:=by
   have:k=0\/k=1\/k=2\/k=3:=Qo;rcases this with rfl | rfl | rfl | rfl <;> decide
  simp only[v9]
  split <;> omega
theorem zyv{k:Nat}(h:k<=64):Qq .u64 (k:Int):=⟨by show (0:Int)<=(k:Int); omega,by show (k:Int)<=18446744073709551615; omega⟩
theorem M4{a b:Int}{w:Wo}{bs:List Nat}:PX bs Jw #[I a,I b] w (I (Ti a b)):=
 zcc a b fun wr hx=>by
  refine⟨_,Xa,_,fun _=>Xa,fun g=>?_,fun g=>?_⟩
  ·rw[Xl]
   simpa using g
  ·simp only[H',I6] at g
   have he:Ti a b=v9 a b 4:=by
    rw[Oj g.1 g.2];obtain⟨x,rfl⟩:=Mw g.1;obtain⟨y,rfl⟩:=Mw g.2;exact(zs6 x y).symm
   rw[he];refine OQ 4 0 rfl (fun x k=>k<=4/\x=v9 a b k) ⟨Qo,rfl⟩ fun x k ⟨hk,hx⟩=>⟨fun IS=>?_,fun Ry=>?_⟩
   ·have IS:=Ot IS;have hb:=B7 (k:=k) Qo;have hl:=zor a b k hk;have dD:(1*2 ^ (min (Int.toNat (k:Int)) 64):Int)=JX k:=rfl;refine⟨_,Y2,_,fun _=>Y2,fun h=>?_,fun h=>?_⟩
    ·rw[dD];refine⟨zyv Qo,⟨Qo,Qo,Qo⟩,⟨Qo,Qo⟩,⟨Qo,Qo⟩,QJ Qo ⟨Qo,?_⟩⟩;rw[hx]; simp only[v9]; rw[C' h]
    ·refine⟨⟨Qo,Qo⟩,QJ Qo ⟨Qo,?_⟩⟩;rw[hx]; simp only[v9]; rw[B' (by rw[h]; decide)]
   ·have Ry:=Ou Ry;have:k=4:=Qo;subst this;rw[hx]
theorem Gv{b:UM}(h:O8 b=true):b.IW=0/\b.Rv=0/\b.Sl=0/\b.locals.length=0/\b.Rw.length=0:=by
 unfold O8 at h;simp only[A',Is] at h;omega
theorem Ld{b:UM}{m:MG}{w:Wo}{bs:List Nat}:PX bs Ut #[.agg (Zv b m).toArray] w (.bool (O8 b)):=
 C5 b.IW b.Rv b.Sl m.lO b.locals.length m.lC m.dO b.Rw.length m.dC fun wr hx=>fun _ _=>rfl
theorem HR{b:UM}{m:MG}{w:Wo}{bs:List Nat}(h1:zqo bs w m.lO b.locals)(h2:zy9 bs w m.dO b.Rw)(hl:b.locals.length<=maxLen):PX bs T0 #[.agg (Zv b m).toArray] w (.bool (JH (Oq b))):=
 zfm b.IW b.Rv b.Sl m.lO b.locals.length m.lC m.dO b.Rw.length m.dC fun wr hx=>by
  have h1:=(h1.ext hx).less (cs:=[]) Qs;have h2:=(h2.ext hx).less (cs:=[]) Qs;intro _ _;refine⟨_,Qp,_,fun _=>Qp,_,fun _=>Qp,_,fun _=>Qp,fun g=>Lt fun p=>?_,fun g=>?_⟩
  ·rw[Qu.2 ⟨p.q1,p.q2⟩,Qu.2 (by have:=p.l1; have:=p.l2; omega),Qu.2 ⟨p.p1,p.p2⟩,Qu.2 ⟨p.s1,p.s2⟩,p.dl] at g;simp at g
  ·simp only[H',I6,bne_eq_false_iff_eq,Qu] at g;obtain⟨⟨⟨⟨g1,g2⟩,g3⟩,g4⟩,g5⟩:=g;have hdl:b.Rw.length=b.locals.length:=Qo
   have all:∀{k:Nat},k<=b.locals.length->(∀c:Int,0<=c->c<(k:Int)->0<=gi b.locals c/\gi b.locals c<=b.IW/\(gi b.Rw c=true->gi b.locals c=0/\b.Rv=0))->0<=UY b.locals k/\UY b.locals k<=40000:=fun {k} hk h=>by
    have key:∀j:Nat,j<=k->0<=UY b.locals j/\UY b.locals j<=(j:Int)*10000:=fun j=>by
     induction j with
     | zero=>intro _; simp[UY]
     | succ j ih=>
      intro hj;have:=ih Qo;have:=h (j:Int) Qo Qo;simp only[UY]; omega
    have:=key k (I7 _);omega
   refine⟨⟨Qo,Qo⟩,?_⟩;refine OQ b.locals.length 0 rfl (fun x k=>k<=b.locals.length/\x=b.Rv+b.Sl+UY b.locals k/\∀c:Int,0<=c->c<(k:Int)->0<=gi b.locals c/\gi b.locals c<=b.IW/\(gi b.Rw c=true->gi b.locals c=0/\b.Rv=0)) ⟨Ic _,by simp[UY],fun c h0 h1=>by omega⟩ fun x k ⟨hk,R0,hI⟩=>⟨fun IS=>?_,fun Ry=>?_⟩
   ·have IS:=Ot IS;have Rr:(k:Int)<(b.Rw.length:Int):=Qo;have hsr:=all hk hI;refine⟨h1.ix Jm Qo IS,_,h1 k Qo IS,_,Qp,fun _=>h2.ix Dq Qo Rr,_,fun _=>h2 k Qo Rr,fun _ _=>h1.ix Jm Qo IS,_,fun _ _=>h1 k Qo IS,fun g=>Lt fun p=>?_,fun g=>⟨h1.ix Jm Qo IS,_,h1 k Qo IS,?_⟩⟩
    ·have pe:=p.each (k:Int) Qo IS;rw[Qu.2 ⟨pe.1,pe.2.1⟩] at g;simp only[Bool.not_true,Bool.false_or,A',Iu,Ij] at g;have:=pe.2.2 g.1;omega
    ·simp only[H',I6,Qu] at g;obtain⟨ga,gb⟩:=g;refine⟨⟨Qo,Qo⟩,⟨Qo,Qo⟩,QJ Qo ⟨Qo,by simp only[UY]; omega,fun c hc0 hc=>?_⟩⟩
     by_cases hck:c<(k:Int)
     ·exact hI c hc0 hck
     ·have:c=(k:Int):=Qo;subst this;refine⟨ga.1,ga.2,fun hd=>?_⟩;rw[hd] at gb;simp only[Bool.true_and,H',decide_eq_false_iff_not] at gb;omega
   ·have Ry:=Ou Ry;have:k=b.locals.length:=Qo;subst this;refine Pe ?_;rw[Is,R0];constructor
    ·intro hs;exact⟨g1.1,g1.2,Qo,Qo,hdl,g4.1,g4.2,g5.1,g5.2,hI,hs⟩
    ·exact fun p=>p.sum
section
variable {W:Q8}{m:MW}{w:Wo}{bs:List Nat}
theorem KX.RC{gs:List ZO}{ms:Nat->MG}{o:OA}(h:KX bs w o gs ms){i:Int}(h0:0<=i)(h1:i<(gs.length:Int)):Q1 bs w o (Int.toNat i*14+13) [.slice (ms i.toNat).sO (gi gs i).IE.length (ms i.toNat).sC]:=(h.cells i h0 h1).get 13 _ rfl
theorem KX.ID{gs:List ZO}{ms:Nat->MG}{o:OA}(h:KX bs w o gs ms){i:Int}(h0:0<=i)(h1:i<(gs.length:Int)):Q1 bs w o (Int.toNat i*14+4) [I (gi gs i).ID]:=(h.cells i h0 h1).get 4 _ rfl
theorem KX.IQ{gs:List ZO}{ms:Nat->MG}{o:OA}(h:KX bs w o gs ms){i:Int}(h0:0<=i)(h1:i<(gs.length:Int)):Q1 bs w o (Int.toNat i*14+8) (Zv (gi gs i).IQ (ms i.toNat)):=Ps fun j v hj=>by
 have e:Yq (gi gs i) (ms i.toNat)=((Yq (gi gs i) (ms i.toNat)).take 8++Zv (gi gs i).IQ (ms i.toNat))++[.slice (ms i.toNat).sO (gi gs i).IE.length (ms i.toNat).sC]:=rfl
 have hj':j<5:=by
  have:=(I8.1 hj).1
  simpa[Zv] using this
 have:=(h.cells i h0 h1).get (8+j) v (by
  rw[e,Ip (by simp[Yq,Zv]; omega),List.getElem?_append_right (by simp[Yq])]
  simpa[Yq] using hj)
 rwa[<-Nat.add_assoc] at this
theorem zsq.f{ts:List MM}{o:OA}(h:zsq bs w o ts){i:Int}(h0:0<=i)(h1:i<(ts.length:Int)){j:Nat}{v:Va}(hj:(Xv (gi ts i))[j]? = some v):Q1 bs w o (Int.toNat i*9+j) [v]:=Xh ((h i h0 h1).get j v hj)
theorem z00.f{cs:List Mj}{o:OA}(h:z00 bs w o cs){i:Int}(h0:0<=i)(h1:i<(cs.length:Int)){j:Nat}{v:Va}(hj:(Hy (gi cs i))[j]? = some v):Q1 bs w o (Int.toNat i*5+j) [v]:=Xh ((h i h0 h1).get j v hj)
theorem zmh.f{ss:List LI}{o:OA}(h:zmh bs w o ss){i:Int}(h0:0<=i)(h1:i<(ss.length:Int)){j:Nat}{v:Va}(hj:(PG (gi ss i))[j]? = some v):Q1 bs w o (Int.toNat i*5+j) [v]:=Xh ((h i h0 h1).get j v hj)
theorem KK(h:XQ bs w W m)(h4:W.ID.length<=4):PX bs UR #[.agg (Qa W m).toArray] w (I (Ju W.ID)):=
 zjg _ _ _ _ _ _ _ _ _ _ fun wr hx=>by
  have h:=(h.ext hx).less (cs:=[]) Qs;intro _ _;refine OQ W.ID.length 0 rfl (fun x k=>k<=W.ID.length/\x=Ux W.ID k) ⟨Ic _,rfl⟩ fun x k ⟨hk,R0⟩=>⟨fun IS=>?_,fun Ry=>?_⟩
  ·have IS:=Ot IS;have hb:=B7 (k:=k) Qo;have hl:=Hf W.ID k Qo;have dD:(1*2 ^ (min (Int.toNat (k:Int)) 64):Int)=JX k:=rfl;refine⟨h.c.ix ZP Qo IS,_,h.c.f Qo IS (j:=0) rfl,fun hu=>?_,fun hu=>?_⟩
   ·rw[dD];refine⟨zyv Qo,⟨Qo,Qo,Qo⟩,⟨Qo,Qo⟩,⟨Qo,Qo⟩,QJ Qo ⟨Qo,?_⟩⟩;rw[R0]; simp only[Ux]; rw[C' hu]
   ·refine⟨⟨Qo,Qo⟩,QJ Qo ⟨Qo,?_⟩⟩;rw[R0]; simp only[Ux]; rw[B' (by rw[hu]; decide)]
  ·have Ry:=Ou Ry;have:k=W.ID.length:=Qo;subst this;rw[R0]; rfl
theorem ze7{g:Int}(h:XQ bs w W m)(ht:Y5 W.IC)(hu:Q6 W.IC g=true):PX bs PP #[.agg (Qa W m).toArray,I g] w (I (zl0 W.IC g)):=
 zfw _ _ _ _ _ _ _ _ _ _ g fun wr hx=>by
  have h:=(h.ext hx).less (cs:=[]) Qs;intro _ _;obtain⟨u1,u2,_⟩:=Q4.1 hu;refine⟨h.g.ix u1 u2,_,h.g.ID u1 u2,fun vs=>∃(x s:Int),vs=[I x,I s]/\Q6 W.IC x=true/\(Z7 W.IC x).foldl (fun s x=>Ti s (gi W.IC (gi W.IC x).parent).ID) s=zl0 W.IC g,fun vs=>(dep 3 W.IC (ZR 0 vs)).toNat,⟨g,_,rfl,hu,rfl⟩,?_⟩;rintro x s ⟨x',s',he,hux,hI⟩;simp only[I4,I5,true_and,and_true] at he;obtain⟨rfl,rfl⟩:=he;refine⟨fun hz=>?_,fun hz=>?_⟩
  ·have hz:x≠0:=by simpa using hz
   obtain⟨hp,a,b,d,e,e2,hd⟩:=Y6 ht hux hz;obtain⟨v1,v2,_⟩:=Q4.1 hp;rw[Yz ht hux hz,List.foldl_cons] at hI
   exact⟨h.g.ix a b,_,h.g.parent a b,h.g.ix v1 v2,_,h.g.ID v1 v2,_,M4,⟨_,_,rfl,hp,hI⟩,by
    show (dep 3 W.IC (gi W.IC x).parent).toNat<(dep 3 W.IC x).toNat;omega⟩
  ·have hz:x=0:=by simpa using hz
   subst hz;rw[show Z7 W.IC 0=[] from Zl _ _,List.foldl_nil] at hI;rw[hI]
theorem J6{g mask:Int}(h:XQ bs w W m)(h4:W.ID.length<=4)(ht:Y5 W.IC)(hu:Q6 W.IC g=true):PX bs Ym #[.agg (Qa W m).toArray,I g,I mask] w (I (Qw W g mask)):=
 zcm _ _ _ _ _ _ _ _ _ _ g mask fun wr hx=>by
  have h:=(h.ext hx).less (cs:=[]) Qs;intro _ _;have hk:=M4 (a:=zl0 W.IC g) (b:=Ju W.ID) (w:=wr) (bs:=[]);rw[zvm ht hu] at hk;refine⟨_,KK h h4,_,ze7 h ht hu,_,hk,_,M4,fun g1=>?_,fun g1=>⟨fun g2=>?_,fun g2=>?_⟩⟩
  ·unfold Qw; rw[C' (by simpa using g1)]
  ·unfold Qw; rw[B' (by simpa using g1),C' (by simpa using g2)]
  ·unfold Qw; rw[B' (by simpa using g1),B' (by simpa using g2)]
theorem KJ{g c:Int}(h:XQ bs w W m)(ha:WA W)(hu:Q6 W.IC g=true)(c0:0<=c)(c1:c<(W.ID.length:Int)):PX bs UQ #[.agg (Qa W m).toArray,I g,I c] w (.bool (JY W g c)):=
 zjf _ _ _ _ _ _ _ _ _ _ g c fun wr hx=>by
  have h:=(h.ext hx).less (cs:=[]) Qs;intro _ _;obtain⟨u1,u2,_⟩:=Q4.1 hu
  have hd:(decide ((gi W.IC g).IQ.IW>0))=true->c<((gi W.IC g).IQ.Rw.length:Int):=fun g1=>by
   have:=Ot g1;rw[(ha.dl hu Qo).1]; exact c1
  exact⟨h.g.ix u1 u2,_,_,_,_,_,_,_,_,_,h.g.IQ u1 u2,fun _ _=>⟨fun g1=>(h.g.Rw g u1 u2).ix Dq c0 (hd g1),_,fun g1=>(h.g.Rw g u1 u2) c c0 (hd g1),rfl⟩⟩
theorem Vj{g c:Int}(h:XQ bs w W m)(ha:WA W)(hu:Q6 W.IC g=true)(c0:0<=c)(c1:c<(W.ID.length:Int)):PX bs Xg #[.agg (Qa W m).toArray,I g,I c] w (.bool (Qc W g c).on):=
 C6 _ _ _ _ _ _ _ _ _ _ g c fun wr hx=>by
  have h:=(h.ext hx).less (cs:=[]) Qs;intro _ _;obtain⟨u1,u2,_⟩:=Q4.1 hu;have hs:=ha.sl hu;have c2:c<((gi W.IC g).IE.length:Int):=Qo;exact⟨h.g.ix u1 u2,_,_,_,h.g.RC u1 u2,(h.g.IE g u1 u2).ix YW c0 c2,_,zmh.f (h.g.IE g u1 u2) c0 c2 (j:=1) rfl,rfl⟩
theorem zjw{gs:List ZO}{k:Nat}(hk:(k:Int)<(gs.length:Int))(hu:(gi gs (k:Int)).used=true):Q6 gs (k:Int)=true:=Q4.2 ⟨Qo,hk,hu⟩
theorem P8{g c:Int}(h:XQ bs w W m)(ha:WA W)(c0:0<=c)(c1:c<(W.ID.length:Int)):PX bs J5 #[.agg (Qa W m).toArray,I g,I c] w (.bool (QT W g c)):=
 C3 _ _ _ _ _ _ _ _ _ _ g c fun wr hx=>by
  have h:=(h.ext hx).less (cs:=[]) Qs;intro _ _;have bM:=ha.gl;have hm9:=ZH;refine Xw W.tasks.length 0 rfl (fun k=>k<=W.tasks.length/\∀j:Nat,j<k->OD W g c j=false) ⟨Ic _,fun j hj=>Ir hj (Nat.not_lt_zero j)⟩ fun k ⟨hk,hI⟩=>⟨fun IS=>?_,fun Ry=>?_⟩
  ·have IS:=Ot IS;have ht:=ha.t;refine⟨h.t.ix QG Qo IS,_,h.t.f Qo IS (j:=0) rfl,fun _=>h.t.ix QG Qo IS,_,fun _=>h.t.f Qo IS (j:=1) rfl,fun _=>h.t.ix QG Qo IS,_,fun _=>h.t.f Qo IS (j:=2) rfl,fun hy=>?_,fun hn=>⟨⟨Qo,Qo⟩,QB Qo ⟨Qo,fun j hj=>?_⟩⟩⟩
   ·unfold QT;rw[De.2 ⟨k,Qo,hy⟩]; rfl
   ·by_cases eH:j<k
    ·exact hI j eH
    ·have:j=k:=Qo;subst this; exact hn
  ·have Ry:=Ou Ry;have iW:Ts (OD W g c) W.tasks.length=false:=zh0 fun j hj=>hI j Qo
   refine Xw W.IC.length 1 rfl (fun k=>1<=k/\k<=W.IC.length/\∀j:Nat,j<k->XW W g c j=false) ⟨I7 _,Qo,fun j hj=>by
    have:j=0:=Qo;subst this; simp[XW]⟩ fun k ⟨hk1,hk,hI⟩=>⟨fun IS=>?_,fun Ry=>?_⟩
   ·have IS:=Ot IS;refine⟨h.g.ix Qo IS,_,h.g.used Qo IS,fun _=>h.g.ix Qo IS,_,fun _=>h.g.parent Qo IS,(Qc W (k:Int) c).on,fun hu=>Vj h ha (zjw IS (by simp only[A'] at hu; exact hu.1)) c0 c1,fun hy=>?_,fun hn=>⟨⟨Qo,Qo⟩,QB Qo ⟨Qo,Qo,fun j hj=>?_⟩⟩⟩
    ·unfold QT
     have:Ts (XW W g c) W.IC.length=true:=De.2 ⟨k,Qo,by
      unfold XW;rw[Ih hk1,Bool.true_and]; exact hy⟩
     rw[this,Bool.or_true]
    ·by_cases eH:j<k
     ·exact hI j eH
     ·have:j=k:=Qo;subst this;unfold XW;rw[Ih hk1,Bool.true_and]; exact hn
   ·have Ry:=Ou Ry;have:Ts (XW W g c) W.IC.length=false:=zh0 fun j hj=>hI j Qo
    unfold QT;rw[iW,this]; rfl
theorem Vi{t:Int}(h:XQ bs w W m)(ha:WA W)(t0:0<=t)(t1:t<(W.tasks.length:Int))(hu:(Q7 W t).state=1->Q6 W.IC (Q7 W t).group=true/\0<=(Q7 W t).IZ/\(Q7 W t).IZ<(W.ID.length:Int)) :
  PX bs Yy #[.agg (Qa W m).toArray,I t] w (.bool (ZA W t)):=
 C4 _ _ _ _ _ _ _ _ _ _ t fun wr hx=>by
  have h:=(h.ext hx).less (cs:=[]) Qs;intro _ _;refine⟨h.t.ix QG t0 t1,_,_,_,_,_,_,_,_,_,h.t t t0 t1,fun _ _=>⟨fun g=>?_,fun g=>?_⟩⟩
  ·have:((Q7 W t).state==1)=false:=by simpa[Q7] using g
   unfold ZA; rw[this]; rfl
  ·have hs:(Q7 W t).state=1:=by simpa[Q7] using g
   obtain⟨hug,hc0,tN⟩:=hu hs;have hL:ZA W t=UU W (Q7 W t).group (Q7 W t).IZ:=by unfold ZA; rw[Is.2 hs,Bool.true_and]
   rw[hL];refine⟨fun vs=>∃x:Int,vs=[I x]/\Q6 W.IC x=true/\UU W x (Q7 W t).IZ=UU W (Q7 W t).group (Q7 W t).IZ,fun vs=>(dep 3 W.IC (ZR 0 vs)).toNat,⟨_,rfl,hug,rfl⟩,?_⟩;rintro x ⟨x',he,hux,hI⟩;simp only[I4,I5,true_and,and_true] at he;subst he;refine⟨fun hz=>?_,fun hz=>?_⟩
   ·have hz:x≠0:=by simpa using hz
    obtain⟨hp,a,b,d,e,e2,hd⟩:=Y6 ha.tree hux hz;unfold UU at hI;rw[Yz ha.tree hux hz,List.all_cons] at hI
    refine⟨_,Vj h ha hux hc0 tN,fun g2=>?_,fun g2=>⟨h.g.ix a b,_,h.g.parent a b,⟨_,rfl,hp,?_⟩,by
     show (dep 3 W.IC (gi W.IC x).parent).toNat<(dep 3 W.IC x).toNat;omega⟩⟩
    ·have g2:(Qc W x (Q7 W t).IZ).on=false:=by simpa[Q7] using g2
     rw[g2,Bool.false_and] at hI;unfold UU;rw[<-hI]
    ·have g2:(Qc W x (Q7 W t).IZ).on=true:=by simpa[Q7] using g2
     rw[g2,Bool.true_and] at hI;exact hI
   ·have hz:x=0:=by simpa using hz
    subst hz;unfold UU at hI;rw[show Z7 W.IC 0=[] from Zl _ _,List.all_nil] at hI;unfold UU;rw[<-hI]
end
theorem Gn{v f k:Int}{w:Wo}{bs:List Nat}:PX bs Ve #[I v,I f,I k] w (.bool (K4 v f k)):=
 zcl v f k fun wr hx=>⟨IntKind.i64.wrap (v-f),fun _ wq=>by simp[eqGuard,binOp,Op.intArith],_,fun _=>Gj,rfl⟩
theorem Bk:zj2 Tryz.prog QD:=⟨Qk,Qk,Qk⟩
theorem zio(a b:MM):Ni Tryz.prog (Tryz.prog.fieldsOf QD).toList 0 (Xv a) (Xv b)=some ((a.state==b.state)&&((a.group==b.group)&&((a.IZ==b.IZ)&&((a.nice==b.nice)&&((a.mask==b.mask)&&((a.v==b.v)&&((a.sum==b.sum)&&((a.used==b.used)&&((a.load==b.load)&&true))))))))):=Qk
theorem CC{a b:MM}:((a.state==b.state)&&((a.group==b.group)&&((a.IZ==b.IZ)&&((a.nice==b.nice)&&((a.mask==b.mask)&&((a.v==b.v)&&((a.sum==b.sum)&&((a.used==b.used)&&((a.load==b.load)&&true)))))))))=decide (a=b):=by
 cases a; cases b
 simp only[MM.mk.injEq,Bool.and_true];rw[Bool.eq_iff_iff];simp only[A',Is,Ij]
section
variable {W:Q8}{m:MW}{w:Wo}{bs:List Nat}
theorem BA{k:Int}(h:XQ bs w W m)(hn:0<=W.now)(k0:0<=k)(k1:k<(W.IC.length:Int))(hf:zmi (gi W.IC k)):PX bs Ta #[.agg (Qa W m).toArray,I k] w (.bool (JH (MK W k))):=
 BV _ _ _ _ _ _ _ _ _ _ k fun wr hx=>by
  have h:=(h.ext hx).less (cs:=[]) Qs;intro _ _;refine⟨h.g.ix k0 k1,_,_,_,_,_,_,_,_,_,_,_,_,_,_,_,_,_,_,_,_,h.g.cells k k0 k1,fun _ _=>⟨fun g=>?_,fun g=>?_⟩⟩
  ·have hu:(gi W.IC k).used=false:=by simpa using g
   refine⟨_,fun _=>Ld (b:=(gi W.IC k).IQ) (m:=m.ms k.toNat),Pe ?_⟩;simp only[A',Is,Uw];constructor
   ·rintro⟨⟨⟨⟨⟨⟨⟨⟨e1,e2⟩,e3⟩,e4⟩,e5⟩,e6⟩,e7⟩,e8⟩,e9⟩;exact⟨fun _=>⟨e1,e2,e3,e4,e5,e6,e7,Qo,e9⟩,fun hu'=>by rw[hu'] at hu; cases hu⟩
   ·intro p;have q:=p.1 hu;exact⟨⟨⟨⟨⟨⟨⟨⟨q.p,q.n⟩,q.w⟩,q.c⟩,q.pe⟩,q.ne⟩,q.s⟩,by have:=q.l; omega⟩,q.b⟩
  ·have hu:(gi W.IC k).used=true:=by simpa using g
   have mk:zmk W k (gi W.IC k)->MK W k:=fun q=>⟨fun hu'=>(by rw[hu'] at hu; cases hu),fun _=>q⟩
   refine⟨_,Jz,_,fun _=>Xa,_,fun _=>YD,fun g2=>Lt fun p=>?_,fun g2=>⟨fun g3=>Lt fun p=>?_,fun g3=>⟨fun g4=>⟨_,Ld (b:=(gi W.IC k).IQ) (m:=m.ms k.toNat),Pe ?_⟩,fun g4=>⟨_,HR (b:=(gi W.IC k).IQ) (m:=m.ms k.toNat) (h.g.locals k k0 k1) (h.g.Rw k k0 k1) hf.lo,_,fun _=>Qp,fun g5=>?_,Pe ?_⟩⟩⟩⟩
   ·have q:=p.2 hu;have e1:YK (gi W.IC k).weight 1 20=true:=Qu.2 ⟨q.w1,q.w2⟩;have e3:((gi W.IC k).ID==0)=false:=by simpa using q.m0
    have e5:(((gi W.IC k).IE.length:Nat):Int)=((W.ID.length:Nat):Int):=by have:=q.len; omega
    rw[e1,q.m,e3,q.s,e5] at g2;simp at g2
   ·have q:=p.2 hu;simp only[A',Is] at g3;have r:=q.root g3.1;rw[r.1,r.2.1,r.2.2] at g3;simp at g3
   all_goals
    simp only[H',I6,bne_eq_false_iff_eq,Qu,beq_eq_false_iff_ne] at g2;obtain⟨⟨⟨⟨a1,a2⟩,a3⟩,a4⟩,a5⟩:=g2;have hlen:(gi W.IC k).IE.length=W.ID.length:=Qo
    have Bv2:k=0->(gi W.IC k).weight=10/\(gi W.IC k).ID=15/\(gi W.IC k).IQ.IW=0:=fun hk=>by
     rw[Is.2 hk,Bool.true_and] at g3;simp only[H',bne_eq_false_iff_eq] at g3;exact⟨g3.1.1,g3.1.2,g3.2⟩
   ·have q0:(gi W.IC k).IQ.IW=0:=by simpa using g4
    simp only[A',Is];constructor
    ·rintro⟨⟨e1,e2⟩,e3⟩;exact mk ⟨a1.1,a1.2,a2,a3,a4,hlen,Bv2,fun _=>⟨e1,e2,e3⟩,fun dE=>Ir q0 dE⟩
    ·intro p;have q:=(p.2 hu).none q0;exact⟨⟨q.1,q.2.1⟩,q.2.2⟩
   ·simp only[A',Is,Ij] at g5;have:=hf.nx;exact⟨by have:=this.1; omega,by have:=this.2; omega⟩
   ·have q0:(gi W.IC k).IQ.IW≠0:=by simpa using g4
    simp only[A',Is,Ij,Ql,Qu];constructor
    ·rintro⟨⟨⟨⟨e1,e2⟩,e3⟩,e4⟩,e5⟩;exact mk ⟨a1.1,a1.2,a2,a3,a4,hlen,Bv2,fun dE=>Ir dE q0,fun _=>⟨e1,Qo,e3.1,e3.2,e4,e5⟩⟩
    ·intro p;have q:=(p.2 hu).IQ q0;exact⟨⟨⟨⟨q.1,by have:=q.2.1; omega⟩,q.2.2.1,q.2.2.2.1⟩,q.2.2.2.2.1⟩,q.2.2.2.2.2⟩
theorem LW{W:Q8}(ha:WA W){g mask c:Int}(hc:QX (Qw W g mask) c=true):0<=c/\c<(W.ID.length:Int):=by
 have h1:=zhl hc;exact⟨(O7 h1).2.1,(CD W.ID _ ha.c2 h1).1⟩
theorem AK{t:Int}(h:XQ bs w W m)(ha:WA W)(t0:0<=t)(t1:t<(W.tasks.length:Int)):PX bs O1 #[.agg (Qa W m).toArray,I t] w (.bool (JH (Nx W t))):=
 C8 _ _ _ _ _ _ _ _ _ _ t fun wr hx=>by
  have h:=(h.ext hx).less (cs:=[]) Qs;intro _ _;have bM:=ha.gl;have hm9:=ZH;refine⟨h.t.ix QG t0 t1,_,_,_,_,_,_,_,_,_,h.t t t0 t1,fun _ _=>⟨fun g=>?_,fun g=>?_⟩⟩
  ·have hs:(gi W.tasks t).state=0:=by simpa using g
   refine⟨_,fun wq=>zcw Bk (zio (gi W.tasks t) TI) _ _ wq,Pe ?_⟩;rw[CC,Ij];constructor
   ·exact fun e=>.inl ⟨hs,e⟩
   ·rintro (⟨_,e⟩ | ⟨e,_⟩)
    ·exact e
    ·exact Ir hs e
  ·have hs:(gi W.tasks t).state≠0:=by simpa using g
   have no:∀{q:Nx W t},zwi W (gi W.tasks t):=fun {q}=>by
    rcases q with ⟨e,_⟩ | ⟨_,q⟩
    ·exact Ir e hs
    ·exact q
   refine⟨_,fun _=>Xb (c:=m.gC) h.g,_,fun _=>ZK,_,fun _=>Xa,fun g2=>Lt fun p=>?_,fun g2=>?_⟩
   ·have q:=no (q:=p);have e3:(Qf (gi W.tasks t).nice==0)=false:=by simpa using q.n
    have e4:((gi W.tasks t).mask==0)=false:=by simpa using q.m0
    rw[q.g,e3,q.m,e4] at g2;simp only[Bool.not_true,Bool.or_false,A',It] at g2;have:=q.st;omega
   ·simp only[H',I6,beq_eq_false_iff_ne] at g2;obtain⟨⟨⟨⟨a1,a2⟩,a3⟩,a4⟩,a5⟩:=g2
    have st:(gi W.tasks t).state=1\/(gi W.tasks t).state=2:=by
     by_cases h1:(gi W.tasks t).state=1
     ·exact .inl h1
     ·refine .inr ?_;have:((gi W.tasks t).state != 1)=true:=by simpa using h1
      rw[this,Bool.true_and] at a1
      simpa using a1
    refine⟨_,YD,_,fun _=>YD,_,fun _=>YD,_,fun _=>Qp,Qw W (gi W.tasks t).group (gi W.tasks t).mask,fun _=>J6 h ha.c2 ha.tree a2,_,fun _=>Y2,fun g3=>Lt fun p=>?_,fun g3=>?_⟩
    ·have q:=no (q:=p);have e4:YK (gi W.tasks t).load 0 8000000=true:=Qu.2 ⟨q.l1,q.l2⟩;rw[q.v,q.s,q.u,e4,q.c] at g3;simp at g3
    ·simp only[H',I6,Qu] at g3;obtain⟨⟨⟨⟨b1,b2⟩,b3⟩,b4⟩,b5⟩:=g3;obtain⟨u1,u2,_⟩:=Q4.1 a2;obtain⟨c0,c1⟩:=LW ha b5;have hsl:=ha.sl a2;have c2:(gi W.tasks t).IZ<((gi W.IC (gi W.tasks t).group).IE.length:Int):=Qo;refine⟨fun _=>h.g.ix u1 u2,_,_,_,fun _=>h.g.RC u1 u2,fun _=>(h.g.IE _ u1 u2).ix YW c0 c2,_,fun _=>zmh.f (h.g.IE _ u1 u2) c0 c2 (j:=0) rfl,_,fun _=>ZK,_,fun _=>Gn,Pe ?_⟩;simp only[Iu,Is];constructor
     ·intro e
      exact .inr ⟨hs,⟨st,a2,a3,a4,a5,b1,b2,b3,b4.1,b4.2,b5,fun e1=>by
       rcases e with e | e
       ·have e:(gi W.tasks t).state=2:=e;have e1:(gi W.tasks t).state=1:=e1;omega
       ·exact e⟩⟩
     ·intro p;have q:=no (q:=p);rcases st with e | e
      ·exact .inr (q.f e)
      ·exact .inl e
theorem BB{k c:Int}(h:XQ bs w W m)(ha:WA W)(k0:0<=k)(k1:k<(W.IC.length:Int))(c0:0<=c)(c2:c<((gi W.IC k).IE.length:Int)):PX bs Tb #[.agg (Qa W m).toArray,I k,I c] w (.bool (JH (ML W k c))):=
 BW _ _ _ _ _ _ _ _ _ _ k c fun wr hx=>by
  have h:=(h.ext hx).less (cs:=[]) Qs;intro _ _;have bM:=ha.gl
  have hus:(gi W.IC k).used=true:=by
   cases hu:(gi W.IC k).used with
   | true=>rfl
   | false=>
    have:=((ha.grp k k0 Qo).1 hu).l;omega
  have hu:Q6 W.IC k=true:=Q4.2 ⟨k0,k1,hus⟩;have hsl:=ha.sl hu;have c1:c<(W.ID.length:Int):=Qo;refine⟨h.g.ix k0 k1,_,_,_,_,_,_,_,_,_,_,_,_,_,_,_,_,_,_,_,_,h.g.cells k k0 k1,fun _ _=>⟨(h.g.IE k k0 k1).ix YW c0 c2,_,_,_,_,_,(h.g.IE k k0 k1) c c0 c2,fun _ _=>⟨_,YD,_,fun _=>YD,_,fun _=>YD,_,fun _=>Jz,fun g=>Lt fun p=>?_,fun g=>⟨fun g2=>Pe ?_,fun g2=>⟨_,P8 h ha c0 c1,_,fun _=>KJ h ha hu c0 c1,fun g3=>Lt fun p=>?_,fun g3=>?_⟩⟩⟩⟩⟩
  ·have e1:=p.f;have e2:=p.v;have e3:=p.s;have e4:YK (Qc W k c).w 1 20=true:=Qu.2 ⟨p.w1,p.w2⟩;have g':(((!ZI (Qc W k c).floor || !ZI (Qc W k c).v) || !ZI (Qc W k c).sum) || !YK (Qc W k c).w 1 20)=true:=g;rw[e1,e2,e3,e4] at g'
   cases g'
  ·have g':(((!ZI (Qc W k c).floor || !ZI (Qc W k c).v) || !ZI (Qc W k c).sum) || !YK (Qc W k c).w 1 20)=false:=g;simp only[H',I6,Qu] at g';obtain⟨⟨⟨a1,a2⟩,a3⟩,a4⟩:=g';have hk:k=0:=by simpa using g2
   show ((!(Qc W k c).on&&((Qc W k c).v==0))&&((Qc W k c).w==10))=true↔_;simp only[A',IB,Is];constructor
   ·rintro⟨⟨e1,e2⟩,e3⟩;exact⟨a1,a2,a3,a4.1,a4.2,fun _=>⟨e1,e2,e3⟩,fun dE=>Ir hk dE,fun dE=>Ir hk dE⟩
   ·intro p;have q:=p.root hk;exact⟨⟨q.1,q.2.1⟩,q.2.2⟩
  ·have hk:k≠0:=by simpa using g2
   have g3':(!((Qc W k c).on==(QT W k c && !JY W k c)))=true:=g3;rw[p.on hk] at g3';simp at g3'
  ·have g':(((!ZI (Qc W k c).floor || !ZI (Qc W k c).v) || !ZI (Qc W k c).sum) || !YK (Qc W k c).w 1 20)=false:=g;simp only[H',I6,Qu] at g';obtain⟨⟨⟨a1,a2⟩,a3⟩,a4⟩:=g';have hk:k≠0:=by simpa using g2
   have hon:(Qc W k c).on=(QT W k c && !JY W k c):=by
    have g3':(!((Qc W k c).on==(QT W k c && !JY W k c)))=false:=g3
    simpa using g3'
   have hp:=ha.up hu hk;obtain⟨v1,v2,_⟩:=Q4.1 hp;have hpl:=ha.sl hp;have c3:c<((gi W.IC (gi W.IC k).parent).IE.length:Int):=Qo;refine⟨fun _=>h.g.ix v1 v2,_,_,_,fun _=>h.g.RC v1 v2,fun _=>(h.g.IE _ v1 v2).ix YW c0 c3,_,fun _=>zmh.f (h.g.IE _ v1 v2) c0 c3 (j:=0) rfl,_,fun _=>Gn,Pe ?_⟩;show (!(Qc W k c).on||K4 (Qc W k c).v (Qc W (gi W.IC k).parent c).floor (Qc W k c).w)=true↔_;simp only[Iu,IB];constructor
   ·intro e
    exact⟨a1,a2,a3,a4.1,a4.2,fun e0=>Ir e0 hk,fun _=>hon,fun _ ho=>by
     rcases e with e | e
     ·rw[ho] at e; cases e
     ·exact e⟩
   ·intro p
    cases ho:(Qc W k c).on with
    | false=>exact .inl rfl
    | true=>exact .inr (p.st hk ho)
theorem zi4{t:Int}(ht:Nx W t)(hl:ZA W t=true):zwi W (Q7 W t)/\(Q7 W t).state=1:=by
 have hs:(Q7 W t).state=1:=by
  unfold ZA at hl;simp only[A',Is] at hl;exact hl.1
 rcases ht with ⟨e,_⟩ | ⟨_,q⟩
 ·omega
 ·exact⟨q,hs⟩
theorem Bo{a b:Int}(ha:ZI a=true)(hb:ZI b=true):Qq .i64 (a-b):=by
 have:=YZ.1 ha;have:=YZ.1 hb;exact⟨Qo,Qo⟩
theorem AJ{c:Int}(h:XQ bs w W m)(ha:WA W)(hts:∀t:Int,0<=t->t<12->Nx W t)(yL:∀k c:Int,0<=k->k<8->0<=c->c<((gi W.IC k).IE.length:Int)->ML W k c)(c0:0<=c)(c1:c<(W.ID.length:Int))(t0:0<=(gi W.ID c).cur)(t1:(gi W.ID c).cur<(W.tasks.length:Int))(hl:ZA W (gi W.ID c).cur=true) :
  PX bs O0 #[.agg (Qa W m).toArray,I c] w (.bool (Mc W c)):=
 C7 _ _ _ _ _ _ _ _ _ _ c fun wr hx=>by
  have h:=(h.ext hx).less (cs:=[]) Qs;intro _ _;have iX:=ha.t;have bM:=ha.gl;obtain⟨q,_⟩:=zi4 (hts _ t0 Qo) hl;have a2:=q.g;obtain⟨u1,u2,_⟩:=Q4.1 a2
  have sl:∀{x:Int},Q6 W.IC x=true->0<=x/\x<(W.IC.length:Int)/\c<((gi W.IC x).IE.length:Int)/\ML W x c:=fun {x} hx=>by
   obtain⟨v1,v2,_⟩:=Q4.1 hx;have e:=ha.sl hx;have c3:c<((gi W.IC x).IE.length:Int):=Qo;exact⟨v1,v2,c3,yL x c v1 Qo c0 c3⟩
  obtain⟨_,_,c2,sp⟩:=sl a2;refine⟨h.c.ix ZP c0 c1,_,_,_,_,_,h.c c c0 c1,fun _ _=>⟨h.t.ix QG t0 t1,_,_,_,_,_,_,_,_,_,h.t _ t0 t1,fun _ _=>⟨h.g.ix u1 u2,_,_,_,h.g.RC u1 u2,(h.g.IE _ u1 u2).ix YW c0 c2,_,zmh.f (h.g.IE _ u1 u2) c0 c2 (j:=0) rfl,Bo q.v sp.f,_,ZK,_,Xk,fun g=>?_,fun g=>?_⟩⟩⟩
  ·have g:=Ot g;have hd:¬((Q7 W (gi W.ID c).cur).v-(Qc W (Q7 W (gi W.ID c).cur).group c).floor<=Za (gi W.ID c).WH (Qf (Q7 W (gi W.ID c).cur).nice)):=Int.not_le.2 g;unfold Mc;rw[decide_eq_false hd];rfl
  ·have g:=Ou g
   have hS:Mc W c=TH W (Q7 W (gi W.ID c).cur).group c (gi W.ID c).WH:=by
    have hd:(Q7 W (gi W.ID c).cur).v-(Qc W (Q7 W (gi W.ID c).cur).group c).floor<=Za (gi W.ID c).WH (Qf (Q7 W (gi W.ID c).cur).nice):=Int.not_lt.1 g;unfold Mc;rw[Ih hd,Bool.true_and]
   rw[hS];refine⟨fun vs=>∃x:Int,vs=[I x]/\Q6 W.IC x=true/\TH W x c (gi W.ID c).WH=TH W (Q7 W (gi W.ID c).cur).group c (gi W.ID c).WH,fun vs=>(dep 3 W.IC (ZR 0 vs)).toNat,⟨_,rfl,a2,rfl⟩,?_⟩;rintro x ⟨x',he,hux,hI⟩;simp only[I4,I5,true_and,and_true] at he;subst he;refine⟨fun hz=>?_,fun hz=>?_⟩
   ·have hz:x≠0:=by simpa using hz
    obtain⟨hp,a,b,d,e,e2,hd⟩:=Y6 ha.tree hux hz;obtain⟨x1,x2,x3,xs⟩:=sl hux;obtain⟨p1,p2,p3,ps⟩:=sl hp;unfold TH at hI;rw[Yz ha.tree hux hz,List.all_cons] at hI
    refine⟨h.g.ix x1 x2,_,_,_,h.g.RC x1 x2,(h.g.IE _ x1 x2).ix YW c0 x3,_,_,_,_,_,(h.g.IE _ x1 x2) c c0 x3,fun _ _=>⟨h.g.ix x1 x2,_,h.g.parent x1 x2,h.g.ix p1 p2,_,_,_,h.g.RC p1 p2,(h.g.IE _ p1 p2).ix YW c0 p3,_,zmh.f (h.g.IE _ p1 p2) c0 p3 (j:=0) rfl,Bo xs.v ps.f,_,Xk,fun g2=>?_,fun g2=>⟨h.g.ix x1 x2,_,h.g.parent x1 x2,⟨_,rfl,hp,?_⟩,by
     show (dep 3 W.IC (gi W.IC x).parent).toNat<(dep 3 W.IC x).toNat;omega⟩⟩⟩
    ·have g2:=Ot g2;have hd:¬((Qc W x c).v-(Qc W (gi W.IC x).parent c).floor<=Za (gi W.ID c).WH (Qc W x c).w):=Int.not_le.2 g2;rw[decide_eq_false hd,Bool.false_and] at hI;unfold TH;rw[<-hI]
    ·have g2:=Ou g2;have hd:(Qc W x c).v-(Qc W (gi W.IC x).parent c).floor<=Za (gi W.ID c).WH (Qc W x c).w:=Int.not_lt.1 g2;rw[Ih hd,Bool.true_and] at hI;exact hI
   ·have hz:x=0:=by simpa using hz
    subst hz;unfold TH at hI;rw[show Z7 W.IC 0=[] from Zl _ _,List.all_nil] at hI;unfold TH;rw[<-hI]
theorem F2{t:Int}(ha:WA W)(ht:Nx W t)(hs:(Q7 W t).state=1):Q6 W.IC (Q7 W t).group=true/\0<=(Q7 W t).IZ/\(Q7 W t).IZ<(W.ID.length:Int):=by
 rcases ht with ⟨e,_⟩ | ⟨_,q⟩
 ·omega
 ·exact⟨q.g,LW ha q.c⟩
theorem zbo{c:Int}(h:XQ bs w W m)(ha:WA W)(hts:∀t:Int,0<=t->t<12->Nx W t)(yL:∀k c:Int,0<=k->k<8->0<=c->c<((gi W.IC k).IE.length:Int)->ML W k c)(c0:0<=c)(c1:c<(W.ID.length:Int)) :
  PX bs P4 #[.agg (Qa W m).toArray,I c] w (.bool (JH (FI W c))):=
 zcj _ _ _ _ _ _ _ _ _ _ c fun wr hx=>by
  have h:=(h.ext hx).less (cs:=[]) Qs;intro _ _;have iX:=ha.t;refine⟨h.c.ix ZP c0 c1,_,_,_,_,_,h.c c c0 c1,fun _ _=>⟨_,YD,_,fun _=>YD,fun _=>⟨Qo,Qo⟩,_,fun _=>Qp,fun g=>Lt fun p=>?_,fun g=>⟨fun g2=>Pe ?_,fun g2=>?_⟩⟩⟩
  ·have e3:YK (gi W.ID c).cur (-1) (((W.tasks.length:Nat):Int)-1)=true:=Qu.2 (by have:=p.c1; have:=p.c2; omega);rw[p.b,p.i,e3] at g;cases g
  ·simp only[H',I6,Qu] at g;obtain⟨⟨a1,a2⟩,a3⟩:=g;have g2:=Ot g2;rw[Is];exact⟨fun e=>⟨a1,a2,a3.1,Qo,fun _=>e,fun hc=>by omega⟩,fun p=>p.no g2⟩
  ·simp only[H',I6,Qu] at g;obtain⟨⟨a1,a2⟩,a3⟩:=g;have g2:=Ou g2;have t0:0<=(gi W.ID c).cur:=Qo;have t1:(gi W.ID c).cur<(W.tasks.length:Int):=Qo;refine⟨_,fun _=>Qp,fun _=>h.t.ix QG t0 t1,_,fun _=>h.t.f t0 t1 (j:=2) rfl,ZA W (gi W.ID c).cur,fun _=>Vi h ha t0 t1 fun hs=>F2 ha (hts _ t0 Qo) hs,Mc W c,fun g3=>AJ h ha hts yL c0 c1 t0 t1 (by simp only[A'] at g3; exact g3.2),Pe ?_⟩;simp only[A',Is,Qu];constructor
   ·rintro⟨⟨⟨⟨e1,e2⟩,e3⟩,e4⟩,e5⟩;exact⟨a1,a2,a3.1,Qo,fun hc=>by omega,fun _=>⟨e1,e2.1,e2.2,e3,e4,e5⟩⟩
   ·intro p;have q:=p.yes t0;exact⟨⟨⟨⟨q.1,q.2.1,q.2.2.1⟩,q.2.2.2.1⟩,q.2.2.2.2.1⟩,q.2.2.2.2.2⟩
theorem Ua(h:XQ bs w W m)(lc:W.ID.length<=maxLen)(lt:W.tasks.length<=maxLen)(lg:W.IC.length<=maxLen)(hf:∀i:Int,0<=i->i<(W.IC.length:Int)->zmi (gi W.IC i)) :
  PX bs YX #[.agg (Qa W m).toArray] w (.bool (Qx W)):=
 zce _ _ _ _ _ _ _ _ _ _ fun wr hx=>by
  have h:=(h.ext hx).less (cs:=[]) Qs;intro _ _;have hm9:=XA;refine⟨_,Qp,_,fun _=>Qp,MD W.IC,fun _=>HU h.g lg,Ju W.ID,fun g=>KK h ?_,fun g=>Lt fun p=>?_,fun g=>?_⟩
  ·simp only[H',I6,Qu] at g;omega
  ·have a:=p.a;have e1:YK W.now 0 100000000000000000=true:=Qu.2 ⟨a.n1,a.n2⟩;have e2:YK ((W.ID.length:Nat):Int) 1 4=true:=Qu.2 (by have:=a.c1; have:=a.c2; omega);have e3:((W.tasks.length:Nat):Int)=12:=by have:=a.t; omega
   have e5:(Ju W.ID==0)=false:=by simpa using a.sZ
   rw[e1,e2,e3,VK.2 a.tree,e5] at g;simp at g
  simp only[H',I6,Qu,bne_eq_false_iff_eq,beq_eq_false_iff_ne] at g;obtain⟨⟨⟨⟨g1,g2⟩,g3⟩,g4⟩,g5⟩:=g;have ht:=VK.1 g4;have bM:=ht.len;refine Xw W.IC.length 0 rfl (fun k=>k<=W.IC.length/\∀j:Int,0<=j->j<(k:Int)->MK W j) ⟨Ic _,fun j h0 h1=>by omega⟩ fun k ⟨hk,hI⟩=>⟨fun IS=>?_,fun Ry=>?_⟩
  ·have IS:=Ot IS;refine⟨_,BA h g1.1 Qo IS (hf _ Qo IS),fun g6=>Lt fun p=>?_,fun g6=>⟨⟨Qo,Qo⟩,QB Qo ⟨Qo,fun j h0 h1=>?_⟩⟩⟩
   ·have g6:JH (MK W (k:Int))=false:=by simpa using g6
    exact LX.1 g6 (p.a.grp _ Qo Qo)
   ·by_cases eH:j<(k:Int)
    ·exact hI j h0 eH
    ·have:j=(k:Int):=Qo;subst this;exact Ql.1 (by simpa using g6)
  have Ry:=Ou Ry;have ha:WA W:=⟨g1.1,g1.2,Qo,Qo,Qo,ht,g5,fun j h0 h1=>hI j h0 Qo⟩;refine Xw W.tasks.length 0 rfl (fun k=>k<=W.tasks.length/\∀j:Int,0<=j->j<(k:Int)->Nx W j) ⟨Ic _,fun j h0 h1=>by omega⟩ fun k2 ⟨hk2,hI2⟩=>⟨fun IS=>?_,fun aP=>?_⟩
  ·have IS:=Ot IS;refine⟨_,AK h ha Qo IS,fun g6=>Lt fun p=>?_,fun g6=>⟨⟨Qo,Qo⟩,QB Qo ⟨Qo,fun j h0 h1=>?_⟩⟩⟩
   ·have g6:JH (Nx W (k2:Int))=false:=by simpa using g6
    exact LX.1 g6 (p.t _ Qo Qo)
   ·by_cases eH:j<(k2:Int)
    ·exact hI2 j h0 eH
    ·have:j=(k2:Int):=Qo;subst this;exact Ql.1 (by simpa using g6)
  have aP:=Ou aP;have hts:∀t:Int,0<=t->t<12->Nx W t:=fun t h0 h1=>hI2 t h0 Qo
  refine Xw W.IC.length 0 rfl (fun k=>k<=W.IC.length/\∀j c:Int,0<=j->j<(k:Int)->0<=c->c<((gi W.IC j).IE.length:Int)->ML W j c) ⟨Ic _,fun j c h0 h1=>by omega⟩ fun k3 ⟨hk3,hI3⟩=>⟨fun IS=>?_,fun Ba1=>?_⟩
  ·have IS:=Ot IS;have k30:(0:Int)<=(k3:Int):=Qo;refine Xw (gi W.IC (k3:Int)).IE.length 0 rfl (fun c=>c<=(gi W.IC (k3:Int)).IE.length/\∀d:Int,0<=d->d<(c:Int)->ML W (k3:Int) d) ⟨Ic _,fun j h0 h1=>by omega⟩ fun c ⟨hc,hJ⟩=>⟨h.g.ix k30 IS,_,_,_,h.g.RC k30 IS,fun jG=>?_,fun AM0=>?_⟩
   ·have jG:=Ot jG;have hsm:(gi W.IC (k3:Int)).IE.length<=maxLen:=(hf _ k30 IS).sh;refine⟨_,BB h ha k30 IS Qo jG,fun g6=>Lt fun p=>?_,fun g6=>⟨⟨Qo,Qo⟩,QB Qo ⟨Qo,fun d h0 h1=>?_⟩⟩⟩
    ·have g6:JH (ML W (k3:Int) (c:Int))=false:=by simpa using g6
     exact LX.1 g6 (p.s _ _ Qo Qo Qo jG)
    ·by_cases eH:d<(c:Int)
     ·exact hJ d h0 eH
     ·have:d=(c:Int):=Qo;subst this;exact Ql.1 (by simpa using g6)
   ·have AM0:=Ou AM0;refine⟨⟨Qo,Qo⟩,QB Qo ⟨Qo,fun j d h0 h1 h2 h3=>?_⟩⟩
    by_cases eH:j<(k3:Int)
    ·exact hI3 j d h0 eH h2 h3
    ·have:j=(k3:Int):=Qo;subst this;exact hJ d h2 Qo
  have Ba1:=Ou Ba1;have yL:∀k c:Int,0<=k->k<8->0<=c->c<((gi W.IC k).IE.length:Int)->ML W k c:=fun k c h0 h1 h2 h3=>hI3 k c h0 Qo h2 h3
  refine Xw W.ID.length 0 rfl (fun k=>k<=W.ID.length/\∀j:Int,0<=j->j<(k:Int)->FI W j) ⟨Ic _,fun j h0 h1=>by omega⟩ fun k4 ⟨hk4,hI4⟩=>⟨fun IS=>?_,fun CG2=>?_⟩
  ·have IS:=Ot IS;refine⟨_,zbo h ha hts yL Qo IS,fun g6=>Lt fun p=>?_,fun g6=>⟨⟨Qo,Qo⟩,QB Qo ⟨Qo,fun j h0 h1=>?_⟩⟩⟩
   ·have g6:JH (FI W (k4:Int))=false:=by simpa using g6
    exact LX.1 g6 (p.c _ Qo IS)
   ·by_cases eH:j<(k4:Int)
    ·exact hI4 j h0 eH
    ·have:j=(k4:Int):=Qo;subst this;exact Ql.1 (by simpa using g6)
  ·have CG2:=Ou CG2;exact zmf ⟨ha,hts,yL,fun c h0 h1=>hI4 c h0 Qo⟩
end
theorem Zi{n p:Nat}{vs us:List Va}{k:Nat}(h1:ZR p vs=(k:Int)+1)(h2:ZR p us=(k:Int))(hk:k<n):Xc n p vs<Xc n p us:=by
 unfold Xc;rw[h1,h2];omega
theorem Ch{α:Type}[Inhabited α]{l:List α}{p:α->Bool}:l.all p=true↔∀k:Nat,k<l.length->p (gi l (k:Int))=true:=by
 rw[List.all_eq_true];constructor
 ·intro h k hk; exact h _ (zm9 Qo Qo)
 ·intro h x hx;obtain⟨k,hk,rfl⟩:=List.getElem_of_mem hx;rw[<-VG hk]; exact h k hk
theorem Kr{bs:List Nat}{w:Wo}{b:Nat}{l:List Int}{t:TypeId}{fz:Nat×Nat}(h:w.heap[b]? = some (.cells (l.flatMap JI).toArray t fz))(hb:b∉bs):zqo bs w (some ⟨b,0,none⟩) l:=fun i h0 hi=>by
 have IS:i.toNat<l.length:=Qo;refine VF h hb (k0:=0) ?_;have:=EI (enc:=JI) (z:=1) (fun _=>rfl) l i.toNat 0 IS Qd;rw[Nat.add_zero] at this;rw[Nat.zero_add,this]
 have e:gi l i=l[i.toNat]:=by
  have:=VG IS
  rwa[show ((i.toNat:Nat):Int)=i by omega] at this
 rw[e]; rfl
theorem BC{l:List Int}{o:OA}{c:Nat}{w:Wo}{bs:List Nat}(h:zqo bs w o l)(hl:l.length<=maxLen):PX bs ZE #[.slice o l.length c] w (.bool (l.all ZI)):=
 zfk o l.length c fun wr hx=>by
  have h:=(h.ext hx).less (cs:=[]) Qs;refine Xw l.length 0 rfl (fun k=>k<=l.length/\∀j:Nat,j<k->ZI (gi l (j:Int))=true) ⟨Ic _,fun j hj=>Ir hj (Nat.not_lt_zero j)⟩ fun k ⟨hk,hI⟩=>⟨fun IS=>?_,fun Ry=>?_⟩
  ·have IS:=Ot IS;refine⟨h.ix Jm Qo IS,_,h k Qo IS,_,QK,fun g=>?_,fun g=>⟨ziw IS hl,QB Qo ⟨Qo,fun j hj=>?_⟩⟩⟩
   ·have:l.all ZI=false:=by
     cases hb:l.all ZI with
     | false=>rfl
     | true=>
      have:=Ch.1 hb k Qo;unfold ZI at this;rw[this] at g;cases g
    rw[this]
   ·by_cases eH:j<k
    ·exact hI j eH
    ·have:j=k:=Qo;subst this;unfold ZI
     simpa using g
  ·have Ry:=Ou Ry;have hk:k=l.length:=Qo;subst hk;rw[Ch.2 hI]
theorem z19{a:Int}{w:Wo}{b:Nat}{t:TypeId}{fz:Nat×Nat}(h:w.heap[b]? = some (.cells ([I a]:List Va).toArray t fz)):PX [] ZE #[.slice (some ⟨b,0,none⟩) 1 1] w (.bool (ZI a)):=by
 have:=BC (l:=[a]) (c:=1) (bs:=[]) (Kr h Qs) (by simp[maxLen])
 simpa using this
theorem z2u{a b2:Int}{w:Wo}{b:Nat}{t:TypeId}{fz:Nat×Nat}(h:w.heap[b]? = some (.cells ([I a,I b2]:List Va).toArray t fz)):PX [] ZE #[.slice (some ⟨b,0,none⟩) 2 2] w (.bool (ZI a&&ZI b2)):=by
 have:=BC (l:=[a,b2]) (c:=2) (bs:=[]) (Kr h Qs) (by simp[maxLen])
 simpa using this
theorem z2i{a b2 b3:Int}{w:Wo}{b:Nat}{t:TypeId}{fz:Nat×Nat}(h:w.heap[b]? = some (.cells ([I a,I b2,I b3]:List Va).toArray t fz)):PX [] ZE #[.slice (some ⟨b,0,none⟩) 3 3] w (.bool (ZI a&&(ZI b2&&ZI b3))):=by
 have:=BC (l:=[a,b2,b3]) (c:=3) (bs:=[]) (Kr h Qs) (by simp[maxLen])
 simpa using this
theorem zbc{m:Int}{w:Wo}{bs:List Nat}:PX bs JL #[I m] w (.bool (Po m)):=BM m fun wr hx=>rfl
theorem MV{m:Int}{w:Wo}{bs:List Nat}:PX bs U6 #[I m] w (.bool (Po m)):=zfg m fun wr hx=>⟨_,zbc,rfl⟩
theorem L6{m:Int}{w:Wo}{bs:List Nat}:PX bs Uq #[I m] w (.bool ((m != 0)&&Po m)):=AS m fun wr hx=>⟨_,fun _=>MV,rfl⟩
theorem zw2:∀(m:Fin 16) (c:Fin 4),(Tp .and .i64 (Int.fdiv (m.val:Int) (2 ^ (min (Int.toNat (c.val:Int)) 64))) 1==1)=(Int.tmod (Int.fdiv (m.val:Int) (2 ^ (min (Int.toNat (c.val:Int)) 64))) 2==1):=by decide +kernel
theorem zbb{m c:Int}{w:Wo}{bs:List Nat}:PX bs Jp #[I m,I c] w (.bool (QX m c)):=
 Fd m c fun wr hx=>by
  refine⟨_,zbc,_,fun _=>QK,fun g=>?_,?_⟩
  ·simp only[A'] at g;exact(Qu.1 g.2).1
  ·unfold QX
   cases h1:Po m with
   | false=>rfl
   | true=>
    cases h2:YK c 0 3 with
    | false=>rfl
    | true=>
     obtain⟨x,rfl⟩:=Mw h1;have:=Qu.1 h2;have e:=zw2 x ⟨c.toNat,Qo⟩;rw[show ((⟨c.toNat,Qo⟩:Fin 4).val:Int)=c by show ((c.toNat:Nat):Int)=c; omega] at e;rw[e]
theorem Gf{m c:Int}{w:Wo}{bs:List Nat}:PX bs V1 #[I m,I c] w (.bool (QX m c)):=zb8 m c fun wr hx=>⟨_,zbb,rfl⟩
theorem M2{a b:Int}{w:Wo}{bs:List Nat}:PX bs Jv #[I a,I b] w (I (Ti a b)):=
 zb7 a b fun wr hx=>by
  refine⟨_,MV,_,fun _=>MV,fun g=>?_,fun g=>?_⟩
  ·rw[Xl]; simpa using g
  ·simp only[H',I6] at g;rw[Oj g.1 g.2]
theorem L5{b:UM}{m:MG}{w:Wo}{bs:List Nat}:PX bs Uo #[.agg (Zv b m).toArray] w (.bool (O8 b)):=
 AO b.IW b.Rv b.Sl m.lO b.locals.length m.lC m.dO b.Rw.length m.dC fun wr hx=>fun _ _=>rfl
theorem Bs{g:ZO}{m:MG}{w:Wo}{bs:List Nat}(hu:g.used=false):PX bs VW #[.agg (Yq g m).toArray] w (.bool (JH (zsv g))):=
 BO g.used g.parent g.name g.weight g.ID g.period g.next g.sum g.IQ.IW g.IQ.Rv g.IQ.Sl m.lO g.IQ.locals.length m.lC m.dO g.IQ.Rw.length m.dC m.sO g.IE.length m.sC fun wr hx=>by
  intro _ _;refine⟨_,fun _=>L5 (b:=g.IQ) (m:=m),Pe ?_⟩;simp only[hu,Bool.not_false,Bool.true_and,A',Is,Uw];constructor
  ·rintro⟨⟨⟨⟨⟨⟨⟨⟨e1,e2⟩,e3⟩,e4⟩,e5⟩,e6⟩,e7⟩,e9⟩,e8⟩;exact⟨e1,e2,e3,e4,e5,e6,e7,Qo,e9⟩
  ·intro q;exact⟨⟨⟨⟨⟨⟨⟨⟨q.p,q.n⟩,q.w⟩,q.c⟩,q.pe⟩,q.ne⟩,q.s⟩,q.b⟩,by have:=q.l; omega⟩
theorem zeu{b:UM}{m:MG}{w:Wo}{bs:List Nat}(h1:zqo bs w m.lO b.locals)(h2:zy9 bs w m.dO b.Rw)(hl:b.locals.length<=maxLen):PX bs PH #[.agg (Zv b m).toArray] w (.bool (JH (Oq b))):=
 zfe b.IW b.Rv b.Sl m.lO b.locals.length m.lC m.dO b.Rw.length m.dC fun wr hx=>by
  have h1:=(h1.ext hx).less (cs:=[]) Qs;have h2:=(h2.ext hx).less (cs:=[]) Qs;intro _ _;refine⟨_,QK,_,fun _=>QK,fun g=>Lt fun p=>?_,fun g=>⟨_,QK,_,fun _=>QK,fun g'=>Lt fun p=>?_,fun g'=>?_⟩⟩
  ·rw[Qu.2 ⟨p.q1,p.q2⟩,Qu.2 (by have:=p.l1; have:=p.l2; omega),p.dl] at g;simp at g
  ·rw[Qu.2 ⟨p.p1,p.p2⟩,Qu.2 ⟨p.s1,p.s2⟩] at g'
   cases g'
  ·simp only[H',I6,bne_eq_false_iff_eq,Qu] at g g';obtain⟨⟨g1,g2⟩,g3⟩:=g;obtain⟨g4,g5⟩:=g';have hdl:b.Rw.length=b.locals.length:=Qo
   have all:∀{k:Nat},k<=b.locals.length->(∀c:Int,0<=c->c<(k:Int)->0<=gi b.locals c/\gi b.locals c<=b.IW/\(gi b.Rw c=true->gi b.locals c=0/\b.Rv=0))->0<=UY b.locals k/\UY b.locals k<=40000:=fun {k} hk h=>by
    have key:∀j:Nat,j<=k->0<=UY b.locals j/\UY b.locals j<=(j:Int)*10000:=fun j=>by
     induction j with
     | zero=>intro _; simp[UY]
     | succ j ih=>
      intro hj;have:=ih Qo;have:=h (j:Int) Qo Qo;simp only[UY]; omega
    have:=key k (I7 _);omega
   refine⟨⟨Qo,Qo⟩,?_⟩;refine OQ b.locals.length 0 rfl (fun x k=>k<=b.locals.length/\x=b.Rv+b.Sl+UY b.locals k/\∀c:Int,0<=c->c<(k:Int)->0<=gi b.locals c/\gi b.locals c<=b.IW/\(gi b.Rw c=true->gi b.locals c=0/\b.Rv=0)) ⟨Ic _,by simp[UY],fun c h0 h1=>by omega⟩ fun x k ⟨hk,R0,hI⟩=>⟨fun IS=>?_,fun Ry=>?_⟩
   ·have IS:=Ot IS;have Rr:(k:Int)<(b.Rw.length:Int):=Qo;have hsr:=all hk hI;refine⟨h1.ix Jm Qo IS,_,h1 k Qo IS,_,QK,fun _=>h2.ix Dq Qo Rr,_,fun _=>h2 k Qo Rr,fun g=>Lt fun p=>?_,fun g=>?_⟩
    ·have pe:=p.each (k:Int) Qo IS;rw[Qu.2 ⟨pe.1,pe.2.1⟩] at g;simp only[Bool.not_true,Bool.false_or,A',Iu,It] at g;have:=pe.2.2 g.1;rcases g.2 with h | h
     ·exact h this.1
     ·exact h this.2
    ·simp only[H',I6,Qu] at g;obtain⟨ga,gb⟩:=g;refine⟨⟨Qo,Qo⟩,⟨Qo,Qo⟩,QJ Qo ⟨Qo,by simp only[UY]; omega,fun c hc0 hc=>?_⟩⟩
     by_cases hck:c<(k:Int)
     ·exact hI c hc0 hck
     ·have:c=(k:Int):=Qo;subst this;refine⟨ga.1,ga.2,fun hd=>?_⟩;rw[hd] at gb;simp only[Bool.true_and,H',bne_eq_false_iff_eq] at gb;exact gb
   ·have Ry:=Ou Ry;have:k=b.locals.length:=Qo;subst this;refine Pe ?_;rw[Is,R0];constructor
    ·intro hs;exact⟨g1.1,g1.2,Qo,Qo,hdl,g4.1,g4.2,g5.1,g5.2,hI,hs⟩
    ·exact fun p=>p.sum
def zvp(v f k:Int):Bool:=decide (v>=f)&&decide (v-f<=ZD k)
theorem zym{a b:Int}(ha:ZI a=true)(hb:ZI b=true):IntKind.i64.wrap (a-b)=a-b:=(Bo ha hb).wrap
theorem zvq{v f k:Int}(hv:ZI v=true)(hf:ZI f=true):K4 v f k=zvp v f k:=by unfold K4 zvp; rw[zym hv hf]
theorem Gi{v f k:Int}{w:Wo}{bs:List Nat}(h:ZI v=true)(hf:ZI f=true):PX bs VZ #[I v,I f,I k] w (.bool (K4 v f k)):=by
 rw[zvq h hf];exact zfj v f k fun wr hx=>⟨fun _=>Bo h hf,_,fun _=>Ge,rfl⟩
theorem ze0{n:Int}{w:Wo}{bs:List Nat}:PX bs PL #[I n] w (.bool (YK n 0 8000000)):=zfh n fun wr hx=>⟨_,QK,rfl⟩
structure Mk (bs:List Nat) (w:Wo) (p:OA) (W:Q8) (m:MW):Prop where
 cs:Q1 bs w p 0 (Qa W m)
 rd:XQ bs w W m
theorem zac{bs:List Nat}{w:Wo}{o:OA}{n:Nat}{vs:List Va}(h:Q1 bs w o n vs){j:Nat}{v:Va}(hj:vs[j]? = some v):Q1 bs w (o.map (·.add n)) (0+j) [v]:=by
 obtain⟨a,ha,hb,hc⟩:=h.get j v hj;refine Xh ⟨a.add n,by rw[ha]; rfl,by rw[Zz]; exact hb,?_⟩;rw[U3,Nat.zero_add]; exact hc
theorem GI{bs:List Nat}{w:Wo}{o:OA}{n k:Nat}{v:Va}{r:List Va}(h:Q1 bs w o k (v::r)):(o.map (·.add n)).isSome=true:=by
 have:=h.some
 cases o with
 | none=>cases this
 | some a=>rfl
section
variable {W:Q8}{m:MW}{w w':Wo}{bs cs:List Nat}{p:OA}
theorem Mk.ext(h:Mk bs w p W m)(hx:Q0 bs w w'):Mk bs w' p W m:=⟨h.cs.ext hx,h.rd.ext hx⟩
theorem Mk.less(h:Mk bs w p W m)(hs:∀x∈cs,x∈bs):Mk cs w p W m:=⟨h.cs.less hs,h.rd.less hs⟩
theorem Mk.some(h:Mk bs w p W m):p.isSome=true:=by
 have h1:=h.cs.get 0 _ (rfl:(Qa W m)[0]? = Option.some (I W.now));obtain⟨a,rfl,_⟩:=h1;rfl
theorem Mk.c(h:Mk bs w p W m){j:Nat}{v:Va}(hj:(Qa W m)[j]? = Option.some v):Q1 bs w p (0+j) [v]:=Xh (h.cs.get j v hj)
theorem Mk.now(h:Mk bs w p W m):Q1 bs w p (0+0) [I W.now]:=h.c rfl
theorem Mk.ID(h:Mk bs w p W m):Q1 bs w p (0+1) [.slice m.cO W.ID.length m.cC]:=h.c rfl
theorem Mk.tasks(h:Mk bs w p W m):Q1 bs w p (0+2) [.slice m.tO W.tasks.length m.tC]:=h.c rfl
theorem Mk.IC(h:Mk bs w p W m):Q1 bs w p (0+3) [.slice m.gO W.IC.length m.gC]:=h.c rfl
def zwd(m:MW)(g c:Int):OA:=(m.ms g.toNat).sO.map (·.add (Int.toNat c*5))
theorem Mk.sh(h:Mk bs w p W m){g c:Int}(g0:0<=g)(g1:g<(W.IC.length:Int))(c0:0<=c)(c1:c<((gi W.IC g).IE.length:Int)):(zwd m g c).isSome=true/\∀{j:Nat} {v:Va},(PG (Qc W g c))[j]? = Option.some v->Q1 bs w (zwd m g c) (0+j) [v]:=
 ⟨GI (h.rd.g.IE g g0 g1 c c0 c1),fun {j v} hj=>zac (h.rd.g.IE g g0 g1 c c0 c1) hj⟩
theorem XI{c:Int}:PX bs Z8 #[.pointer p,I c] w (.agg #[.pointer p,I c]):=Fa p c fun wr hx=>fun _ _=>rfl
theorem Zp{g c:Int}(h:Mk bs w p W m)(g0:0<=g)(g1:g<(W.IC.length:Int))(c0:0<=c)(c1:c<((gi W.IC g).IE.length:Int)):PX bs QA #[.agg #[.pointer p,I c],I g] w (.pointer (zwd m g c)):=
 Ff p c g fun wr hx=>by
  have h:=(h.ext hx).less (cs:=[]) Qs;exact fun _ _=>⟨h.some,_,_,_,h.IC,h.rd.g.ix g0 g1,_,_,_,h.rd.g.RC g0 g1,(h.rd.g.IE g g0 g1).ix YW c0 c1,rfl⟩
theorem M3{c:Int}(h:Mk bs w p W m)(c0:0<=c)(c1:c<(W.ID.length:Int)):PX bs Ye #[.agg #[.pointer p,I c]] w (.pointer (m.cO.map (·.add (Int.toNat c*5)))):=
 AP p c fun wr hx=>by
  have h:=(h.ext hx).less (cs:=[]) Qs;exact fun _ _=>⟨h.some,_,_,_,h.ID,h.rd.c.ix ZP c0 c1,rfl⟩
theorem Aw{c:Int}(h:Mk bs w p W m)(hl:W.ID.length<=maxLen):PX bs Jn #[.pointer p,I c] w (.bool (YK c 0 ((W.ID.length:Int)-1))):=
 Lv p c fun wr hx=>by
  have h:=(h.ext hx).less (cs:=[]) Qs;have:=XA;exact⟨h.some,_,_,_,h.ID,⟨Qo,Qo⟩,_,QK,rfl⟩
theorem Bu{t:Int}(h:Mk bs w p W m)(hl:W.tasks.length<=maxLen):PX bs J2 #[.pointer p,I t] w (.bool (YK t 0 ((W.tasks.length:Int)-1)&&((Q7 W t).state != 0))):=
 KP p t fun wr hx=>by
  have h:=(h.ext hx).less (cs:=[]) Qs;have:=XA;have hr:YK t 0 ((W.tasks.length:Int)-1)=true->0<=t/\t<(W.tasks.length:Int):=fun g=>by have:=Qu.1 g; omega
  exact⟨h.some,_,_,_,h.tasks,⟨Qo,Qo⟩,_,QK,fun _=>h.some,_,_,_,fun _=>h.tasks,fun g=>h.rd.t.ix QG (hr g).1 (hr g).2,_,fun g=>h.rd.t.f (hr g).1 (hr g).2 (j:=0) rfl,rfl⟩
theorem Oi(h:Mk bs w p W m)(h4:W.ID.length<=4):PX bs Yd #[.pointer p] w (I (Ju W.ID)):=
 HC p fun wr hx=>by
  have h:=(h.ext hx).less (cs:=[]) Qs;refine⟨h.some,_,_,_,h.ID,?_⟩;refine OQ W.ID.length 0 rfl (fun x k=>k<=W.ID.length/\x=Ux W.ID k) ⟨Ic _,rfl⟩ fun x k ⟨hk,R0⟩=>⟨fun IS=>?_,fun Ry=>?_⟩
  ·have IS:=Ot IS;have hb:=B7 (k:=k) Qo;have hl:=Hf W.ID k Qo;have dD:(1*2 ^ (min (Int.toNat (k:Int)) 64):Int)=JX k:=rfl;refine⟨h.rd.c.ix ZP Qo IS,_,_,_,_,_,h.rd.c k Qo IS,fun _ _=>⟨fun hu=>?_,fun hu=>?_⟩⟩
   ·rw[dD,R0,z0d Qo hl.1 hl.2];refine⟨⟨Qo,Qo,Qo⟩,⟨Qo,Qo⟩,QJ Qo ⟨Qo,?_⟩⟩;simp only[Ux]; rw[C' hu]
   ·refine⟨⟨Qo,Qo⟩,QJ Qo ⟨Qo,?_⟩⟩;rw[R0]; simp only[Ux]; rw[B' (by rw[hu]; decide)]
  ·have Ry:=Ou Ry;have:k=W.ID.length:=Qo;subst this;rw[R0]; rfl
theorem zk1{g:Int}(h:Mk bs w p W m)(h4:W.ID.length<=4)(ht:Y5 W.IC)(hu:Q6 W.IC g=true):PX bs Vo #[.pointer p,I g] w (I (VN W.IC g (Ju W.ID))):=
 Fb p g fun wr hx=>by
  have h:=(h.ext hx).less (cs:=[]) Qs;have hr:Q6 W.IC 0=true:=Q4.2 ⟨Qd,by have:=ht.len; omega,ht.ru⟩;obtain⟨r1,r2,_⟩:=Q4.1 hr;refine⟨_,Oi h h4,fun vs=>∃(x s:Int),vs=[I x,I s]/\Q6 W.IC x=true/\VN W.IC x s=VN W.IC g (Ju W.ID),fun vs=>(dep 3 W.IC (ZR 0 vs)).toNat,⟨g,_,rfl,hu,rfl⟩,?_⟩;rintro x s ⟨x',s',he,hux,hI⟩;simp only[I4,I5,true_and,and_true] at he;obtain⟨rfl,rfl⟩:=he;refine⟨fun hz=>?_,fun hz=>?_⟩
  ·have hz:x≠0:=by simpa using hz
   obtain⟨hp,a,b,d,e,e2,hd⟩:=Y6 ht hux hz;unfold VN at hI;rw[Yz ht hux hz,List.cons_append,List.foldl_cons] at hI
   exact⟨h.some,_,_,_,h.IC,h.rd.g.ix a b,_,h.rd.g.ID a b,_,M2,h.some,_,_,_,h.IC,h.rd.g.ix a b,_,h.rd.g.parent a b,⟨_,_,rfl,hp,hI⟩,by
    show (dep 3 W.IC (gi W.IC x).parent).toNat<(dep 3 W.IC x).toNat;omega⟩
  ·have hz:x=0:=by simpa using hz
   subst hz;unfold VN at hI;rw[show Z7 W.IC 0=[] from Zl _ _] at hI;refine⟨h.some,_,_,_,h.IC,h.rd.g.ix r1 r2,_,h.rd.g.ID r1 r2,_,M2,?_⟩;unfold VN;rw[<-hI]; rfl
theorem Br{g mask:Int}(h:Mk bs w p W m)(h4:W.ID.length<=4)(ht:Y5 W.IC)(hu:Q6 W.IC g=true):PX bs J1 #[.pointer p,I mask,I g] w (I (Qw W g mask)):=
 KN p mask g fun wr hx=>by
  have h:=(h.ext hx).less (cs:=[]) Qs;refine⟨_,zk1 h h4 ht hu,_,M2,fun g1=>?_,fun g1=>⟨fun g2=>?_,fun g2=>⟨_,Oi h h4,?_⟩⟩⟩
  ·unfold Qw; rw[C' (by simpa using g1)]
  ·unfold Qw; rw[B' (by simpa using g1),C' (by simpa using g2)]
  ·unfold Qw; rw[B' (by simpa using g1),B' (by simpa using g2)]
theorem Gh{t:Int}(h:Mk bs w p W m)(h4:W.ID.length<=4)(ht:Y5 W.IC)(t0:0<=t)(t1:t<(W.tasks.length:Int))(hu:Q6 W.IC (Q7 W t).group=true):PX bs Xn #[.pointer p,I t] w (I (Qw W (Q7 W t).group (Q7 W t).mask)):=
 Gy p t fun wr hx=>by
  have h:=(h.ext hx).less (cs:=[]) Qs;exact⟨h.some,_,_,_,h.tasks,h.rd.t.ix QG t0 t1,_,h.rd.t.f t0 t1 (j:=4) rfl,h.some,_,_,_,h.tasks,h.rd.t.ix QG t0 t1,_,h.rd.t.f t0 t1 (j:=1) rfl,_,Br h h4 ht hu,rfl⟩
theorem HP{t c g:Int}(h:Mk bs w p W m)(t0:0<=t)(t1:t<(W.tasks.length:Int)):PX bs XZ #[.agg #[.pointer p,I c],I t,I g] w (.bool (OD W g c t.toNat)):=
 DM p c t g fun wr hx=>by
  have h:=(h.ext hx).less (cs:=[]) Qs;refine fun _ _=>⟨h.some,_,_,_,h.tasks,h.rd.t.ix QG t0 t1,_,_,_,_,_,_,_,_,_,h.rd.t t t0 t1,fun _ _=>?_⟩
  unfold OD;rw[show ((t.toNat:Nat):Int)=t by omega]
theorem EO{k c g:Int}(h:Mk bs w p W m)(ha:WA W)(k0:0<=k)(k1:k<(W.IC.length:Int))(c0:0<=c)(c1:c<(W.ID.length:Int)):PX bs Jq #[.agg #[.pointer p,I c],I k,I g] w (.bool (XW W g c k.toNat)):=
 Fe p c k g fun wr hx=>by
  have h:=(h.ext hx).less (cs:=[]) Qs
  have hc:(((k != 0)&&(gi W.IC k).used)&&((gi W.IC k).parent==g))=true->c<((gi W.IC k).IE.length:Int):=fun q=>by
   simp only[A'] at q;rw[ha.sl (Q4.2 ⟨k0,k1,q.1.2⟩)]; exact c1
  refine fun _ _=>⟨fun _=>h.some,_,_,_,fun _=>h.IC,fun _=>h.rd.g.ix k0 k1,_,fun _=>h.rd.g.used k0 k1,fun _=>h.some,_,_,_,fun _=>h.IC,fun _=>h.rd.g.ix k0 k1,_,fun _=>h.rd.g.parent k0 k1,zwd m k c,fun q=>Zp h k0 k1 c0 (hc q),fun q=>(h.sh k0 k1 c0 (hc q)).1,(Qc W k c).on,fun q=>(h.sh k0 k1 c0 (hc q)).2 (j:=1) rfl,?_⟩
  unfold XW;rw[show ((k.toNat:Nat):Int)=k by omega]
  have e:decide (1<=k.toNat)=(k != 0):=by
   by_cases hk:k=0
   ·subst hk; rfl
   ·rw[Ih Qo,It.2 hk]
  rw[e,Bool.and_assoc,Bool.and_assoc,Bool.and_assoc,Bool.and_assoc]
theorem MX{g c:Int}(h:Mk bs w p W m)(ha:WA W)(c0:0<=c)(c1:c<(W.ID.length:Int)):PX bs X3 #[.agg #[.pointer p,I c],I g] w (.bool (QT W g c)):=
 DJ p c g fun wr hx=>by
  have h:=(h.ext hx).less (cs:=[]) Qs;have bM:=ha.gl;have ht:=ha.t;refine fun _ _=>⟨h.some,_,_,_,h.tasks,?_⟩
  refine Xw W.tasks.length 0 rfl (fun k=>k<=W.tasks.length/\∀j:Nat,j<k->OD W g c j=false) ⟨Ic _,fun j hj=>Ir hj (Nat.not_lt_zero j)⟩ fun k ⟨hk,hI⟩=>⟨fun IS=>?_,fun Ry=>?_⟩
  ·have IS:=Ot IS;refine⟨_,HP h Qo IS,fun hy=>?_,fun hn=>⟨⟨Qo,Qo⟩,QB Qo ⟨Qo,fun j hj=>?_⟩⟩⟩
   ·rw[Ig] at hy;unfold QT;rw[De.2 ⟨k,Qo,hy⟩]; rfl
   ·by_cases eH:j<k
    ·exact hI j eH
    ·have:j=k:=Qo;subst this
     rwa[Ig] at hn
  ·have Ry:=Ou Ry;have iW:Ts (OD W g c) W.tasks.length=false:=zh0 fun j hj=>hI j Qo
   refine⟨h.some,_,_,_,h.IC,?_⟩;refine Xw W.IC.length 0 rfl (fun k=>k<=W.IC.length/\∀j:Nat,j<k->XW W g c j=false) ⟨Ic _,fun j hj=>Ir hj (Nat.not_lt_zero j)⟩ fun k ⟨hk,hI⟩=>⟨fun IS=>?_,fun Ry=>?_⟩
   ·have IS:=Ot IS;refine⟨_,EO h ha Qo IS c0 c1,fun hy=>?_,fun hn=>⟨⟨Qo,Qo⟩,QB Qo ⟨Qo,fun j hj=>?_⟩⟩⟩
    ·rw[Ig] at hy;unfold QT;rw[De.2 ⟨k,Qo,hy⟩,Bool.or_true]
    ·by_cases eH:j<k
     ·exact hI j eH
     ·have:j=k:=Qo;subst this
      rwa[Ig] at hn
   ·have Ry:=Ou Ry;have:Ts (XW W g c) W.IC.length=false:=zh0 fun j hj=>hI j Qo
    unfold QT;rw[iW,this]; rfl
theorem zba{g c:Int}(h:Mk bs w p W m)(ha:WA W)(hu:Q6 W.IC g=true)(c0:0<=c)(c1:c<(W.ID.length:Int)):PX bs Up #[.agg #[.pointer p,I c],I g] w (.bool (JY W g c)):=
 AQ p c g fun wr hx=>by
  have h:=(h.ext hx).less (cs:=[]) Qs;obtain⟨u1,u2,_⟩:=Q4.1 hu
  have hd:(decide ((gi W.IC g).IQ.IW>0))=true->c<((gi W.IC g).IQ.Rw.length:Int):=fun g1=>by
   have:=Ot g1;rw[(ha.dl hu Qo).1]; exact c1
  exact fun _ _=>⟨h.some,_,_,_,h.IC,h.rd.g.ix u1 u2,_,_,_,_,_,_,_,_,_,h.rd.g.IQ u1 u2,fun _ _=>⟨fun g1=>(h.rd.g.Rw g u1 u2).ix Dq c0 (hd g1),_,fun g1=>(h.rd.g.Rw g u1 u2) c c0 (hd g1),rfl⟩⟩
theorem HN{t c:Int}(h:Mk bs w p W m)(ha:WA W)(t0:0<=t)(t1:t<(W.tasks.length:Int))(c0:0<=c)(c1:c<(W.ID.length:Int))(hu:(Q7 W t).state=1->Q6 W.IC (Q7 W t).group=true) :
  PX bs XY #[.agg #[.pointer p,I c],I t] w (.bool (((Q7 W t).IZ==c)&&ZA W t)):=
 DK p c t fun wr hx=>by
  have h:=(h.ext hx).less (cs:=[]) Qs;refine fun _ _=>⟨h.some,_,_,_,h.tasks,h.rd.t.ix QG t0 t1,_,_,_,_,_,_,_,_,_,h.rd.t t t0 t1,fun _ _=>⟨fun g=>?_,fun g=>?_⟩⟩
  ·have g':(((Q7 W t).state != 1)||((Q7 W t).IZ != c))=true:=g
   have:(((Q7 W t).IZ==c)&&ZA W t)=false:=by
    unfold ZA;simp only[Iu,It] at g';rcases g' with e | e
    ·rw[beq_eq_false_iff_ne.2 e,Bool.false_and,Bool.and_false]
    ·rw[beq_eq_false_iff_ne.2 e,Bool.false_and]
   rw[this]
  ·have g':(((Q7 W t).state != 1)||((Q7 W t).IZ != c))=false:=g;simp only[H',bne_eq_false_iff_eq] at g';obtain⟨hs,hc⟩:=g';have hug:=hu hs
   have hL:(((Q7 W t).IZ==c)&&ZA W t)=UU W (Q7 W t).group c:=by
    unfold ZA; rw[Is.2 hs,Is.2 hc,Bool.true_and,Bool.true_and,hc]
   rw[hL];refine⟨fun vs=>∃x:Int,vs=[I x]/\Q6 W.IC x=true/\UU W x c=UU W (Q7 W t).group c,fun vs=>(dep 3 W.IC (ZR 0 vs)).toNat,⟨_,rfl,hug,rfl⟩,?_⟩;rintro x ⟨x',he,hux,hI⟩;simp only[I4,I5,true_and,and_true] at he;subst he;refine⟨fun hz=>?_,fun hz=>?_⟩
   ·have hz:x≠0:=by simpa using hz
    obtain⟨hp,a,b,d,e,e2,hd⟩:=Y6 ha.tree hux hz;have tN:c<((gi W.IC x).IE.length:Int):=by rw[ha.sl hux]; exact c1
    unfold UU at hI;rw[Yz ha.tree hux hz,List.all_cons] at hI
    refine⟨_,Zp h a b c0 tN,(h.sh a b c0 tN).1,_,(h.sh a b c0 tN).2 (j:=1) rfl,fun g2=>?_,fun g2=>⟨h.some,_,_,_,h.IC,h.rd.g.ix a b,_,h.rd.g.parent a b,⟨_,rfl,hp,?_⟩,by
     show (dep 3 W.IC (gi W.IC x).parent).toNat<(dep 3 W.IC x).toNat;omega⟩⟩
    ·have g2:(Qc W x c).on=false:=by simpa using g2
     rw[g2,Bool.false_and] at hI;unfold UU;rw[<-hI]
    ·have g2:(Qc W x c).on=true:=by simpa using g2
     rw[g2,Bool.true_and] at hI;exact hI
   ·have hz:x=0:=by simpa using hz
    subst hz;unfold UU at hI;rw[show Z7 W.IC 0=[] from Zl _ _,List.all_nil] at hI;unfold UU;rw[<-hI]
end
structure zwa (W:Q8):Prop where
 n1:0<=W.now
 n2:W.now<=100000000000000000
 c1:1<=W.ID.length
 c2:W.ID.length<=4
 t:W.tasks.length=12
 tree:Y5 W.IC
 sZ:Ju W.ID≠0
structure z0z (W:Q8) (g:ZO):Prop where
 none:g.IQ.IW=0->O8 g.IQ=true/\g.period=0/\g.next=0
 IQ:g.IQ.IW≠0->Oq g.IQ/\g.IQ.locals.length=W.ID.length/\1<=g.period/\g.period<=1000/\W.now<g.next/\g.next-W.now<=g.period
structure z0x (W:Q8) (g:ZO):Prop where
 w1:1<=g.weight
 w2:g.weight<=20
 m:Po g.ID=true
 m0:g.ID≠0
 s:ZI g.sum=true
 len:g.IE.length=W.ID.length
 q:z0z W g
def zwg(W:Q8)(k:Int):Prop:=((gi W.IC k).used=false->zsv (gi W.IC k))/\((gi W.IC k).used=true->z0x W (gi W.IC k))
theorem EK{W:Q8}{k:Int}:MK W k↔zwg W k/\((gi W.IC k).used=true->k=0->(gi W.IC k).weight=10/\(gi W.IC k).ID=15/\(gi W.IC k).IQ.IW=0):=by
 constructor
 ·intro p;exact⟨⟨p.1,fun hu=>by have q:=p.2 hu; exact⟨q.w1,q.w2,q.m,q.m0,q.s,q.len,⟨q.none,q.IQ⟩⟩⟩,fun hu=>(p.2 hu).root⟩
 ·rintro⟨p,r⟩;exact⟨p.1,fun hu=>by have q:=p.2 hu; exact⟨q.w1,q.w2,q.m,q.m0,q.s,q.len,r hu,q.q.none,q.q.IQ⟩⟩
section
variable {W:Q8}{m:MW}{w:Wo}{bs:List Nat}{p:OA}
theorem zbd{k:Int}(h:Mk bs w p W m)(n1:0<=W.now)(n2:W.now<=100000000000000000)(k0:0<=k)(k1:k<(W.IC.length:Int))(hf:zmi (gi W.IC k)) :
  PX bs Xo #[.pointer p,.agg (Yq (gi W.IC k) (m.ms k.toNat)).toArray] w (.bool (JH (z0z W (gi W.IC k)))):=
 Gz p (gi W.IC k).used (gi W.IC k).parent (gi W.IC k).name (gi W.IC k).weight (gi W.IC k).ID (gi W.IC k).period (gi W.IC k).next (gi W.IC k).sum (gi W.IC k).IQ.IW (gi W.IC k).IQ.Rv (gi W.IC k).IQ.Sl (m.ms k.toNat).lO (gi W.IC k).IQ.locals.length (m.ms k.toNat).lC (m.ms k.toNat).dO (gi W.IC k).IQ.Rw.length (m.ms k.toNat).dC (m.ms k.toNat).sO (gi W.IC k).IE.length (m.ms k.toNat).sC fun wr hx=>by
  have h:=(h.ext hx).less (cs:=[]) Qs
  have hp:((JH (Oq (gi W.IC k).IQ)&&(((gi W.IC k).IQ.locals.length:Nat):Int)==((W.ID.length:Nat):Int))&&YK (gi W.IC k).period 1 1000)=true->1<=(gi W.IC k).period/\(gi W.IC k).period<=1000:=fun q=>by
   simp only[A'] at q;exact Qu.1 q.2
  refine fun _ _=>⟨_,L5 (b:=(gi W.IC k).IQ) (m:=m.ms k.toNat),fun g=>Pe ?_,fun g=>⟨_,zeu (b:=(gi W.IC k).IQ) (m:=m.ms k.toNat) (h.rd.g.locals k k0 k1) (h.rd.g.Rw k k0 k1) hf.lo,fun _=>h.some,_,_,_,fun _=>h.ID,_,fun _=>QK,fun _=>h.some,_,fun _=>h.now,fun _=>⟨Qo,Qo⟩,fun _=>h.some,_,fun _=>h.now,fun q=>⟨by have:=hp q; omega,by have:=hp q; omega⟩,_,fun _=>QK,Pe ?_⟩⟩
  ·have q0:=(Gv g).1;simp only[A',Is];exact⟨fun e=>⟨fun _=>⟨g,e.1,e.2⟩,fun dE=>Ir q0 dE⟩,fun q=>(q.none q0).2⟩
  ·simp only[A',Is,Ql,Qu];constructor
   ·rintro⟨⟨⟨e1,e2⟩,e3⟩,e4⟩;have:=e1.q1;exact⟨fun hz=>by omega,fun _=>⟨e1,Qo,e3.1,e3.2,Qo,Qo⟩⟩
   ·intro q
    have hq:(gi W.IC k).IQ.IW≠0:=fun e=>by
     have:=(q.none e).1;rw[this] at g; cases g
    have r:=q.IQ hq;exact⟨⟨⟨r.1,by have:=r.2.1; omega⟩,r.2.2.1,r.2.2.2.1⟩,by have:=r.2.2.2.2.1; omega,by have:=r.2.2.2.2.2; omega⟩
theorem Ax(h:Mk bs w p W m)(hs:zwa W)(hf:∀i:Int,0<=i->i<(W.IC.length:Int)->zmi (gi W.IC i)):PX bs X6 #[.pointer p] w (.bool (JH (∀k:Int,0<=k->k<8->MK W k))):=
 Lw p fun wr hx=>by
  have h:=(h.ext hx).less (cs:=[]) Qs;have bM:=hs.tree.len;refine⟨h.some,_,_,_,h.IC,?_⟩;refine Xw W.IC.length 0 rfl (fun k=>k<=W.IC.length/\∀j:Int,0<=j->j<(k:Int)->zwg W j) ⟨Ic _,fun j h0 h1=>by omega⟩ fun k ⟨hk,hI⟩=>⟨fun IS=>?_,fun Ry=>?_⟩
  ·have IS:=Ot IS;have k0:(0:Int)<=(k:Int):=Qo
   have nxt:zwg W (k:Int)->∀j:Int,0<=j->j<((k+1:Nat):Int)->zwg W j:=fun hq j h0 h1=>by
    by_cases eH:j<(k:Int)
    ·exact hI j h0 eH
    ·have:j=(k:Int):=Qo;subst this; exact hq
   refine⟨h.rd.g.ix k0 IS,_,_,_,_,_,_,_,_,_,_,_,_,_,_,_,_,_,_,_,_,h.rd.g.cells k k0 IS,fun _ _=>⟨fun g=>?_,fun g=>?_⟩⟩
   ·have hu:(gi W.IC (k:Int)).used=false:=by simpa using g
    refine⟨_,Bs (g:=gi W.IC (k:Int)) (m:=m.ms (k:Int).toNat) hu,fun g2=>Lt fun pp=>?_,fun g2=>⟨⟨Qo,Qo⟩,QB Qo ⟨Qo,nxt ⟨fun _=>Ql.1 (by simpa using g2),fun hu'=>by rw[hu'] at hu; cases hu⟩⟩⟩⟩;have g2:JH (zsv (gi W.IC (k:Int)))=false:=by simpa using g2
    exact LX.1 g2 ((EK.1 (pp (k:Int) k0 Qo)).1.1 hu)
   ·have hu:(gi W.IC (k:Int)).used=true:=by simpa using g
    have bad:¬z0x W (gi W.IC (k:Int))->¬∀k:Int,0<=k->k<8->MK W k:=fun hn pp=>hn ((EK.1 (pp (k:Int) k0 Qo)).1.2 hu)
    refine⟨_,P6,_,fun _=>L6,fun g2 b1 dI=>⟨ZI (gi W.IC (k:Int)).sum,fun _ wx hxw hcx=>z19 hcx,fun _=>h.some,_,_,_,fun _=>h.ID,_,fun _=>zbd h hs.n1 hs.n2 k0 IS (hf _ k0 IS),fun g3=>Lt (bad fun q=>?_),fun g3=>⟨⟨Qo,Qo⟩,QB Qo ⟨Qo,nxt ⟨fun hu'=>(by rw[hu'] at hu; cases hu),fun _=>?_⟩⟩⟩⟩,fun g2=>⟨fun e=>(by cases e),none,0,0,fun e=>(by cases e),false,fun e=>(by simp at e),fun g3=>Lt (bad fun q=>g2 ?_),fun g3=>(by simp at g3)⟩⟩
    ·have e1:YK (gi W.IC (k:Int)).weight 1 20=true:=Qu.2 ⟨q.w1,q.w2⟩;have e2:((gi W.IC (k:Int)).ID != 0)=true:=by simpa using q.m0
     have e5:(((gi W.IC (k:Int)).IE.length:Nat):Int)=((W.ID.length:Nat):Int):=by have:=q.len; omega
     rw[e1,e2,q.m,q.s,e5,Ql.2 q.q] at g3;simp at g3
    ·simp only[H',I6,bne_eq_false_iff_eq,Qu,A',It,Ql] at g3;obtain⟨⟨⟨⟨a1,a2⟩,a3⟩,a4⟩,a5⟩:=g3;exact⟨a1.1,a1.2,a2.2,a2.1,a3,Qo,a5⟩
    ·have e1:YK (gi W.IC (k:Int)).weight 1 20=true:=Qu.2 ⟨q.w1,q.w2⟩;have e2:((gi W.IC (k:Int)).ID != 0)=true:=by simpa using q.m0
     rw[e1,e2,q.m]; rfl
  ·have Ry:=Ou Ry;have h0:(0:Int)<(W.IC.length:Int):=Qo;refine⟨h.some,_,_,_,h.IC,h.rd.g.ix Qd h0,_,_,_,_,_,_,_,_,_,_,_,_,_,_,_,_,_,_,_,_,h.rd.g.cells 0 Qd h0,fun _ _=>Pe ?_⟩;simp only[A',Is];constructor
   ·rintro⟨⟨e1,e2⟩,e3⟩ j j0 j1;exact EK.2 ⟨hI j j0 Qo,fun _ hj=>by subst hj; exact⟨e1,e2,e3⟩⟩
   ·intro pp;have r:=(EK.1 (pp 0 Qd Qd)).2 hs.tree.ru rfl;exact⟨⟨r.1,r.2.1⟩,r.2.2⟩
theorem zwa.wa(hs:zwa W)(hg:∀k:Int,0<=k->k<8->MK W k):WA W:=⟨hs.n1,hs.n2,hs.c1,hs.c2,hs.t,hs.tree,hs.sZ,hg⟩
theorem zux{n:Int}:YK n (-10) 9=true↔Qf n≠0:=by
 unfold Qf
 cases h:YK n (-10) 9 with
 | true=>
  have:=Qu.1 h;simp; omega
 | false=>simp
def CG(W:Q8)(t:Int):Prop:=Nx W t/\((Q7 W t).state=1->ZI (Qc W (Q7 W t).group (Q7 W t).IZ).floor=true)
theorem zbh(h:Mk bs w p W m)(ha:WA W)(lg:W.IC.length<=maxLen):PX bs Xq #[.pointer p] w (.bool (JH (∀t:Int,0<=t->t<12->CG W t))):=
 GB p fun wr hx=>by
  have h:=(h.ext hx).less (cs:=[]) Qs;have bM:=ha.gl;have iX:=ha.t;refine⟨h.some,_,_,_,h.tasks,?_⟩;refine Xw W.tasks.length 0 rfl (fun k=>k<=W.tasks.length/\∀j:Int,0<=j->j<(k:Int)->CG W j) ⟨Ic _,fun j h0 h1=>by omega⟩ fun k ⟨hk,hI⟩=>⟨fun IS=>?_,fun Ry=>?_⟩
  ·have IS:=Ot IS;have k0:(0:Int)<=(k:Int):=Qo
   have nxt:CG W (k:Int)->Qq .i64 ((k:Int)+1)/\zqz (fun k=>k<=W.tasks.length/\∀j:Int,0<=j->j<(k:Int)->CG W j) [I ((k:Int)+1)]/\Xc W.tasks.length 0 [I ((k:Int)+1)]<Xc W.tasks.length 0 [I (k:Int)]:=fun hq=>⟨⟨Qo,Qo⟩,QB Qo ⟨Qo,fun j h0 h1=>by
    by_cases eH:j<(k:Int)
    ·exact hI j h0 eH
    ·have:j=(k:Int):=Qo;subst this; exact hq⟩⟩
   have bad:¬CG W (k:Int)->¬∀t:Int,0<=t->t<12->CG W t:=fun hn pp=>hn (pp (k:Int) k0 Qo)
   refine⟨h.rd.t.ix QG k0 IS,_,_,_,_,_,_,_,_,_,h.rd.t k k0 IS,fun _ _=>⟨_,fun wq=>zcw Bk (zio (gi W.tasks (k:Int)) TI) _ _ wq,fun g=>?_,fun g=>?_⟩⟩
   ·rw[CC,Ij] at g;have hz:Q7 W (k:Int)=TI:=g;exact nxt ⟨.inl ⟨by rw[hz]; rfl,hz⟩,fun e=>by rw[hz] at e; cases e⟩
   ·rw[CC,decide_eq_false_iff_not] at g;have hz:¬Q7 W (k:Int)=TI:=g
    have get:CG W (k:Int)->zwi W (gi W.tasks (k:Int)):=fun q=>by
     rcases q.1 with ⟨_,e⟩ | ⟨_,q⟩
     ·exact Ir e hz
     ·exact q
    refine⟨fun _=>h.some,_,_,_,fun _=>h.IC,_,fun _=>Kd (c:=m.gC) h.rd.g lg,_,fun _=>HO,_,fun _=>L6,fun g2=>Lt (bad fun q=>?_),fun g2 b1 dI=>?_⟩
    ·have q:=get q;have e3:YK (gi W.tasks (k:Int)).nice (-10) 9=true:=zux.2 q.n;have e4:((gi W.tasks (k:Int)).mask != 0)=true:=by simpa using q.m0
     rw[q.g,e3,q.m,e4] at g2;simp only[Bool.not_true,Bool.or_false,Bool.and_true,A',It] at g2;have:=q.st;omega
    ·simp only[H',I6,A',It] at g2;obtain⟨⟨⟨a1,a2⟩,a3⟩,a4⟩:=g2
     have st:(gi W.tasks (k:Int)).state=1\/(gi W.tasks (k:Int)).state=2:=by
      by_cases h1:(gi W.tasks (k:Int)).state=1
      ·exact .inl h1
      ·refine .inr ?_;have:((gi W.tasks (k:Int)).state != 1)=true:=by simpa using h1
       rw[this,Bool.true_and] at a1
       simpa using a1
     refine⟨_,fun wx hxw hcx=>z2i hcx,_,fun _=>ze0,_,fun _=>Gh h ha.c2 ha.tree k0 IS a2,_,fun _=>Gf,fun g3=>Lt (bad fun q=>?_),fun g3=>?_⟩
     ·have q:=get q;have e4:YK (gi W.tasks (k:Int)).load 0 8000000=true:=Qu.2 ⟨q.l1,q.l2⟩;have e5:QX (Qw W (Q7 W (k:Int)).group (Q7 W (k:Int)).mask) (gi W.tasks (k:Int)).IZ=true:=q.c;rw[q.v,q.s,q.u,e4,e5] at g3;cases g3
     ·simp only[H',I6,Qu,A'] at g3;obtain⟨⟨b1',b2⟩,b3⟩:=g3;obtain⟨u1,u2,_⟩:=Q4.1 a2;obtain⟨c0,c1⟩:=LW ha b3;have hsl:=ha.sl a2;have c2:(gi W.tasks (k:Int)).IZ<((gi W.IC (gi W.tasks (k:Int)).group).IE.length:Int):=Qo;have sh:=h.sh (g:=(gi W.tasks (k:Int)).group) u1 u2 c0 c2
      have mk:(((Q7 W (k:Int)).state=1->ZI (Qc W (Q7 W (k:Int)).group (Q7 W (k:Int)).IZ).floor=true/\K4 (gi W.tasks (k:Int)).v (Qc W (gi W.tasks (k:Int)).group (gi W.tasks (k:Int)).IZ).floor (Qf (gi W.tasks (k:Int)).nice)=true))->CG W (k:Int):=fun hf=>⟨.inr ⟨fun e=>by
        have e:(gi W.tasks (k:Int)).state=0:=e;omega,⟨st,a2,zux.1 a3,a4.2,a4.1,b1'.1,b1'.2.1,b1'.2.2,b2.1,b2.2,b3,fun e=>(hf e).2⟩⟩,fun e=>(hf e).1⟩
      refine⟨_,_,XI,_,Zp h u1 u2 c0 c2,sh.1,_,sh.2 (j:=0) rfl,fun _ b2 bT=>⟨ZI (Qc W (gi W.tasks (k:Int)).group (gi W.tasks (k:Int)).IZ).floor,fun _ wx hxw hcx=>z19 hcx,_,fun _ _=>P5,_,fun g4 _=>Gi b1'.1 (by simpa using g4),fun g4=>Lt (bad fun q=>?_),fun g4=>nxt (mk fun e=>?_)⟩,fun g4=>⟨fun e=>(by cases e),fun _=>nxt (mk fun e=>Ir (Is.2 e) g4)⟩⟩
      ·simp only[A',Is,Iu,IB] at g4;have e1:=(get q).f g4.1;have e2:=q.2 g4.1;rcases g4.2 with g5 | g5
       ·have e2:ZI (Qc W (gi W.tasks (k:Int)).group (gi W.tasks (k:Int)).IZ).floor=true:=e2;rw[e2] at g5; cases g5
       ·rw[e1] at g5; cases g5
      ·have e':((gi W.tasks (k:Int)).state==1)=true:=Is.2 e;rw[e',Bool.true_and] at g4;simp only[H',I6] at g4;exact g4
  ·have Ry:=Ou Ry;exact zmf fun t h0 h1=>hI t h0 Qo
theorem Bt(h:Mk bs w p W m)(ha:WA W)(hf:∀i:Int,0<=i->i<(W.IC.length:Int)->zmi (gi W.IC i)):PX bs YU #[.pointer p] w (.bool (JH (∀k c:Int,0<=k->k<8->0<=c->c<((gi W.IC k).IE.length:Int)->ML W k c))):=
 KO p fun wr hx=>by
  have h:=(h.ext hx).less (cs:=[]) Qs;have bM:=ha.gl;have rJ:=ha.c2
  let TS:=fun (k c:Int)=>ZI (Qc W k c).floor=true/\ZI (Qc W k c).v=true/\ZI (Qc W k c).sum=true/\1<=(Qc W k c).w/\(Qc W k c).w<=20
  have ts:(∀k c:Int,0<=k->k<8->0<=c->c<((gi W.IC k).IE.length:Int)->ML W k c)->∀k c:Int,0<=k->k<8->0<=c->c<((gi W.IC k).IE.length:Int)->TS k c:=fun q k c h0 h1 h2 h3=>by
   have r:=q k c h0 h1 h2 h3;exact⟨r.f,r.v,r.s,r.w1,r.w2⟩
  refine⟨h.some,_,_,_,h.IC,?_⟩;refine Xw W.IC.length 0 rfl (fun k=>k<=W.IC.length/\∀j c:Int,0<=j->j<(k:Int)->0<=c->c<((gi W.IC j).IE.length:Int)->TS j c) ⟨Ic _,fun j c h0 h1=>by omega⟩ fun k ⟨hk,hI⟩=>⟨fun IS=>?_,fun Ry=>?_⟩
  ·have IS:=Ot IS;have k0:(0:Int)<=(k:Int):=Qo;have hsm:(gi W.IC (k:Int)).IE.length<=maxLen:=(hf _ k0 IS).sh;refine⟨h.rd.g.ix k0 IS,_,_,_,_,_,_,_,_,_,_,_,_,_,_,_,_,_,_,_,_,h.rd.g.cells k k0 IS,fun _ _=>?_⟩;refine Xw (gi W.IC (k:Int)).IE.length 0 rfl (fun c=>c<=(gi W.IC (k:Int)).IE.length/\∀d:Int,0<=d->d<(c:Int)->TS (k:Int) d) ⟨Ic _,fun j h0 h1=>by omega⟩ fun c ⟨hc,hJ⟩=>⟨fun jG=>?_,fun AM0=>?_⟩
   ·have jG:=Ot jG;have c0:(0:Int)<=(c:Int):=Qo;have rs:=h.rd.g.IE (k:Int) k0 IS;refine⟨rs.ix YW c0 jG,_,_,_,_,_,rs c c0 jG,fun _ _ b2 bT=>⟨_,fun wx hxw hcx=>z2i hcx,_,fun _=>P6,fun g=>Lt fun q=>?_,fun g=>⟨ziw jG hsm,QB Qo ⟨Qo,fun d h0 h1=>?_⟩⟩⟩⟩
    ·have r:=ts q (k:Int) (c:Int) k0 Qo c0 jG;have e4:YK (Qc W (k:Int) (c:Int)).w 1 20=true:=Qu.2 ⟨r.2.2.2.1,r.2.2.2.2⟩;have g':((!(ZI (Qc W (k:Int) (c:Int)).floor&&(ZI (Qc W (k:Int) (c:Int)).v&&ZI (Qc W (k:Int) (c:Int)).sum))) || !YK (Qc W (k:Int) (c:Int)).w 1 20)=true:=g;rw[r.1,r.2.1,r.2.2.1,e4] at g'
     cases g'
    ·by_cases eH:d<(c:Int)
     ·exact hJ d h0 eH
     ·have:d=(c:Int):=Qo;subst this;have g':((!(ZI (Qc W (k:Int) (c:Int)).floor&&(ZI (Qc W (k:Int) (c:Int)).v&&ZI (Qc W (k:Int) (c:Int)).sum))) || !YK (Qc W (k:Int) (c:Int)).w 1 20)=false:=g;simp only[H',I6,A',Qu] at g';exact⟨g'.1.1,g'.1.2.1,g'.1.2.2,g'.2.1,g'.2.2⟩
   ·have AM0:=Ou AM0;refine⟨⟨Qo,Qo⟩,QB Qo ⟨Qo,fun j d h0 h1 h2 h3=>?_⟩⟩
    by_cases eH:j<(k:Int)
    ·exact hI j d h0 eH h2 h3
    ·have:j=(k:Int):=Qo;subst this;exact hJ d h2 Qo
  have Ry:=Ou Ry;have hT:∀j c:Int,0<=j->j<8->0<=c->c<((gi W.IC j).IE.length:Int)->TS j c:=fun j c h0 h1=>hI j c h0 Qo
  refine⟨h.some,_,_,_,h.ID,?_⟩;refine Xw W.ID.length 0 rfl (fun c=>c<=W.ID.length/\∀d k:Int,0<=d->d<(c:Int)->0<=k->k<8->d<((gi W.IC k).IE.length:Int)->ML W k d) ⟨Ic _,fun j k h0 h1=>by omega⟩ fun c ⟨hc,hJ⟩=>⟨fun jG=>?_,fun AM0=>?_⟩
  ·have jG:=Ot jG;have c0:(0:Int)<=(c:Int):=Qo;obtain⟨r1,r2,_⟩:=Q4.1 ha.root;have hrc:(c:Int)<((gi W.IC 0).IE.length:Int):=by rw[ha.sl ha.root]; exact jG
   have sh:=h.sh (g:=0) r1 r2 c0 hrc;have tr:=hT 0 (c:Int) Qd Qd c0 hrc;refine⟨_,_,XI,fun _ _=>⟨_,Zp h r1 r2 c0 hrc,sh.1,(Qc W 0 (c:Int)).on,sh.2 (j:=1) rfl,fun _=>sh.1,(Qc W 0 (c:Int)).v,fun _=>sh.2 (j:=2) rfl,fun _=>sh.1,(Qc W 0 (c:Int)).w,fun _=>sh.2 (j:=3) rfl,fun g=>Lt fun q=>?_,fun g=>?_⟩⟩
   ·have r:=(q 0 (c:Int) Qd Qd c0 hrc).root rfl;rw[r.1,r.2.1,r.2.2] at g;simp at g
   simp only[H',bne_eq_false_iff_eq] at g;have root:ML W 0 (c:Int):=⟨tr.1,tr.2.1,tr.2.2.1,tr.2.2.2.1,tr.2.2.2.2,fun _=>⟨g.1.1,g.1.2,g.2⟩,fun dE=>Ir rfl dE,fun dE=>Ir rfl dE⟩
   refine Xw 8 1 rfl (fun k=>1<=k/\k<=8/\∀j:Int,0<=j->j<(k:Int)->(c:Int)<((gi W.IC j).IE.length:Int)->ML W j (c:Int)) ⟨I7 _,Qo,fun j h0 h1 _=>by
    have:j=0:=Qo;subst this; exact root⟩ fun k ⟨hk1,hk,hK⟩=>⟨fun IS=>?_,fun aP=>?_⟩
   ·have IS:=Ot IS;have k0:(0:Int)<=(k:Int):=Qo;have kl:(k:Int)<(W.IC.length:Int):=Qo
    have nxt:((c:Int)<((gi W.IC (k:Int)).IE.length:Int)->ML W (k:Int) (c:Int))->Qq .i64 ((k:Int)+1)/\zqz (fun k=>1<=k/\k<=8/\∀j:Int,0<=j->j<(k:Int)->(c:Int)<((gi W.IC j).IE.length:Int)->ML W j (c:Int)) [I ((k:Int)+1)]/\Xc 8 0 [I ((k:Int)+1)]<Xc 8 0 [I (k:Int)]:=fun hq=>⟨⟨Qo,Qo⟩,QB Qo ⟨Qo,Qo,fun j h0 h1 h2=>by
     by_cases eH:j<(k:Int)
     ·exact hK j h0 eH h2
     ·have:j=(k:Int):=Qo;subst this; exact hq h2⟩⟩
    refine⟨h.some,_,_,_,h.IC,h.rd.g.ix k0 kl,_,h.rd.g.used k0 kl,fun g2=>nxt fun hh=>?_,fun g2=>?_⟩
    ·have hu:(gi W.IC (k:Int)).used=false:=by simpa using g2
     have:=((ha.grp (k:Int) k0 Qo).1 hu).l;omega
    ·have hus:(gi W.IC (k:Int)).used=true:=by simpa using g2
     have hu:Q6 W.IC (k:Int)=true:=Q4.2 ⟨k0,kl,hus⟩;have hkc:(c:Int)<((gi W.IC (k:Int)).IE.length:Int):=by rw[ha.sl hu]; exact jG
     have hp:=ha.up hu Qo;obtain⟨v1,v2,_⟩:=Q4.1 hp;have mZ:(c:Int)<((gi W.IC (gi W.IC (k:Int)).parent).IE.length:Int):=by rw[ha.sl hp]; exact jG
     have sk:=h.sh (g:=(k:Int)) k0 kl c0 hkc;have sp:=h.sh (g:=(gi W.IC (k:Int)).parent) v1 v2 c0 mZ;have tk:=hT (k:Int) (c:Int) k0 Qo c0 hkc;have tp:=hT (gi W.IC (k:Int)).parent (c:Int) v1 Qo c0 mZ;refine⟨_,Zp h k0 kl c0 hkc,sk.1,(Qc W (k:Int) (c:Int)).on,sk.2 (j:=1) rfl,_,MX h ha c0 jG,_,fun _=>zba h ha hu c0 jG,fun _=>sk.1,(Qc W (k:Int) (c:Int)).on,fun _=>sk.2 (j:=1) rfl,fun _ _=>sk.1,(Qc W (k:Int) (c:Int)).v,fun _ _=>sk.2 (j:=2) rfl,fun _ _=>h.some,_,_,_,fun _ _=>h.IC,fun _ _=>h.rd.g.ix k0 kl,_,fun _ _=>h.rd.g.parent k0 kl,_,fun _ _=>Zp h v1 v2 c0 mZ,fun _ _=>sp.1,(Qc W (gi W.IC (k:Int)).parent (c:Int)).floor,fun _ _=>sp.2 (j:=0) rfl,fun _ _=>sk.1,(Qc W (k:Int) (c:Int)).w,fun _ _=>sk.2 (j:=3) rfl,_,fun _ _=>Gi tk.2.1 tp.1,fun g3=>Lt fun q=>?_,fun g3=>nxt fun _=>?_⟩
     ·have r:=q (k:Int) (c:Int) k0 Qo c0 hkc;have r1:=r.on Qo;simp only[Iu,A',IB,beq_eq_false_iff_ne] at g3;rcases g3 with g3 | g3
      ·exact g3 r1
      ·have:=r.st Qo g3.1;rw[this] at g3
       cases g3.2
     ·simp only[H',I6,Is] at g3;refine⟨tk.1,tk.2.1,tk.2.2.1,tk.2.2.2.1,tk.2.2.2.2,fun e=>by omega,fun _=>g3.1,fun _ ho=>?_⟩;have:=g3.2;rw[ho,Bool.true_and] at this
      simpa using this
   ·have aP:=Ou aP;refine⟨⟨Qo,Qo⟩,QB Qo ⟨Qo,fun d k' h0 h1 h2 h3 h4=>?_⟩⟩
    by_cases hdc:d<(c:Int)
    ·exact hJ d k' h0 hdc h2 h3 h4
    ·have:d=(c:Int):=Qo;subst this;exact hK k' h2 Qo h4
  ·have AM0:=Ou AM0;refine zmf fun k d h0 h1 h2 h3=>hJ d k h2 ?_ h0 h1 h3
   have hus:(gi W.IC k).used=true:=by
    cases hu:(gi W.IC k).used with
    | true=>rfl
    | false=>
     have:=((ha.grp k h0 h1).1 hu).l;omega
   have:=ha.sl (Q4.2 ⟨h0,Qo,hus⟩);omega
theorem zey(h:Mk bs w p W m)(ha:WA W)(hts:∀t:Int,0<=t->t<12->Nx W t)(yL:∀k c:Int,0<=k->k<8->0<=c->c<((gi W.IC k).IE.length:Int)->ML W k c):PX bs XD #[.pointer p] w (.bool (JH (∀c:Int,0<=c->c<(W.ID.length:Int)->FI W c))):=
 HB p fun wr hx=>by
  have h:=(h.ext hx).less (cs:=[]) Qs;have bM:=ha.gl;have iX:=ha.t;have rJ:=ha.c2;have hm9:=ZH;refine⟨h.some,_,_,_,h.ID,?_⟩;refine Xw W.ID.length 0 rfl (fun c=>c<=W.ID.length/\∀j:Int,0<=j->j<(c:Int)->FI W j) ⟨Ic _,fun j h0 h1=>by omega⟩ fun c ⟨hc,hI⟩=>⟨fun IS=>?_,fun Ry=>?_⟩
  ·have IS:=Ot IS;have c0:(0:Int)<=(c:Int):=Qo
   have nxt:FI W (c:Int)->Qq .i64 ((c:Int)+1)/\zqz (fun c=>c<=W.ID.length/\∀j:Int,0<=j->j<(c:Int)->FI W j) [I ((c:Int)+1)]/\Xc W.ID.length 0 [I ((c:Int)+1)]<Xc W.ID.length 0 [I (c:Int)]:=fun hq=>⟨⟨Qo,Qo⟩,QB Qo ⟨Qo,fun j h0 h1=>by
    by_cases eH:j<(c:Int)
    ·exact hI j h0 eH
    ·have:j=(c:Int):=Qo;subst this; exact hq⟩⟩
   have bad:¬FI W (c:Int)->¬∀c:Int,0<=c->c<(W.ID.length:Int)->FI W c:=fun hn pp=>hn (pp (c:Int) c0 IS)
   refine⟨h.rd.c.ix ZP c0 IS,_,_,_,_,_,h.rd.c c c0 IS,fun _ _ b1 dI=>⟨_,fun wx hxw hcx=>z2u hcx,fun g=>Lt (bad fun q=>?_),fun g=>⟨fun g2=>nxt ?_,fun g2=>?_⟩⟩⟩
   ·rw[q.b,q.i] at g; cases g
   ·simp only[I6,A'] at g;simp only[A',Is] at g2;exact⟨g.1,g.2,Qo,Qo,fun _=>g2.2,fun hh=>by omega⟩
   ·simp only[I6,A'] at g
    have ne:FI W (c:Int)->0<=(gi W.ID (c:Int)).cur:=fun q=>by
     rcases Int.lt_or_le (gi W.ID (c:Int)).cur 0 with Ci8 | Bb1
     ·have e1:=q.c1;have e2:=q.no Ci8;have e3:(gi W.ID (c:Int)).cur = -1:=Qo;rw[e3,e2] at g2;simp at g2
     ·exact Bb1
    have there:(YK (gi W.ID (c:Int)).cur 0 ((W.tasks.length:Int)-1)&&((Q7 W (gi W.ID (c:Int)).cur).state != 0))=true->0<=(gi W.ID (c:Int)).cur/\(gi W.ID (c:Int)).cur<(W.tasks.length:Int):=fun q=>by
     simp only[A'] at q;have:=Qu.1 q.1;omega
    have lu:0<=(gi W.ID (c:Int)).cur/\(gi W.ID (c:Int)).cur<(W.tasks.length:Int)->(Q7 W (gi W.ID (c:Int)).cur).state=1->Q6 W.IC (Q7 W (gi W.ID (c:Int)).cur).group=true:=fun q hs=>(F2 ha (hts _ q.1 Qo) hs).1
    refine⟨_,_,XI,fun _ _=>⟨_,fun _=>Bu h Qo,((Q7 W (gi W.ID (c:Int)).cur).IZ==(c:Int))&&ZA W (gi W.ID (c:Int)).cur,fun q=>?_,_,fun _=>QK,fun g3=>Lt (bad fun q=>?_),fun g3=>?_⟩⟩
    ·simp only[H',I6] at q;have:=there q.2;exact HN h ha this.1 this.2 c0 IS (lu this)
    ·have t0:=ne q;have t1:=q.c2;have y:=q.yes t0;have e2:YK (gi W.ID (c:Int)).cur 0 ((W.tasks.length:Int)-1)=true:=Qu.2 Qo;have kW:(Q7 W (gi W.ID (c:Int)).cur).state=1:=(zi4 (hts _ t0 Qo) y.2.2.2.2.1).2;have e4:YK (gi W.ID (c:Int)).WH 1 149=true:=Qu.2 ⟨y.2.1,y.2.2.1⟩;rw[y.1,e2,kW,y.2.2.2.1,y.2.2.2.2.1,e4] at g3;simp at g3
    ·simp only[H',I6] at g3;obtain⟨⟨⟨a1,a2⟩,a3⟩,a4⟩:=g3;obtain⟨t0,t1⟩:=there a2;have a4:=Qu.1 a4;simp only[A',Is] at a3;obtain⟨Bm1,lK⟩:=a3;obtain⟨q,_⟩:=zi4 (hts _ t0 Qo) lK;have au:=q.g;obtain⟨u1,u2,_⟩:=Q4.1 au
     have sl:∀{x:Int},Q6 W.IC x=true->0<=x/\x<(W.IC.length:Int)/\(c:Int)<((gi W.IC x).IE.length:Int)/\ML W x (c:Int):=fun {x} hx=>by
      obtain⟨v1,v2,_⟩:=Q4.1 hx;have c3:(c:Int)<((gi W.IC x).IE.length:Int):=by rw[ha.sl hx]; exact IS
      exact⟨v1,v2,c3,yL x (c:Int) v1 Qo c0 c3⟩
     obtain⟨_,_,c2,sp⟩:=sl au;have sh:=h.sh (g:=(Q7 W (gi W.ID (c:Int)).cur).group) u1 u2 c0 c2;have mk:Mc W (c:Int)=true->FI W (c:Int):=fun kW=>⟨g.1,g.2,Qo,t1,fun hh=>by omega,fun _=>⟨a1,a4.1,a4.2,Bm1,lK,kW⟩⟩
     refine⟨h.some,_,_,_,h.tasks,h.rd.t.ix QG t0 t1,_,_,_,_,_,_,_,_,_,h.rd.t _ t0 t1,fun _ _=>⟨h.rd.t _ t0 t1,rfl,h.tasks,_,Zp h u1 u2 c0 c2,sh.1,_,sh.2 (j:=0) rfl,Bo q.v sp.f,_,P5,_,Vy,fun g4=>Lt (bad fun qq=>?_),fun g4=>?_⟩⟩
     ·have g4:=Ot g4;have hd:¬((Q7 W (gi W.ID (c:Int)).cur).v-(Qc W (Q7 W (gi W.ID (c:Int)).cur).group (c:Int)).floor<=Za (gi W.ID (c:Int)).WH (Qf (Q7 W (gi W.ID (c:Int)).cur).nice)):=Int.not_le.2 g4;have:=(qq.yes t0).2.2.2.2.2;unfold Mc at this;rw[decide_eq_false hd] at this;cases this
     ·have g4:=Ou g4;have hd:(Q7 W (gi W.ID (c:Int)).cur).v-(Qc W (Q7 W (gi W.ID (c:Int)).cur).group (c:Int)).floor<=Za (gi W.ID (c:Int)).WH (Qf (Q7 W (gi W.ID (c:Int)).cur).nice):=Int.not_lt.1 g4
      have hS:Mc W (c:Int)=TH W (Q7 W (gi W.ID (c:Int)).cur).group (c:Int) (gi W.ID (c:Int)).WH:=by
       unfold Mc;rw[Ih hd,Bool.true_and]
      refine⟨fun vs=>∃x:Int,vs=[I x]/\Q6 W.IC x=true/\TH W x (c:Int) (gi W.ID (c:Int)).WH=TH W (Q7 W (gi W.ID (c:Int)).cur).group (c:Int) (gi W.ID (c:Int)).WH,fun vs=>(dep 3 W.IC (ZR 0 vs)).toNat,⟨_,rfl,au,rfl⟩,?_⟩;rintro x ⟨x',he,hux,hJ⟩;simp only[I4,I5,true_and,and_true] at he;subst he;refine⟨fun hz=>?_,fun hz=>?_⟩
      ·have hz:x≠0:=by simpa using hz
       obtain⟨hp,a,b,d,e,e2,hd⟩:=Y6 ha.tree hux hz;obtain⟨x1,x2,x3,xs⟩:=sl hux;obtain⟨p1,p2,p3,ps⟩:=sl hp;have sx:=h.sh (g:=x) x1 x2 c0 x3;have spp:=h.sh (g:=(gi W.IC x).parent) p1 p2 c0 p3;unfold TH at hJ;rw[Yz ha.tree hux hz,List.all_cons] at hJ
       refine⟨_,Zp h x1 x2 c0 x3,sx.1,_,sx.2 (j:=2) rfl,h.some,_,_,_,h.IC,h.rd.g.ix x1 x2,_,h.rd.g.parent x1 x2,_,Zp h p1 p2 c0 p3,spp.1,_,spp.2 (j:=0) rfl,Bo xs.v ps.f,sx.1,_,sx.2 (j:=3) rfl,_,Vy,fun g5=>Lt (bad fun qq=>?_),fun g5=>⟨h.some,_,_,_,h.IC,h.rd.g.ix x1 x2,_,h.rd.g.parent x1 x2,⟨_,rfl,hp,?_⟩,by
        show (dep 3 W.IC (gi W.IC x).parent).toNat<(dep 3 W.IC x).toNat;omega⟩⟩
       ·have g5:=Ot g5;have hd:¬((Qc W x (c:Int)).v-(Qc W (gi W.IC x).parent (c:Int)).floor<=Za (gi W.ID (c:Int)).WH (Qc W x (c:Int)).w):=Int.not_le.2 g5;rw[decide_eq_false hd,Bool.false_and] at hJ;have:=(qq.yes t0).2.2.2.2.2;rw[hS] at this;unfold TH at this;rw[<-hJ] at this;cases this
       ·have g5:=Ou g5;have hd:(Qc W x (c:Int)).v-(Qc W (gi W.IC x).parent (c:Int)).floor<=Za (gi W.ID (c:Int)).WH (Qc W x (c:Int)).w:=Int.not_lt.1 g5;rw[Ih hd,Bool.true_and] at hJ;exact hJ
      ·have hz:x=0:=by simpa using hz
       subst hz;refine nxt (mk ?_);rw[hS,<-hJ];unfold TH;rw[show Z7 W.IC 0=[] from Zl _ _,List.all_nil]
  ·have Ry:=Ou Ry;exact zmf fun t h0 h1=>hI t h0 Qo
theorem zbg(h:Mk bs w p W m)(lc:W.ID.length<=maxLen)(lg:W.IC.length<=maxLen):PX bs Xp #[.pointer p] w (.bool (JH (zwa W))):=
 GA p fun wr hx=>by
  have h:=(h.ext hx).less (cs:=[]) Qs;refine⟨h.some,_,h.now,fun b hb=>⟨ZI W.now,fun wx hxw hcx=>z19 hcx,fun _=>h.some,_,_,_,fun _=>h.ID,_,fun _=>QK,Ju W.ID,fun g=>Oi h ?_,fun _=>h.some,_,_,_,fun _=>h.tasks,fun _=>h.some,_,_,_,fun _=>h.IC,MD W.IC,fun _=>zex h.rd.g lg,Pe ?_⟩⟩
  ·simp only[A',Qu] at g;omega
  ·simp only[A',Qu,Is,It,YZ,VK];constructor
   ·rintro⟨⟨⟨⟨e1,e2⟩,e3⟩,e4⟩,e5⟩;exact⟨e1.1,e1.2,Qo,Qo,Qo,e5,e3⟩
   ·intro q;have:=q.t;have:=q.c1;have:=q.c2;exact⟨⟨⟨⟨⟨q.n1,q.n2⟩,Qo⟩,q.sZ⟩,Qo⟩,q.tree⟩
theorem Gg(h:XQ bs w W m)(lc:W.ID.length<=maxLen)(lg:W.IC.length<=maxLen)(hf:∀i:Int,0<=i->i<(W.IC.length:Int)->zmi (gi W.IC i)) :
  PX bs V2 #[.agg (Qa W m).toArray] w (.bool (Qx W)):=by
 refine Fk fun wr0 rA=>zai _ _ _ _ _ _ _ _ _ _ (R:=fun v w'=>v=.bool (Qx W)/\Q0 [] wr0 w') ?_
 have h:=(h.ext rA).less (cs:=[]) Qs;intro b wb hxb hb Wr _ b1 dI
 have hP:∀{bs:List Nat} {w1:Wo},Q0 [] wb w1->(∀x∈bs,wb.heap.size<=x)->Mk bs w1 (some ⟨b,0,none⟩) W m:=fun {bs w1} hx hbs=>by
  have hbn:b∉bs:=fun hm=>by
   have:=hbs b hm;have:=JF Wr;omega
  have hrd:XQ bs w1 W m:=((h.ext hxb).wide (cs:=bs) fun x hm=>.inr (hbs x hm)).ext hx.of_nil;exact⟨PC (QM Wr hx Qs) hbn (k0:=0) fun j v hj=>by rw[Nat.zero_add,Nat.zero_add]; exact hj,hrd⟩
 let Cn:=fun (k:Nat)=>match k with
  | 0=>zwa W
  | 1=>∀k:Int,0<=k->k<8->MK W k
  | 2=>∀t:Int,0<=t->t<12->CG W t
  | 3=>∀k c:Int,0<=k->k<8->0<=c->c<((gi W.IC k).IE.length:Int)->ML W k c
  | _=>∀c:Int,0<=c->c<(W.ID.length:Int)->FI W c
 have all:XS W->∀k:Nat,k<5->Cn k:=fun q k hk=>by
  have:k=0\/k=1\/k=2\/k=3\/k=4:=Qo;rcases this with rfl | rfl | rfl | rfl | rfl
  ·exact⟨q.a.n1,q.a.n2,q.a.c1,q.a.c2,q.a.t,q.a.tree,q.a.sZ⟩
  ·exact q.a.grp
  ·refine fun t h0 h1=>⟨q.t t h0 h1,fun hs=>?_⟩
   have hu:=F2 q.a (q.t t h0 h1) hs;obtain⟨u1,u2,_⟩:=Q4.1 hu.1;have:=q.a.gl;exact(q.s _ _ u1 Qo hu.2.1 (by rw[q.a.sl hu.1]; exact hu.2.2)).f
  ·exact q.s
  ·exact q.c
 have back:(∀k:Nat,k<5->Cn k)->XS W:=fun q=>by
  have q0:zwa W:=q 0 Qd;have q1:∀k:Int,0<=k->k<8->MK W k:=q 1 Qd;have q2:∀t:Int,0<=t->t<12->CG W t:=q 2 Qd;exact⟨q0.wa q1,fun t h0 h1=>(q2 t h0 h1).1,q 3 Qd,q 4 Qd⟩
 have cond:∀k:Nat,k<5->(∀j:Nat,j<k->Cn j)->∀{w1:Wo},Q0 [] wb w1->∃F:FuncId,(#[.func (.func Xp) #[] #[],.func (.func X6) #[] #[],.func (.func Xq) #[] #[],.func (.func YU) #[] #[],.func (.func XD) #[] #[]]:Array Va)[k]? = some (.func (.func F) #[] #[])/\(∀(w:Wo) (x:Va),(zab (.func (.func F) #[] #[]) [x]).run Tryz.prog w=.ok (.enter F #[x]) w)/\∃rv:Bool,(rv=true↔Cn k)/\PX [b1] F #[.pointer (some ⟨b,0,none⟩)] w1 (.bool rv):=fun k hk hj {w1} hx=>by
  have hp:=hP (bs:=[b1]) hx (by simpa using dI);have:k=0\/k=1\/k=2\/k=3\/k=4:=Qo;rcases this with rfl | rfl | rfl | rfl | rfl
  ·exact⟨_,rfl,fun _ _=>rfl,_,Ql,zbg hp lc lg⟩
  ·have q0:zwa W:=hj 0 Qd;exact⟨_,rfl,fun _ _=>rfl,_,Ql,Ax hp q0 hf⟩
  ·have q0:zwa W:=hj 0 Qd;have q1:∀k:Int,0<=k->k<8->MK W k:=hj 1 Qd;exact⟨_,rfl,fun _ _=>rfl,_,Ql,zbh hp (q0.wa q1) lg⟩
  ·have q0:zwa W:=hj 0 Qd;have q1:∀k:Int,0<=k->k<8->MK W k:=hj 1 Qd;exact⟨_,rfl,fun _ _=>rfl,_,Ql,Bt hp (q0.wa q1) hf⟩
  ·have q0:zwa W:=hj 0 Qd;have q1:∀k:Int,0<=k->k<8->MK W k:=hj 1 Qd;have q2:∀t:Int,0<=t->t<12->CG W t:=hj 2 Qd;have q3:∀k c:Int,0<=k->k<8->0<=c->c<((gi W.IC k).IE.length:Int)->ML W k c:=hj 3 Qd;exact⟨_,rfl,fun _ _=>rfl,_,Ql,zey hp (q0.wa q1) (fun t h0 h1=>(q2 t h0 h1).1) q3⟩
 refine⟨fun vs w1=>∃k:Nat,vs=[.bool true,I (k:Int)]/\k<=5/\Q0 [] wb w1/\∀j:Nat,j<k->Cn j,Zq 5 1,fun wr hx _=>⟨0,rfl,Qo,hx,fun j hj=>Ir hj (Nat.not_lt_zero j)⟩,?_⟩;rintro ok x w1 cX ⟨k,he,hk,hX,hI⟩;simp only[I4,I5,Value.bool.injEq,true_and,and_true] at he;obtain⟨rfl,rfl⟩:=he
 have fr:∀{w2:Wo},Q0 [b1] w1 w2->Q0 [] wb w2:=fun {w2} hx=>hX.fresh hx fun y hm=>.inl (by
  have:y=b1:=by simpa using hm
  omega)
 refine⟨fun IS=>?_,fun Ry wr hx=>⟨?_,hxb.trans (fr hx)⟩⟩
 ·have IS:=Ot IS;obtain⟨F,hF,_⟩:=cond k Qo hI hX;refine⟨.func F,#[],#[],⟨Qo,Qo,by rw[Ig]; exact hF⟩,fun I' S9 SS=>?_⟩;obtain⟨F',hF',hcv,rv,hrv,hpu⟩:=cond k Qo hI (fr S9);rw[hF] at hF';simp only[I0,Value.func.injEq,Fn.func.injEq,and_self,and_true] at hF';subst hF';refine .inl ⟨F,#[.pointer (some ⟨b,0,none⟩)],?_,?_⟩
  ·exact hcv _ _
  ·refine(hpu I' (Q0.refl _ _)).mono fun e w3 ⟨he,R4⟩=>⟨rv,he,Qe R4 SS,fun g J' SD=>⟨?_,hxb.trans ((fr S9).trans R4 |>.fresh SD fun y hm=>.inl (by
    have:y=b1:=by simpa using hm
    omega))⟩,fun g=>⟨⟨Qo,Qo⟩,fun Rp SD _=>⟨⟨k+1,Qs,Qo,((fr S9).trans R4).fresh SD fun y hm=>.inl (by
    have:y=b1:=by simpa using hm
    omega),fun j hj=>?_⟩,Zi (k:=k) rfl rfl Qo⟩⟩⟩
   ·have g:rv=false:=by simpa using g
    exact Lt fun q=>by
     rw[hrv.2 (all q k Qo)] at g; cases g
   ·by_cases eH:j<k
    ·exact hI j eH
    ·have:j=k:=Qo;subst this;exact hrv.1 (by simpa using g)
 ·have Ry:=Ou Ry;have:k=5:=Qo;subst this;exact zmf (back hI)
end
theorem H1:zom Tryz.prog Hy 5 Zt 40 (⟨false,0,0,0,0⟩:Mj):=Dp Qk fun _=>rfl
theorem K5:Tryz.prog.underlying Zm=some (.slice Zt):=Qk
theorem PF:zom Tryz.prog Xv 9 QD 72 (⟨0,0,0,0,0,0,0,0,0⟩:MM):=Dp Qk fun _=>rfl
theorem Mf:Tryz.prog.underlying QZ=some (.slice QD):=Qk
section
variable {W:Q8}{m:MW}{w w':Wo}
structure zy7 (base:Nat) (w:Wo) (W:Q8) (m:MW):Prop where
 c:Uz Hy 5 Zt base w m.cO m.cC W.ID
 t:Uz Xv 9 QD base w m.tO m.tC W.tasks
 g:∃ps:List (ZO×MG),ps.map (·.1)=W.IC/\(fun k:Nat=>(gi ps (k:Int)).2)=m.ms/\KC base w m.gO m.gC ps
theorem zy7.mono{base WW:Nat}(h:zy7 base w W m)(hb:WW<=base):zy7 WW w W m:=
 ⟨h.c.mono hb,h.t.mono hb,by
  obtain⟨ps,h1,h2,h3⟩:=h.g;exact⟨ps,h1,h2,h3.mono hb⟩⟩
end
theorem Cp{x bt n:Nat}(hm:x∈[bt])(h:n<=bt):n<=x:=by
 have:x=bt:=by simpa using hm
 omega
structure Sc (w0:Wo) (bs:List Nat) (w:Wo):Prop where
 ext:Q0 [] w0 w
 new:∀x∈bs,w0.heap.size<=x
theorem Sc.start(w:Wo):Sc w [] w:=⟨Q0.refl _ _,Qs⟩
theorem Sc.step{w0:Wo}{bs:List Nat}{w w':Wo}(h:Sc w0 bs w)(hx:Q0 bs w w'):Sc w0 bs w':=⟨h.ext.fresh hx fun x hm=>.inl (h.new x hm),h.new⟩
theorem Sc.call{w0:Wo}{bs cs:List Nat}{w w':Wo}(h:Sc w0 bs w)(hx:Q0 cs w w')(hc:∀x∈cs,w0.heap.size<=x):Sc w0 bs w':=⟨h.ext.fresh hx fun x hm=>.inl (hc x hm),h.new⟩
theorem Sc.M'{w0:Wo}{bs:List Nat}{w w':Wo}(h:Sc w0 bs w)(hx:Q0 [] w w'):Sc w0 bs w':=⟨h.ext.trans hx,h.new⟩
theorem Sc.add{w0:Wo}{bs:List Nat}{w:Wo}{b:Nat}(h:Sc w0 bs w)(hb:w.heap.size<=b):Sc w0 (bs++[b]) w:=⟨h.ext,fun x hm=>by
 rcases Im.1 hm with hm | hm
 ·exact h.new x hm
 ·have:x=b:=by simpa using hm
  have:=h.ext.size;omega⟩
theorem Sc.sub{w0:Wo}{bs cs:List Nat}{w:Wo}(h:Sc w0 bs w)(hs:∀x∈cs,x∈bs):Sc w0 cs w:=⟨h.ext,fun x hm=>h.new x (hs x hm)⟩
theorem Sc.put{w0:Wo}{bs:List Nat}{w w':Wo}{b:Nat}(h:Sc w0 bs w)(hx:Q0 bs w w')(hb:w.heap.size<=b):Sc w0 (bs++[b]) w':=⟨(h.step hx).ext,(h.add hb).new⟩
structure Ob {α:Type} (enc:α->List Va) (z:Nat) (ty:TypeId) (base:Nat) (bs:List Nat) (w:Wo) (o:OA) (cap:Nat) (l:List α):Prop where
 own:Uz enc z ty base w o cap l
 nb:∀x∈QI o,x∉bs
section
variable {α:Type}{enc:α->List Va}{z:Nat}{ty:TypeId}{base:Nat}{bs cs:List Nat}{w w':Wo}{o:OA}{cap:Nat}{l:List α}{b:Nat}
theorem Ob.of(h:Uz enc z ty base w o cap l)(hs:∀x∈bs,x<base):Ob enc z ty base bs w o cap l:=⟨h,fun x hx hm=>by
 have:=(h.lt x hx).1;have:=hs x hm;omega⟩
theorem Ob.step(h:Ob enc z ty base bs w o cap l)(hx:Q0 bs w w'):Ob enc z ty base bs w' o cap l:=⟨h.own.ext hx h.nb,h.nb⟩
theorem Ob.M'(h:Ob enc z ty base bs w o cap l)(hx:Q0 [] w w'):Ob enc z ty base bs w' o cap l:=⟨h.own.Wi hx,h.nb⟩
theorem Ob.call(h:Ob enc z ty base bs w o cap l)(hx:Q0 cs w w')(hd:∀x∈QI o,x∉cs):Ob enc z ty base bs w' o cap l:=⟨h.own.ext hx hd,h.nb⟩
theorem Ob.add(h:Ob enc z ty base bs w o cap l)(hb:w.heap.size<=b):Ob enc z ty base (bs++[b]) w o cap l:=⟨h.own,fun x hx hm=>by
 rcases Im.1 hm with hm | hm
 ·exact h.nb x hx hm
 ·have:x=b:=by simpa using hm
  have:=(h.own.lt x hx).2;omega⟩
theorem Ob.put(h:Ob enc z ty base bs w o cap l)(hx:Q0 bs w w')(hb:w.heap.size<=b):Ob enc z ty base (bs++[b]) w' o cap l:=⟨(h.step hx).own,(h.add hb).nb⟩
theorem Ob.sub(h:Ob enc z ty base bs w o cap l)(hs:∀x∈cs,x∈bs):Ob enc z ty base cs w o cap l:=⟨h.own,fun x hx hm=>h.nb x hx (hs x hm)⟩
theorem Ob.mono{WW:Nat}(h:Ob enc z ty base bs w o cap l)(hb:WW<=base):Ob enc z ty WW bs w o cap l:=⟨h.own.mono hb,h.nb⟩
theorem Ob.rd[Inhabited α](h:Ob enc z ty base bs w o cap l)(hz:∀x,(enc x).length=z):Rd enc z bs w o l:=h.own.rd hz h.nb
end
theorem Rd.scb{α:Type}[Inhabited α]{enc:α->List Va}{z:Nat}{w0:Wo}{bs:List Nat}{w:Wo}{o:OA}{l:List α}(h:Rd enc z [] w0 o l)(hs:Sc w0 bs w):Rd enc z bs w o l:=(h.wide (cs:=bs) fun x hm=>.inr (hs.new x hm)).ext hs.ext.of_nil
theorem Gp{bs cs:List Nat}{w w':Wo}(hx:Q0 cs w w')(hs:∀b∈bs,b<w.heap.size)(hd:∀x∈cs,x∉bs):Q9 bs w w':=fun x hm=>hx.block x (hs x hm) fun fE=>hd x fE hm
theorem Ob.AK7{α:Type}[Inhabited α]{P:Program}{enc:α->List Va}{z:Nat}{ty t:TypeId}{bytes:Nat}{zero:α}(E:zom P enc z ty bytes zero)(ht:P.underlying t=some (.slice ty)){base:Nat}{bs:List Nat}{w:Wo}{o:OA}{cap:Nat}{l:List α}(hO:Ob enc z ty base bs w o cap l)(hs:∀x∈bs,x<w.heap.size)(rH:base<=w.heap.size){x:α}{b:Nat}{t':TypeId}{fz:Nat×Nat}(hb:w.heap[b]? = some (.cells (enc x).toArray t' fz))(h1:Zd (enc x)=true)(hl:l.length<=1048576)(hby:bytes<=1000)(tr:TypeId)(cs:Array Bool) :
  ∃o' pF w',(builtin .append #[t,t] tr cs #[.slice o l.length cap,.slice (some ⟨b,0,none⟩) 1 1]).run P w=.ok (.value (.slice o' (l++[x]).length pF)) w'/\Q9 bs w w'/\Ob enc z ty base bs w' o' pF (l++[x])/\Q0 (QI o) w w':=by
 have hbb:(2*(l.length+1))*bytes<=281474976710656:=IA (Nat.mul_le_mul (show 2*(l.length+1)<=2097154 by omega) hby) Qd;obtain⟨o2,c2,w2,Wp,mD,R0,ho2⟩:=zve E ht hO.own hb h1 hbb Qo tr cs rH;refine⟨o2,c2,w2,Wp,fun y hm=>R0.block y (hs y hm) fun fE=>hO.nb y fE hm,⟨mD,fun y hy hm=>?_⟩,R0⟩;rcases ho2 with rfl | rfl
 ·exact hO.nb y hy hm
 ·have:y=w.heap.size:=by simpa[QI] using hy
  have:=hs y hm;omega
def Je(f:Nat->Int):Nat->Int
 | 0=>0
 | k+1=>Je f k+f k
theorem VE{f:Nat->Int}{B:Int}(h:∀j,0<=f j/\f j<=B):∀k:Nat,0<=Je f k/\Je f k<=(k:Int)*B
 | 0=>by simp[Je]
 | k+1=>by
  have ih:=VE h k;have:=h k;simp only[Je];rw[show ((k+1:Nat):Int)*B=(k:Int)*B+B by rw[show ((k+1:Nat):Int)=(k:Int)+1 by omega,Int.add_mul,Int.one_mul]];omega
theorem Jb(n:Int):0<=Qf n/\Qf n<=20:=by
 unfold Qf;split
 ·rename_i h;have:=Qu.1 h;omega
 ·omega
def zgo(W:Q8)(c:Int)(j:Nat):Int:=if (((Q7 W (j:Int)).IZ==c)&&ZA W (j:Int))=true then Qf (Q7 W (j:Int)).nice else 0
def zkz(W:Q8)(g c:Int)(j:Nat):Int:=if ((((Q7 W (j:Int)).state==1)&&((Q7 W (j:Int)).IZ==c))&&Tu 3 W.IC g (Q7 W (j:Int)).group)=true then Qf (Q7 W (j:Int)).nice else 0
theorem zzt{W:Q8}{g c:Int}{k:Nat}(h:((((Q7 W (k:Int)).state==1)&&((Q7 W (k:Int)).IZ==c))&&Tu 3 W.IC g (Q7 W (k:Int)).group)=true):zkz W g c k=Qf (Q7 W (k:Int)).nice:=C' h
theorem zzs{W:Q8}{g c:Int}{k:Nat}(h:((((Q7 W (k:Int)).state==1)&&((Q7 W (k:Int)).IZ==c))&&Tu 3 W.IC g (Q7 W (k:Int)).group)=false):zkz W g c k=0:=B' (by rw[h]; decide)
def F3(W:Q8)(c:Int):Int:=Je (zgo W c) W.tasks.length
def za7(W:Q8)(g c:Int):Int:=Je (zkz W g c) W.tasks.length
theorem Nm(W:Q8)(c:Int)(j:Nat):0<=zgo W c j/\zgo W c j<=20:=by
 unfold zgo;split
 ·exact Jb _
 ·omega
theorem za6(W:Q8)(g c:Int)(j:Nat):0<=zkz W g c j/\zkz W g c j<=20:=by
 unfold zkz;split
 ·exact Jb _
 ·omega
def X9(W:Q8)(c:Int):Bool:=YK c 0 ((W.ID.length:Int)-1)
theorem VT{W:Q8}{c:Int}(h:X9 W c=true):0<=c/\c<(W.ID.length:Int):=by have:=Qu.1 h; omega
theorem XS.li{W:Q8}(wp:XS W){t:Int}(t0:0<=t)(t1:t<(W.tasks.length:Int))(hs:(Q7 W t).state=1):Q6 W.IC (Q7 W t).group=true/\0<=(Q7 W t).IZ/\(Q7 W t).IZ<(W.ID.length:Int):=by
 have:=wp.a.t;exact F2 wp.a (wp.t t t0 Qo) hs
structure TU (W:Q8):Prop where
 a:WA W
 li:∀{t:Int},0<=t->t<(W.tasks.length:Int)->(Q7 W t).state=1->Q6 W.IC (Q7 W t).group=true/\0<=(Q7 W t).IZ/\(Q7 W t).IZ<(W.ID.length:Int)
structure UN (W:Q8):Prop where
 c:W.ID.length<=maxLen
 t:W.tasks.length<=maxLen
 g:W.IC.length<=maxLen
 f:∀i:Int,0<=i->i<(W.IC.length:Int)->zmi (gi W.IC i)
section
variable {W:Q8}{m:MW}{w:Wo}{bs:List Nat}{p:OA}
theorem Tf{c:Int}(h:XQ bs w W m)(wp:XS W):PX bs Xz #[.agg (Qa W m).toArray,I c] w (I (F3 W c)):=
 zcg _ _ _ _ _ _ _ _ _ _ c fun wr hx=>by
  have h:=(h.ext hx).less (cs:=[]) Qs;have iX:=wp.a.t;intro _ _;refine OQ W.tasks.length 0 rfl (fun x k=>k<=W.tasks.length/\x=Je (zgo W c) k) ⟨Ic _,rfl⟩ fun x k ⟨hk,R0⟩=>⟨fun IS=>?_,fun Ry=>?_⟩
  ·have IS:=Ot IS;have hr:=VE (Nm W c) k;have hw:=Jb (Q7 W (k:Int)).nice;have eF:zgo W c k=if (((Q7 W (k:Int)).IZ==c)&&ZA W (k:Int))=true then Qf (Q7 W (k:Int)).nice else 0:=rfl;refine⟨h.t.ix QG Qo IS,_,h.t.f Qo IS (j:=0) rfl,fun _=>h.t.ix QG Qo IS,_,fun _=>h.t.f Qo IS (j:=2) rfl,ZA W (k:Int),fun _=>Vi h wp.a Qo IS fun hs=>wp.li Qo IS hs,fun g2=>⟨h.t.ix QG Qo IS,_,h.t.f Qo IS (j:=3) rfl,Qf (Q7 W (k:Int)).nice,ZK,⟨Qo,Qo⟩,⟨Qo,Qo⟩,QJ Qo ⟨Qo,?_⟩⟩,fun g2=>⟨⟨Qo,Qo⟩,QJ Qo ⟨Qo,?_⟩⟩⟩
   ·have g2:((((Q7 W (k:Int)).state==1)&&((Q7 W (k:Int)).IZ==c))&&ZA W (k:Int))=true:=g2;simp only[A'] at g2;simp only[Je]; rw[eF,C' (by rw[g2.1.2,g2.2]; rfl),R0]
   ·have g2:((((Q7 W (k:Int)).state==1)&&((Q7 W (k:Int)).IZ==c))&&ZA W (k:Int))=false:=g2
    simp only[Je]; rw[eF,B' (fun hc=>by
     simp only[A'] at hc;have hl:=hc.2;unfold ZA at hl;simp only[A'] at hl;rw[hc.1,hc.2,hl.1] at g2
     cases g2),R0]; omega
  ·have Ry:=Ou Ry;have:k=W.tasks.length:=Qo;subst this;rw[R0]; rfl
theorem Ki{g c:Int}(h:XQ bs w W m)(wp:TU W)(hl:UN W)(hu:Q6 W.IC g=true):PX bs JR #[.agg (Qa W m).toArray,I g,I c] w (I (za7 W g c)):=
 BU _ _ _ _ _ _ _ _ _ _ g c fun wr hx=>by
  have h:=(h.ext hx).less (cs:=[]) Qs;have iX:=wp.a.t;intro _ _;refine OQ W.tasks.length 0 rfl (fun x k=>k<=W.tasks.length/\x=Je (zkz W g c) k) ⟨Ic _,rfl⟩ fun x k ⟨hk,R0⟩=>⟨fun IS=>?_,fun Ry=>?_⟩
  ·have IS:=Ot IS;have hr:=VE (za6 W g c) k;have hw:=Jb (Q7 W (k:Int)).nice
   have hun:(((Q7 W (k:Int)).state==1)&&((Q7 W (k:Int)).IZ==c))=true->Pc W.IC g (Q7 W (k:Int)).group=Tu 3 W.IC g (Q7 W (k:Int)).group:=fun q=>by
    simp only[A',Is] at q;unfold Pc;rw[VK.2 wp.a.tree,hu,(wp.li Qo IS q.1).1]; rfl
   have eF:zkz W g c k=if ((((Q7 W (k:Int)).state==1)&&((Q7 W (k:Int)).IZ==c))&&Tu 3 W.IC g (Q7 W (k:Int)).group)=true then Qf (Q7 W (k:Int)).nice else 0:=rfl
   have e2:((((Q7 W (k:Int)).state==1)&&((Q7 W (k:Int)).IZ==c))&&Tu 3 W.IC g (Q7 W (k:Int)).group)=((((Q7 W (k:Int)).state==1)&&((Q7 W (k:Int)).IZ==c))&&Pc W.IC g (Q7 W (k:Int)).group):=by
    cases hq:(((Q7 W (k:Int)).state==1)&&((Q7 W (k:Int)).IZ==c)) with
    | false=>rfl
    | true=>rw[hun hq]
   refine⟨h.t.ix QG Qo IS,_,_,_,_,_,_,_,_,_,h.t k Qo IS,fun _ _=>⟨Pc W.IC g (Q7 W (k:Int)).group,fun _=>O5 h.g hl.g,fun g2=>⟨Qf (Q7 W (k:Int)).nice,ZK,⟨Qo,Qo⟩,⟨Qo,Qo⟩,QJ Qo ⟨Qo,?_⟩⟩,fun g2=>⟨⟨Qo,Qo⟩,QJ Qo ⟨Qo,?_⟩⟩⟩⟩
   ·simp only[Je]; rw[zzt (W:=W) (g:=g) (c:=c) (k:=k) (e2.trans g2),R0]
   ·simp only[Je]; rw[zzs (W:=W) (g:=g) (c:=c) (k:=k) (e2.trans g2),R0]; omega
  ·have Ry:=Ou Ry;have:k=W.tasks.length:=Qo;subst this;rw[R0]; rfl
theorem ze2{t:Int}(h:Mk bs w p W m)(t0:0<=t)(t1:t<(W.tasks.length:Int)):PX bs U7 #[.pointer p,I t] w (I (Qf (Q7 W t).nice)):=
 HD p t fun wr hx=>by
  have h:=(h.ext hx).less (cs:=[]) Qs;exact⟨h.some,_,_,_,h.tasks,h.rd.t.ix QG t0 t1,_,h.rd.t.f t0 t1 (j:=3) rfl,_,P5,rfl⟩
end
def QW(p:Nat->Bool)(v:Nat->Int):Nat->Int
 | 0 => -1
 | k+1=>if (p k&&(decide (QW p v k<0)||decide (v k<v (QW p v k).toNat)))=true then (k:Int) else QW p v k
theorem Zo(p:Nat->Bool)(v:Nat->Int):∀k:Nat,(QW p v k = -1/\∀j,j<k->p j=false) \/
  (0<=QW p v k/\QW p v k<(k:Int)/\p (QW p v k).toNat=true/\(∀j,j<k->p j=true->v (QW p v k).toNat<=v j)/\∀j:Nat,(j:Int)<QW p v k->p j=true->v (QW p v k).toNat<v j)
 | 0=>.inl ⟨rfl,fun j hj=>Ir hj (Nat.not_lt_zero j)⟩
 | k+1=>by
  simp only[QW];split
  ·rename_i h;simp only[A',Iu,Ij] at h;refine .inr ⟨Qo,Qo,by simpa using h.1,fun j hj hp=>?_,fun j hj hp=>?_⟩
   ·rw[Ig]
    by_cases eH:j=k
    ·subst eH; exact I2 _
    ·rcases Zo p v k with ⟨_,h2⟩ | ⟨h1,_,_,h4,_⟩
     ·rw[h2 j Qo] at hp; cases hp
     ·have:=h4 j Qo hp;rcases h.2 with h5 | h5 <;> omega
   ·rw[Ig];rcases Zo p v k with ⟨_,h2⟩ | ⟨h1,_,_,h4,_⟩
    ·rw[h2 j Qo] at hp; cases hp
    ·have:=h4 j Qo hp;rcases h.2 with h5 | h5 <;> omega
  ·rename_i h;rcases Zo p v k with ⟨h1,h2⟩ | ⟨h1,h2,h3,h4,h5⟩
   ·refine .inl ⟨h1,fun j hj=>?_⟩
    by_cases eH:j=k
    ·subst eH
     cases hp:p j with
     | false=>rfl
     | true=>
      exfalso; apply h
      rw[hp,h1]; rfl
    ·exact h2 j Qo
   ·refine .inr ⟨h1,Qo,h3,fun j hj hp=>?_,h5⟩
    by_cases eH:j=k
    ·subst eH;rcases Int.lt_or_le (v j) (v (QW p v j).toNat) with h6 | h6
     ·exfalso; apply h
      rw[hp,Ih h6]; simp
     ·exact h6
    ·exact h4 j Qo hp
theorem znj{p:Nat->Bool}{v:Nat->Int}{n k:Nat}(hk:k<n)(hp:p k=true)(h0:0<=QW p v n)(hv:v k=v (QW p v n).toNat)(hb:∀j,j<k->p j=true->v j≠v (QW p v n).toNat):QW p v n=(k:Int):=by
 rcases Zo p v n with ⟨h1,_⟩ | ⟨_,h2,h3,h4,h5⟩
 ·omega
 ·by_cases IS:(k:Int)<QW p v n
  ·have:=h5 k IS hp; omega
  ·by_cases hgt:QW p v n<(k:Int)
   ·exact Ir rfl (hb _ Qo h3)
   ·omega
def Zk(W:Q8)(g c:Int)(i:Nat):Bool:=if i<12 then OD W g c i else XW W g c (i-12)
def Ze(W:Q8)(c:Int)(i:Nat):Int:=if i<12 then (Q7 W (i:Int)).v else (Qc W ((i-12:Nat):Int) c).v
def QU(W:Q8)(g c:Int):Int:=QW (Zk W g c) (Ze W c) 20
def zpo:Nat->Q8->Int->Int->Int
 | 0,_,_,_ => -1
 | f+1,W,g,c=>if QU W g c<0 then -1 else if QU W g c<12 then QU W g c else zpo f W (QU W g c-12) c
def Km(W:Q8)(g c:Int):Int:=zpo (4-dep 3 W.IC g).toNat W g c
def Qt(W:Q8)(c:Int):Int:=if (gi W.ID c).cur>=0/\(gi W.ID c).WH<50 then (gi W.ID c).cur else Km W 0 c
theorem UJ{W:Q8}{g c:Int}{i:Nat}(h:i<12):Zk W g c i=OD W g c i:=C' h
theorem JK{W:Q8}{g c:Int}{i:Nat}:Zk W g c (12+i)=XW W g c i:=by
 unfold Zk;rw[B' Qo,show 12+i-12=i by omega]
theorem DC{W:Q8}{c:Int}{i:Nat}(h:i<12):Ze W c i=(Q7 W (i:Int)).v:=C' h
theorem DB{W:Q8}{c:Int}{i:Nat}:Ze W c (12+i)=(Qc W (i:Int) c).v:=by
 unfold Ze;rw[B' Qo,show 12+i-12=i by omega]
theorem zpk(W:Q8)(g c:Int):Zk W g c 12=false:=by
 rw[show (12:Nat)=12+0 from rfl,JK]; rfl
theorem H2{W:Q8}{g c:Int}(ha:WA W)(hu:Q6 W.IC g=true)(h:12<=QU W g c):Q6 W.IC (QU W g c-12)=true/\QU W g c-12≠0/\dep 3 W.IC (QU W g c-12)=dep 3 W.IC g+1/\QU W g c<20:=by
 unfold QU at *;rcases Zo (Zk W g c) (Ze W c) 20 with ⟨h1,_⟩ | ⟨h1,h2,h3,_,_⟩
 ·omega
 ·have e:(QW (Zk W g c) (Ze W c) 20).toNat=12+((QW (Zk W g c) (Ze W c) 20).toNat-12):=Qo;rw[e,JK] at h3;unfold XW at h3;simp only[A',Ij,Is] at h3;obtain⟨⟨k1,k2,k3⟩,_⟩:=h3;have ek:(((QW (Zk W g c) (Ze W c) 20).toNat-12:Nat):Int)=QW (Zk W g c) (Ze W c) 20-12:=Qo;rw[ek] at k2 k3;have bM:=ha.gl;have hk:Q6 W.IC (QW (Zk W g c) (Ze W c) 20-12)=true:=Q4.2 ⟨Qo,Qo,k2⟩;have hz:QW (Zk W g c) (Ze W c) 20-12≠0:=Qo;obtain⟨_,_,_,d,e1,e2,_⟩:=Y6 ha.tree hk hz;rw[k3] at e2;exact⟨hk,hz,Qo,Qo⟩
theorem LY{W:Q8}(ha:WA W){g:Int}(hu:Q6 W.IC g=true):0<=dep 3 W.IC g/\dep 3 W.IC g<=3:=by
 have hr:=TK W.IC 3 g
 by_cases hz:g=0
 ·subst hz; rw[ZZ]; omega
 ·obtain⟨_,_,_,d,e1,_⟩:=Y6 ha.tree hu hz;omega
theorem BI{W:Q8}(ha:WA W){g c:Int}(hu:Q6 W.IC g=true):Km W g c=if QU W g c<0 then -1 else if QU W g c<12 then QU W g c else Km W (QU W g c-12) c:=by
 have hd:=LY ha hu;have e:(4-dep 3 W.IC g).toNat=(3-dep 3 W.IC g).toNat+1:=Qo;show zpo (4-dep 3 W.IC g).toNat W g c=_;rw[e];simp only[zpo];split
 ·rfl
 ·split
  ·rfl
  ·obtain⟨_,_,hk,_⟩:=H2 ha hu (c:=c) Qo;unfold Km;rw[hk,show (4-(dep 3 W.IC g+1))=3-dep 3 W.IC g by omega]
section
variable {W:Q8}{m:MW}{w:Wo}{bs:List Nat}{p:OA}
def Z0(W:Q8)(g c:Int)(k:Nat):Int:=if QW (Zk W g c) (Ze W c) k<0 then 0 else Ze W c (QW (Zk W g c) (Ze W c) k).toNat
def Zr(W:Q8)(g c:Int)(k:Nat):Bool:=decide (0<=QW (Zk W g c) (Ze W c) k)
theorem zf9{W:Q8}{g c:Int}{k:Nat}:(decide (QW (Zk W g c) (Ze W c) k<0)||decide (Ze W c k<Ze W c (QW (Zk W g c) (Ze W c) k).toNat))=(!Zr W g c k||decide (Ze W c k<Z0 W g c k)):=by
 unfold Zr Z0
 by_cases h:QW (Zk W g c) (Ze W c) k<0
 ·have h2:decide (0<=QW (Zk W g c) (Ze W c) k)=false:=decide_eq_false Qo;rw[C' h,Ih h,h2]; rfl
 ·have h2:decide (0<=QW (Zk W g c) (Ze W c) k)=true:=Ih Qo;rw[B' h,decide_eq_false h,h2]; rfl
theorem Eu{W:Q8}{g c:Int}{k:Nat}(h:(Zk W g c k&&(!Zr W g c k||decide (Ze W c k<Z0 W g c k)))=true):Z0 W g c (k+1)=Ze W c k/\Zr W g c (k+1)=true:=by
 rw[<-zf9] at h
 have e:QW (Zk W g c) (Ze W c) (k+1)=(k:Int):=by
  simp only[QW]; rw[C' h]
 unfold Z0 Zr;rw[e,B' Qo,Ig];exact⟨rfl,Ih Qo⟩
theorem Et{W:Q8}{g c:Int}{k:Nat}(h:(Zk W g c k&&(!Zr W g c k||decide (Ze W c k<Z0 W g c k)))=false):Z0 W g c (k+1)=Z0 W g c k/\Zr W g c (k+1)=Zr W g c k:=by
 rw[<-zf9] at h
 have e:QW (Zk W g c) (Ze W c) (k+1)=QW (Zk W g c) (Ze W c) k:=by
  simp only[QW]; rw[B' (by rw[h]; decide)]
 unfold Z0 Zr;rw[e];exact⟨rfl,rfl⟩
theorem Gl{g c:Int}(h:XQ bs w W m)(ha:WA W)(c0:0<=c)(c1:c<(W.ID.length:Int)):PX bs Vc #[.agg (Qa W m).toArray,I g,I c] w (.tuple #[I (Z0 W g c 20),.bool (Zr W g c 20)]):=
 zck _ _ _ _ _ _ _ _ _ _ g c fun wr hx=>by
  have h:=(h.ext hx).less (cs:=[]) Qs;have bM:=ha.gl;have iX:=ha.t;intro _ _;refine⟨fun vs=>∃k:Nat,k<=12/\vs=[I (Z0 W g c k),.bool (Zr W g c k),I (k:Int)],Xc 12 2,⟨0,Qo,rfl⟩,?_⟩;rintro aA some t ⟨k,hk,he⟩;simp only[I4,I5,Value.bool.injEq,true_and,and_true] at he;obtain⟨rfl,rfl,rfl⟩:=he;refine⟨fun IS=>?_,fun Ry=>?_⟩
  ·have IS:=Ot IS;have qT:k<12:=Qo;refine⟨h.t.ix QG Qo IS,_,_,_,_,_,_,_,_,_,h.t k Qo IS,fun _ _=>⟨fun q=>⟨⟨Qo,Qo⟩,⟨k+1,Qo,?_⟩,Zi (k:=k) rfl rfl qT⟩,fun q=>⟨⟨Qo,Qo⟩,⟨k+1,Qo,?_⟩,Zi (k:=k) rfl rfl qT⟩⟩⟩
   ·have q':(Zk W g c k&&(!Zr W g c k||decide (Ze W c k<Z0 W g c k)))=true:=by rw[UJ qT,DC qT]; exact q
    obtain⟨e1,e2⟩:=Eu q';rw[e1,e2,DC qT]; simp[Q7]
   ·have q':(Zk W g c k&&(!Zr W g c k||decide (Ze W c k<Z0 W g c k)))=false:=by rw[UJ qT,DC qT]; exact q
    obtain⟨e1,e2⟩:=Et q';rw[e1,e2]; simp
  ·have Ry:=Ou Ry;have:k=12:=Qo;subst this;have e12:Z0 W g c 13=Z0 W g c 12/\Zr W g c 13=Zr W g c 12:=Et (by rw[zpk]; rfl);refine⟨fun vs=>∃k:Nat,1<=k/\k<=8/\vs=[I (Z0 W g c (12+k)),.bool (Zr W g c (12+k)),I (k:Int)],Xc 8 2,⟨1,Qo,Qo,by rw[show 12+1=13 from rfl,e12.1,e12.2]; rfl⟩,?_⟩;rintro iE Cx1 t1 ⟨k,hk1,hk,he⟩;simp only[I4,I5,Value.bool.injEq,true_and,and_true] at he;obtain⟨rfl,rfl,rfl⟩:=he;refine⟨fun IS=>?_,fun Ry=>?_⟩
   ·have IS:=Ot IS;have cU:(0:Int)<=(k:Int):=Qo
    have used:∀{x:Bool},(((gi W.IC (k:Int)).used&&((gi W.IC (k:Int)).parent==g))&&x)=true->Q6 W.IC (k:Int)=true/\c<((gi W.IC (k:Int)).IE.length:Int):=fun {x} q=>by
     simp only[A'] at q;have hu:=zjw IS q.1.1;exact⟨hu,by rw[ha.sl hu]; exact c1⟩
    have eA:XW W g c k=(((gi W.IC (k:Int)).used&&((gi W.IC (k:Int)).parent==g))&&(Qc W (k:Int) c).on):=by
     unfold XW; rw[Ih hk1,Bool.true_and]
    have eP:Zk W g c (12+k)=(((gi W.IC (k:Int)).used&&((gi W.IC (k:Int)).parent==g))&&(Qc W (k:Int) c).on):=by rw[JK,eA]
    refine⟨h.g.ix cU IS,_,h.g.used cU IS,fun _=>h.g.ix cU IS,_,fun _=>h.g.parent cU IS,(Qc W (k:Int) c).on,fun q=>Vj h ha (used (x:=true) (by rw[q]; rfl)).1 c0 c1,fun _ _=>h.g.ix cU IS,_,_,_,fun _ _=>h.g.RC cU IS,fun _ q=>(h.g.IE _ cU IS).ix YW c0 (used q).2,(Qc W (k:Int) c).v,fun _ q=>zmh.f (h.g.IE _ cU IS) c0 (used q).2 (j:=2) rfl,fun q=>?_,fun q=>⟨⟨Qo,Qo⟩,⟨k+1,Qo,Qo,?_⟩,Zi (k:=k) rfl rfl Qo⟩⟩
    ·have q2:=q;simp only[A'] at q2;have hu:=used (x:=(Qc W (k:Int) c).on) (by simp only[A']; exact q2.1);have q':(Zk W g c (12+k)&&(!Zr W g c (12+k)||decide (Ze W c (12+k)<Z0 W g c (12+k))))=true:=by rw[eP,DB]; exact q
     obtain⟨e1,e2⟩:=Eu q';refine⟨h.g.ix cU IS,_,_,_,h.g.RC cU IS,(h.g.IE _ cU IS).ix YW c0 hu.2,_,zmh.f (h.g.IE _ cU IS) c0 hu.2 (j:=2) rfl,⟨Qo,Qo⟩,⟨k+1,Qo,Qo,?_⟩,Zi (k:=k) rfl rfl Qo⟩;rw[show 12+(k+1)=12+k+1 from rfl,e1,e2,DB]; simp[Qc]
    ·have q':(Zk W g c (12+k)&&(!Zr W g c (12+k)||decide (Ze W c (12+k)<Z0 W g c (12+k))))=false:=by rw[eP,DB]; exact q
     obtain⟨e1,e2⟩:=Et q';rw[show 12+(k+1)=12+k+1 from rfl,e1,e2]; simp
   ·have Ry:=Ou Ry;have:k=8:=Qo;subst this;rfl
theorem ze9{g c:Int}(h:XQ bs w W m)(ha:WA W)(hu:Q6 W.IC g=true)(c0:0<=c)(c1:c<(W.ID.length:Int)):PX bs U9 #[.agg (Qa W m).toArray,I g,I c] w (I (Km W g c)):=by
 have bM:=ha.gl;have iX:=ha.t
 have key:∀(n:Nat) (g:Int),Q6 W.IC g=true->(3-dep 3 W.IC g).toNat=n->∀{bs:List Nat} {w:Wo},XQ bs w W m->PX bs U9 #[.agg (Qa W m).toArray,I g,I c] w (I (Km W g c)):=by
  intro n
  induction n using Nat.strongRecOn with
  | ind n ih=>
   intro g hu hn bs w h;refine zfz _ _ _ _ _ _ _ _ _ _ g c fun wr hx=>?_
   have h:=(h.ext hx).less (cs:=[]) Qs;have bG:=BI ha hu (c:=c);have hd:=LY ha hu;intro _ _;refine⟨_,_,Gl h ha c0 c1,fun q=>?_,fun q=>?_⟩
   ·have q:¬0<=QW (Zk W g c) (Ze W c) 20:=by
     unfold Zr at q
     simpa using q
    have q:¬0<=QU W g c:=q;rw[bG,C' Qo]
   have hF0:0<=QW (Zk W g c) (Ze W c) 20:=by
    unfold Zr at q
    simpa using q
   have hF:0<=QU W g c:=hF0
   have Bt4:Z0 W g c 20=Ze W c (QU W g c).toNat:=by
    show (if QU W g c<0 then 0 else Ze W c (QU W g c).toNat)=_;rw[B' (show ¬QU W g c<0 by omega)]
   have found:∀k:Nat,k<20->Zk W g c k=true->Ze W c k=Z0 W g c 20->(∀j,j<k->Zk W g c j=true->Ze W c j≠Z0 W g c 20)->QU W g c=(k:Int):=fun k hk hp hv hb=>by
    rw[Bt4] at hv hb;exact znj hk hp hF hv hb
   refine⟨fun vs=>∃k:Nat,vs=[I (k:Int)]/\k<=12/\∀j,j<k->Zk W g c j=true->Ze W c j≠Z0 W g c 20,Xc 12 0,⟨0,rfl,Qo,fun j hj=>Ir hj (Nat.not_lt_zero j)⟩,?_⟩;rintro t ⟨k,he,hk,hI⟩;simp only[I4,I5,true_and,and_true] at he;subst he;refine⟨fun IS=>?_,fun Ry=>?_⟩
   ·have IS:=Ot IS;have qT:k<12:=Qo;refine⟨h.t.ix QG Qo IS,_,_,_,_,_,_,_,_,_,h.t k Qo IS,fun b1 dI=>⟨fun q2=>?_,fun q2=>⟨⟨Qo,Qo⟩,⟨k+1,Qs,Qo,fun j hj hp hv=>?_⟩,Zi (k:=k) rfl rfl qT⟩⟩⟩
    ·have q2':(OD W g c k&&((Q7 W (k:Int)).v==Z0 W g c 20))=true:=q2;simp only[A',Is] at q2';have:=found k Qo (by rw[UJ qT]; exact q2'.1) (by rw[DC qT]; exact q2'.2) hI;rw[bG,B' Qo,C' Qo,this]
    ·by_cases eH:j<k
     ·exact hI j eH hp hv
     ·have:j=k:=Qo;subst this;rw[UJ qT] at hp;rw[DC qT] at hv;have q2':(OD W g c j&&((Q7 W (j:Int)).v==Z0 W g c 20))=false:=q2;rw[hp,hv] at q2';simp at q2'
   ·have Ry:=Ou Ry;have:k=12:=Qo;subst this
    refine⟨fun vs=>∃k:Nat,vs=[I (k:Int)]/\1<=k/\k<=8/\∀j,j<12+k->Zk W g c j=true->Ze W c j≠Z0 W g c 20,Xc 8 0,⟨1,rfl,Qo,Qo,fun j hj hp=>by
     by_cases tF:j<12
     ·exact hI j tF hp
     ·have:j=12:=Qo;subst this;rw[zpk] at hp; cases hp⟩,?_⟩
    rintro t2 ⟨k,he,hk1,hk,hI2⟩;simp only[I4,I5,true_and,and_true] at he;subst he;refine⟨fun IS=>?_,fun aP=>?_⟩
    ·have IS:=Ot IS;have cU:(0:Int)<=(k:Int):=Qo
     have used:∀{x:Bool},(((gi W.IC (k:Int)).used&&((gi W.IC (k:Int)).parent==g))&&x)=true->Q6 W.IC (k:Int)=true/\c<((gi W.IC (k:Int)).IE.length:Int):=fun {x} q=>by
      simp only[A'] at q;have hu:=zjw IS q.1.1;exact⟨hu,by rw[ha.sl hu]; exact c1⟩
     have eA:XW W g c k=(((gi W.IC (k:Int)).used&&((gi W.IC (k:Int)).parent==g))&&(Qc W (k:Int) c).on):=by
      unfold XW; rw[Ih hk1,Bool.true_and]
     have eP:Zk W g c (12+k)=(((gi W.IC (k:Int)).used&&((gi W.IC (k:Int)).parent==g))&&(Qc W (k:Int) c).on):=by rw[JK,eA]
     refine⟨h.g.ix cU IS,_,h.g.used cU IS,fun _=>h.g.ix cU IS,_,fun _=>h.g.parent cU IS,(Qc W (k:Int) c).on,fun q=>Vj h ha (used (x:=true) (by rw[q]; rfl)).1 c0 c1,fun _=>h.g.ix cU IS,_,_,_,fun _=>h.g.RC cU IS,fun q=>(h.g.IE _ cU IS).ix YW c0 (used q).2,(Qc W (k:Int) c).v,fun q=>zmh.f (h.g.IE _ cU IS) c0 (used q).2 (j:=2) rfl,fun q=>?_,fun q=>⟨⟨Qo,Qo⟩,⟨k+1,Qs,Qo,Qo,fun j hj hp hv=>?_⟩,Zi (k:=k) rfl rfl Qo⟩⟩
     ·have q2:=q;simp only[A',Is] at q2;have hfk:=found (12+k) Qo (by rw[eP]; simp only[A',Is]; exact q2.1) (by rw[DB]; exact q2.2) hI2;have B26:=H2 ha hu (c:=c) Qo;have ek:QU W g c-12=(k:Int):=Qo;rw[ek] at B26;have hdk:=LY ha B26.1;refine⟨_,ih _ (show (3-dep 3 W.IC (k:Int)).toNat<n by omega) (k:Int) B26.1 rfl h,?_⟩;rw[bG,B' Qo,B' Qo,ek]
     ·by_cases eH:j<12+k
      ·exact hI2 j eH hp hv
      ·have:j=12+k:=Qo;subst this;rw[eP] at hp;rw[DB] at hv;rw[hp,hv] at q;simp at q
    ·have aP:=Ou aP;have:k=8:=Qo;subst this;rcases Zo (Zk W g c) (Ze W c) 20 with ⟨h1,_⟩ | ⟨h1,h2,h3,_,_⟩
     ·have:QU W g c = -1:=h1;omega
     ·exact Ir Bt4.symm (hI2 (QU W g c).toNat (by unfold QU; omega) h3)
 exact key _ g hu rfl h
theorem zfa{c:Int}(h:XQ bs w W m)(ha:WA W)(c0:0<=c)(c1:c<(W.ID.length:Int)):PX bs PS #[.agg (Qa W m).toArray,I c] w (I (Qt W c)):=by
 refine zf0 _ _ _ _ _ _ _ _ _ _ c fun wr hx=>?_
 have h:=(h.ext hx).less (cs:=[]) Qs;intro _ _;refine⟨h.c.ix ZP c0 c1,_,h.c.f c0 c1 (j:=1) rfl,fun _=>h.c.ix ZP c0 c1,_,fun _=>h.c.f c0 c1 (j:=2) rfl,fun g=>⟨h.c.ix ZP c0 c1,_,h.c.f c0 c1 (j:=1) rfl,?_⟩,fun g=>⟨_,ze9 h ha ha.root c0 c1,?_⟩⟩
 ·simp only[A',Ij] at g;unfold Qt; rw[C' g]
 ·unfold Qt; rw[B' (fun hc=>by
   rw[Ih hc.1,Ih hc.2] at g; cases g)]
end
def IT(W:Q8)(t:Int)(x:MM):Q8:={ W with tasks:=W.tasks.set t.toNat x }
def RM(W:Q8)(c:Int)(x:Mj):Q8:={ W with ID:=W.ID.set c.toNat x }
def Rf(W:Q8)(g:Int)(x:ZO):Q8:={ W with IC:=W.IC.set g.toNat x }
def RA(W:Q8)(g c:Int)(s:LI):Q8:=Rf W g { gi W.IC g with IE:=(gi W.IC g).IE.set c.toNat s }
def RI(W:Q8)(g:Int)(b:UM):Q8:=Rf W g { gi W.IC g with IQ:=b }
theorem za1{α:Type}[Inhabited α](l:List α)(i:Int):gi l i=gi l ((i.toNat:Nat):Int):=by unfold gi; rw[Ig]
structure Z2 (gs gs':List ZO):Prop where
 len:gs'.length=gs.length
 u:∀i:Int,(gi gs' i).used=(gi gs i).used
 p:∀i:Int,(gi gs' i).parent=(gi gs i).parent
 n:∀i:Int,(gi gs' i).name=(gi gs i).name
theorem Z2.refl(gs:List ZO):Z2 gs gs:=⟨rfl,fun _=>rfl,fun _=>rfl,fun _=>rfl⟩
theorem Z2.trans{a b c:List ZO}(h:Z2 a b)(k:Z2 b c):Z2 a c:=⟨k.len.trans h.len,fun i=>(k.u i).trans (h.u i),fun i=>(k.p i).trans (h.p i),fun i=>(k.n i).trans (h.n i)⟩
theorem Z2.cK{gs gs':List ZO}(h:Z2 gs gs')(i:Int):Q6 gs' i=Q6 gs i:=by unfold Q6; rw[h.len,h.u]
theorem Z2.dep{gs gs':List ZO}(h:Z2 gs gs'):∀(f:Nat) (i:Int),YtnclplgaicdapaaGreatDoor.dep f gs' i=YtnclplgaicdapaaGreatDoor.dep f gs i
 | 0,i=>rfl
 | f+1,i=>by simp only[YtnclplgaicdapaaGreatDoor.dep]; rw[h.p,h.dep f]
theorem Z2.path{gs gs':List ZO}(h:Z2 gs gs'):∀(f:Nat) (i:Int),UA f gs' i=UA f gs i
 | 0,i=>rfl
 | f+1,i=>by simp only[UA]; rw[h.p,h.path f]
theorem Z2.tree{gs gs':List ZO}(h:Z2 gs gs')(t:Y5 gs):Y5 gs':=
 ⟨by rw[h.len]; exact t.len,by rw[h.u]; exact t.ru,by rw[h.p]; exact t.rp,by rw[h.n]; exact t.rn,fun g a b c=>by rw[h.u] at c; rw[h.n]; exact t.nm g a b c,fun g a b c=>by rw[h.u] at c; rw[h.cK,h.p]; exact t.par g a b c,
  fun g a b c=>by rw[h.u] at c; rw[h.dep]; exact t.dp g a b c,fun g k a b c d e=>by rw[h.u] at d e; rw[h.p,h.p,h.n,h.n]; exact t.uniq g k a b c d e⟩
theorem YY{W:Q8}{g:Int}{x:ZO}(h0:0<=g)(h1:g<(W.IC.length:Int)){i:Int}(hi:0<=i):gi (Rf W g x).IC i=if g=i then x else gi W.IC i:=QE _ _ h0 h1 hi
theorem JE{W:Q8}{g:Int}{x:ZO}(h0:0<=g)(h1:g<(W.IC.length:Int))(u:x.used=(gi W.IC g).used)(p:x.parent=(gi W.IC g).parent)(n:x.name=(gi W.IC g).name):Z2 W.IC (Rf W g x).IC:=by
 have key:∀i:Int,gi (Rf W g x).IC i=if g=((i.toNat:Nat):Int) then x else gi W.IC i:=fun i=>by
  rw[za1,YY h0 h1 Qo,<-za1 W.IC i]
 refine⟨E',fun i=>?_,fun i=>?_,fun i=>?_⟩
 all_goals
  rw[key];split
  ·rename_i e;rw[za1 W.IC i,<-e]; assumption
  ·rfl
theorem WA.set{W:Q8}(ha:WA W){g:Int}{x:ZO}(h0:0<=g)(h1:g<8)(u:x.used=(gi W.IC g).used)(p:x.parent=(gi W.IC g).parent)(n:x.name=(gi W.IC g).name)(hN:x.used=false->zsv x)(hU:x.used=true->zmk W g x):WA (Rf W g x):=by
 have hl:=ha.gl;refine⟨ha.n1,ha.n2,ha.c1,ha.c2,ha.t,(JE h0 Qo u p n).tree ha.tree,ha.sZ,fun k k0 k1=>?_⟩;show MK (Rf W g x) k;unfold MK;rw[YY h0 Qo k0]
 by_cases e:g=k
 ·subst e;rw[C' rfl];exact⟨hN,fun hu=>by have:=hU hu; exact⟨this.w1,this.w2,this.m,this.m0,this.s,this.len,this.root,this.none,this.IQ⟩⟩
 ·rw[B' e];have:=ha.grp k k0 k1;exact⟨this.1,fun hu=>by have:=this.2 hu; exact⟨this.w1,this.w2,this.m,this.m0,this.s,this.len,this.root,this.none,this.IQ⟩⟩
theorem WA.RA{W:Q8}(ha:WA W){g c:Int}{s:LI}(h0:0<=g)(h1:g<8):WA (RA W g c s):=by
 have hg:=ha.grp g h0 h1;refine ha.set h0 h1 rfl rfl rfl (fun hu=>?_) fun hu=>?_
 ·have:=hg.1 hu;exact⟨this.p,this.n,this.w,this.c,this.pe,this.ne,this.s,by rw[E']; exact this.l,this.b⟩
 ·have:=hg.2 hu;exact⟨this.w1,this.w2,this.m,this.m0,this.s,by rw[E']; exact this.len,this.root,this.none,this.IQ⟩
theorem Uv{W:Q8}{g c:Int}{s:LI}(h0:0<=g)(h1:g<(W.IC.length:Int))(c0:0<=c)(c1:c<((gi W.IC g).IE.length:Int)){i d:Int}(hi:0<=i)(hd:0<=d):Qc (RA W g c s) i d=if g=i/\c=d then s else Qc W i d:=by
 unfold Qc YtnclplgaicdapaaGreatDoor.RA;rw[YY h0 h1 hi]
 by_cases e:g=i
 ·subst e;rw[C' rfl,QE _ _ c0 c1 hd]
  by_cases e2:c=d
  ·rw[C' e2,C' ⟨rfl,e2⟩]
  ·rw[B' e2,B' (fun h=>e2 h.2)]
 ·rw[B' e,B' (fun h=>e h.1)]
theorem XO{W:Q8}{g c:Int}{s:LI}(h0:0<=g)(h1:g<(W.IC.length:Int)):Z2 W.IC (RA W g c s).IC:=JE h0 h1 rfl rfl rfl
theorem H0{W:Q8}{g c:Int}{s:LI}(h0:0<=g)(h1:g<(W.IC.length:Int)){i d:Int}(hi:0<=i):JY (RA W g c s) i d=JY W i d:=by
 unfold JY YtnclplgaicdapaaGreatDoor.RA;rw[YY h0 h1 hi];split
 ·rename_i e; subst e; rfl
 ·rfl
theorem zga{W:Q8}{g c:Int}{s:LI}(h0:0<=g)(h1:g<(W.IC.length:Int)){i:Int}(hi:0<=i):(gi (RA W g c s).IC i).IQ=(gi W.IC i).IQ:=by
 unfold YtnclplgaicdapaaGreatDoor.RA;rw[YY h0 h1 hi];split
 ·rename_i e; subst e; rfl
 ·rfl
theorem zha{W:Q8}{g c:Int}{s:LI}(h0:0<=g)(h1:g<(W.IC.length:Int)){i:Int}(hi:0<=i):(gi (RA W g c s).IC i).IE.length=(gi W.IC i).IE.length:=by
 unfold YtnclplgaicdapaaGreatDoor.RA;rw[YY h0 h1 hi];split
 ·rename_i e; subst e; simp
 ·rfl
structure SW (K:Int) (W:Q8):Prop where
 a:WA W
 t:∀t:Int,0<=t->t<12->(Q7 W t).state≠0->Q6 W.IC (Q7 W t).group=true/\0<=(Q7 W t).IZ/\(Q7 W t).IZ<(W.ID.length:Int)
 tv:∀t:Int,0<=t->t<12->0<=(Q7 W t).v/\(Q7 W t).v<=K
 s:∀k c:Int,Q6 W.IC k=true->0<=c->c<(W.ID.length:Int)->0<=(Qc W k c).floor/\(Qc W k c).floor<=K/\0<=(Qc W k c).v/\(Qc W k c).v<=K/\1<=(Qc W k c).w/\(Qc W k c).w<=20
 cu:∀c:Int,0<=c->c<(W.ID.length:Int)->-1<=(gi W.ID c).cur/\(gi W.ID c).cur<12
structure SF (F K:Int) (W:Q8):Prop where
 w:SW K W
 f:∀k c:Int,Q6 W.IC k=true->0<=c->c<(W.ID.length:Int)->(Qc W k c).floor<=F
theorem SW.mono{K K':Int}{W:Q8}(h:SW K W)(hk:K<=K'):SW K' W:=
 ⟨h.a,h.t,fun t a b=>by have:=h.tv t a b; omega,fun k c u a b=>by have:=h.s k c u a b; omega,h.cu⟩
theorem SW.sf{K:Int}{W:Q8}(h:SW K W):SF K K W:=⟨h,fun k c u a b=>(h.s k c u a b).2.1⟩
theorem SF.mono{F K F' K':Int}{W:Q8}(h:SF F K W)(hf:F<=F')(hk:K<=K'):SF F' K' W:=⟨h.w.mono hk,fun k c u a b=>by have:=h.f k c u a b; omega⟩
theorem SW.li{K:Int}{W:Q8}(h:SW K W){t:Int}(t0:0<=t)(t1:t<(W.tasks.length:Int))(hs:(Q7 W t).state=1):Q6 W.IC (Q7 W t).group=true/\0<=(Q7 W t).IZ/\(Q7 W t).IZ<(W.ID.length:Int):=by
 have hl:=h.a.t;exact h.t t t0 Qo Qo
theorem SF.RA{F K:Int}{W:Q8}(h:SF F K W){g c:Int}{s:LI}(hu:Q6 W.IC g=true)(c0:0<=c)(c1:c<(W.ID.length:Int))(f0:0<=s.floor)(f1:s.floor<=F)(fk:s.floor<=K)(v0:0<=s.v)(v1:s.v<=K)(w1:1<=s.w)(w2:s.w<=20):SF F K (RA W g c s):=by
 obtain⟨u0,u1,_⟩:=Q4.1 hu;have hl:=h.w.a.gl;have hs:=h.w.a.sl hu;have hT:=XO (W:=W) (g:=g) (c:=c) (s:=s) u0 u1
 have e:∀k d:Int,Q6 (YtnclplgaicdapaaGreatDoor.RA W g c s).IC k=true->0<=d->Qc (YtnclplgaicdapaaGreatDoor.RA W g c s) k d=if g=k/\c=d then s else Qc W k d:=fun k d uk hd=>by
  rw[hT.cK] at uk;exact Uv u0 u1 c0 Qo (Q4.1 uk).1 hd
 refine⟨⟨h.w.a.RA u0 Qo,fun t a b n=>by rw[hT.cK]; exact h.w.t t a b n,h.w.tv,fun k d uk a b=>?_,h.w.cu⟩,fun k d uk a b=>?_⟩
 ·rw[e k d uk a];rw[hT.cK] at uk;split
  ·exact⟨f0,fk,v0,v1,w1,w2⟩
  ·exact h.w.s k d uk a b
 ·rw[e k d uk a];rw[hT.cK] at uk;split
  ·exact f1
  ·exact h.f k d uk a b
def ZS(W:Q8)(k c:Int):LI:=
 { Qc W k c with
  v:=if (QT W k c && !JY W k c)=true/\(Qc W k c).on=false then (Qc W (gi W.IC k).parent c).floor+Y9 ((Qc W k c).v-(Qc W (gi W.IC k).parent c).floor) (Qc W k c).w else (Qc W k c).v
  on:=QT W k c && !JY W k c }
def Zj(W:Q8)(c d:Int):Nat->Q8
 | 0=>W
 | k+1=>if (gi (Zj W c d k).IC (k:Int)).used=true/\dep 3 (Zj W c d k).IC (k:Int)=d then RA (Zj W c d k) (k:Int) c (ZS (Zj W c d k) (k:Int) c) else Zj W c d k
theorem zro{W:Q8}{c d:Int}(h:d≠0):Zj W c d 1=W:=by
 show (if (gi W.IC ((0:Nat):Int)).used=true/\dep 3 W.IC ((0:Nat):Int)=d then _ else W)=W;refine B' fun hc=>h ?_
 have:=hc.2;rw[show (((0:Nat):Int))=0 from rfl,ZZ] at this;exact this.symm
def YL(W:Q8)(c:Int):Nat->Q8
 | 0=>W
 | j+1=>Zj (YL W c j) c (3-(j:Int)) 8
def QF(W:Q8)(c:Int):Q8:=YL W c 3
abbrev Qi:Int:=34686091440
end Go.Proofs.YtnclplgaicdapaaGreatDoor
