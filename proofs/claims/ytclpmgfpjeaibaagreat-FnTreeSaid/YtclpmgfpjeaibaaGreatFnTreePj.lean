/- Part 10 of what the law FnTree needs: the engine, the functions' propositions, the contracts. -/
import Derived.Test.YtclpmgfpjeaibaaGreatFnTreePi
import Derived.Laws.StructEq
namespace Go.Proofs.YtclpmgfpjeaibaaGreat
open Go.RowKit
set_option linter.unusedVariables false
set_option linter.unusedSimpArgs false
set_option maxRecDepth 10000
def F7 (P:Program):List Field->Nat->List Value->List Value->Option Bool
 | [],_,[],[]=>some true
 | f :: r, k, x :: xs, y :: ys => bif decide (f.name ≠ "_") && Nat.beq f.offset k then
   (match F7 P r (k+1) xs ys with
   | some q=>(match P.underlying f.type,x,y with
    | some (.int _),.int a n,.int b m=>bif decide (a=b) then some ((n==m)&&q) else none
    | some .bool,.bool n,.bool m=>some ((n==m)&&q)
    | some .string,.string n,.string m=>some (QX n m&&q)
    | _,_,_=>none)
   | none=>none) else none
 | _,_,_,_=>none
theorem LK {P:Program} (d:Nat) (w:World) (xs ys:List Value):∀(fs:List Field) (k:Nat) (b:Bool),F7 P fs k (xs.drop k) (ys.drop k)=some b->(Op.eqFields (d+1) xs.toArray ys.toArray fs).run P w = .ok b w
 | [],k,b,h=>by
  have hb:some true=some b:=by
   cases ex:xs.drop k with
   | nil=>
    cases ey:ys.drop k with
    | nil=>rw [ex,ey] at h; exact h
    | cons y ys'=>rw [ex,ey] at h; cases h
   | cons x xs'=>rw [ex] at h; cases h
  simp only [Option.some.injEq] at hb
  subst hb
  simp [Op.eqFields]
 | f::r,k,b,h=>by
  have hx:∀{l:List Value} {x:Value} {q:List Value},l.drop k=x::q->l[k]? = some x/\l.drop (k+1)=q:=fun {l x q} e=>by
   have h1:l[k]? = (l.drop k)[0]? := by simp
   have h2:l.drop (k+1)=(l.drop k).drop 1:=by simp
   rw [h1,h2,e]; simp
  cases exx:xs.drop k with
  | nil=>rw [exx] at h; cases h
  | cons x xs'=>
  cases eyy:ys.drop k with
  | nil=>rw [exx,eyy] at h; cases h
  | cons y ys'=>
   rw [exx,eyy] at h
   simp only [F7] at h
   obtain ⟨gx,dx⟩:=hx exx
   obtain ⟨gy,dy⟩:=hx eyy
   cases hc : (decide (f.name ≠ "_") && Nat.beq f.offset k) with
   | false=>rw [hc] at h; cases h
   | true=>
    rw [hc] at h
    simp only [cond_true] at h
    simp only [Bool.and_eq_true,decide_eq_true_eq] at hc
    have hof:=Nat.eq_of_beq_eq_true hc.2
    split at h
    ·rename_i q hq
     have ih:=LK d w xs ys r (k+1) q (by rw [dx,dy]; exact hq)
     have hpart:∀{D:TypeDesc},P.underlying f.type=some D->Oa D=false->(part f.type xs.toArray f.offset).run P w = .ok x w/\(part f.type ys.toArray f.offset).run P w = .ok y w:=fun {D} hu hD=>by
      rw [hof]
      simp [part,U0 hu,hD,gx,gy]
     split at h
     ·rename_i K a n b' m hu
      cases hab:decide (a=b') with
      | false=>rw [hab] at h; cases h
      | true=>
       have:=of_decide_eq_true hab
       subst this
       rw [hab] at h
       simp only [cond_true,Option.some.injEq] at h
       subst h
       obtain ⟨p1,p2⟩:=hpart hu rfl
       simp only [Op.eqFields,if_pos hc.1,Sem.run_bind,p1,p2,Result.andThen_ok,run_equalIn_int w d f.type a K n m hu,Sem.run_ite]
       cases n==m <;> simp [ih]
     ·rename_i n m hu
      simp only [Option.some.injEq] at h
      subst h
      obtain ⟨p1,p2⟩:=hpart hu rfl
      simp only [Op.eqFields,if_pos hc.1,Sem.run_bind,p1,p2,Result.andThen_ok,run_equalIn_bool' w d f.type n m hu,Sem.run_ite]
      cases n==m <;> simp [ih]
     ·rename_i n m hu
      simp only [Option.some.injEq] at h
      subst h
      obtain ⟨p1,p2⟩:=hpart hu rfl
      simp only [Op.eqFields,if_pos hc.1,Sem.run_bind,p1,p2,Result.andThen_ok,run_equalIn_string w d f.type n m hu,Sem.run_ite]
      unfold QX
      cases n.toList==m.toList <;> simp [ih]
     ·cases h
    ·cases h
structure zdk (P:Program) (t:TypeId):Prop where
 u:P.underlying t=some (.struct (P.fieldsOf t))
 s:P.stoodInHeld t=false
 g:P.eqGuardType P.depth t=false
theorem LL {P:Program} {t:TypeId} (F:zdk P t) {xs ys:List Value} {b:Bool} (h:F7 P (P.fieldsOf t).toList 0 xs ys=some b) (w:World):(Op.equal t (.agg xs.toArray) (.agg ys.toArray)).run P w = .ok b w:=by
 have:=run_equalIn_struct (P:=P) w 9999 t xs.toArray ys.toArray F.u F.s;rw [LK 9998 w xs ys _ 0 b (by simpa using h)] at this;exact this
theorem zc1 {P:Program} {t:TypeId} (F:zdk P t) {xs ys:List Value} {b:Bool} (h:F7 P (P.fieldsOf t).toList 0 xs ys=some b) (x y:Operand) (w:World):((do eqGuard .eql t x y (.agg xs.toArray) (.agg ys.toArray); binOp .eql t (.agg xs.toArray) (.agg ys.toArray)):Sem Value).run P w = .ok (.bool b) w:=by
 have:=LL F h w;simp only [Op.equal,Op.maxDepth] at this;simp only [Sem.run_bind,run_eqGuard_agg w .eql t x y _ _ F.g,Result.andThen_ok,run_eql_struct,this]
theorem VY:zdk Tryz.prog Qv:=⟨by kernel_rfl,by kernel_rfl,by kernel_rfl⟩
def XZ (p:Int) (n:ByteArray):Value:=.agg #[.int .i64 p,.string n]
theorem zb7 (p q:Int) (n m:ByteArray):F7 Tryz.prog (Tryz.prog.fieldsOf Qv).toList 0 [.int .i64 p,.string n] [.int .i64 q,.string m]=some ((p==q)&&(QX n m&&true)):=by kernel_rfl
theorem A9 (p q:Int) (n m:ByteArray) (w:World):(Op.equal Qv (XZ p n) (XZ q m)).run Tryz.prog w = .ok (decide (p=q/\n=m)) w:=by
 have:=LL VY (zb7 p q n m) w
 have e:((p==q)&&(QX n m&&true))=decide (p=q/\n=m):=by
  rw [LN,Bool.and_true]
  by_cases h1:p=q <;> by_cases h2:n=m <;> simp [h1,h2]
 rw [e] at this;exact this
theorem za4 (p:Int) (n:ByteArray) (w:World):∀(es:List MapEntry) (i:Nat),(∀e∈es,∃q m v,e.key=XZ q m/\e.val = .int .i64 v)->
  (∃(j:Nat) (v:Int),(Instr.findAsking Qv (XZ p n) es i).run Tryz.prog w = .ok (some (j,.int .i64 v)) w/\∃e∈es,e.key=XZ p n) \/
  ((Instr.findAsking Qv (XZ p n) es i).run Tryz.prog w = .ok none w/\∀e∈es,e.key≠XZ p n)
 | [],i,_=>.inr ⟨by simp [Instr.findAsking],fun e he=>by cases he⟩
 | e::r,i,h=>by
  obtain ⟨q,m,v,hk,hv⟩:=h e (List.mem_cons_self ..)
  by_cases hq:p=q/\n=m
  ·refine .inl ⟨i,v,?_,e,List.mem_cons_self ..,by rw [hk,hq.1,hq.2]⟩;simp only [Instr.findAsking,hk,Sem.run_bind,A9,decide_eq_true hq,Result.andThen_ok,if_true,Sem.run_pure,hv]
  ·have hstep:(Instr.findAsking Qv (XZ p n) (e::r) i).run Tryz.prog w=(Instr.findAsking Qv (XZ p n) r (i+1)).run Tryz.prog w:=by
    simp only [Instr.findAsking,hk,Sem.run_bind,A9,decide_eq_false hq,Result.andThen_ok,Bool.false_eq_true,if_false]
   have hne:e.key≠XZ p n:=fun e'=>by
    rw [hk] at e';simp only [XZ,Value.agg.injEq,List.toArray_inj,Array.mk.injEq,List.cons.injEq,Value.int.injEq,true_and,Value.string.injEq,and_true] at e';exact hq ⟨e'.1.symm,e'.2.symm⟩
   rcases za4 p n w r (i+1) (fun x hx=>h x (List.mem_cons_of_mem _ hx)) with ⟨j,v',h1,x,hx,h2⟩ | ⟨h1,h2⟩
   ·exact .inl ⟨j,v',by rw [hstep]; exact h1,x,List.mem_cons_of_mem _ hx,h2⟩
   ·exact .inr ⟨by rw [hstep]; exact h1,fun x hx=>by
     rcases List.mem_cons.1 hx with rfl | hx
     ·exact hne
     ·exact h2 x hx⟩
theorem Hy (p:Int) (n:ByteArray) (w:World) (es:List MapEntry) (h:∀e∈es,∃q m v,e.key=XZ q m/\e.val = .int .i64 v) :
  (∃(j:Nat) (v:Int),(Instr.findKey Qv (XZ p n) es).run Tryz.prog w = .ok (some (j,.int .i64 v)) w/\∃e∈es,e.key=XZ p n) \/
  ((Instr.findKey Qv (XZ p n) es).run Tryz.prog w = .ok none w/\∀e∈es,e.key≠XZ p n):=by
 cases es with
 | nil=>exact .inr ⟨by simp [Instr.findKey,run_underlying VY.u,Instr.findNow],fun e he=>by cases he⟩
 | cons e r=>
  have hs:(Instr.findKey Qv (XZ p n) (e::r)).run Tryz.prog w=(Instr.findAsking Qv (XZ p n) (e::r) 0).run Tryz.prog w:=by
   simp [Instr.findKey,run_underlying VY.u,Instr.findNow,Instr.sameNow]
  rw [hs];exact za4 p n w (e::r) 0 h
theorem F4:∃a b:Field,(Tryz.prog.fieldsOf Qv).toList=[a,b]/\a.type=Qb/\a.offset=0/\b.type=Zk/\b.offset=1:=⟨(Tryz.prog.fieldsOf Qv)[0]!,(Tryz.prog.fieldsOf Qv)[1]!,by kernel_rfl,by kernel_rfl,by kernel_rfl,by kernel_rfl,by kernel_rfl⟩
theorem P1 (em:Bool) (p:Int) (n:ByteArray) (w:World):(Instr.checkKey em 10000 Qv (XZ p n)).run Tryz.prog w = .ok () w:=by
 obtain ⟨a,b,hl,a1,a2,b1,b2⟩:=F4
 have p1:(part Qb #[.int .i64 p,.string n] 0).run Tryz.prog w = .ok (.int .i64 p) w:=by simp [part,U0 zmz,Oa]
 have p2:(part Zk #[.int .i64 p,.string n] 1).run Tryz.prog w = .ok (.string n) w:=by simp [part,U0 Bb,Oa]
 have c1:∀d:Nat,(Instr.checkKey em (d+1) Qb (.int .i64 p)).run Tryz.prog w = .ok () w:=fun d=>by simp [Instr.checkKey,run_underlying zmz]
 have c2:∀d:Nat,(Instr.checkKey em (d+1) Zk (.string n)).run Tryz.prog w = .ok () w:=fun d=>by simp [Instr.checkKey,run_underlying Bb]
 have key:∀d:Nat,(Instr.checkKey em (d+1+1) Qv (XZ p n)).run Tryz.prog w = .ok () w:=fun d=>by
  rw [Instr.checkKey]
  simp only [XZ,Sem.run_bind,run_underlying VY.u,Result.andThen_ok]
  rw [<-Array.forIn_toList,hl]
  by_cases ha : a.name ≠ "_" <;> by_cases hb : b.name ≠ "_" <;> simp [ha, hb, a1, a2, b1, b2, p1, p2, c1, c2]
 exact key 9998
theorem Hj:Tryz.prog.underlying Zi=some (.map Qv Qb):=by kernel_rfl
theorem zpg (w:World):(zeroValue Qb).run Tryz.prog w = .ok (.int .i64 0) w:=by
 have h:(match Tryz.prog.info? Qb with | some i=>i.zero | none=>none)=some (.int .i64 0):=by kernel_rfl
 cases hi:Tryz.prog.info? Qb with
 | none=>rw [hi] at h; cases h
 | some i=>
  rw [hi] at h;simp only at h;simp [zeroValue,XD hi,h]
def KG (w:World) (b:Nat) (es:Array MapEntry):Prop:=(∃c,w.heap[b]? = some (.map es c))/\∀e∈es.toList,∃q m v,e.key=XZ q m/\e.val = .int .i64 v
theorem zjj {w:World} {b:Nat} {es:Array MapEntry} (h:KG w b es) (p:Int) (n:ByteArray) :
  ∃(v:Int) (ok:Bool),(Instr.lookup Zi (.map (some b)) (XZ p n) true).run Tryz.prog w = .ok (.tuple #[.int .i64 v,.bool ok]) w/\(ok=true↔∃e∈es.toList,e.key=XZ p n):=by
 obtain ⟨⟨c,hc⟩,hes⟩:=h;have hg:(getObj b).run Tryz.prog w = .ok (.map es c) w:=by simp [getObj,Sem.run,hc]
 rcases Hy p n w es.toList hes with ⟨j,v,h1,h2⟩ | ⟨h1,h2⟩
 ·exact ⟨v,true,by simp [Instr.lookup,run_underlying Hj,hg,P1,h1],by simpa using h2⟩
 ·exact ⟨0,false,by simp [Instr.lookup,run_underlying Hj,hg,P1,h1,zpg],⟨fun h=>(by cases h),fun ⟨e,he,hk⟩=>absurd hk (h2 e he)⟩⟩
theorem zl9 {w:World} {b:Nat} {es:Array MapEntry} (h:KG w b es) {p:Int} {n:ByteArray} (hno:∀e∈es.toList,e.key≠XZ p n) (v:Int) :
  ∃w' c,((do Instr.mapUpdate Zi (.map (some b)) (XZ p n) (.int .i64 v); pure undef):Sem Value).run Tryz.prog w = .ok undef w'/\Q0 [b] w w'/\KG w' b (es.push { key:=XZ p n,val:=.int .i64 v,born:=c }):=by
 obtain ⟨⟨c,hc⟩,hes⟩:=h;have hg:(getObj b).run Tryz.prog w = .ok (.map es c) w:=by simp [getObj,Sem.run,hc]
 have hfk:(Instr.findKey Qv (XZ p n) es.toList).run Tryz.prog w = .ok none w:=by
  rcases Hy p n w es.toList hes with ⟨j,v,_,e,he,hk⟩ | ⟨h1,_⟩
  ·exact absurd hk (hno e he)
  ·exact h1
 have hs:(setObj b (.map (es.push { key:=XZ p n,val:=.int .i64 v,born:=c }) (c+1))).run Tryz.prog w = .ok () { w with heap:=w.heap.setIfInBounds b (.map (es.push { key:=XZ p n,val:=.int .i64 v,born:=c }) (c+1)) }:=by
  simp [setObj,Sem.run,hc]
 have hlt:=T9 hc;refine ⟨{ w with heap:=w.heap.setIfInBounds b (.map (es.push { key:=XZ p n,val:=.int .i64 v,born:=c }) (c+1)) },c,by simp [Instr.mapUpdate,run_underlying Hj,hg,P1,hfk,hs],⟨rfl,rfl,rfl,by simp,fun k _ hk => ?_⟩,⟨c+1,by simp [hlt]⟩,fun e he => ?_⟩
 ·have:b≠k:=fun e=>hk (by simp [e])
  show (w.heap.setIfInBounds b _)[k]? = _;rw [Array.getElem?_setIfInBounds_ne this]
 ·rw [Array.toList_push,List.mem_append] at he;rcases he with he | he
  ·exact hes e he
  ·rw [List.mem_singleton] at he;subst he;exact ⟨p,n,v,rfl,rfl⟩
theorem KG.ext {w w':World} {b:Nat} {es:Array MapEntry} {bs:List Nat} (h:KG w b es) (hx:Q0 bs w w') (hb:b∉bs):KG w' b es:=by
 obtain ⟨⟨c,hc⟩,hes⟩:=h;exact ⟨⟨c,TT hc hx hb⟩,hes⟩
def Dw (p:OA):List Value:=[.pointer p]
theorem zhv (x:OA):∃v r,Dw x=v::r:=⟨_,_,rfl⟩
theorem Td:zg1 Tryz.prog Dw 1 ZS 8 none:=Kf (by kernel_rfl) fun _=>rfl
theorem zgy:Tryz.prog.underlying O1=some (.slice ZS):=by kernel_rfl
def JN (w:World) (b:Nat) (g:Int) (n:ByteArray) (up:OA):Prop:=w.heap[b]? = some (.cells ([.int .i64 g,.string n,.pointer up]:List Value).toArray LR (0,0))
theorem JN.ext {w w':World} {b:Nat} {g:Int} {n:ByteArray} {up:OA} {bs:List Nat} (h:JN w b g n up) (hx:Q0 bs w w') (hb:b∉bs):JN w' b g n up:=TT h hx hb
theorem JN.cells {w:World} {b:Nat} {g:Int} {n:ByteArray} {up:OA} (h:JN w b g n up) {bs:List Nat} (hb:b∉bs):Q2 bs w (some ⟨b,0,none⟩) 0 [.int .i64 g,.string n,.pointer up]:=
 EO h hb fun j v hj=>by rw [Nat.zero_add,Nat.zero_add]; exact hj
def CH (gs:List Z0) (nb:Int->Nat) (x:Int):OA:=if x=0 then none else some ⟨nb (gi gs x).parent,0,none⟩
structure Ns (bs:List Nat) (w:World) (gs:List Z0) (nb:Int->Nat):Prop where
 node:∀x:Int,Q6 gs x=true->Q2 bs w (some ⟨nb x,0,none⟩) 0 [.int .i64 x,.string (gi gs x).name,.pointer (CH gs nb x)]
 par:∀x:Int,x≠0->Q6 gs x=true->Q6 gs (gi gs x).parent=true
theorem Ns.ext {bs:List Nat} {w w':World} {gs:List Z0} {nb:Int->Nat} (h:Ns bs w gs nb) (hx:Q0 bs w w'):Ns bs w' gs nb:=⟨fun x hu=>(h.node x hu).ext hx,h.par⟩
theorem Ns.less {bs cs:List Nat} {w:World} {gs:List Z0} {nb:Int->Nat} (h:Ns bs w gs nb) (hs:∀x∈cs,x∈bs):Ns cs w gs nb:=⟨fun x hu=>(h.node x hu).less hs,h.par⟩
def DO (gs:List Z0) (f:Nat) (x:Int) (s:Int):Int:=if dep f gs x<0 then -1 else s+dep f gs x
theorem zd9 {gs:List Z0} {nb:Int->Nat} {w:World} {bs:List Nat} (h:Ns bs w gs nb) {x:Int} (hu:Q6 gs x=true):PX bs Xq #[.pointer (some ⟨nb x,0,none⟩)] w (.int .i64 (DO gs 3 x 0)):=
 LB (some ⟨nb x,0,none⟩) fun wr hx=>by
  have h:=(h.ext hx).less (cs:=[]) (by simp);refine ⟨fun vs=>(∃(y:Int) (s:Nat),Q6 gs y=true/\s<=4/\vs=[.pointer (some ⟨nb y,0,none⟩),.int .i64 (s:Int)]/\(s<=3->DO gs (3 - s) y s=DO gs 3 x 0)/\(s=4->DO gs 3 x 0 = -1))\/∃s:Nat,s<=4/\vs=[.pointer none,.int .i64 (s:Int)]/\DO gs 3 x 0 = -1,fun vs=>(5 - Yf 1 vs).toNat,.inl ⟨x,0,hu,by omega,rfl,fun _=>rfl,fun h=>by omega⟩,?_⟩;rintro n1 st (⟨y,s,hy,hs,he,h1,h2⟩ | ⟨s,hs,he,h1⟩)
  ·simp only [List.cons.injEq,Value.int.injEq,Value.pointer.injEq,true_and,and_true] at he;obtain ⟨rfl,rfl⟩:=he;refine ⟨fun hc => ?_,fun hc => ?_⟩
   ·have hs3:s<=3:=by
     simp only [Option.isNone_some,Bool.not_false,Bool.true_and,decide_eq_true_eq] at hc;omega
    have hn:=h.node y hy;refine ⟨rfl,y,hn.get 0 _ rfl,fun hz => ?_,fun hz => ?_⟩
    ·have hz:y=0:=by simpa using hz
     rw [<-h1 hs3];subst hz;unfold DO;rw [ZN,if_neg (by omega),Int.add_zero]
    ·have hz:y≠0:=by simpa using hz
     have hm:CH gs nb y=some ⟨nb (gi gs y).parent,0,none⟩:=by unfold CH; rw [if_neg hz]
     refine ⟨⟨by omega,by omega⟩,rfl,_,by have:=hn.get 2 _ rfl; exact this,.inl ⟨(gi gs y).parent,s+1,h.par y hz hy,by omega,by rw [hm]; simp,fun hs' => ?_,fun hs' => ?_⟩,?_⟩
     ·rw [<-h1 hs3];have e:3 - s=(3 - (s+1))+1:=by omega
      rw [e];unfold DO;simp only [dep,if_neg hz]
      by_cases hd:dep (3 - (s+1)) gs (gi gs y).parent<0
      ·rw [if_pos hd,if_pos hd,if_pos (by omega)]
      ·rw [if_neg hd,if_neg hd,if_neg (by omega)]; omega
     ·rw [<-h1 hs3];have e:3 - s=0:=by omega
      rw [e];unfold DO;simp only [dep,if_neg hz];rfl
     ·show (5 - ((s:Int)+1)).toNat<(5 - (s:Int)).toNat;omega
   ·have hs4:s=4:=by
     simp only [Option.isNone_some,Bool.not_false,Bool.true_and,decide_eq_false_iff_not] at hc;omega
    rw [h2 hs4]
  ·simp only [List.cons.injEq,Value.int.injEq,Value.pointer.injEq,true_and,and_true] at he;obtain ⟨rfl,rfl⟩:=he;refine ⟨fun hc=>by simp at hc,fun _=>by rw [h1]⟩
section
variable {gs:List Z0} {ms:Nat->MG} {o:OA} {c:Nat} {w:World} {bs:List Nat}
theorem X8 {g:Int} (h:TS bs w o gs ms) (hl:gs.length<=maxLen):PX bs ZP #[.slice o gs.length c,.int .i64 g] w (.bool (Q6 gs g)):=
 GU o gs.length c g fun wr hx=>by
  have h:=(h.ext hx).less (cs:=[]) (by simp);have:=Je
  have e:X3 g 0 ((gs.length:Int) - 1)=(decide (g>=0)&&decide (g<(gs.length:Int))):=by
   unfold X3
   congr 1
   exact decide_eq_decide.2 (by omega)
  refine ⟨⟨by omega,by omega⟩,_,PA,fun q => ?_,(gi gs g).used,fun q => ?_,by rw [e]; rfl⟩
  ·have q:=Qx.1 q;exact h.ix (by omega) (by omega)
  ·have q:=Qx.1 q;exact h.used (by omega) (by omega)
theorem C9 (h:TS [] w o gs ms) (hl:gs.length<=maxLen) :
  Cz Jr #[.slice o gs.length c] w fun e w'=>∃(o':OA) (L C:Nat) (ok:Bool),e = .returned (.tuple #[.slice o' L C,.bool ok])/\ok=Yu gs/\Q0 [] w w'/\
   (ok=false->L=0)/\(ok=true->L=8/\∃(pl:List (OA)) (nb:Int->Nat),pl.length=8/\Rd Dw 1 [] w' o' pl/\(∀g:Int,0<=g->g<8->gi pl g=if (gi gs g).used then some ⟨nb g,0,none⟩ else none)/\Ns [] w' gs nb):=by
 refine (AQ o gs.length c (R:=fun v w'=>∃(o':OA) (L C:Nat) (ok:Bool),v = .tuple #[.slice o' L C,.bool ok]/\ok=Yu gs/\Q0 [] w w'/\
   (ok=false->L=0)/\(ok=true->L=8/\∃(pl:List (OA)) (nb:Int->Nat),pl.length=8/\Rd Dw 1 [] w' o' pl/\(∀g:Int,0<=g->g<8->gi pl g=if (gi gs g).used then some ⟨nb g,0,none⟩ else none)/\Ns [] w' gs nb)) ?_).mono fun e w' ⟨v,he,o',L,C,ok,hv,hr⟩=>⟨o',L,C,ok,by rw [he,hv],hr⟩
 have bad:∀w',Q0 [] w w'->¬Z6 gs->∃(o':OA) (L C:Nat) (ok:Bool),Value.tuple #[.slice none 0 0,.bool false] = .tuple #[.slice o' L C,.bool ok]/\ok=Yu gs/\Q0 [] w w'/\
   (ok=false->L=0)/\(ok=true->L=8/\∃(pl:List (OA)) (nb:Int->Nat),pl.length=8/\Rd Dw 1 [] w' o' pl/\(∀g:Int,0<=g->g<8->gi pl g=if (gi gs g).used then some ⟨nb g,0,none⟩ else none)/\Ns [] w' gs nb):=fun w' hx hno=>
  ⟨none,0,0,false,rfl,(LQ hno).symm,hx,fun _=>rfl,fun h=>by cases h⟩
 have l8:((((gs.length:Nat):Int) != 8)=false)->gs.length=8:=fun q=>by have:=(bne_eq_false_iff_eq).1 q; omega
 have i0:∀q:(((gs.length:Nat):Int) != 8)=false,(0:Int)<(gs.length:Int):=fun q=>by have:=l8 q; omega
 refine ⟨fun q=>h.ix (Int.le_refl _) (i0 q),(gi gs 0).used,fun q=>h.used (Int.le_refl _) (i0 q),fun q => ?_,(gi gs 0).parent,fun q => ?_,fun q => ?_,(gi gs 0).name,fun q => ?_,fun q => ?_,fun q => ?_⟩
 ·simp only [Bool.or_eq_false_iff] at q; exact h.ix (Int.le_refl _) (i0 q.1)
 ·simp only [Bool.or_eq_false_iff] at q; exact h.parent (Int.le_refl _) (i0 q.1)
 ·simp only [Bool.or_eq_false_iff] at q; exact h.ix (Int.le_refl _) (i0 q.1.1)
 ·simp only [Bool.or_eq_false_iff] at q; exact h.name (Int.le_refl _) (i0 q.1.1)
 ·intro w1 hx1;refine bad w1 hx1 fun ht => ?_
  have e:((gs.length:Nat):Int)=8:=by have:=ht.len; omega
  rw [e,ht.ru,ht.rp,ht.rn,LN] at q;simp at q
 simp only [Bool.or_eq_false_iff,Bool.not_eq_false',bne_eq_false_iff_eq,Xe] at q;obtain ⟨⟨⟨q1,ru⟩,rp⟩,rn⟩:=q;have hl8:gs.length=8:=by omega
 intro wr hx _;refine ⟨some ⟨wr.heap.size,0,none⟩,8,8,wr.alloc (.cells ((List.replicate 8 none).flatMap Dw).toArray ZS),PN Td zgy 8 (by decide) (by simp [maxLen]) wr,YT,?_⟩;have hO0:=VB (enc:=Dw) Td.len ZS 8 none wr;have hX0:Q0 [] wr (wr.alloc (.cells ((List.replicate 8 none).flatMap Dw).toArray ZS)):=Z8 wr _;generalize wr.alloc (.cells ((List.replicate 8 (none:OA)).flatMap Dw).toArray ZS)=wv at hO0 hX0
 refine Vb 8 0 rfl (fun k w1=>k<=8/\Q0 [] wr w1/\∃(pl:List (OA)) (nb:Int->Nat),pl.length=8/\XR Dw 1 ZS wr.heap.size w1 (some ⟨wr.heap.size,0,none⟩) 8 pl/\
   (∀g:Int,0<=g->g<8->gi pl g=if g<(k:Int)/\(gi gs g).used=true then some ⟨nb g,0,none⟩ else none)/\
   (∀g:Int,0<=g->g<(k:Int)->(gi gs g).used=true->wr.heap.size<=nb g/\JN w1 (nb g) g (gi gs g).name none)/\
   (∀g g':Int,0<=g->g<(k:Int)->0<=g'->g'<(k:Int)->(gi gs g).used=true->(gi gs g').used=true->nb g=nb g'->g=g')) (fun w1 hx1 _=>⟨Nat.zero_le _,hX0.trans hx1,List.replicate 8 none,fun _=>0,rfl,hO0.ext0 hx1,fun g h0 h1 => ?_,fun g h0 h1=>by omega,fun g g' h0 h1=>by omega⟩) fun k w1 _ ⟨hk,hX,pl,nb,hpl,hO,hP,hN,hinj⟩=>⟨fun hlt => ?_,fun hge => ?_⟩
 ·rw [if_neg (fun hc=>by omega)];exact List.eq_of_mem_replicate (zh3 h0 (by simpa using h1))
 ·have hlt:=of_decide_eq_true hlt;have hr:=(h.ext hx).ext hX;have hk0:(0:Int)<=(k:Int):=by omega
  refine ⟨hr.ix hk0 hlt,_,hr.used hk0 hlt,fun hu=>⟨hr.ix hk0 hlt,_,hr.name hk0 hlt,fun b wb hxb hb hhb _ => ?_⟩,fun hu=>⟨⟨by omega,by omega⟩,fun w2 hx2 _=>QN (by omega) ⟨by omega,hX.trans hx2,pl,nb,hpl,hO.ext0 hx2,fun g h0 h1 => ?_,fun g h0 h1 hg => ?_,fun g g' h0 h1 h0' h1' hg hg' => ?_⟩⟩⟩
  ·have hOb:=hO.ext0 hxb;have hkl:(k:Int)<(pl.length:Int):=by rw [hpl]; omega
   have hix:=hOb.ix hk0 hkl;rw [hpl] at hix;refine ⟨hix,hOb.wr Td.len (by simp) hk0 hkl (j:=0) (n:=1) (by omega),⟨by omega,by omega⟩,fun w2 hx2 _=>QN (by omega) ⟨by omega,?_,pl.set k (some ⟨b,0,none⟩),fun g=>if g=(k:Int) then b else nb g,by rw [List.length_set]; exact hpl,?_,fun g h0 h1 => ?_,fun g h0 h1 hg => ?_,fun g g' h0 h1 h0' h1' hg hg' he => ?_⟩⟩
   ·exact (hOb.stoB _ _ (hX.trans hxb) (Nat.le_refl _)).trans hx2
   ·exact (hOb.sto Td.len (i:=(k:Int)) hk0 hkl (j:=0) (vs:=[.pointer (some ⟨b,0,none⟩)]) (x:=some ⟨b,0,none⟩) rfl (by simp)).ext0 hx2
   ·have:=Qt pl (some ⟨b,0,none⟩) (i:=(k:Int)) (j:=g) hk0 hkl h0;rw [Int.toNat_natCast] at this;rw [this]
    by_cases hgk:(k:Int)=g
    ·subst hgk;rw [if_pos rfl,if_pos ⟨by omega,hu⟩]
     dsimp only
     rw [if_pos rfl]
    ·rw [if_neg hgk,hP g h0 h1]
     dsimp only
     rw [show (if g=(k:Int) then b else nb g)=nb g from if_neg (fun e=>hgk e.symm)]
     by_cases hlt2:g<(k:Int)
     ·by_cases hgu:(gi gs g).used=true
      ·rw [if_pos ⟨hlt2,hgu⟩,if_pos ⟨by omega,hgu⟩]
      ·rw [if_neg (fun hc=>hgu hc.2),if_neg (fun hc=>hgu hc.2)]
     ·rw [if_neg (fun hc=>hlt2 hc.1),if_neg (fun hc=>by omega)]
   ·have hsz:Q0 (Qu (some ⟨wr.heap.size,0,none⟩)) wb (sto wb (some ⟨wr.heap.size,0,none⟩) (Int.toNat (k:Int)*1) [.pointer (some ⟨b,0,none⟩)]):=hOb.stoX _ _
    have hne:∀q,JN wb q g (gi gs g).name none->q∉Qu (some (⟨wr.heap.size,0,none⟩:Addr)):=fun q hq hm=>by
     simp only [Qu,List.mem_singleton] at hm;subst hm;rcases hOb with ⟨hc,_⟩ | ⟨b',sp,he,_,h2,_⟩
     ·cases hc
     ·simp only [Option.some.injEq,Addr.mk.injEq,and_true] at he;subst he;unfold JN at hq;rw [h2] at hq;simp only [Option.some.injEq,Obj.cells.injEq] at hq;exact absurd hq.2.1 (by decide)
    dsimp only
    by_cases hgk:g=(k:Int)
    ·subst hgk;rw [if_pos rfl];have hq:JN wb b (k:Int) (gi gs (k:Int)).name none:=hhb;exact ⟨Nat.le_trans hX.size hb,((hq.ext hsz (hne b hq)).ext hx2 (by simp))⟩
    ·rw [if_neg hgk];obtain ⟨n1,n2⟩:=hN g h0 (by omega) hg;have n3:=n2.ext hxb (by simp);exact ⟨n1,(n3.ext hsz (hne _ n3)).ext hx2 (by simp)⟩
   ·have fresh:∀q:Int,0<=q->q<(k:Int)->(gi gs q).used=true->nb q≠b:=fun q a1 a2 a3 e=>by
     have:=T9 (hN q a1 a2 a3).2;omega
    dsimp only at he
    by_cases hgk:g=(k:Int)
    ·by_cases hgk':g'=(k:Int)
     ·rw [hgk,hgk']
     ·rw [if_pos hgk,if_neg hgk'] at he;exact absurd he.symm (fresh g' h0' (by omega) hg')
    ·by_cases hgk':g'=(k:Int)
     ·rw [if_neg hgk,if_pos hgk'] at he;exact absurd he (fresh g h0 (by omega) hg)
     ·rw [if_neg hgk,if_neg hgk'] at he;exact hinj g g' h0 (by omega) h0' (by omega) hg hg' he
  ·rw [hP g h0 h1]
   by_cases hgk:g=(k:Int)
   ·subst hgk;rw [if_neg (fun hc=>by omega),if_neg (fun hc=>by rw [hu] at hc; exact absurd hc.2 (by decide))]
   ·by_cases hlt2:g<(k:Int)
    ·by_cases hgu:(gi gs g).used=true
     ·rw [if_pos ⟨hlt2,hgu⟩,if_pos ⟨by omega,hgu⟩]
     ·rw [if_neg (fun hc=>hgu hc.2),if_neg (fun hc=>hgu hc.2)]
    ·rw [if_neg (fun hc=>hlt2 hc.1),if_neg (fun hc=>by omega)]
  ·by_cases hgk:g=(k:Int)
   ·subst hgk; rw [hu] at hg; cases hg
   ·obtain ⟨n1,n2⟩:=hN g h0 (by omega) hg;exact ⟨n1,n2.ext hx2 (by simp)⟩
  ·have e1:g≠(k:Int):=fun e=>by subst e; rw [hu] at hg; cases hg
   have e2:g'≠(k:Int):=fun e=>by subst e; rw [hu] at hg'; cases hg'
   exact hinj g g' h0 (by omega) h0' (by omega) hg hg'
 ·have hge:=of_decide_eq_false hge;have hk8:k=8:=by omega
  subst hk8;intro w2 hx2 _;refine ⟨.map (some w2.heap.size),w2.alloc (.map #[] 0),by simp [Instr.makeMap],YT,?_⟩;have hM0:KG (w2.alloc (.map #[] 0)) w2.heap.size #[]:=⟨⟨0,Array.getElem?_push_size ..⟩,fun e he=>by cases he⟩;have hX2:Q0 [] wr (w2.alloc (.map #[] 0)):=(hX.trans hx2).trans (Z8 w2 _);have hO2:=(hO.ext0 hx2).ext0 (Z8 w2 (.map #[] 0))
  have hN2:∀g:Int,0<=g->g<8->(gi gs g).used=true->wr.heap.size<=nb g/\JN (w2.alloc (.map #[] 0)) (nb g) g (gi gs g).name none:=fun g h0 h1 hg=>
   ⟨(hN g h0 (by omega) hg).1,((hN g h0 (by omega) hg).2.ext hx2 (by simp)).ext (Z8 w2 _) (by simp)⟩
  have hP2:∀g:Int,0<=g->g<8->gi pl g=if (gi gs g).used=true then some ⟨nb g,0,none⟩ else none:=fun g h0 h1=>by
   rw [hP g h0 h1]
   by_cases hgu:(gi gs g).used=true
   ·rw [if_pos ⟨by omega,hgu⟩,if_pos hgu]
   ·rw [if_neg (fun hc=>hgu hc.2),if_neg hgu]
  have hinj2:∀g g':Int,0<=g->g<8->0<=g'->g'<8->(gi gs g).used=true->(gi gs g').used=true->nb g=nb g'->g=g':=fun g g' a b c d=>hinj g g' a (by omega) c (by omega)
  have hmb:wr.heap.size<=w2.heap.size:=(hX.trans hx2).size;generalize w2.heap.size=mb at hM0 hmb;generalize w2.alloc (.map #[] 0)=w3 at hM0 hX2 hO2 hN2;clear hX hO hN hP hinj
  refine Vb 8 1 rfl (fun k w1=>1<=k/\k<=8/\Q0 [] wr w1/\XR Dw 1 ZS wr.heap.size w1 (some ⟨wr.heap.size,0,none⟩) 8 pl/\
    (∀g:Int,0<=g->g<8->(gi gs g).used=true->JN w1 (nb g) g (gi gs g).name (if g<(k:Int) then CH gs nb g else none))/\
    (∃es,KG w1 mb es/\(∀e∈es.toList,∃g:Int,1<=g/\g<(k:Int)/\(gi gs g).used=true/\e.key=XZ (gi gs g).parent (gi gs g).name)/\∀g:Int,1<=g->g<(k:Int)->(gi gs g).used=true->∃e∈es.toList,e.key=XZ (gi gs g).parent (gi gs g).name)/\
    (∀g:Int,1<=g->g<(k:Int)->(gi gs g).used=true->J2 (gi gs g).name=true/\Q6 gs (gi gs g).parent=true/\∀h:Int,1<=h->h<g->(gi gs h).used=true->¬((gi gs h).parent=(gi gs g).parent/\(gi gs h).name=(gi gs g).name)))
   (fun w4 hx4 _=>⟨Nat.le_refl _,by omega,hX2.trans hx4,hO2.ext0 hx4,fun g h0 h1 hg => ?_,⟨#[],hM0.ext hx4 (by simp),(fun e he=>by cases he),fun g h1 h2=>by omega⟩,fun g h1 h2=>by omega⟩) fun k w4 _ ⟨hk1,hk,hX,hO,hN,⟨es,hM,hE1,hE2⟩,hT⟩=>⟨fun hlt => ?_,fun hge => ?_⟩
  ·have:=(hN2 g h0 h1 hg).2.ext hx4 (by simp)
   by_cases hg1:g<((1:Nat):Int)
   ·rw [if_pos hg1];have:g=0:=by omega
    subst this;exact this
   ·rw [if_neg hg1]; exact this
  ·have hlt:=of_decide_eq_true hlt;have hr:=(h.ext hx).ext hX;have hk0:(0:Int)<=(k:Int):=by omega
   have hkl:(k:Int)<(pl.length:Int):=by omega
   have hgl:(k:Int)<(gs.length:Int):=by omega
   have hPl:=hO.rd Td.len (bs:=[]) (by simp);have hix:=hO.ix hk0 hkl;rw [hpl] at hix;have hXw:Q0 [] w w4:=hx.trans hX;refine ⟨hix,gi pl (k:Int),hPl k hk0 hkl,fun hno => ?_,fun hyes => ?_⟩
   ·have hu:¬(gi gs (k:Int)).used=true:=fun hu=>by rw [hP2 k hk0 hlt,if_pos hu] at hno; cases hno
    refine ⟨⟨by omega,by omega⟩,fun w5 hx5 _=>QN (by omega) ⟨by omega,by omega,hX.trans hx5,hO.ext0 hx5,fun g h0 h1 hg => ?_,⟨es,hM.ext hx5 (by simp),fun e he => ?_,fun g h1 h2 hg => ?_⟩,fun g h1 h2 hg => ?_⟩⟩
    ·have:=(hN g h0 h1 hg).ext hx5 (by simp);have hgk:g≠(k:Int):=fun e=>hu (e▸hg)
     by_cases hg1:g<(k:Int)
     ·rw [if_pos hg1] at this; rw [if_pos (by omega)]; exact this
     ·rw [if_neg hg1] at this; rw [if_neg (by omega)]; exact this
    ·obtain ⟨g,a1,a2,a3⟩:=hE1 e he;exact ⟨g,a1,by omega,a3⟩
    ·have hgk:g≠(k:Int):=fun e=>hu (e▸hg)
     exact hE2 g h1 (by omega) hg
    ·have hgk:g≠(k:Int):=fun e=>hu (e▸hg)
     exact hT g h1 (by omega) hg
   ·have hu:(gi gs (k:Int)).used=true:=by
     cases hq:(gi gs (k:Int)).used with
     | true=>rfl
     | false=>rw [hP2 k hk0 hlt,hq] at hyes; cases hyes
    have hpk:gi pl (k:Int)=some ⟨nb (k:Int),0,none⟩:=by rw [hP2 k hk0 hlt,if_pos hu]
    refine ⟨hr.ix hk0 hgl,_,hr.name hk0 hgl,_,N0,fun _=>hr.ix hk0 hgl,(gi gs (k:Int)).parent,fun _=>hr.parent hk0 hgl,Q6 gs (gi gs (k:Int)).parent,fun _=>X8 hr hl,fun q => ?_,fun q => ?_⟩
    ·intro w5 hx5;refine bad w5 (hXw.trans hx5) fun ht => ?_
     rw [ht.nm k (by omega) hlt hu,ht.par k (by omega) hlt hu] at q;cases q
    ·simp only [Bool.or_eq_false_iff,Bool.not_eq_false'] at q;obtain ⟨qn,qp⟩:=q;obtain ⟨p0,p1,pu⟩:=Q4.1 qp;have p8:(gi gs (k:Int)).parent<8:=by omega
     have hixp:=hO.ix p0 (by omega);rw [hpl] at hixp;have hnk:=hN k hk0 hlt hu;rw [if_neg (by omega)] at hnk;have hpp:gi pl (gi gs (k:Int)).parent=some ⟨nb (gi gs (k:Int)).parent,0,none⟩:=by rw [hP2 _ p0 p8,if_pos pu]
     have hnb:nb (k:Int)∉Qu (some (⟨wr.heap.size,0,none⟩:Addr)):=fun hm=>by
      simp only [Qu,List.mem_singleton] at hm;rcases hO with ⟨hc,_⟩ | ⟨b',sp,he,_,h2,_⟩
      ·cases hc
      ·simp only [Option.some.injEq,Addr.mk.injEq,and_true] at he;subst he;unfold JN at hnk;rw [hm,h2] at hnk;simp only [Option.some.injEq,Obj.cells.injEq] at hnk;exact absurd hnk.2.1 (by decide)
     have hWr:YY [] w4 (some ⟨nb (k:Int),0,none⟩) (0+2) 1:=CQ hnk (by simp) (by show 0+(0+2+1)<=3; omega);have hsx:Q0 [nb (k:Int)] w4 (sto w4 (some ⟨nb (k:Int),0,none⟩) (0+2) [.pointer (some ⟨nb (gi gs (k:Int)).parent,0,none⟩)]):=P2 fun a ha=>by cases ha; simp
     have hbk:wr.heap.size<=nb (k:Int):=(hN2 k hk0 hlt hu).1;have hXs:Q0 [] wr (sto w4 (some ⟨nb (k:Int),0,none⟩) (0+2) [.pointer (some ⟨nb (gi gs (k:Int)).parent,0,none⟩)]):=hX.fresh hsx fun x hm=>.inl (by rw [List.mem_singleton.1 hm]; exact hbk)
     have hrs:=(h.ext hx).ext hXs;have hup:CH gs nb (k:Int)=some ⟨nb (gi gs (k:Int)).parent,0,none⟩:=by unfold CH; rw [if_neg (by omega)]
     have hNs:∀g:Int,0<=g->g<8->(gi gs g).used=true->JN (sto w4 (some ⟨nb (k:Int),0,none⟩) (0+2) [.pointer (some ⟨nb (gi gs (k:Int)).parent,0,none⟩)]) (nb g) g (gi gs g).name (if g<((k+1:Nat):Int) then CH gs nb g else none):=fun g h0 h1 hg=>by
      by_cases hgk:g=(k:Int)
      ·subst hgk;rw [if_pos (by omega),hup];exact El hnk
      ·have hne:nb g≠nb (k:Int):=fun e=>hgk (hinj2 g k h0 h1 hk0 hlt hg hu e)
       have:=(hN g h0 h1 hg).ext hsx (by simpa using hne)
       by_cases hg1:g<(k:Int)
       ·rw [if_pos hg1] at this; rw [if_pos (by omega)]; exact this
       ·rw [if_neg hg1] at this; rw [if_neg (by omega)]; exact this
     have hOs:XR Dw 1 ZS wr.heap.size (sto w4 (some ⟨nb (k:Int),0,none⟩) (0+2) [.pointer (some ⟨nb (gi gs (k:Int)).parent,0,none⟩)]) (some ⟨wr.heap.size,0,none⟩) 8 pl:=hO.ext hsx fun b hm hm'=>hnb (by rw [List.mem_singleton.1 hm'] at hm; exact hm)
     have hMs:KG (sto w4 (some ⟨nb (k:Int),0,none⟩) (0+2) [.pointer (some ⟨nb (gi gs (k:Int)).parent,0,none⟩)]) mb es:=hM.ext hsx fun hm=>by
      rw [List.mem_singleton] at hm;obtain ⟨⟨cc,hc⟩,_⟩:=hM;unfold JN at hnk;rw [<-hm,hc] at hnk;cases hnk
     refine ⟨hix,some ⟨nb (k:Int),0,none⟩,by rw [<-hpk]; exact hPl k hk0 hkl,hr.ix hk0 hgl,_,hr.parent hk0 hgl,hixp,some ⟨nb (gi gs (k:Int)).parent,0,none⟩,by rw [<-hpp]; exact hPl _ p0 (by omega),rfl,hWr,?_⟩;generalize sto w4 (some ⟨nb (k:Int),0,none⟩) (0+2) [.pointer (some ⟨nb (gi gs (k:Int)).parent,0,none⟩)]=w5 at hXs hrs hNs hOs hMs;refine ⟨hrs.ix hk0 hgl,_,hrs.parent hk0 hgl,hrs.ix hk0 hgl,_,hrs.name hk0 hgl,fun b1 hb1=>⟨hrs.name hk0 hgl,hrs.parent hk0 hgl,fun w6 hx6 hs6 => ?_⟩⟩;have hM6:=hMs.ext hx6 (by simp);obtain ⟨v,okk,hlook,hok⟩:=zjj hM6 (gi gs (k:Int)).parent (gi gs (k:Int)).name;have hb1':∀x∈[b1],wr.heap.size<=x\/x∈([]:List Nat):=fun x hm=>.inl (by rw [List.mem_singleton.1 hm]; exact Nat.le_trans hXs.size hb1)
     refine ⟨v,okk,w6,hlook,fun _ _=>rfl,fun hdup => ?_,fun hnew w7 hx7 hs7 => ?_⟩
     ·intro w7 hx7;refine bad w7 (hx.trans (((hXs.trans hx6).fresh hx7 hb1'))) fun ht => ?_
      obtain ⟨e,he,hk⟩:=hok.1 hdup;obtain ⟨g,a1,a2,a3,a4⟩:=hE1 e he;rw [a4] at hk;simp only [XZ,Value.agg.injEq,List.toArray_inj,Array.mk.injEq,List.cons.injEq,Value.int.injEq,true_and,Value.string.injEq,and_true] at hk;exact ht.uniq k g a1 a2 hlt hu a3 hk
     ·have hM7:=hM6.ext hx7 (fun hm=>by
       rw [List.mem_singleton] at hm;obtain ⟨⟨cc,hc⟩,_⟩:=hMs;have:=T9 hc;omega)
      have hnok:¬∃e∈es.toList,e.key=XZ (gi gs (k:Int)).parent (gi gs (k:Int)).name:=fun hc=>by
       have:=hok.2 hc;rw [hnew] at this; cases this
      obtain ⟨w8,cc,hupd,hx8,hM8⟩:=zl9 hM7 (fun e he hk=>hnok ⟨e,he,hk⟩) (k:Int);have hmx:∀x∈[mb],wr.heap.size<=x\/x∈([]:List Nat):=fun x hm=>.inl (by rw [List.mem_singleton.1 hm]; exact hmb)
      have hX7:Q0 [] wr w7:=(hXs.trans hx6).fresh hx7 hb1';have hX8:Q0 [] wr w8:=hX7.fresh hx8 hmx;refine ⟨w8,hupd,fun x hm=>hx8.block x (hs7 x hm) (fun hm' => ?_),⟨by omega,by omega⟩,fun w9 hx9 hs9=>QN (by omega) ⟨by omega,by omega,hX8.fresh hx9 hb1',?_,fun g h0 h1 hg => ?_,⟨_,hM8.ext hx9 ?_,fun e he => ?_,fun g h1 h2 hg => ?_⟩,fun g h1 h2 hg => ?_⟩⟩
      ·rw [List.mem_singleton] at hm hm';subst hm';obtain ⟨⟨c2,hc⟩,_⟩:=hMs;have:=T9 hc;omega
      ·have hnm:∀b∈Qu (some (⟨wr.heap.size,0,none⟩:Addr)),b∉[mb]:=fun b hm hm'=>by
        simp only [Qu,List.mem_singleton] at hm hm';rcases hOs with ⟨hc,_⟩ | ⟨b',sp,he,_,h2,_⟩
        ·cases hc
        ·simp only [Option.some.injEq,Addr.mk.injEq,and_true] at he;subst he;obtain ⟨⟨c2,hc⟩,_⟩:=hMs;rw [<-hm',hm,h2] at hc;cases hc
       have hn1:∀b∈Qu (some (⟨wr.heap.size,0,none⟩:Addr)),b∉[b1]:=fun b hm hm'=>by
        have:=(hOs.lt b hm).2;rw [List.mem_singleton] at hm';omega
       exact (((hOs.ext0 hx6).ext hx7 hn1).ext hx8 hnm).ext hx9 hn1
      ·have hq:=hNs g h0 h1 hg;have hql:=T9 hq;have n1:nb g∉[b1]:=fun hm=>by rw [List.mem_singleton] at hm; omega
       have n2:nb g∉[mb]:=fun hm=>by
        rw [List.mem_singleton] at hm;obtain ⟨⟨c2,hc⟩,_⟩:=hMs;unfold JN at hq;rw [hm,hc] at hq;cases hq
       exact (((hq.ext hx6 (by simp)).ext hx7 n1).ext hx8 n2).ext hx9 n1
      ·intro hm;rw [List.mem_singleton] at hm;obtain ⟨⟨c2,hc⟩,_⟩:=hMs;have:=T9 hc;omega
      ·rw [Array.toList_push,List.mem_append] at he;rcases he with he | he
       ·obtain ⟨g,a1,a2,a3⟩:=hE1 e he;exact ⟨g,a1,by omega,a3⟩
       ·rw [List.mem_singleton] at he;subst he;exact ⟨k,by omega,by omega,hu,rfl⟩
      ·rw [Array.toList_push]
       by_cases hgk:g=(k:Int)
       ·subst hgk;exact ⟨_,List.mem_append_right _ (List.mem_singleton.2 rfl),rfl⟩
       ·obtain ⟨e,he,hk⟩:=hE2 g h1 (by omega) hg;exact ⟨e,List.mem_append_left _ he,hk⟩
      ·by_cases hgk:g=(k:Int)
       ·subst hgk;refine ⟨qn,qp,fun q a1 a2 a3 a4=>hnok ?_⟩;obtain ⟨e,he,hk⟩:=hE2 q a1 a2 a3;exact ⟨e,he,by rw [hk,a4.1,a4.2]⟩
       ·exact hT g h1 (by omega) hg
  ·have hge:=of_decide_eq_false hge;have hk8:k=8:=by omega
   subst hk8;have hXw:Q0 [] w w4:=hx.trans hX
   have hNs:Ns [] w4 gs nb:=⟨fun x hu=>by
     obtain ⟨a1,a2,a3⟩:=Q4.1 hu;have:=hN x a1 (by omega) a3;rw [if_pos (by omega)] at this;exact this.cells (by simp),fun x hz hu=>by
     obtain ⟨a1,a2,a3⟩:=Q4.1 hu;exact (hT x (by omega) (by omega) a3).2.1⟩
   refine Vb 8 0 rfl (fun j w5=>j<=8/\Q0 [] w4 w5/\∀g:Int,0<=g->g<(j:Int)->(gi gs g).used=true->0<=dep 3 gs g) (fun w5 hx5 _=>⟨Nat.zero_le _,hx5,fun g h0 h1=>by omega⟩) fun j w5 _ ⟨hj,hX5,hD⟩=>⟨fun hlt => ?_,fun hge => ?_⟩
   ·have hlt:=of_decide_eq_true hlt;have hj0:(0:Int)<=(j:Int):=by omega
    have hjl:(j:Int)<(pl.length:Int):=by omega
    have hO5:=hO.ext0 hX5;have hix:=hO5.ix hj0 hjl;rw [hpl] at hix;refine ⟨hix,gi pl (j:Int),hO5.rd Td.len (by simp) j hj0 hjl,DO gs 3 (j:Int) 0,fun hs => ?_,fun hb => ?_,fun hb=>⟨⟨by omega,by omega⟩,fun w6 hx6 _=>QN (by omega) ⟨by omega,hX5.trans hx6,fun g h0 h1 hg => ?_⟩⟩⟩
    ·have hu:(gi gs (j:Int)).used=true:=by
      cases hq:(gi gs (j:Int)).used with
      | true=>rfl
      | false=>rw [hP2 j hj0 hlt,hq] at hs; cases hs
     rw [hP2 j hj0 hlt,if_pos hu];exact zd9 (hNs.ext hX5) (Q4.2 ⟨hj0,by omega,hu⟩)
    ·intro w6 hx6;refine bad w6 ((hXw.trans hX5).trans hx6) fun ht => ?_
     simp only [Bool.and_eq_true,decide_eq_true_eq] at hb
     have hu:(gi gs (j:Int)).used=true:=by
      cases hq:(gi gs (j:Int)).used with
      | true=>rfl
      | false=>rw [hP2 j hj0 hlt,hq] at hb; cases hb.1
     have hd:0<=dep 3 gs (j:Int):=by
      by_cases hj0':(j:Int)=0
      ·rw [hj0',ZN]; omega
      ·exact ht.dp j (by omega) hlt hu
     have:=hb.2;unfold DO at this;rw [if_neg (by omega)] at this;omega
    ·by_cases hgj:g=(j:Int)
     ·subst hgj;have hpj:gi pl (j:Int)=some ⟨nb (j:Int),0,none⟩:=by rw [hP2 j hj0 hlt,if_pos hg]
      rw [hpj] at hb;simp only [Option.isNone_some,Bool.not_false,Bool.true_and,decide_eq_false_iff_not] at hb;unfold DO at hb;have:=UN gs 3 (j:Int)
      split at hb <;> omega
     ·exact hD g h0 (by omega) hg
   ·have hge:=of_decide_eq_false hge;have hj8:j=8:=by omega
    subst hj8;have ht:Z6 gs:=⟨hl8,ru,rp,rn,fun g h1 h2 hg=>(hT g h1 h2 hg).1,fun g h1 h2 hg=>(hT g h1 h2 hg).2.1,fun g h1 h2 hg=>hD g (by omega) h2 hg,fun g q a1 a2 a3 a4 a5=>(hT g (by omega) a3 a4).2.2 q a1 a2 a5⟩;intro w6 hx6;refine ⟨some ⟨wr.heap.size,0,none⟩,8,8,true,rfl,(Y5.2 ht).symm,(hXw.trans hX5).trans hx6,fun h=>(by cases h),fun _=>⟨rfl,pl,nb,hpl,?_,hP2,(hNs.ext hX5).ext hx6⟩⟩;exact ((hO.ext0 hX5).ext0 hx6).rd Td.len (by simp)
theorem Oc {bs:List Nat} (h:TS bs w o gs ms) (hl:gs.length<=maxLen):PX bs XV #[.slice o gs.length c] w (.bool (Yu gs)):=by
 refine OJ fun wr hx=>BR o gs.length c (R:=fun v w'=>v = .bool (Yu gs)/\Q0 [] wr w') ?_
 have h:=(h.ext hx).less (cs:=[]) (by simp);intro w1 hx1 _;refine (C9 (h.ext hx1) hl).mono fun e w2 ⟨o',L,C,ok,he,hok,hx2,_⟩=>⟨_,_,_,_,he,YT,fun w3 hx3=>⟨by rw [hok],(hx1.trans hx2).trans hx3⟩⟩
theorem N1 {g h:Int} (hr:TS bs w o gs ms) (ht:Z6 gs) (hu:Q6 gs h=true):PX bs Th #[.slice o gs.length c,.int .i64 g,.int .i64 h] w (.bool (YJ 3 gs g h)):=
 Nd o gs.length c g h fun wr hx=>by
  have hr:=(hr.ext hx).less (cs:=[]) (by simp);refine ⟨fun vs=>∃x:Int,vs=[.int .i64 x]/\Q6 gs x=true/\YJ 3 gs g x=YJ 3 gs g h,fun vs=>(dep 3 gs (Yf 0 vs)).toNat,⟨h,rfl,hu,rfl⟩,?_⟩;rintro x ⟨x',he,hu,hI⟩;simp only [List.cons.injEq,Value.int.injEq,true_and,and_true] at he;subst he;refine ⟨fun hne=>⟨fun hz => ?_,fun hz => ?_⟩,fun heq => ?_⟩
  ·have hz:x=0:=by simpa using hz
   subst hz
   have:YJ 3 gs g 0=false:=by
    have:¬(0=g):=by simpa using hne
    simp [YJ,this]
   rw [<-hI,this]
  ·have hz:x≠0:=by simpa using hz
   have hne:x≠g:=by simpa using hne
   obtain ⟨hp,a,b,d,e,e2,hd⟩:=Zl ht hu hz;refine ⟨hr.ix a b,_,hr.parent a b,⟨_,rfl,hp,by rw [<-T4 ht hu hz hne]; exact hI⟩,?_⟩;show (dep 3 gs (gi gs x).parent).toNat<(dep 3 gs x).toNat;omega
  ·have heq:x=g:=by simpa using heq
   subst heq;rw [<-hI];simp [YJ]
theorem Jd {g h:Int} (hr:TS bs w o gs ms) (hl:gs.length<=maxLen):PX bs Yn #[.slice o gs.length c,.int .i64 g,.int .i64 h] w (.bool (UB gs g h)):=
 GT o gs.length c g h fun wr hx=>by
  have hr:=(hr.ext hx).less (cs:=[]) (by simp);refine ⟨_,Oc hr hl,Q6 gs g,fun _=>X8 hr hl,Q6 gs h,fun _=>X8 hr hl,YJ 3 gs g h,fun q => ?_,rfl⟩;simp only [Bool.and_eq_true] at q;exact N1 hr (Y5.1 q.1.1) q.2
end
theorem YG {n k:Int} {w:World} {bs:List Nat}:PX bs Zu #[.int .i64 n,.int .i64 k] w (.int .i64 (Z4 n k)):=
 Ks n k fun wr hx=>by
  refine ⟨_,Xz,_,fun _=>Qi,fun h => ?_,fun h => ?_⟩
  ·congr 1; unfold Z4; rw [if_neg]; intro h2; simp only [Bool.and_eq_true] at h2; simp [h2] at h
  ·have h2:X3 k 1 20=true/\X3 n 0 100000000=true:=by simpa using h
   rw [Qx,Qx] at h2;have hm:=zei h2.2.1 h2.2.2 h2.1.1 h2.1.2;have hs:=CF h2.1.1 h2.1.2;unfold zda at hm hs;refine ⟨⟨by omega,U7 (by omega) (by omega)⟩,U7 (by omega) (by omega),?_⟩;rw [TL h2.2.1 h2.2.2 h2.1.1 h2.1.2]; rfl
theorem Tu {k:Int} {w:World} {bs:List Nat}:PX bs Xw #[.int .i64 k] w (.int .i64 (Zs k)):=
 FF k fun wr hx=>⟨_,YG,rfl⟩
def ZL (a b:Int):Int:=if a<b then a else b
def Cf (a b:Int):Int:=if a>b then a else b
theorem Xu {a b:Int} {w:World} {bs:List Nat}:PX bs Ya #[.int .i64 a,.int .i64 b] w (.int .i64 (ZL a b)):=
 Cp a b fun wr hx=>⟨fun h=>by rw [ZL,if_pos (of_decide_eq_true h)],fun h=>by rw [ZL,if_neg (of_decide_eq_false h)]⟩
theorem Uu {a b:Int} {w:World} {bs:List Nat}:PX bs Y9 #[.int .i64 a,.int .i64 b] w (.int .i64 (Cf a b)):=
 Co a b fun wr hx=>⟨fun h=>by rw [Cf,if_pos (of_decide_eq_true h)],fun h=>by rw [Cf,if_neg (of_decide_eq_false h)]⟩
def YH (l k:Int):Int:=if (if Zs k<l then Zs k else l)>0 then (if Zs k<l then Zs k else l) else 0
theorem ZD (k:Int):0<=Zs k/\Zs k<=34686091440:=by
 unfold Zs
 by_cases h:1<=k/\k<=20
 ·rw [TL (by decide) (by decide) h.1 h.2];have:=CF h.1 h.2;omega
 ·rw [Mp (by omega)]; omega
theorem ZF (l k:Int):0<=YH l k/\YH l k<=Zs k:=by
 have:=ZD k;unfold YH; by_cases h1:Zs k<l <;> simp only [h1,if_true,if_false] <;> split <;> omega
theorem Od {l k:Int} {w:World} {bs:List Nat}:PX bs XW #[.int .i64 l,.int .i64 k] w (.int .i64 (YH l k)):=
 Ng l k fun wr hx=>by
  have hr:=ZD k;refine ⟨_,Xz,fun h => ?_,fun h=>⟨_,Uu,_,Tu,_,Xu,?_⟩⟩
  ·have h:X3 k 1 20=false:=by simpa using h
   rw [zmt] at h;have h0:Zs k=0:=Mp (by omega)
   congr 1; unfold YH; rw [h0]; by_cases h1:0<l <;> simp only [h1,if_true,if_false] <;> (repeat' split) <;> omega
  ·congr 1; unfold YH ZL Cf; by_cases h1:Zs k<l <;> simp only [h1,if_true,if_false] <;> by_cases h2:l>0 <;> simp only [h2,if_true,if_false] <;> (repeat' split) <;> omega
def Qd (n:Int):Int:=if X3 n (-10) 9 then 10 - n else 0
structure Jp (b:Nat) (c:OA) (L N:Nat) (w:World):Prop where
 hd:∃(C:Nat) (p:Int),w.heap[b]? = some (.cells [.slice c L C,.int .i64 p].toArray Vo (0,0))/\0<=p/\p<=N
 bytes:∀i<L,∃(a:Addr) (x:Int),c=some a/\a.block≠b/\0<=x/\x<=255/\w.cell? (a.add i)=some (.int .u8 x)
theorem Jp.ext {b:Nat} {c:OA} {L N:Nat} {w w':World} {bs:List Nat} (h:Jp b c L N w) (hx:Q0 bs w w') (hb:b∉bs) (hc:∀a,c=some a->a.block∉bs\/L=0):Jp b c L N w':=by
 obtain ⟨⟨C,p,h1,h2,h3⟩,hby⟩:=h;refine ⟨⟨C,p,TT h1 hx hb,h2,h3⟩,fun i hi => ?_⟩;obtain ⟨a,x,ha,hne,hx1,hx2,hx3⟩:=hby i hi;refine ⟨a,x,ha,hne,hx1,hx2,?_⟩
 have hbk:a.block∉bs:=by
  rcases hc a ha with h | h
  ·exact h
  ·omega
 obtain ⟨a',e,_,h''⟩:=(show U5 bs w c i (.int .u8 x) from ⟨a,ha,hbk,hx3⟩).ext hx;rw [ha] at e; cases e; exact h''
theorem Jp.ext0 {b:Nat} {c:OA} {L N:Nat} {w w':World} (h:Jp b c L N w) (hx:Q0 [] w w'):Jp b c L N w':=h.ext hx (by simp) (fun _ _=>.inl (by simp))
theorem Jp.mono {b:Nat} {c:OA} {L N M:Nat} {w:World} (h:Jp b c L N w) (hm:N<=M):Jp b c L M w:=by
 obtain ⟨⟨C,p,h1,h2,h3⟩,hby⟩:=h;exact ⟨⟨C,p,h1,h2,by omega⟩,hby⟩
theorem Jp.lt {b:Nat} {c:OA} {L N:Nat} {w:World} (h:Jp b c L N w):b<w.heap.size:=by
 obtain ⟨⟨C,p,h1,h2,h3⟩,hby⟩:=h;exact T9 h1
theorem Jp.ltc {b:Nat} {c:OA} {L N:Nat} {w:World} (h:Jp b c L N w) (a:Addr) (ha:c=some a):a.block<w.heap.size\/L=0:=by
 rcases Nat.eq_zero_or_pos L with h0 | h0
 ·exact .inr h0
 ·obtain ⟨a',x,ha',hne,hx1,hx2,hx3⟩:=h.bytes 0 h0;rw [ha] at ha'; cases ha';have:=World.block_lt_of_cell? w _ hx3;rw [Zy] at this;exact .inl this
theorem Jp.extN {b:Nat} {c:OA} {L N M:Nat} {w0 w w':World} {bs:List Nat} (h0:Jp b c L M w0) (h:Jp b c L N w) (hx:Q0 bs w w') (hb:∀x∈bs,w0.heap.size<=x):Jp b c L N w':=
 h.ext hx (fun hm=>by have:=hb _ hm; have:=h0.lt; omega) fun a ha=>by
  rcases h0.ltc a ha with hl | hl
  ·exact .inl fun hm=>by have:=hb _ hm; omega
  ·exact .inr hl
def KH (n v:Int):Prop:=0<=v/\(n<1->v=0)/\(1<=n->v<n)
theorem A1 {x n:Int} (hx:0<=x) (hn:1<=n):KH n (Int.tmod x n):=by
 refine ⟨Int.tmod_nonneg _ hx,by omega,fun _=>Int.tmod_lt_of_pos _ (by omega)⟩
theorem zdi {x y:Int} (h1:0<=x) (h2:x<=9223372036854775807) (h3:0<=y) (h4:y<=9223372036854775807):0<=O2 .xor .i64 x y:=by
 have hlt:(BitVec.ofInt 64 x ^^^ BitVec.ofInt 64 y).toNat<2 ^ 63:=by
  rw [BitVec.toNat_xor];refine Nat.xor_lt_two_pow ?_ ?_
  ·rw [BitVec.toNat_ofInt]; omega
  ·rw [BitVec.toNat_ofInt]; omega
 have h:=Qo.wrap (k:=.i64) (z:=((BitVec.ofInt 64 x ^^^ BitVec.ofInt 64 y).toNat:Int)) (U7 (by omega) (by omega));show 0<=IntKind.i64.wrap ((BitVec.ofInt 64 x ^^^ BitVec.ofInt 64 y).toNat:Int);rw [h]; omega
theorem Km {b:Nat} {c:OA} {L N:Nat} {w:World} {n:Int} (h:Jp b c L N w) (hN:N<=1000000000000) :
  Cz Q1 #[.pointer (some ⟨b,0,none⟩),.int .i64 n] w fun e w'=>∃v,e = .returned (.int .i64 v)/\KH n v/\Jp b c L (N+1) w'/\Q0 [b] w w':=by
 refine (Le (some ⟨b,0,none⟩) n (R:=fun v w'=>∃x,v = .int .i64 x/\KH n x/\Jp b c L (N+1) w'/\Q0 [b] w w') ?_).mono fun e w' ⟨v,he,x,hv,h1,h2,h3⟩=>⟨x,by rw [he,hv],h1,h2,h3⟩
 obtain ⟨C,p,hh,hp0,hpN⟩:=h.hd;have hs:=El (k:=0) (n:=1) (vs:=[.int .i64 (p+1)]) hh;have hxt:Q0 [b] w (sto w (some ⟨b,0,none⟩) 1 [.int .i64 (p+1)]):=P2 fun a ha=>by cases ha; exact List.mem_singleton.2 rfl
 generalize hw1:sto w (some ⟨b,0,none⟩) 1 [.int .i64 (p+1)]=w1 at hs hxt;have hs:w1.heap[b]? = some (.cells [.slice c L C,.int .i64 (p+1)].toArray Vo (0,0)):=hs;have hc:Q2 [] w1 (some ⟨b,0,none⟩) (0+0) [.slice c L C]:=M6 hs (by simp) rfl;have hpp:Q2 [] w1 (some ⟨b,0,none⟩) (0+1) [.int .i64 (p+1)]:=M6 hs (by simp) rfl
 have hby:∀i:Int,0<=i->i<L->∃x:Int,0<=x/\x<=255/\c.isSome=true/\Q2 [] w1 c (Int.toNat i*1) [.int .u8 x]:=fun i h0 hi=>by
  obtain ⟨a,x,ha,hne,hx1,hx2,hx3⟩:=h.bytes i.toNat (by omega);refine ⟨x,hx1,hx2,by rw [ha]; rfl,?_⟩;have:=(show U5 [b] w c i.toNat (.int .u8 x) from ⟨a,ha,by simpa using hne,hx3⟩).ext hxt;rw [Nat.mul_one];exact Tb (this.less (by simp))
 have fin:∀(v:Int),KH n v->∀wr,Q0 [] w1 wr->∃x,Value.int .i64 v = .int .i64 x/\KH n x/\Jp b c L (N+1) wr/\Q0 [b] w wr:=fun v hv wr hr=>
  ⟨v,rfl,hv,Jp.ext0 ⟨⟨C,p+1,hs,by omega,by omega⟩,fun i hi=>by
   obtain ⟨a,x,ha,hne,hx1,hx2,hx3⟩:=h.bytes i hi;have:=(show U5 [b] w c i (.int .u8 x) from ⟨a,ha,by simpa using hne,hx3⟩).ext hxt;obtain ⟨a',ha',_,hc'⟩:=this;rw [ha] at ha'; cases ha';exact ⟨a,x,ha,hne,hx1,hx2,hc'⟩⟩ hr,hxt.trans hr.of_nil⟩
 refine ⟨rfl,p,M6 hh (by simp) rfl,U7 (by omega) (by omega),rfl,CQ hh (by simp) (by simp),?_⟩;rw [show (0+1:Nat)=1 from rfl,hw1];refine ⟨fun _=>rfl,c,L,C,fun _=>hc,fun h => ?_,fun h => ?_⟩
 ·simp only [Bool.or_eq_true,decide_eq_true_eq,beq_iff_eq] at h;refine fin 0 ⟨by omega,by omega,fun hn=>by omega⟩
 ·have h:1<=n/\L≠0:=by simpa using h
  refine ⟨rfl,p+1,hpp,U7 (by omega) (by omega),rfl,c,L,C,hc,fun hlt => ?_,fun hlt => ?_⟩
  ·have hlt:=of_decide_eq_true hlt;obtain ⟨x,hx1,hx2,hx3,hx4⟩:=hby (p+1 - 1) (by omega) hlt;exact ⟨rfl,c,L,C,hc,⟨by omega,hlt,hx3⟩,x,hx4,U7 (by omega) (by omega),by omega,fin _ (A1 hx1 h.1)⟩
  ·have hLp:(0:Int)<(L:Int):=by omega
   have hm1:=Int.tmod_nonneg (L:Int) (show 0<=p+1 - 1 by omega);have hm2:=Int.tmod_lt_of_pos (p+1 - 1) hLp;have hm3:=Int.tmod_nonneg (L:Int) (show 0<=(p+1 - 1)*7+3 by omega);have hm4:=Int.tmod_lt_of_pos ((p+1 - 1)*7+3) hLp;have hd1:0<=Int.tdiv (p+1 - 1) (L:Int):=Int.tdiv_nonneg (by omega) (by omega)
   have hd2:Int.tdiv (p+1 - 1) (L:Int)<=p+1 - 1:=by
    rw [Int.tdiv_eq_ediv_of_nonneg (by omega)]; exact Int.ediv_le_self _ (by omega)
   obtain ⟨x1,hx1,hx2,hx3,hx4⟩:=hby _ hm1 hm2;obtain ⟨x2,hy1,hy2,hy3,hy4⟩:=hby _ hm3 hm4;have hX0:0<=(x1*131+x2*1117+(p+1 - 1)*29)+Int.tdiv (p+1 - 1) (L:Int)*53:=by omega
   have hX1:(x1*131+x2*1117+(p+1 - 1)*29)+Int.tdiv (p+1 - 1) (L:Int)*53<=1000000000000000:=by omega
   have hq0:=Int.tdiv_nonneg hX0 (show (0:Int)<=64 by decide)
   have hq1:Int.tdiv ((x1*131+x2*1117+(p+1 - 1)*29)+Int.tdiv (p+1 - 1) (L:Int)*53) 64<=(x1*131+x2*1117+(p+1 - 1)*29)+Int.tdiv (p+1 - 1) (L:Int)*53:=by
    rw [Int.tdiv_eq_ediv_of_nonneg hX0]; exact Int.ediv_le_self _ hX0
   refine ⟨rfl,c,L,C,hc,rfl,c,L,C,hc,by omega,⟨hm1,hm2,hx3⟩,x1,hx4,U7 (by omega) (by omega),U7 (by omega) (by omega),rfl,c,L,C,hc,U7 (by omega) (by omega),U7 (by omega) (by omega),rfl,c,L,C,hc,by omega,⟨hm3,hm4,hy3⟩,x2,hy4,
    U7 (by omega) (by omega),U7 (by omega) (by omega),U7 (by omega) (by omega),U7 (by omega) (by omega),U7 (by omega) (by omega),rfl,c,L,C,hc,⟨by omega,U7 (by omega) (by omega)⟩,U7 (by omega) (by omega),U7 (by omega) (by omega),⟨by decide,U7 (by omega) (by omega)⟩,by omega,?_⟩
   exact fin _ (A1 (zdi hX0 (by omega) hq0 (by omega)) h.1)
end Go.Proofs.YtclpmgfpjeaibaaGreat
namespace Go.Proofs.YtclpmgfpjeaibaaGreat
open Go.RowKit Go.ChangeShapes
set_option linter.unusedVariables false
set_option linter.unusedSimpArgs false
section
variable {H:Type} {en:TypeId×Value->H} {w:World} {base:Nat} {spare:Nat->Bool} {held:Bool} {fuel:Nat} {cs:List Value} {x:DataW H×List MemPlace}
structure MW where
 cO:OA
 cC:Nat
 tO:OA
 tC:Nat
 gO:OA
 gC:Nat
 ms:Nat->MG
def Qa (W:Q7) (m:MW):List Value:=[.int .i64 W.now,.slice m.cO W.cpus.length m.cC,.slice m.tO W.tasks.length m.tC,.slice m.gO W.groups.length m.gC]
structure Xo (bs:List Nat) (w:World) (W:Q7) (m:MW):Prop where
 c:zoq bs w m.cO W.cpus
 t:zj6 bs w m.tO W.tasks
 g:TS bs w m.gO W.groups m.ms
theorem Xo.ext {bs:List Nat} {w w':World} {W:Q7} {m:MW} (h:Xo bs w W m) (hx:Q0 bs w w'):Xo bs w' W m:=⟨h.c.ext hx,h.t.ext hx,h.g.ext hx⟩
theorem Xo.less {bs cs:List Nat} {w:World} {W:Q7} {m:MW} (h:Xo bs w W m) (hs:∀x∈cs,x∈bs):Xo cs w W m:=⟨h.c.less hs,h.t.less hs,h.g.less hs⟩
theorem Xo.wide {bs cs:List Nat} {w:World} {W:Q7} {m:MW} (h:Xo bs w W m) (hs:∀x∈cs,x∈bs\/w.heap.size<=x):Xo cs w W m:=⟨h.c.wide hs,h.t.wide hs,h.g.wide hs⟩
end
end Go.Proofs.YtclpmgfpjeaibaaGreat
namespace Go.Proofs.YtclpmgfpjeaibaaGreat
open Go.RowKit
set_option linter.unusedVariables false
set_option linter.unusedSimpArgs false
set_option maxRecDepth 10000
def UI (k:Nat):Int:=1*2 ^ (min (Int.toNat (k:Int)) 64)
def TZ (m:Int):Bool:=X3 m 0 15
def Z5 (m c:Int):Bool:=(TZ m&&X3 c 0 3)&&(Int.tmod (Int.fdiv m (2 ^ (min (Int.toNat c) 64))) 2==1)
def UJ (a b:Int):Int:=if TZ a=true/\TZ b=true then O2 .and .i64 a b else 0
def EI (a b:Int):Nat->Int
 | 0=>0
 | k+1=>if (Z5 a (k:Int)&&Z5 b (k:Int))=true then EI a b k+UI k else EI a b k
theorem On {m:Int} (h:TZ m=true):∃f:Fin 16,m=(f.val:Int):=by
 have:=Qx.1 h;exact ⟨⟨m.toNat,by omega⟩,by show m=((m.toNat:Nat):Int); omega⟩
theorem zhh:∀a b:Fin 16,EI (a.val:Int) (b.val:Int) 4=O2 .and .i64 (a.val:Int) (b.val:Int):=by decide +kernel
theorem zhi:∀a b:Fin 16,0<=O2 .and .i64 (a.val:Int) (b.val:Int)/\O2 .and .i64 (a.val:Int) (b.val:Int)<=15:=by decide +kernel
theorem zhf:∀a b:Fin 16,O2 .and .i64 (a.val:Int) (b.val:Int)=O2 .and .i64 (b.val:Int) (a.val:Int):=by decide +kernel
theorem zhe:∀a b c:Fin 16,O2 .and .i64 (O2 .and .i64 (a.val:Int) (b.val:Int)) (c.val:Int)=O2 .and .i64 (a.val:Int) (O2 .and .i64 (b.val:Int) (c.val:Int)):=by decide +kernel
theorem zhg:∀(a b:Fin 16) (c:Fin 4),Z5 (O2 .and .i64 (a.val:Int) (b.val:Int)) (c.val:Int)=(Z5 (a.val:Int) (c.val:Int)&&Z5 (b.val:Int) (c.val:Int)):=by decide +kernel
theorem zhd:∀a:Fin 16,O2 .and .i64 (a.val:Int) 0=0:=by decide +kernel
theorem Ef (a b:Int):TZ (UJ a b)=true:=by
 unfold UJ;split
 ·rename_i h;obtain ⟨x,rfl⟩:=On h.1;obtain ⟨y,rfl⟩:=On h.2;exact Qx.2 (zhi x y)
 ·exact Qx.2 (by decide)
theorem T0 {a b:Int} (ha:TZ a=true) (hb:TZ b=true):UJ a b=O2 .and .i64 a b:=by unfold UJ; rw [if_pos ⟨ha,hb⟩]
theorem YU {a b:Int} (h:TZ a=false\/TZ b=false):UJ a b=0:=by
 unfold UJ;rw [if_neg];rintro ⟨h1,h2⟩;rcases h with h | h
 ·rw [h1] at h; cases h
 ·rw [h2] at h; cases h
theorem GJ (a b:Int):UJ a b=UJ b a:=by
 cases ha:TZ a with
 | false=>rw [YU (.inl ha),YU (.inr ha)]
 | true=>
  cases hb:TZ b with
  | false=>rw [YU (.inr hb),YU (.inl hb)]
  | true=>
   rw [T0 ha hb,T0 hb ha];obtain ⟨x,rfl⟩:=On ha;obtain ⟨y,rfl⟩:=On hb;exact zhf x y
theorem Me (a:Int):UJ a 0=0:=by
 cases ha:TZ a with
 | false=>exact YU (.inl ha)
 | true=>
  rw [T0 ha (by decide)];obtain ⟨x,rfl⟩:=On ha;exact zhd x
theorem zcj (a b c:Int):UJ (UJ a b) c=UJ a (UJ b c):=by
 cases hb:TZ b with
 | false=>rw [YU (a:=a) (.inr hb),YU (b:=c) (.inl hb),GJ 0 c,Me,Me]
 | true=>
  cases ha:TZ a with
  | false=>rw [YU (b:=b) (.inl ha),YU (b:=UJ b c) (.inl ha),GJ,Me]
  | true=>
   cases hc:TZ c with
   | false=>rw [YU (a:=UJ a b) (.inr hc),YU (a:=b) (.inr hc),Me]
   | true=>
    have h1:=Ef a b;have h2:=Ef b c;rw [T0 h1 hc,T0 ha h2,T0 ha hb,T0 hb hc];obtain ⟨x,rfl⟩:=On ha;obtain ⟨y,rfl⟩:=On hb;obtain ⟨z,rfl⟩:=On hc;exact zhe x y z
theorem Tz {m c:Int} (h:Z5 m c=true):TZ m=true/\0<=c/\c<=3:=by
 unfold Z5 at h;simp only [Bool.and_eq_true] at h;exact ⟨h.1.1,Qx.1 h.1.2⟩
theorem zai {a b c:Int} (h:Z5 (UJ a b) c=true):Z5 a c=true/\Z5 b c=true:=by
 have hr:=Tz h
 have hz:Z5 0 c=false:=by
  have:c=0\/c=1\/c=2\/c=3:=by omega
  rcases this with rfl | rfl | rfl | rfl <;> decide
 cases ha:TZ a with
 | false=>rw [YU (.inl ha),hz] at h; cases h
 | true=>
  cases hb:TZ b with
  | false=>rw [YU (.inr hb),hz] at h; cases h
  | true=>
   rw [T0 ha hb] at h;obtain ⟨x,rfl⟩:=On ha;obtain ⟨y,rfl⟩:=On hb;have:=zhg x y ⟨c.toNat,by omega⟩;rw [show ((⟨c.toNat,by omega⟩:Fin 4).val:Int)=c by show ((c.toNat:Nat):Int)=c; omega] at this;rw [this] at h
   simpa using h
def UC (cs:List TQ):Nat->Int
 | 0=>0
 | k+1=>if (gi cs (k:Int)).up=true then UC cs k+UI k else UC cs k
def Jo (cs:List TQ):Int:=UC cs cs.length
theorem LU (cs:List TQ):∀k:Nat,k<=4->0<=UC cs k/\UC cs k<UI k
 | 0,_=>by simp [UC,UI]
 | k+1,h=>by
  have ih:=LU cs k (by omega)
  have hb:UI (k+1)=2*UI k/\0<=UI k:=by
   have:k=0\/k=1\/k=2\/k=3:=by omega
   rcases this with rfl | rfl | rfl | rfl <;> decide
  simp only [UC]
  split <;> omega
theorem EL {k:Nat} (h:k<=4):1<=UI k/\UI k<=16:=by
 have:k=0\/k=1\/k=2\/k=3\/k=4:=by omega
 rcases this with rfl | rfl | rfl | rfl | rfl <;> decide
theorem zmg {cs:List TQ} (h:cs.length<=4):TZ (Jo cs)=true:=by
 have:=LU cs cs.length h;have:=EL h;exact Qx.2 (by unfold Jo; omega)
theorem z6:∀(k:Fin 4) (s:Fin 8) (c:Fin 4),(s.val:Int)<UI k.val->Z5 ((s.val:Int)+UI k.val) (c.val:Int)=(decide (c.val=k.val)||Z5 (s.val:Int) (c.val:Int)):=by decide +kernel
theorem CJ (cs:List TQ) {c:Int}:∀k:Nat,k<=4->Z5 (UC cs k) c=true->c<(k:Int)/\(gi cs c).up=true
 | 0,_,h=>by
  have hr:=Tz h;have:c=0\/c=1\/c=2\/c=3:=by omega
  rcases this with rfl | rfl | rfl | rfl <;> exact absurd h (by simp only [UC]; decide)
 | k+1,hk,h=>by
  have hr:=Tz h;have ih:=CJ cs (c:=c) k (by omega);have hl:=LU cs k (by omega)
  have hb:UI k<=8:=by
   have:k=0\/k=1\/k=2\/k=3:=by omega
   rcases this with rfl | rfl | rfl | rfl <;> decide
  simp only [UC] at h
  split at h
  ·rename_i hu;have:=z6 ⟨k,by omega⟩ ⟨(UC cs k).toNat,by omega⟩ ⟨c.toNat,by omega⟩;rw [show ((⟨(UC cs k).toNat,by omega⟩:Fin 8).val:Int)=UC cs k by show (((UC cs k).toNat:Nat):Int)=UC cs k; omega,show ((⟨c.toNat,by omega⟩:Fin 4).val:Int)=c by show ((c.toNat:Nat):Int)=c; omega] at this;rw [this hl.2] at h;simp only [Bool.or_eq_true,decide_eq_true_eq] at h;rcases h with h | h
   ·have:c=(k:Int):=by omega
    subst this;exact ⟨by omega,hu⟩
   ·have:=ih h;exact ⟨by omega,this.2⟩
  ·have:=ih h;exact ⟨by omega,this.2⟩
def Jh:Nat->List Z0->Int->List Int
 | 0,_,_=>[]
 | f+1,gs,g=>if g=0 then [] else g::Jh f gs (gi gs g).parent
abbrev QT (gs:List Z0) (g:Int):List Int:=Jh 3 gs g
theorem Zh (gs:List Z0) (f:Nat):Jh f gs 0=[]:=by cases f <;> simp [Jh]
theorem zgh {gs:List Z0} (ht:Z6 gs):∀(f f':Nat) (h:Int),Q6 gs h=true->dep 3 gs h<=f->dep 3 gs h<=f'->Jh f gs h=Jh f' gs h:=by
 intro f
 induction f with
 | zero=>
  intro f' h hu h1 h2
  have hz:h=0:=Decidable.byContradiction fun hz=>by
   obtain ⟨_,_,_,d,e,_⟩:=Zl ht hu hz;omega
  subst hz;rw [Zh,Zh]
 | succ f ih=>
  intro f' h hu h1 h2
  by_cases hz:h=0
  ·subst hz;rw [Zh,Zh]
  ·obtain ⟨hp,_,_,d,e,e2,_⟩:=Zl ht hu hz
   cases f' with
   | zero=>omega
   | succ f'=>
    simp only [Jh];rw [if_neg hz,if_neg hz,ih f' (gi gs h).parent hp (by omega) (by omega)]
theorem YN {gs:List Z0} (ht:Z6 gs) {h:Int} (hu:Q6 gs h=true) (hz:h≠0):QT gs h=h::QT gs (gi gs h).parent:=by
 obtain ⟨hp,_,_,d,e,e2,hd⟩:=Zl ht hu hz;show Jh 3 gs h=_;rw [show Jh 3 gs h=if h=0 then [] else h::Jh 2 gs (gi gs h).parent from rfl,if_neg hz,zgh ht 2 3 _ hp (by omega) (by omega)]
theorem Jx {gs:List Z0} (ht:Z6 gs) {Q:Int->Prop} (h0:Q 0) (hs:∀h:Int,Q6 gs h=true->h≠0->Q (gi gs h).parent->Q h):∀h:Int,Q6 gs h=true->Q h:=by
 have key:∀(n:Nat) (h:Int),Q6 gs h=true->dep 3 gs h<=n->Q h:=by
  intro n
  induction n with
  | zero=>
   intro h hu hd
   by_cases hz:h=0
   ·subst hz; exact h0
   ·obtain ⟨_,_,_,d,e,_⟩:=Zl ht hu hz;omega
  | succ n ih=>
   intro h hu hd
   by_cases hz:h=0
   ·subst hz; exact h0
   ·obtain ⟨hp,_,_,d,e,e2,_⟩:=Zl ht hu hz;exact hs h hu hz (ih _ hp (by omega))
 intro h hu;have:=UN gs 3 h;exact key 3 h hu (by omega)
theorem zja {gs:List Z0} (ht:Z6 gs) {h:Int} (hu:Q6 gs h=true):QT gs h++[0]=h::(QT gs h).map fun x=>(gi gs x).parent:=by
 refine Jx ht (Q:=fun h=>QT gs h++[0]=h::(QT gs h).map fun x=>(gi gs x).parent) (by simp [QT,Zh]) (fun h hu hz ih => ?_) h hu;rw [YN ht hu hz,List.cons_append,ih,List.map_cons]
def T2 (gs:List Z0) (g u:Int):Int:=(QT gs g++[0]).foldl (fun s x=>UJ s (gi gs x).cpus) u
def zbb (gs:List Z0) (g:Int):Int:=(QT gs g).foldl (fun s x=>UJ s (gi gs (gi gs x).parent).cpus) (gi gs g).cpus
theorem z3 (f:Int->Int):∀(l:List Int) (m u:Int),UJ (l.foldl (fun s x=>UJ s (f x)) m) u=l.foldl (fun s x=>UJ s (f x)) (UJ u m)
 | [],m,u=>GJ m u
 | x::l,m,u=>by
  simp only [List.foldl_cons];rw [z3 f l,zcj]
theorem zjo {gs:List Z0} (ht:Z6 gs) {g u:Int} (hu:Q6 gs g=true):UJ (zbb gs g) u=T2 gs g u:=by
 unfold zbb T2;rw [zja ht hu,List.foldl_cons,List.foldl_map,z3 (fun x=>(gi gs (gi gs x).parent).cpus)]
theorem zeq {gs:List Z0} {g u c:Int} (h:Z5 (T2 gs g u) c=true):Z5 u c=true:=by
 unfold T2 at h
 revert h
 generalize QT gs g++[0]=l
 induction l generalizing u with
 | nil=>exact fun h=>h
 | cons x l ih=>
  intro h;rw [List.foldl_cons] at h;exact (zai (ih h)).1
def Qq (W:Q7) (g mask:Int):Int:=
 if UJ mask (T2 W.groups g (Jo W.cpus))≠0 then UJ mask (T2 W.groups g (Jo W.cpus)) else if T2 W.groups g (Jo W.cpus)≠0 then T2 W.groups g (Jo W.cpus) else Jo W.cpus
theorem zg0 {W:Q7} {g mask c:Int} (h:Z5 (Qq W g mask) c=true):Z5 (Jo W.cpus) c=true:=by
 unfold Qq at h
 split at h
 ·exact zeq (zai h).2
 ·split at h
  ·exact zeq h
  ·exact h
def TH (l:List Int):Nat->Int
 | 0=>0
 | k+1=>TH l k+gi l (k:Int)
def Vs (p:Nat->Bool):Nat->Bool
 | 0=>false
 | k+1=>Vs p k||p k
theorem EJ {p:Nat->Bool}:∀{n:Nat},Vs p n=true↔∃j,j<n/\p j=true
 | 0=>by simp [Vs]
 | n+1=>by
  simp only [Vs,Bool.or_eq_true,EJ (n:=n)];constructor
  ·rintro (⟨j,hj,h⟩ | h)
   ·exact ⟨j,by omega,h⟩
   ·exact ⟨n,by omega,h⟩
  ·rintro ⟨j,hj,h⟩
   by_cases hjn:j=n
   ·subst hjn; exact .inr h
   ·exact .inl ⟨j,by omega,h⟩
theorem zhj {p:Nat->Bool} {n:Nat} (h:∀j,j<n->p j=false):Vs p n=false:=by
 cases ha:Vs p n with
 | false=>rfl
 | true=>
  obtain ⟨j,hj,hp⟩:=EJ.1 ha;rw [h j hj] at hp; cases hp
noncomputable def Vu (P:Prop):Bool := @decide P (Classical.propDecidable P)
theorem Qn {P:Prop}:Vu P=true↔P := @decide_eq_true_iff P (Classical.propDecidable P)
theorem Gl {P:Prop}:Vu P=false↔¬P:=by
 constructor
 ·intro h hp;rw [Qn.2 hp] at h; cases h
 ·intro h
  cases hb:Vu P with
  | false=>rfl
  | true=>exact absurd (Qn.1 hb) h
theorem MH {b:Bool} {P:Prop} (h:b=true↔P):Value.bool b = .bool (Vu P):=by
 have:b=Vu P:=by
  cases hb:Vu P with
  | true=>exact h.2 (Qn.1 hb)
  | false=>
   cases hc:b with
   | false=>rfl
   | true=>exact absurd (h.1 hc) (Gl.1 hb)
 rw [this]
theorem NW {P:Prop} (h:¬P):Value.bool false = .bool (Vu P):=by rw [Gl.2 h]
theorem zml {P:Prop} (h:P):Value.bool true = .bool (Vu P):=by rw [Qn.2 h]
def Q8 (W:Q7) (t:Int):Oi:=gi W.tasks t
def Qc (W:Q7) (g c:Int):Pi:=gi (gi W.groups g).shelves c
def XH (v:Int):Bool:=X3 v 0 100000000000000000
theorem ZR {v:Int}:XH v=true↔0<=v/\v<=100000000000000000:=Qx
def TB (b:XS):Bool:=((((b.quota==0)&&(b.pool==0))&&(b.spent==0))&&(((b.locals.length:Nat):Int)==0))&&(((b.dry.length:Nat):Int)==0)
structure VF (b:XS):Prop where
 q1:1<=b.quota
 q2:b.quota<=10000
 l1:1<=b.locals.length
 l2:b.locals.length<=4
 dl:b.dry.length=b.locals.length
 p1:0<=b.pool
 p2:b.pool<=b.quota
 s1:0<=b.spent
 s2:b.spent<=b.quota
 each:∀c:Int,0<=c->c<(b.locals.length:Int)->0<=gi b.locals c/\gi b.locals c<=b.quota/\(gi b.dry c=true->gi b.locals c=0/\b.pool=0)
 sum:b.pool+b.spent+TH b.locals b.locals.length=b.quota
structure zbr (W:Q7) (k:Int) (g:Z0):Prop where
 w1:1<=g.weight
 w2:g.weight<=20
 m:TZ g.cpus=true
 m0:g.cpus≠0
 s:XH g.sum=true
 len:g.shelves.length=W.cpus.length
 root:k=0->g.weight=10/\g.cpus=15/\g.band.quota=0
 none:g.band.quota=0->TB g.band=true/\g.period=0/\g.next=0
 band:g.band.quota≠0->VF g.band/\g.band.locals.length=W.cpus.length/\1<=g.period/\g.period<=1000/\W.now<g.next/\g.next - W.now<=g.period
structure zoo (g:Z0):Prop where
 p:g.parent=0
 n:g.name=⟨[].toArray⟩
 w:g.weight=0
 c:g.cpus=0
 pe:g.period=0
 ne:g.next=0
 s:g.sum=0
 l:g.shelves.length=0
 b:TB g.band=true
def HB (W:Q7) (k:Int):Prop:=((gi W.groups k).used=false->zoo (gi W.groups k))/\((gi W.groups k).used=true->zbr W k (gi W.groups k))
structure WA (W:Q7):Prop where
 n1:0<=W.now
 n2:W.now<=100000000000000000
 c1:1<=W.cpus.length
 c2:W.cpus.length<=4
 t:W.tasks.length=12
 tree:Z6 W.groups
 ups:Jo W.cpus≠0
 grp:∀k:Int,0<=k->k<8->HB W k
def Uf (W:Q7) (g c:Int):Bool:=decide ((gi W.groups g).band.quota>0)&&gi (gi W.groups g).band.dry c
def O5 (W:Q7) (g c:Int) (j:Nat):Bool:=(((gi W.tasks (j:Int)).state==1)&&((gi W.tasks (j:Int)).group==g))&&((gi W.tasks (j:Int)).cpu==c)
def J6 (W:Q7) (g c:Int) (j:Nat):Bool:=(decide (1<=j)&&((gi W.groups (j:Int)).used&&((gi W.groups (j:Int)).parent==g)))&&(Qc W (j:Int) c).on
def QU (W:Q7) (g c:Int):Bool:=Vs (O5 W g c) W.tasks.length||Vs (J6 W g c) W.groups.length
def TY (W:Q7) (g c:Int):Bool:=(QT W.groups g).all fun x=>(Qc W x c).on
def ZH (W:Q7) (t:Int):Bool:=((Q8 W t).state==1)&&TY W (Q8 W t).group (Q8 W t).cpu
def Hc (v f k:Int):Bool:=decide (v>=f)&&decide (IntKind.i64.wrap (v - f)<=Zs k)
def Pe (W:Q7) (g c ran:Int):Bool:=(QT W.groups g).all fun x=>decide ((Qc W x c).v - (Qc W (gi W.groups x).parent c).floor<=Z4 ran (Qc W x c).w)
def PO (W:Q7) (c:Int):Bool:=
 decide ((Q8 W (gi W.cpus c).cur).v - (Qc W (Q8 W (gi W.cpus c).cur).group c).floor<=Z4 (gi W.cpus c).ran (Qd (Q8 W (gi W.cpus c).cur).nice))&&Pe W (Q8 W (gi W.cpus c).cur).group c (gi W.cpus c).ran
def TN:Oi:=⟨0,0,0,0,0,0,0,0,0⟩
structure zm5 (W:Q7) (x:Oi):Prop where
 st:x.state=1\/x.state=2
 g:Q6 W.groups x.group=true
 n:Qd x.nice≠0
 m:TZ x.mask=true
 m0:x.mask≠0
 v:XH x.v=true
 s:XH x.sum=true
 u:XH x.used=true
 l1:0<=x.load
 l2:x.load<=8000000
 c:Z5 (Qq W x.group x.mask) x.cpu=true
 f:x.state=1->Hc x.v (Qc W x.group x.cpu).floor (Qd x.nice)=true
def Bm (W:Q7) (t:Int):Prop:=(Q8 W t).state=0/\Q8 W t=TN\/(Q8 W t).state≠0/\zm5 W (Q8 W t)
structure Bl (W:Q7) (k c:Int):Prop where
 f:XH (Qc W k c).floor=true
 v:XH (Qc W k c).v=true
 s:XH (Qc W k c).sum=true
 w1:1<=(Qc W k c).w
 w2:(Qc W k c).w<=20
 root:k=0->(Qc W k c).on=false/\(Qc W k c).v=0/\(Qc W k c).w=10
 on:k≠0->(Qc W k c).on=(QU W k c && !Uf W k c)
 st:k≠0->(Qc W k c).on=true->Hc (Qc W k c).v (Qc W (gi W.groups k).parent c).floor (Qc W k c).w=true
structure zj9 (W:Q7) (c:Int):Prop where
 b:XH (gi W.cpus c).busy=true
 i:XH (gi W.cpus c).idle=true
 c1 : -1<=(gi W.cpus c).cur
 c2:(gi W.cpus c).cur<(W.tasks.length:Int)
 no:(gi W.cpus c).cur<0->(gi W.cpus c).ran=0
 yes:0<=(gi W.cpus c).cur->(gi W.cpus c).up=true/\1<=(gi W.cpus c).ran/\(gi W.cpus c).ran<=149/\(Q8 W (gi W.cpus c).cur).cpu=c/\ZH W (gi W.cpus c).cur=true/\PO W c=true
structure XG (W:Q7):Prop where
 a:WA W
 t:∀t:Int,0<=t->t<12->Bm W t
 s:∀k c:Int,0<=k->k<8->0<=c->c<((gi W.groups k).shelves.length:Int)->Bl W k c
 c:∀c:Int,0<=c->c<(W.cpus.length:Int)->zj9 W c
noncomputable def QG (W:Q7):Bool:=Vu (XG W)
section
variable {W:Q7}
theorem WA.gl (h:WA W):W.groups.length=8:=h.tree.len
theorem WA.u (h:WA W) {g:Int} (hu:Q6 W.groups g=true):0<=g/\g<8/\zbr W g (gi W.groups g):=by
 obtain ⟨a,b,c⟩:=Q4.1 hu;have:=h.gl;exact ⟨a,by omega,(h.grp g a (by omega)).2 c⟩
theorem WA.root (h:WA W):Q6 W.groups 0=true:=Q4.2 ⟨by decide,by have:=h.gl; omega,h.tree.ru⟩
theorem WA.sl (h:WA W) {g:Int} (hu:Q6 W.groups g=true):(gi W.groups g).shelves.length=W.cpus.length:=(h.u hu).2.2.len
theorem WA.up (h:WA W) {g:Int} (hu:Q6 W.groups g=true) (hz:g≠0):Q6 W.groups (gi W.groups g).parent=true:=(Zl h.tree hu hz).1
theorem WA.dl (h:WA W) {g:Int} (hu:Q6 W.groups g=true) (hq:(gi W.groups g).band.quota≠0):(gi W.groups g).band.dry.length=W.cpus.length/\(gi W.groups g).band.locals.length=W.cpus.length:=by
 have hb:=(h.u hu).2.2.band hq;exact ⟨by rw [hb.1.dl,hb.2.1],hb.2.1⟩
end
theorem Yb {v:Int} {w:World} {bs:List Nat}:PX bs Zo #[.int .i64 v] w (.bool (XH v)):=Nl v fun wr hx=>⟨_,Qi,rfl⟩
theorem Zq {n:Int} {w:World} {bs:List Nat}:PX bs QV #[.int .i64 n] w (.int .i64 (Qd n)):=
 DQ n fun wr hx=>⟨_,Qi,fun g=>by
  unfold Qd; rw [if_neg (by simpa using g)],fun g=>by
  have g':X3 n (-10) 9=true:=by simpa using g
  have:=Qx.1 g';refine ⟨⟨by omega,by omega⟩,?_⟩;unfold Qd; rw [if_pos g']⟩
theorem Yw {m:Int} {w:World} {bs:List Nat}:PX bs ZA #[.int .i64 m] w (.bool (TZ m)):=Nh m fun wr hx=>⟨_,Qi,rfl⟩
theorem ZC {m c:Int} {w:World} {bs:List Nat}:PX bs Z1 #[.int .i64 m,.int .i64 c] w (.bool (Z5 m c)):=
 FH m c fun wr hx=>by
  have hr:(TZ m&&X3 c 0 3)=true->0<=c/\c<=3:=fun g=>by
   simp only [Bool.and_eq_true] at g;exact Qx.1 g.2
  exact ⟨_,Yw,_,fun _=>Qi,fun g=>by have:=hr g; exact ⟨by omega,by show c<=18446744073709551615; omega⟩,fun g=>(hr g).1,fun _=>by decide,rfl⟩
theorem zdo (a b:Int):∀k:Nat,k<=4->0<=EI a b k/\EI a b k<UI k
 | 0,_=>by simp [EI,UI]
 | k+1,h=>by
  have ih:=zdo a b k (by omega)
  have hb:UI (k+1)=2*UI k/\0<=UI k:=by
   have:k=0\/k=1\/k=2\/k=3:=by omega
   rcases this with rfl | rfl | rfl | rfl <;> decide
  simp only [EI]
  split <;> omega
theorem zmu {k:Nat} (h:k<=64):Qo .u64 (k:Int):=⟨by show (0:Int)<=(k:Int); omega,by show (k:Int)<=18446744073709551615; omega⟩
theorem Tv {a b:Int} {w:World} {bs:List Nat}:PX bs Xx #[.int .i64 a,.int .i64 b] w (.int .i64 (UJ a b)):=
 FG a b fun wr hx=>by
  refine ⟨_,Yw,_,fun _=>Yw,fun g => ?_,fun g => ?_⟩
  ·rw [YU]
   simpa using g
  ·simp only [Bool.or_eq_false_iff,Bool.not_eq_false'] at g
   have he:UJ a b=EI a b 4:=by
    rw [T0 g.1 g.2];obtain ⟨x,rfl⟩:=On g.1;obtain ⟨y,rfl⟩:=On g.2;exact (zhh x y).symm
   rw [he];refine Tx 4 0 rfl (fun x k=>k<=4/\x=EI a b k) ⟨by omega,rfl⟩ fun x k ⟨hk,hx⟩=>⟨fun hlt => ?_,fun hge => ?_⟩
   ·have hlt:=of_decide_eq_true hlt;have hb:=EL (k:=k) (by omega);have hl:=zdo a b k hk;have hbd:(1*2 ^ (min (Int.toNat (k:Int)) 64):Int)=UI k:=rfl;refine ⟨_,ZC,_,fun _=>ZC,fun h => ?_,fun h => ?_⟩
    ·rw [hbd];refine ⟨zmu (by omega),⟨by omega,by omega,by omega⟩,⟨by omega,by omega⟩,⟨by omega,by omega⟩,QA (by omega) ⟨by omega,?_⟩⟩;rw [hx]; simp only [EI]; rw [if_pos h]
    ·refine ⟨⟨by omega,by omega⟩,QA (by omega) ⟨by omega,?_⟩⟩;rw [hx]; simp only [EI]; rw [if_neg (by rw [h]; decide)]
   ·have hge:=of_decide_eq_false hge;have:k=4:=by omega
    subst this;rw [hx]
theorem zal {b:XS} (h:TB b=true):b.quota=0/\b.pool=0/\b.spent=0/\b.locals.length=0/\b.dry.length=0:=by
 unfold TB at h;simp only [Bool.and_eq_true,beq_iff_eq] at h;omega
theorem Pb {b:XS} {m:MG} {w:World} {bs:List Nat}:PX bs Jb #[.agg (Z2 b m).toArray] w (.bool (TB b)):=
 DZ b.quota b.pool b.spent m.lO b.locals.length m.lC m.dO b.dry.length m.dC fun wr hx=>fun _ _=>rfl
theorem MQ {b:XS} {m:MG} {w:World} {bs:List Nat} (h1:zkb bs w m.lO b.locals) (h2:zmq bs w m.dO b.dry) (hl:b.locals.length<=maxLen):PX bs Uh #[.agg (Z2 b m).toArray] w (.bool (Vu (VF b))):=
 Nf b.quota b.pool b.spent m.lO b.locals.length m.lC m.dO b.dry.length m.dC fun wr hx=>by
  have h1:=(h1.ext hx).less (cs:=[]) (by simp);have h2:=(h2.ext hx).less (cs:=[]) (by simp);intro _ _;refine ⟨_,Qi,_,fun _=>Qi,_,fun _=>Qi,_,fun _=>Qi,fun g=>NW fun p => ?_,fun g => ?_⟩
  ·rw [Qx.2 ⟨p.q1,p.q2⟩,Qx.2 (by have:=p.l1; have:=p.l2; omega),Qx.2 ⟨p.p1,p.p2⟩,Qx.2 ⟨p.s1,p.s2⟩,p.dl] at g;simp at g
  ·simp only [Bool.or_eq_false_iff,Bool.not_eq_false',bne_eq_false_iff_eq,Qx] at g;obtain ⟨⟨⟨⟨g1,g2⟩,g3⟩,g4⟩,g5⟩:=g;have hdl:b.dry.length=b.locals.length:=by omega
   have all:∀{k:Nat},k<=b.locals.length->(∀c:Int,0<=c->c<(k:Int)->0<=gi b.locals c/\gi b.locals c<=b.quota/\(gi b.dry c=true->gi b.locals c=0/\b.pool=0))->0<=TH b.locals k/\TH b.locals k<=40000:=fun {k} hk h=>by
    have key:∀j:Nat,j<=k->0<=TH b.locals j/\TH b.locals j<=(j:Int)*10000:=fun j=>by
     induction j with
     | zero=>intro _; simp [TH]
     | succ j ih=>
      intro hj;have:=ih (by omega);have:=h (j:Int) (by omega) (by omega);simp only [TH]; omega
    have:=key k (Nat.le_refl _);omega
   refine ⟨⟨by omega,by omega⟩,?_⟩;refine Tx b.locals.length 0 rfl (fun x k=>k<=b.locals.length/\x=b.pool+b.spent+TH b.locals k/\∀c:Int,0<=c->c<(k:Int)->0<=gi b.locals c/\gi b.locals c<=b.quota/\(gi b.dry c=true->gi b.locals c=0/\b.pool=0)) ⟨Nat.zero_le _,by simp [TH],fun c h0 h1=>by omega⟩ fun x k ⟨hk,hx2,hI⟩=>⟨fun hlt => ?_,fun hge => ?_⟩
   ·have hlt:=of_decide_eq_true hlt;have hlt2:(k:Int)<(b.dry.length:Int):=by omega
    have hsr:=all hk hI;refine ⟨h1.ix VI (by omega) hlt,_,h1 k (by omega) hlt,_,Qi,fun _=>h2.ix zb4 (by omega) hlt2,_,fun _=>h2 k (by omega) hlt2,fun _ _=>h1.ix VI (by omega) hlt,_,fun _ _=>h1 k (by omega) hlt,fun g=>NW fun p => ?_,fun g=>⟨h1.ix VI (by omega) hlt,_,h1 k (by omega) hlt,?_⟩⟩
    ·have pe:=p.each (k:Int) (by omega) hlt;rw [Qx.2 ⟨pe.1,pe.2.1⟩] at g;simp only [Bool.not_true,Bool.false_or,Bool.and_eq_true,Bool.or_eq_true,decide_eq_true_eq] at g;have:=pe.2.2 g.1;omega
    ·simp only [Bool.or_eq_false_iff,Bool.not_eq_false',Qx] at g;obtain ⟨ga,gb⟩:=g;refine ⟨⟨by omega,by omega⟩,⟨by omega,by omega⟩,QA (by omega) ⟨by omega,by simp only [TH]; omega,fun c hc0 hc => ?_⟩⟩
     by_cases hck:c<(k:Int)
     ·exact hI c hc0 hck
     ·have:c=(k:Int):=by omega
      subst this;refine ⟨ga.1,ga.2,fun hd => ?_⟩;rw [hd] at gb;simp only [Bool.true_and,Bool.or_eq_false_iff,decide_eq_false_iff_not] at gb;omega
   ·have hge:=of_decide_eq_false hge;have:k=b.locals.length:=by omega
    subst this;refine MH ?_;rw [beq_iff_eq,hx2];constructor
    ·intro hs;exact ⟨g1.1,g1.2,by omega,by omega,hdl,g4.1,g4.2,g5.1,g5.2,hI,hs⟩
    ·exact fun p=>p.sum
section
variable {W:Q7} {m:MW} {w:World} {bs:List Nat}
theorem TS.shelf {gs:List Z0} {ms:Nat->MG} {o:OA} (h:TS bs w o gs ms) {i:Int} (h0:0<=i) (h1:i<(gs.length:Int)):Q2 bs w o (Int.toNat i*14+13) [.slice (ms i.toNat).sO (gi gs i).shelves.length (ms i.toNat).sC]:=(h.cells i h0 h1).get 13 _ rfl
theorem TS.cpus {gs:List Z0} {ms:Nat->MG} {o:OA} (h:TS bs w o gs ms) {i:Int} (h0:0<=i) (h1:i<(gs.length:Int)):Q2 bs w o (Int.toNat i*14+4) [.int .i64 (gi gs i).cpus]:=(h.cells i h0 h1).get 4 _ rfl
theorem TS.band {gs:List Z0} {ms:Nat->MG} {o:OA} (h:TS bs w o gs ms) {i:Int} (h0:0<=i) (h1:i<(gs.length:Int)):Q2 bs w o (Int.toNat i*14+8) (Z2 (gi gs i).band (ms i.toNat)):=U6 fun j v hj=>by
 have e:Yq (gi gs i) (ms i.toNat)=((Yq (gi gs i) (ms i.toNat)).take 8++Z2 (gi gs i).band (ms i.toNat))++[.slice (ms i.toNat).sO (gi gs i).shelves.length (ms i.toNat).sC]:=rfl
 have hj':j<5:=by
  have:=(List.getElem?_eq_some_iff.1 hj).1
  simpa [Z2] using this
 have:=(h.cells i h0 h1).get (8+j) v (by
  rw [e,List.getElem?_append_left (by simp [Yq,Z2]; omega),List.getElem?_append_right (by simp [Yq])]
  simpa [Yq] using hj)
 rwa [<-Nat.add_assoc] at this
theorem zj6.f {ts:List Oi} {o:OA} (h:zj6 bs w o ts) {i:Int} (h0:0<=i) (h1:i<(ts.length:Int)) {j:Nat} {v:Value} (hj:(Yz (gi ts i))[j]? = some v):Q2 bs w o (Int.toNat i*9+j) [v]:=Tb ((h i h0 h1).get j v hj)
theorem zoq.f {cs:List TQ} {o:OA} (h:zoq bs w o cs) {i:Int} (h0:0<=i) (h1:i<(cs.length:Int)) {j:Nat} {v:Value} (hj:(Pk (gi cs i))[j]? = some v):Q2 bs w o (Int.toNat i*5+j) [v]:=Tb ((h i h0 h1).get j v hj)
theorem zbq.f {ss:List Pi} {o:OA} (h:zbq bs w o ss) {i:Int} (h0:0<=i) (h1:i<(ss.length:Int)) {j:Nat} {v:Value} (hj:(OV (gi ss i))[j]? = some v):Q2 bs w o (Int.toNat i*5+j) [v]:=Tb ((h i h0 h1).get j v hj)
theorem OY (h:Xo bs w W m) (h4:W.cpus.length<=4):PX bs Jt #[.agg (Qa W m).toArray] w (.int .i64 (Jo W.cpus)):=
 Cr W.now m.cO W.cpus.length m.cC m.tO W.tasks.length m.tC m.gO W.groups.length m.gC fun wr hx=>by
  have h:=(h.ext hx).less (cs:=[]) (by simp);intro _ _;refine Tx W.cpus.length 0 rfl (fun x k=>k<=W.cpus.length/\x=UC W.cpus k) ⟨Nat.zero_le _,rfl⟩ fun x k ⟨hk,hx2⟩=>⟨fun hlt => ?_,fun hge => ?_⟩
  ·have hlt:=of_decide_eq_true hlt;have hb:=EL (k:=k) (by omega);have hl:=LU W.cpus k (by omega);have hbd:(1*2 ^ (min (Int.toNat (k:Int)) 64):Int)=UI k:=rfl;refine ⟨h.c.ix ZZ (by omega) hlt,_,h.c.f (by omega) hlt (j:=0) rfl,fun hu => ?_,fun hu => ?_⟩
   ·rw [hbd];refine ⟨zmu (by omega),⟨by omega,by omega,by omega⟩,⟨by omega,by omega⟩,⟨by omega,by omega⟩,QA (by omega) ⟨by omega,?_⟩⟩;rw [hx2]; simp only [UC]; rw [if_pos hu]
   ·refine ⟨⟨by omega,by omega⟩,QA (by omega) ⟨by omega,?_⟩⟩;rw [hx2]; simp only [UC]; rw [if_neg (by rw [hu]; decide)]
  ·have hge:=of_decide_eq_false hge;have:k=W.cpus.length:=by omega
   subst this;rw [hx2]; rfl
theorem N6 {g:Int} (h:Xo bs w W m) (ht:Z6 W.groups) (hu:Q6 W.groups g=true):PX bs Tl #[.agg (Qa W m).toArray,.int .i64 g] w (.int .i64 (zbb W.groups g)):=
 Nq W.now m.cO W.cpus.length m.cC m.tO W.tasks.length m.tC m.gO W.groups.length m.gC g fun wr hx=>by
  have h:=(h.ext hx).less (cs:=[]) (by simp);intro _ _;obtain ⟨u1,u2,_⟩:=Q4.1 hu;refine ⟨h.g.ix u1 u2,_,h.g.cpus u1 u2,fun vs=>∃(x s:Int),vs=[.int .i64 x,.int .i64 s]/\Q6 W.groups x=true/\(QT W.groups x).foldl (fun s x=>UJ s (gi W.groups (gi W.groups x).parent).cpus) s=zbb W.groups g,fun vs=>(dep 3 W.groups (Yf 0 vs)).toNat,⟨g,_,rfl,hu,rfl⟩,?_⟩;rintro x s ⟨x',s',he,hux,hI⟩;simp only [List.cons.injEq,Value.int.injEq,true_and,and_true] at he;obtain ⟨rfl,rfl⟩:=he;refine ⟨fun hz => ?_,fun hz => ?_⟩
  ·have hz:x≠0:=by simpa using hz
   obtain ⟨hp,a,b,d,e,e2,hd⟩:=Zl ht hux hz;obtain ⟨v1,v2,_⟩:=Q4.1 hp;rw [YN ht hux hz,List.foldl_cons] at hI
   exact ⟨h.g.ix a b,_,h.g.parent a b,h.g.ix v1 v2,_,h.g.cpus v1 v2,_,Tv,⟨_,_,rfl,hp,hI⟩,by
    show (dep 3 W.groups (gi W.groups x).parent).toNat<(dep 3 W.groups x).toNat;omega⟩
  ·have hz:x=0:=by simpa using hz
   subst hz;rw [show QT W.groups 0=[] from Zh _ _,List.foldl_nil] at hI;rw [hI]
theorem X9 {g mask:Int} (h:Xo bs w W m) (h4:W.cpus.length<=4) (ht:Z6 W.groups) (hu:Q6 W.groups g=true):PX bs ZV #[.agg (Qa W m).toArray,.int .i64 g,.int .i64 mask] w (.int .i64 (Qq W g mask)):=
 FQ W.now m.cO W.cpus.length m.cC m.tO W.tasks.length m.tC m.gO W.groups.length m.gC g mask fun wr hx=>by
  have h:=(h.ext hx).less (cs:=[]) (by simp);intro _ _;have hk:=Tv (a:=zbb W.groups g) (b:=Jo W.cpus) (w:=wr) (bs:=[]);rw [zjo ht hu] at hk;refine ⟨_,OY h h4,_,N6 h ht hu,_,hk,_,Tv,fun g1 => ?_,fun g1=>⟨fun g2 => ?_,fun g2 => ?_⟩⟩
  ·unfold Qq; rw [if_pos (by simpa using g1)]
  ·unfold Qq; rw [if_neg (by simpa using g1),if_pos (by simpa using g2)]
  ·unfold Qq; rw [if_neg (by simpa using g1),if_neg (by simpa using g2)]
theorem OX {g c:Int} (h:Xo bs w W m) (ha:WA W) (hu:Q6 W.groups g=true) (c0:0<=c) (c1:c<(W.cpus.length:Int)):PX bs Js #[.agg (Qa W m).toArray,.int .i64 g,.int .i64 c] w (.bool (Uf W g c)):=
 Cq W.now m.cO W.cpus.length m.cC m.tO W.tasks.length m.tC m.gO W.groups.length m.gC g c fun wr hx=>by
  have h:=(h.ext hx).less (cs:=[]) (by simp);intro _ _;obtain ⟨u1,u2,_⟩:=Q4.1 hu
  have hd:(decide ((gi W.groups g).band.quota>0))=true->c<((gi W.groups g).band.dry.length:Int):=fun g1=>by
   have:=of_decide_eq_true g1;rw [(ha.dl hu (by omega)).1]; exact c1
  exact ⟨h.g.ix u1 u2,_,_,_,_,_,_,_,_,_,h.g.band u1 u2,fun _ _=>⟨fun g1=>(h.g.dry g u1 u2).ix zb4 c0 (hd g1),_,fun g1=>(h.g.dry g u1 u2) c c0 (hd g1),rfl⟩⟩
theorem JK {g c:Int} (h:Xo bs w W m) (ha:WA W) (hu:Q6 W.groups g=true) (c0:0<=c) (c1:c<(W.cpus.length:Int)):PX bs YD #[.agg (Qa W m).toArray,.int .i64 g,.int .i64 c] w (.bool (Qc W g c).on):=
 E0 W.now m.cO W.cpus.length m.cC m.tO W.tasks.length m.tC m.gO W.groups.length m.gC g c fun wr hx=>by
  have h:=(h.ext hx).less (cs:=[]) (by simp);intro _ _;obtain ⟨u1,u2,_⟩:=Q4.1 hu;have hs:=ha.sl hu;have c2:c<((gi W.groups g).shelves.length:Int):=by omega
  exact ⟨h.g.ix u1 u2,_,_,_,h.g.shelf u1 u2,(h.g.shelves g u1 u2).ix ZK c0 c2,_,zbq.f (h.g.shelves g u1 u2) c0 c2 (j:=1) rfl,rfl⟩
theorem CM {gs:List Z0} {k:Nat} (hk:(k:Int)<(gs.length:Int)) (hu:(gi gs (k:Int)).used=true):Q6 gs (k:Int)=true:=Q4.2 ⟨by omega,hk,hu⟩
theorem VQ {g c:Int} (h:Xo bs w W m) (ha:WA W) (c0:0<=c) (c1:c<(W.cpus.length:Int)):PX bs X7 #[.agg (Qa W m).toArray,.int .i64 g,.int .i64 c] w (.bool (QU W g c)):=
 DX W.now m.cO W.cpus.length m.cC m.tO W.tasks.length m.tC m.gO W.groups.length m.gC g c fun wr hx=>by
  have h:=(h.ext hx).less (cs:=[]) (by simp);intro _ _;have hgl:=ha.gl;have hm9:=Zp;refine Uv W.tasks.length 0 rfl (fun k=>k<=W.tasks.length/\∀j:Nat,j<k->O5 W g c j=false) ⟨Nat.zero_le _,fun j hj=>absurd hj (Nat.not_lt_zero j)⟩ fun k ⟨hk,hI⟩=>⟨fun hlt => ?_,fun hge => ?_⟩
  ·have hlt:=of_decide_eq_true hlt;have ht:=ha.t;refine ⟨h.t.ix QJ (by omega) hlt,_,h.t.f (by omega) hlt (j:=0) rfl,fun _=>h.t.ix QJ (by omega) hlt,_,fun _=>h.t.f (by omega) hlt (j:=1) rfl,fun _=>h.t.ix QJ (by omega) hlt,_,fun _=>h.t.f (by omega) hlt (j:=2) rfl,fun hy => ?_,fun hn=>⟨⟨by omega,by omega⟩,QY (by omega) ⟨by omega,fun j hj => ?_⟩⟩⟩
   ·unfold QU;rw [EJ.2 ⟨k,by omega,hy⟩]; rfl
   ·by_cases hjk:j<k
    ·exact hI j hjk
    ·have:j=k:=by omega
     subst this; exact hn
  ·have hge:=of_decide_eq_false hge;have hno:Vs (O5 W g c) W.tasks.length=false:=zhj fun j hj=>hI j (by omega)
   refine Uv W.groups.length 1 rfl (fun k=>1<=k/\k<=W.groups.length/\∀j:Nat,j<k->J6 W g c j=false) ⟨Nat.le_refl _,by omega,fun j hj=>by
    have:j=0:=by omega
    subst this; simp [J6]⟩ fun k ⟨hk1,hk,hI⟩=>⟨fun hlt => ?_,fun hge => ?_⟩
   ·have hlt:=of_decide_eq_true hlt;refine ⟨h.g.ix (by omega) hlt,_,h.g.used (by omega) hlt,fun _=>h.g.ix (by omega) hlt,_,fun _=>h.g.parent (by omega) hlt,(Qc W (k:Int) c).on,fun hu=>JK h ha (CM hlt (by simp only [Bool.and_eq_true] at hu; exact hu.1)) c0 c1,fun hy => ?_,fun hn=>⟨⟨by omega,by omega⟩,QY (by omega) ⟨by omega,by omega,fun j hj => ?_⟩⟩⟩
    ·unfold QU
     have:Vs (J6 W g c) W.groups.length=true:=EJ.2 ⟨k,by omega,by
      unfold J6;rw [decide_eq_true hk1,Bool.true_and]; exact hy⟩
     rw [this,Bool.or_true]
    ·by_cases hjk:j<k
     ·exact hI j hjk
     ·have:j=k:=by omega
      subst this;unfold J6;rw [decide_eq_true hk1,Bool.true_and]; exact hn
   ·have hge:=of_decide_eq_false hge;have:Vs (J6 W g c) W.groups.length=false:=zhj fun j hj=>hI j (by omega)
    unfold QU;rw [hno,this]; rfl
theorem JJ {t:Int} (h:Xo bs w W m) (ha:WA W) (t0:0<=t) (t1:t<(W.tasks.length:Int)) (hu:(Q8 W t).state=1->Q6 W.groups (Q8 W t).group=true/\0<=(Q8 W t).cpu/\(Q8 W t).cpu<(W.cpus.length:Int)) :
  PX bs Y3 #[.agg (Qa W m).toArray,.int .i64 t] w (.bool (ZH W t)):=
 DY W.now m.cO W.cpus.length m.cC m.tO W.tasks.length m.tC m.gO W.groups.length m.gC t fun wr hx=>by
  have h:=(h.ext hx).less (cs:=[]) (by simp);intro _ _;refine ⟨h.t.ix QJ t0 t1,_,_,_,_,_,_,_,_,_,h.t t t0 t1,fun _ _=>⟨fun g => ?_,fun g => ?_⟩⟩
  ·have:((Q8 W t).state==1)=false:=by simpa [Q8] using g
   unfold ZH; rw [this]; rfl
  ·have hs:(Q8 W t).state=1:=by simpa [Q8] using g
   obtain ⟨hug,hc0,hc1⟩:=hu hs;have hL:ZH W t=TY W (Q8 W t).group (Q8 W t).cpu:=by unfold ZH; rw [beq_iff_eq.2 hs,Bool.true_and]
   rw [hL];refine ⟨fun vs=>∃x:Int,vs=[.int .i64 x]/\Q6 W.groups x=true/\TY W x (Q8 W t).cpu=TY W (Q8 W t).group (Q8 W t).cpu,fun vs=>(dep 3 W.groups (Yf 0 vs)).toNat,⟨_,rfl,hug,rfl⟩,?_⟩;rintro x ⟨x',he,hux,hI⟩;simp only [List.cons.injEq,Value.int.injEq,true_and,and_true] at he;subst he;refine ⟨fun hz => ?_,fun hz => ?_⟩
   ·have hz:x≠0:=by simpa using hz
    obtain ⟨hp,a,b,d,e,e2,hd⟩:=Zl ha.tree hux hz;unfold TY at hI;rw [YN ha.tree hux hz,List.all_cons] at hI
    refine ⟨_,JK h ha hux hc0 hc1,fun g2 => ?_,fun g2=>⟨h.g.ix a b,_,h.g.parent a b,⟨_,rfl,hp,?_⟩,by
     show (dep 3 W.groups (gi W.groups x).parent).toNat<(dep 3 W.groups x).toNat;omega⟩⟩
    ·have g2:(Qc W x (Q8 W t).cpu).on=false:=by simpa [Q8] using g2
     rw [g2,Bool.false_and] at hI;unfold TY;rw [<-hI]
    ·have g2:(Qc W x (Q8 W t).cpu).on=true:=by simpa [Q8] using g2
     rw [g2,Bool.true_and] at hI;exact hI
   ·have hz:x=0:=by simpa using hz
    subst hz;unfold TY at hI;rw [show QT W.groups 0=[] from Zh _ _,List.all_nil] at hI;unfold TY;rw [<-hI]
end
theorem PF {v f k:Int} {w:World} {bs:List Nat}:PX bs JG #[.int .i64 v,.int .i64 f,.int .i64 k] w (.bool (Hc v f k)):=
 FP v f k fun wr hx=>⟨IntKind.i64.wrap (v - f),fun _ wq=>by simp [eqGuard,binOp,Op.intArith],_,fun _=>Tu,rfl⟩
theorem zfr:zdk Tryz.prog QL:=⟨by kernel_rfl,by kernel_rfl,by kernel_rfl⟩
theorem zks (a b:Oi):F7 Tryz.prog (Tryz.prog.fieldsOf QL).toList 0 (Yz a) (Yz b)=some ((a.state==b.state)&&((a.group==b.group)&&((a.cpu==b.cpu)&&((a.nice==b.nice)&&((a.mask==b.mask)&&((a.v==b.v)&&((a.sum==b.sum)&&((a.used==b.used)&&((a.load==b.load)&&true))))))))):=by kernel_rfl
theorem zme {a b:Oi}:((a.state==b.state)&&((a.group==b.group)&&((a.cpu==b.cpu)&&((a.nice==b.nice)&&((a.mask==b.mask)&&((a.v==b.v)&&((a.sum==b.sum)&&((a.used==b.used)&&((a.load==b.load)&&true)))))))))=decide (a=b):=by
 cases a; cases b
 simp only [Oi.mk.injEq,Bool.and_true];rw [Bool.eq_iff_iff];simp only [Bool.and_eq_true,beq_iff_eq,decide_eq_true_eq]
section
variable {W:Q7} {m:MW} {w:World} {bs:List Nat}
theorem GC {k:Int} (h:Xo bs w W m) (hn:0<=W.now) (k0:0<=k) (k1:k<(W.groups.length:Int)) (hf:zg6 (gi W.groups k)):PX bs Up #[.agg (Qa W m).toArray,.int .i64 k] w (.bool (Vu (HB W k))):=
 H2 W.now m.cO W.cpus.length m.cC m.tO W.tasks.length m.tC m.gO W.groups.length m.gC k fun wr hx=>by
  have h:=(h.ext hx).less (cs:=[]) (by simp);intro _ _;refine ⟨h.g.ix k0 k1,_,_,_,_,_,_,_,_,_,_,_,_,_,_,_,_,_,_,_,_,h.g.cells k k0 k1,fun _ _=>⟨fun g => ?_,fun g => ?_⟩⟩
  ·have hu:(gi W.groups k).used=false:=by simpa using g
   refine ⟨_,fun _=>Pb (b:=(gi W.groups k).band) (m:=m.ms k.toNat),MH ?_⟩;simp only [Bool.and_eq_true,beq_iff_eq,Xe];constructor
   ·rintro ⟨⟨⟨⟨⟨⟨⟨⟨e1,e2⟩,e3⟩,e4⟩,e5⟩,e6⟩,e7⟩,e8⟩,e9⟩;exact ⟨fun _=>⟨e1,e2,e3,e4,e5,e6,e7,by omega,e9⟩,fun hu'=>by rw [hu'] at hu; cases hu⟩
   ·intro p;have q:=p.1 hu;exact ⟨⟨⟨⟨⟨⟨⟨⟨q.p,q.n⟩,q.w⟩,q.c⟩,q.pe⟩,q.ne⟩,q.s⟩,by have:=q.l; omega⟩,q.b⟩
  ·have hu:(gi W.groups k).used=true:=by simpa using g
   have mk:zbr W k (gi W.groups k)->HB W k:=fun q=>⟨fun hu'=>(by rw [hu'] at hu; cases hu),fun _=>q⟩
   refine ⟨_,Xz,_,fun _=>Yw,_,fun _=>Yb,fun g2=>NW fun p => ?_,fun g2=>⟨fun g3=>NW fun p => ?_,fun g3=>⟨fun g4=>⟨_,Pb (b:=(gi W.groups k).band) (m:=m.ms k.toNat),MH ?_⟩,fun g4=>⟨_,MQ (b:=(gi W.groups k).band) (m:=m.ms k.toNat) (h.g.locals k k0 k1) (h.g.dry k k0 k1) hf.lo,_,fun _=>Qi,fun g5 => ?_,MH ?_⟩⟩⟩⟩
   ·have q:=p.2 hu;have e1:X3 (gi W.groups k).weight 1 20=true:=Qx.2 ⟨q.w1,q.w2⟩;have e3:((gi W.groups k).cpus==0)=false:=by simpa using q.m0
    have e5:(((gi W.groups k).shelves.length:Nat):Int)=((W.cpus.length:Nat):Int):=by have:=q.len; omega
    rw [e1,q.m,e3,q.s,e5] at g2;simp at g2
   ·have q:=p.2 hu;simp only [Bool.and_eq_true,beq_iff_eq] at g3;have r:=q.root g3.1;rw [r.1,r.2.1,r.2.2] at g3;simp at g3
   all_goals
    simp only [Bool.or_eq_false_iff,Bool.not_eq_false',bne_eq_false_iff_eq,Qx,beq_eq_false_iff_ne] at g2;obtain ⟨⟨⟨⟨a1,a2⟩,a3⟩,a4⟩,a5⟩:=g2;have hlen:(gi W.groups k).shelves.length=W.cpus.length:=by omega
    have hroot:k=0->(gi W.groups k).weight=10/\(gi W.groups k).cpus=15/\(gi W.groups k).band.quota=0:=fun hk=>by
     rw [beq_iff_eq.2 hk,Bool.true_and] at g3;simp only [Bool.or_eq_false_iff,bne_eq_false_iff_eq] at g3;exact ⟨g3.1.1,g3.1.2,g3.2⟩
   ·have q0:(gi W.groups k).band.quota=0:=by simpa using g4
    simp only [Bool.and_eq_true,beq_iff_eq];constructor
    ·rintro ⟨⟨e1,e2⟩,e3⟩;exact mk ⟨a1.1,a1.2,a2,a3,a4,hlen,hroot,fun _=>⟨e1,e2,e3⟩,fun hne=>absurd q0 hne⟩
    ·intro p;have q:=(p.2 hu).none q0;exact ⟨⟨q.1,q.2.1⟩,q.2.2⟩
   ·simp only [Bool.and_eq_true,beq_iff_eq,decide_eq_true_eq] at g5;have:=hf.nx;exact ⟨by have:=this.1; omega,by have:=this.2; omega⟩
   ·have q0:(gi W.groups k).band.quota≠0:=by simpa using g4
    simp only [Bool.and_eq_true,beq_iff_eq,decide_eq_true_eq,Qn,Qx];constructor
    ·rintro ⟨⟨⟨⟨e1,e2⟩,e3⟩,e4⟩,e5⟩;exact mk ⟨a1.1,a1.2,a2,a3,a4,hlen,hroot,fun hne=>absurd hne q0,fun _=>⟨e1,by omega,e3.1,e3.2,e4,e5⟩⟩
    ·intro p;have q:=(p.2 hu).band q0;exact ⟨⟨⟨⟨q.1,by have:=q.2.1; omega⟩,q.2.2.1,q.2.2.2.1⟩,q.2.2.2.2.1⟩,q.2.2.2.2.2⟩
theorem K9 {W:Q7} (ha:WA W) {g mask c:Int} (hc:Z5 (Qq W g mask) c=true):0<=c/\c<(W.cpus.length:Int):=by
 have h1:=zg0 hc;exact ⟨(Tz h1).2.1,(CJ W.cpus _ ha.c2 h1).1⟩
theorem DM {t:Int} (h:Xo bs w W m) (ha:WA W) (t0:0<=t) (t1:t<(W.tasks.length:Int)):PX bs V4 #[.agg (Qa W m).toArray,.int .i64 t] w (.bool (Vu (Bm W t))):=
 E2 W.now m.cO W.cpus.length m.cC m.tO W.tasks.length m.tC m.gO W.groups.length m.gC t fun wr hx=>by
  have h:=(h.ext hx).less (cs:=[]) (by simp);intro _ _;have hgl:=ha.gl;have hm9:=Zp;refine ⟨h.t.ix QJ t0 t1,_,_,_,_,_,_,_,_,_,h.t t t0 t1,fun _ _=>⟨fun g => ?_,fun g => ?_⟩⟩
  ·have hs:(gi W.tasks t).state=0:=by simpa using g
   refine ⟨_,fun wq=>zc1 zfr (zks (gi W.tasks t) TN) _ _ wq,MH ?_⟩;rw [zme,decide_eq_true_eq];constructor
   ·exact fun e=>.inl ⟨hs,e⟩
   ·rintro (⟨_,e⟩ | ⟨e,_⟩)
    ·exact e
    ·exact absurd hs e
  ·have hs:(gi W.tasks t).state≠0:=by simpa using g
   have no:∀{q:Bm W t},zm5 W (gi W.tasks t):=fun {q}=>by
    rcases q with ⟨e,_⟩ | ⟨_,q⟩
    ·exact absurd e hs
    ·exact q
   refine ⟨_,fun _=>Yx (c:=m.gC) h.g,_,fun _=>Zq,_,fun _=>Yw,fun g2=>NW fun p => ?_,fun g2 => ?_⟩
   ·have q:=no (q:=p);have e3:(Qd (gi W.tasks t).nice==0)=false:=by simpa using q.n
    have e4:((gi W.tasks t).mask==0)=false:=by simpa using q.m0
    rw [q.g,e3,q.m,e4] at g2;simp only [Bool.not_true,Bool.or_false,Bool.and_eq_true,bne_iff_ne] at g2;have:=q.st;omega
   ·simp only [Bool.or_eq_false_iff,Bool.not_eq_false',beq_eq_false_iff_ne] at g2;obtain ⟨⟨⟨⟨a1,a2⟩,a3⟩,a4⟩,a5⟩:=g2
    have st:(gi W.tasks t).state=1\/(gi W.tasks t).state=2:=by
     by_cases h1:(gi W.tasks t).state=1
     ·exact .inl h1
     ·refine .inr ?_;have:((gi W.tasks t).state != 1)=true:=by simpa using h1
      rw [this,Bool.true_and] at a1
      simpa using a1
    refine ⟨_,Yb,_,fun _=>Yb,_,fun _=>Yb,_,fun _=>Qi,Qq W (gi W.tasks t).group (gi W.tasks t).mask,fun _=>X9 h ha.c2 ha.tree a2,_,fun _=>ZC,fun g3=>NW fun p => ?_,fun g3 => ?_⟩
    ·have q:=no (q:=p);have e4:X3 (gi W.tasks t).load 0 8000000=true:=Qx.2 ⟨q.l1,q.l2⟩;rw [q.v,q.s,q.u,e4,q.c] at g3;simp at g3
    ·simp only [Bool.or_eq_false_iff,Bool.not_eq_false',Qx] at g3;obtain ⟨⟨⟨⟨b1,b2⟩,b3⟩,b4⟩,b5⟩:=g3;obtain ⟨u1,u2,_⟩:=Q4.1 a2;obtain ⟨c0,c1⟩:=K9 ha b5;have hsl:=ha.sl a2;have c2:(gi W.tasks t).cpu<((gi W.groups (gi W.tasks t).group).shelves.length:Int):=by omega
     refine ⟨fun _=>h.g.ix u1 u2,_,_,_,fun _=>h.g.shelf u1 u2,fun _=>(h.g.shelves _ u1 u2).ix ZK c0 c2,_,fun _=>zbq.f (h.g.shelves _ u1 u2) c0 c2 (j:=0) rfl,_,fun _=>Zq,_,fun _=>PF,MH ?_⟩;simp only [Bool.or_eq_true,beq_iff_eq];constructor
     ·intro e
      exact .inr ⟨hs,⟨st,a2,a3,a4,a5,b1,b2,b3,b4.1,b4.2,b5,fun e1=>by
       rcases e with e | e
       ·have e:(gi W.tasks t).state=2:=e;have e1:(gi W.tasks t).state=1:=e1;omega
       ·exact e⟩⟩
     ·intro p;have q:=no (q:=p);rcases st with e | e
      ·exact .inr (q.f e)
      ·exact .inl e
theorem GD {k c:Int} (h:Xo bs w W m) (ha:WA W) (k0:0<=k) (k1:k<(W.groups.length:Int)) (c0:0<=c) (c2:c<((gi W.groups k).shelves.length:Int)):PX bs Uq #[.agg (Qa W m).toArray,.int .i64 k,.int .i64 c] w (.bool (Vu (Bl W k c))):=
 H3 W.now m.cO W.cpus.length m.cC m.tO W.tasks.length m.tC m.gO W.groups.length m.gC k c fun wr hx=>by
  have h:=(h.ext hx).less (cs:=[]) (by simp);intro _ _;have hgl:=ha.gl
  have hus:(gi W.groups k).used=true:=by
   cases hu:(gi W.groups k).used with
   | true=>rfl
   | false=>
    have:=((ha.grp k k0 (by omega)).1 hu).l;omega
  have hu:Q6 W.groups k=true:=Q4.2 ⟨k0,k1,hus⟩;have hsl:=ha.sl hu;have c1:c<(W.cpus.length:Int):=by omega
  refine ⟨h.g.ix k0 k1,_,_,_,_,_,_,_,_,_,_,_,_,_,_,_,_,_,_,_,_,h.g.cells k k0 k1,fun _ _=>⟨(h.g.shelves k k0 k1).ix ZK c0 c2,_,_,_,_,_,(h.g.shelves k k0 k1) c c0 c2,fun _ _=>⟨_,Yb,_,fun _=>Yb,_,fun _=>Yb,_,fun _=>Xz,fun g=>NW fun p => ?_,fun g=>⟨fun g2=>MH ?_,fun g2=>⟨_,VQ h ha c0 c1,_,fun _=>OX h ha hu c0 c1,fun g3=>NW fun p => ?_,fun g3 => ?_⟩⟩⟩⟩⟩
  ·have e1:=p.f;have e2:=p.v;have e3:=p.s;have e4:X3 (Qc W k c).w 1 20=true:=Qx.2 ⟨p.w1,p.w2⟩;have g':(((!XH (Qc W k c).floor || !XH (Qc W k c).v) || !XH (Qc W k c).sum) || !X3 (Qc W k c).w 1 20)=true:=g;rw [e1,e2,e3,e4] at g'
   cases g'
  ·have g':(((!XH (Qc W k c).floor || !XH (Qc W k c).v) || !XH (Qc W k c).sum) || !X3 (Qc W k c).w 1 20)=false:=g;simp only [Bool.or_eq_false_iff,Bool.not_eq_false',Qx] at g';obtain ⟨⟨⟨a1,a2⟩,a3⟩,a4⟩:=g';have hk:k=0:=by simpa using g2
   show ((!(Qc W k c).on&&((Qc W k c).v==0))&&((Qc W k c).w==10))=true↔_;simp only [Bool.and_eq_true,Bool.not_eq_true',beq_iff_eq];constructor
   ·rintro ⟨⟨e1,e2⟩,e3⟩;exact ⟨a1,a2,a3,a4.1,a4.2,fun _=>⟨e1,e2,e3⟩,fun hne=>absurd hk hne,fun hne=>absurd hk hne⟩
   ·intro p;have q:=p.root hk;exact ⟨⟨q.1,q.2.1⟩,q.2.2⟩
  ·have hk:k≠0:=by simpa using g2
   have g3':(!((Qc W k c).on==(QU W k c && !Uf W k c)))=true:=g3;rw [p.on hk] at g3';simp at g3'
  ·have g':(((!XH (Qc W k c).floor || !XH (Qc W k c).v) || !XH (Qc W k c).sum) || !X3 (Qc W k c).w 1 20)=false:=g;simp only [Bool.or_eq_false_iff,Bool.not_eq_false',Qx] at g';obtain ⟨⟨⟨a1,a2⟩,a3⟩,a4⟩:=g';have hk:k≠0:=by simpa using g2
   have hon:(Qc W k c).on=(QU W k c && !Uf W k c):=by
    have g3':(!((Qc W k c).on==(QU W k c && !Uf W k c)))=false:=g3
    simpa using g3'
   have hp:=ha.up hu hk;obtain ⟨v1,v2,_⟩:=Q4.1 hp;have hpl:=ha.sl hp;have c3:c<((gi W.groups (gi W.groups k).parent).shelves.length:Int):=by omega
   refine ⟨fun _=>h.g.ix v1 v2,_,_,_,fun _=>h.g.shelf v1 v2,fun _=>(h.g.shelves _ v1 v2).ix ZK c0 c3,_,fun _=>zbq.f (h.g.shelves _ v1 v2) c0 c3 (j:=0) rfl,_,fun _=>PF,MH ?_⟩;show (!(Qc W k c).on||Hc (Qc W k c).v (Qc W (gi W.groups k).parent c).floor (Qc W k c).w)=true↔_;simp only [Bool.or_eq_true,Bool.not_eq_true'];constructor
   ·intro e
    exact ⟨a1,a2,a3,a4.1,a4.2,fun e0=>absurd e0 hk,fun _=>hon,fun _ ho=>by
     rcases e with e | e
     ·rw [ho] at e; cases e
     ·exact e⟩
   ·intro p
    cases ho:(Qc W k c).on with
    | false=>exact .inl rfl
    | true=>exact .inr (p.st hk ho)
theorem zll {t:Int} (ht:Bm W t) (hl:ZH W t=true):zm5 W (Q8 W t)/\(Q8 W t).state=1:=by
 have hs:(Q8 W t).state=1:=by
  unfold ZH at hl;simp only [Bool.and_eq_true,beq_iff_eq] at hl;exact hl.1
 rcases ht with ⟨e,_⟩ | ⟨_,q⟩
 ·omega
 ·exact ⟨q,hs⟩
theorem zh7 {a b:Int} (ha:XH a=true) (hb:XH b=true):Qo .i64 (a - b):=by
 have:=ZR.1 ha;have:=ZR.1 hb;exact ⟨by omega,by omega⟩
theorem DK {c:Int} (h:Xo bs w W m) (ha:WA W) (hts:∀t:Int,0<=t->t<12->Bm W t) (hss:∀k c:Int,0<=k->k<8->0<=c->c<((gi W.groups k).shelves.length:Int)->Bl W k c) (c0:0<=c) (c1:c<(W.cpus.length:Int)) (t0:0<=(gi W.cpus c).cur) (t1:(gi W.cpus c).cur<(W.tasks.length:Int)) (hl:ZH W (gi W.cpus c).cur=true) :
  PX bs V3 #[.agg (Qa W m).toArray,.int .i64 c] w (.bool (PO W c)):=
 E1 W.now m.cO W.cpus.length m.cC m.tO W.tasks.length m.tC m.gO W.groups.length m.gC c fun wr hx=>by
  have h:=(h.ext hx).less (cs:=[]) (by simp);intro _ _;have htl:=ha.t;have hgl:=ha.gl;obtain ⟨q,_⟩:=zll (hts _ t0 (by omega)) hl;have a2:=q.g;obtain ⟨u1,u2,_⟩:=Q4.1 a2
  have sl:∀{x:Int},Q6 W.groups x=true->0<=x/\x<(W.groups.length:Int)/\c<((gi W.groups x).shelves.length:Int)/\Bl W x c:=fun {x} hx=>by
   obtain ⟨v1,v2,_⟩:=Q4.1 hx;have e:=ha.sl hx;have c3:c<((gi W.groups x).shelves.length:Int):=by omega
   exact ⟨v1,v2,c3,hss x c v1 (by omega) c0 c3⟩
  obtain ⟨_,_,c2,sp⟩:=sl a2;refine ⟨h.c.ix ZZ c0 c1,_,_,_,_,_,h.c c c0 c1,fun _ _=>⟨h.t.ix QJ t0 t1,_,_,_,_,_,_,_,_,_,h.t _ t0 t1,fun _ _=>⟨h.g.ix u1 u2,_,_,_,h.g.shelf u1 u2,(h.g.shelves _ u1 u2).ix ZK c0 c2,_,zbq.f (h.g.shelves _ u1 u2) c0 c2 (j:=0) rfl,zh7 q.v sp.f,_,Zq,_,YG,fun g => ?_,fun g => ?_⟩⟩⟩
  ·have g:=of_decide_eq_true g;have hd:¬((Q8 W (gi W.cpus c).cur).v - (Qc W (Q8 W (gi W.cpus c).cur).group c).floor<=Z4 (gi W.cpus c).ran (Qd (Q8 W (gi W.cpus c).cur).nice)):=Int.not_le.2 g;unfold PO;rw [decide_eq_false hd];rfl
  ·have g:=of_decide_eq_false g
   have hS:PO W c=Pe W (Q8 W (gi W.cpus c).cur).group c (gi W.cpus c).ran:=by
    have hd:(Q8 W (gi W.cpus c).cur).v - (Qc W (Q8 W (gi W.cpus c).cur).group c).floor<=Z4 (gi W.cpus c).ran (Qd (Q8 W (gi W.cpus c).cur).nice):=Int.not_lt.1 g;unfold PO;rw [decide_eq_true hd,Bool.true_and]
   rw [hS];refine ⟨fun vs=>∃x:Int,vs=[.int .i64 x]/\Q6 W.groups x=true/\Pe W x c (gi W.cpus c).ran=Pe W (Q8 W (gi W.cpus c).cur).group c (gi W.cpus c).ran,fun vs=>(dep 3 W.groups (Yf 0 vs)).toNat,⟨_,rfl,a2,rfl⟩,?_⟩;rintro x ⟨x',he,hux,hI⟩;simp only [List.cons.injEq,Value.int.injEq,true_and,and_true] at he;subst he;refine ⟨fun hz => ?_,fun hz => ?_⟩
   ·have hz:x≠0:=by simpa using hz
    obtain ⟨hp,a,b,d,e,e2,hd⟩:=Zl ha.tree hux hz;obtain ⟨x1,x2,x3,xs⟩:=sl hux;obtain ⟨p1,p2,p3,ps⟩:=sl hp;unfold Pe at hI;rw [YN ha.tree hux hz,List.all_cons] at hI
    refine ⟨h.g.ix x1 x2,_,_,_,h.g.shelf x1 x2,(h.g.shelves _ x1 x2).ix ZK c0 x3,_,_,_,_,_,(h.g.shelves _ x1 x2) c c0 x3,fun _ _=>⟨h.g.ix x1 x2,_,h.g.parent x1 x2,h.g.ix p1 p2,_,_,_,h.g.shelf p1 p2,(h.g.shelves _ p1 p2).ix ZK c0 p3,_,zbq.f (h.g.shelves _ p1 p2) c0 p3 (j:=0) rfl,zh7 xs.v ps.f,_,YG,fun g2 => ?_,fun g2=>⟨h.g.ix x1 x2,_,h.g.parent x1 x2,⟨_,rfl,hp,?_⟩,by
     show (dep 3 W.groups (gi W.groups x).parent).toNat<(dep 3 W.groups x).toNat;omega⟩⟩⟩
    ·have g2:=of_decide_eq_true g2;have hd:¬((Qc W x c).v - (Qc W (gi W.groups x).parent c).floor<=Z4 (gi W.cpus c).ran (Qc W x c).w):=Int.not_le.2 g2;rw [decide_eq_false hd,Bool.false_and] at hI;unfold Pe;rw [<-hI]
    ·have g2:=of_decide_eq_false g2;have hd:(Qc W x c).v - (Qc W (gi W.groups x).parent c).floor<=Z4 (gi W.cpus c).ran (Qc W x c).w:=Int.not_lt.1 g2;rw [decide_eq_true hd,Bool.true_and] at hI;exact hI
   ·have hz:x=0:=by simpa using hz
    subst hz;unfold Pe at hI;rw [show QT W.groups 0=[] from Zh _ _,List.all_nil] at hI;unfold Pe;rw [<-hI]
theorem zah {t:Int} (ha:WA W) (ht:Bm W t) (hs:(Q8 W t).state=1):Q6 W.groups (Q8 W t).group=true/\0<=(Q8 W t).cpu/\(Q8 W t).cpu<(W.cpus.length:Int):=by
 rcases ht with ⟨e,_⟩ | ⟨_,q⟩
 ·omega
 ·exact ⟨q.g,K9 ha q.c⟩
theorem Fm {c:Int} (h:Xo bs w W m) (ha:WA W) (hts:∀t:Int,0<=t->t<12->Bm W t) (hss:∀k c:Int,0<=k->k<8->0<=c->c<((gi W.groups k).shelves.length:Int)->Bl W k c) (c0:0<=c) (c1:c<(W.cpus.length:Int)) :
  PX bs VN #[.agg (Qa W m).toArray,.int .i64 c] w (.bool (Vu (zj9 W c))):=
 FN W.now m.cO W.cpus.length m.cC m.tO W.tasks.length m.tC m.gO W.groups.length m.gC c fun wr hx=>by
  have h:=(h.ext hx).less (cs:=[]) (by simp);intro _ _;have htl:=ha.t;refine ⟨h.c.ix ZZ c0 c1,_,_,_,_,_,h.c c c0 c1,fun _ _=>⟨_,Yb,_,fun _=>Yb,fun _=>⟨by omega,by omega⟩,_,fun _=>Qi,fun g=>NW fun p => ?_,fun g=>⟨fun g2=>MH ?_,fun g2 => ?_⟩⟩⟩
  ·have e3:X3 (gi W.cpus c).cur (-1) (((W.tasks.length:Nat):Int) - 1)=true:=Qx.2 (by have:=p.c1; have:=p.c2; omega);rw [p.b,p.i,e3] at g;cases g
  ·simp only [Bool.or_eq_false_iff,Bool.not_eq_false',Qx] at g;obtain ⟨⟨a1,a2⟩,a3⟩:=g;have g2:=of_decide_eq_true g2;rw [beq_iff_eq];exact ⟨fun e=>⟨a1,a2,a3.1,by omega,fun _=>e,fun hc=>by omega⟩,fun p=>p.no g2⟩
  ·simp only [Bool.or_eq_false_iff,Bool.not_eq_false',Qx] at g;obtain ⟨⟨a1,a2⟩,a3⟩:=g;have g2:=of_decide_eq_false g2;have t0:0<=(gi W.cpus c).cur:=by omega
   have t1:(gi W.cpus c).cur<(W.tasks.length:Int):=by omega
   refine ⟨_,fun _=>Qi,fun _=>h.t.ix QJ t0 t1,_,fun _=>h.t.f t0 t1 (j:=2) rfl,ZH W (gi W.cpus c).cur,fun _=>JJ h ha t0 t1 fun hs=>zah ha (hts _ t0 (by omega)) hs,PO W c,fun g3=>DK h ha hts hss c0 c1 t0 t1 (by simp only [Bool.and_eq_true] at g3; exact g3.2),MH ?_⟩;simp only [Bool.and_eq_true,beq_iff_eq,Qx];constructor
   ·rintro ⟨⟨⟨⟨e1,e2⟩,e3⟩,e4⟩,e5⟩;exact ⟨a1,a2,a3.1,by omega,fun hc=>by omega,fun _=>⟨e1,e2.1,e2.2,e3,e4,e5⟩⟩
   ·intro p;have q:=p.yes t0;exact ⟨⟨⟨⟨q.1,q.2.1,q.2.2.1⟩,q.2.2.2.1⟩,q.2.2.2.2.1⟩,q.2.2.2.2.2⟩
theorem XY (h:Xo bs w W m) (lc:W.cpus.length<=maxLen) (lt:W.tasks.length<=maxLen) (lg:W.groups.length<=maxLen) (hf:∀i:Int,0<=i->i<(W.groups.length:Int)->zg6 (gi W.groups i)) :
  PX bs Yr #[.agg (Qa W m).toArray] w (.bool (QG W)):=
 FI W.now m.cO W.cpus.length m.cC m.tO W.tasks.length m.tC m.gO W.groups.length m.gC fun wr hx=>by
  have h:=(h.ext hx).less (cs:=[]) (by simp);intro _ _;have hm9:=Je;refine ⟨_,Qi,_,fun _=>Qi,Yu W.groups,fun _=>Vm h.g lg,Jo W.cpus,fun g=>OY h ?_,fun g=>NW fun p => ?_,fun g => ?_⟩
  ·simp only [Bool.or_eq_false_iff,Bool.not_eq_false',Qx] at g;omega
  ·have a:=p.a;have e1:X3 W.now 0 100000000000000000=true:=Qx.2 ⟨a.n1,a.n2⟩;have e2:X3 ((W.cpus.length:Nat):Int) 1 4=true:=Qx.2 (by have:=a.c1; have:=a.c2; omega);have e3:((W.tasks.length:Nat):Int)=12:=by have:=a.t; omega
   have e5:(Jo W.cpus==0)=false:=by simpa using a.ups
   rw [e1,e2,e3,Y5.2 a.tree,e5] at g;simp at g
  simp only [Bool.or_eq_false_iff,Bool.not_eq_false',Qx,bne_eq_false_iff_eq,beq_eq_false_iff_ne] at g;obtain ⟨⟨⟨⟨g1,g2⟩,g3⟩,g4⟩,g5⟩:=g;have ht:=Y5.1 g4;have hgl:=ht.len;refine Uv W.groups.length 0 rfl (fun k=>k<=W.groups.length/\∀j:Int,0<=j->j<(k:Int)->HB W j) ⟨Nat.zero_le _,fun j h0 h1=>by omega⟩ fun k ⟨hk,hI⟩=>⟨fun hlt => ?_,fun hge => ?_⟩
  ·have hlt:=of_decide_eq_true hlt;refine ⟨_,GC h g1.1 (by omega) hlt (hf _ (by omega) hlt),fun g6=>NW fun p => ?_,fun g6=>⟨⟨by omega,by omega⟩,QY (by omega) ⟨by omega,fun j h0 h1 => ?_⟩⟩⟩
   ·have g6:Vu (HB W (k:Int))=false:=by simpa using g6
    exact Gl.1 g6 (p.a.grp _ (by omega) (by omega))
   ·by_cases hjk:j<(k:Int)
    ·exact hI j h0 hjk
    ·have:j=(k:Int):=by omega
     subst this;exact Qn.1 (by simpa using g6)
  have hge:=of_decide_eq_false hge;have ha:WA W:=⟨g1.1,g1.2,by omega,by omega,by omega,ht,g5,fun j h0 h1=>hI j h0 (by omega)⟩;refine Uv W.tasks.length 0 rfl (fun k=>k<=W.tasks.length/\∀j:Int,0<=j->j<(k:Int)->Bm W j) ⟨Nat.zero_le _,fun j h0 h1=>by omega⟩ fun k2 ⟨hk2,hI2⟩=>⟨fun hlt => ?_,fun hge2 => ?_⟩
  ·have hlt:=of_decide_eq_true hlt;refine ⟨_,DM h ha (by omega) hlt,fun g6=>NW fun p => ?_,fun g6=>⟨⟨by omega,by omega⟩,QY (by omega) ⟨by omega,fun j h0 h1 => ?_⟩⟩⟩
   ·have g6:Vu (Bm W (k2:Int))=false:=by simpa using g6
    exact Gl.1 g6 (p.t _ (by omega) (by omega))
   ·by_cases hjk:j<(k2:Int)
    ·exact hI2 j h0 hjk
    ·have:j=(k2:Int):=by omega
     subst this;exact Qn.1 (by simpa using g6)
  have hge2:=of_decide_eq_false hge2;have hts:∀t:Int,0<=t->t<12->Bm W t:=fun t h0 h1=>hI2 t h0 (by omega)
  refine Uv W.groups.length 0 rfl (fun k=>k<=W.groups.length/\∀j c:Int,0<=j->j<(k:Int)->0<=c->c<((gi W.groups j).shelves.length:Int)->Bl W j c) ⟨Nat.zero_le _,fun j c h0 h1=>by omega⟩ fun k3 ⟨hk3,hI3⟩=>⟨fun hlt => ?_,fun hge3 => ?_⟩
  ·have hlt:=of_decide_eq_true hlt;have k30:(0:Int)<=(k3:Int):=by omega
   refine Uv (gi W.groups (k3:Int)).shelves.length 0 rfl (fun c=>c<=(gi W.groups (k3:Int)).shelves.length/\∀d:Int,0<=d->d<(c:Int)->Bl W (k3:Int) d) ⟨Nat.zero_le _,fun j h0 h1=>by omega⟩ fun c ⟨hc,hJ⟩=>⟨h.g.ix k30 hlt,_,_,_,h.g.shelf k30 hlt,fun hltc => ?_,fun hgec => ?_⟩
   ·have hltc:=of_decide_eq_true hltc;have hsm:(gi W.groups (k3:Int)).shelves.length<=maxLen:=(hf _ k30 hlt).sh;refine ⟨_,GD h ha k30 hlt (by omega) hltc,fun g6=>NW fun p => ?_,fun g6=>⟨⟨by omega,by omega⟩,QY (by omega) ⟨by omega,fun d h0 h1 => ?_⟩⟩⟩
    ·have g6:Vu (Bl W (k3:Int) (c:Int))=false:=by simpa using g6
     exact Gl.1 g6 (p.s _ _ (by omega) (by omega) (by omega) hltc)
    ·by_cases hjk:d<(c:Int)
     ·exact hJ d h0 hjk
     ·have:d=(c:Int):=by omega
      subst this;exact Qn.1 (by simpa using g6)
   ·have hgec:=of_decide_eq_false hgec;refine ⟨⟨by omega,by omega⟩,QY (by omega) ⟨by omega,fun j d h0 h1 h2 h3 => ?_⟩⟩
    by_cases hjk:j<(k3:Int)
    ·exact hI3 j d h0 hjk h2 h3
    ·have:j=(k3:Int):=by omega
     subst this;exact hJ d h2 (by omega)
  have hge3:=of_decide_eq_false hge3;have hss:∀k c:Int,0<=k->k<8->0<=c->c<((gi W.groups k).shelves.length:Int)->Bl W k c:=fun k c h0 h1 h2 h3=>hI3 k c h0 (by omega) h2 h3
  refine Uv W.cpus.length 0 rfl (fun k=>k<=W.cpus.length/\∀j:Int,0<=j->j<(k:Int)->zj9 W j) ⟨Nat.zero_le _,fun j h0 h1=>by omega⟩ fun k4 ⟨hk4,hI4⟩=>⟨fun hlt => ?_,fun hge4 => ?_⟩
  ·have hlt:=of_decide_eq_true hlt;refine ⟨_,Fm h ha hts hss (by omega) hlt,fun g6=>NW fun p => ?_,fun g6=>⟨⟨by omega,by omega⟩,QY (by omega) ⟨by omega,fun j h0 h1 => ?_⟩⟩⟩
   ·have g6:Vu (zj9 W (k4:Int))=false:=by simpa using g6
    exact Gl.1 g6 (p.c _ (by omega) hlt)
   ·by_cases hjk:j<(k4:Int)
    ·exact hI4 j h0 hjk
    ·have:j=(k4:Int):=by omega
     subst this;exact Qn.1 (by simpa using g6)
  ·have hge4:=of_decide_eq_false hge4;exact zml ⟨ha,hts,hss,fun c h0 h1=>hI4 c h0 (by omega)⟩
end
theorem QI {n p:Nat} {vs us:List Value} {k:Nat} (h1:Yf p vs=(k:Int)+1) (h2:Yf p us=(k:Int)) (hk:k<n):Jq n p vs<Jq n p us:=by
 unfold Jq;rw [h1,h2];omega
section
variable {W:Q7} {m:MW} {w w':World} {bs cs:List Nat} {p:OA}
end
theorem Ma:zg1 Tryz.prog Pk 5 ZJ 40 (⟨false,0,0,0,0⟩:TQ):=Kf (by kernel_rfl) fun _=>rfl
theorem MY:Tryz.prog.underlying ZT=some (.slice ZJ):=by kernel_rfl
theorem Te:zg1 Tryz.prog Yz 9 QL 72 (⟨0,0,0,0,0,0,0,0,0⟩:Oi):=Kf (by kernel_rfl) fun _=>rfl
theorem PY:Tryz.prog.underlying Zd=some (.slice QL):=by kernel_rfl
section
variable {W:Q7} {m:MW} {w w':World}
structure zm3 (base:Nat) (w:World) (W:Q7) (m:MW):Prop where
 c:XR Pk 5 ZJ base w m.cO m.cC W.cpus
 t:XR Yz 9 QL base w m.tO m.tC W.tasks
 g:∃ps:List (Z0×MG),ps.map (·.1)=W.groups/\(fun k:Nat=>(gi ps (k:Int)).2)=m.ms/\OS base w m.gO m.gC ps
theorem zm3.mono {base base':Nat} (h:zm3 base w W m) (hb:base'<=base):zm3 base' w W m:=
 ⟨h.c.mono hb,h.t.mono hb,by
  obtain ⟨ps,h1,h2,h3⟩:=h.g;exact ⟨ps,h1,h2,h3.mono hb⟩⟩
end
structure Sc (w0:World) (bs:List Nat) (w:World):Prop where
 ext:Q0 [] w0 w
 new:∀x∈bs,w0.heap.size<=x
theorem Sc.start (w:World):Sc w [] w:=⟨Q0.refl _ _,by simp⟩
theorem Sc.step {w0:World} {bs:List Nat} {w w':World} (h:Sc w0 bs w) (hx:Q0 bs w w'):Sc w0 bs w':=⟨h.ext.fresh hx fun x hm=>.inl (h.new x hm),h.new⟩
theorem Sc.call {w0:World} {bs cs:List Nat} {w w':World} (h:Sc w0 bs w) (hx:Q0 cs w w') (hc:∀x∈cs,w0.heap.size<=x):Sc w0 bs w':=⟨h.ext.fresh hx fun x hm=>.inl (hc x hm),h.new⟩
theorem Sc.call0 {w0:World} {bs:List Nat} {w w':World} (h:Sc w0 bs w) (hx:Q0 [] w w'):Sc w0 bs w':=⟨h.ext.trans hx,h.new⟩
theorem Sc.add {w0:World} {bs:List Nat} {w:World} {b:Nat} (h:Sc w0 bs w) (hb:w.heap.size<=b):Sc w0 (bs++[b]) w:=⟨h.ext,fun x hm=>by
 rcases List.mem_append.1 hm with hm | hm
 ·exact h.new x hm
 ·have:x=b:=by simpa using hm
  have:=h.ext.size;omega⟩
theorem Sc.sub {w0:World} {bs cs:List Nat} {w:World} (h:Sc w0 bs w) (hs:∀x∈cs,x∈bs):Sc w0 cs w:=⟨h.ext,fun x hm=>h.new x (hs x hm)⟩
theorem Sc.put {w0:World} {bs:List Nat} {w w':World} {b:Nat} (h:Sc w0 bs w) (hx:Q0 bs w w') (hb:w.heap.size<=b):Sc w0 (bs++[b]) w':=⟨(h.step hx).ext,(h.add hb).new⟩
structure Ob {α:Type} (enc:α->List Value) (z:Nat) (ty:TypeId) (base:Nat) (bs:List Nat) (w:World) (o:OA) (cap:Nat) (l:List α):Prop where
 own:XR enc z ty base w o cap l
 nb:∀x∈Qu o,x∉bs
section
variable {α:Type} {enc:α->List Value} {z:Nat} {ty:TypeId} {base:Nat} {bs cs:List Nat} {w w':World} {o:OA} {cap:Nat} {l:List α} {b:Nat}
theorem Ob.of (h:XR enc z ty base w o cap l) (hs:∀x∈bs,x<base):Ob enc z ty base bs w o cap l:=⟨h,fun x hx hm=>by
 have:=(h.lt x hx).1;have:=hs x hm;omega⟩
theorem Ob.step (h:Ob enc z ty base bs w o cap l) (hx:Q0 bs w w'):Ob enc z ty base bs w' o cap l:=⟨h.own.ext hx h.nb,h.nb⟩
theorem Ob.call0 (h:Ob enc z ty base bs w o cap l) (hx:Q0 [] w w'):Ob enc z ty base bs w' o cap l:=⟨h.own.ext0 hx,h.nb⟩
theorem Ob.call (h:Ob enc z ty base bs w o cap l) (hx:Q0 cs w w') (hd:∀x∈Qu o,x∉cs):Ob enc z ty base bs w' o cap l:=⟨h.own.ext hx hd,h.nb⟩
theorem Ob.add (h:Ob enc z ty base bs w o cap l) (hb:w.heap.size<=b):Ob enc z ty base (bs++[b]) w o cap l:=⟨h.own,fun x hx hm=>by
 rcases List.mem_append.1 hm with hm | hm
 ·exact h.nb x hx hm
 ·have:x=b:=by simpa using hm
  have:=(h.own.lt x hx).2;omega⟩
theorem Ob.put (h:Ob enc z ty base bs w o cap l) (hx:Q0 bs w w') (hb:w.heap.size<=b):Ob enc z ty base (bs++[b]) w' o cap l:=⟨(h.step hx).own,(h.add hb).nb⟩
theorem Ob.sub (h:Ob enc z ty base bs w o cap l) (hs:∀x∈cs,x∈bs):Ob enc z ty base cs w o cap l:=⟨h.own,fun x hx hm=>h.nb x hx (hs x hm)⟩
theorem Ob.mono {base':Nat} (h:Ob enc z ty base bs w o cap l) (hb:base'<=base):Ob enc z ty base' bs w o cap l:=⟨h.own.mono hb,h.nb⟩
theorem Ob.rd [Inhabited α] (h:Ob enc z ty base bs w o cap l) (hz:∀x,(enc x).length=z):Rd enc z bs w o l:=h.own.rd hz h.nb
end
theorem Rd.scb {α:Type} [Inhabited α] {enc:α->List Value} {z:Nat} {w0:World} {bs:List Nat} {w:World} {o:OA} {l:List α} (h:Rd enc z [] w0 o l) (hs:Sc w0 bs w):Rd enc z bs w o l:=(h.wide (cs:=bs) fun x hm=>.inr (hs.new x hm)).ext hs.ext.of_nil
theorem zil {bs cs:List Nat} {w w':World} (hx:Q0 cs w w') (hs:∀b∈bs,b<w.heap.size) (hd:∀x∈cs,x∉bs):Q9 bs w w':=fun x hm=>hx.block x (hs x hm) fun hm'=>hd x hm' hm
theorem Ob.app1 {α:Type} [Inhabited α] {P:Program} {enc:α->List Value} {z:Nat} {ty t:TypeId} {bytes:Nat} {zero:α} (E:zg1 P enc z ty bytes zero) (ht:P.underlying t=some (.slice ty)) {base:Nat} {bs:List Nat} {w:World} {o:OA} {cap:Nat} {l:List α} (hO:Ob enc z ty base bs w o cap l)
  (hs:∀x∈bs,x<w.heap.size) (hbase:base<=w.heap.size) {x:α} {b:Nat} {t':TypeId} {fz:Nat×Nat} (hb:w.heap[b]? = some (.cells (enc x).toArray t' fz)) (h1:Zc (enc x)=true) (hl:l.length<=1048576) (hby:bytes<=1000) (tr:TypeId) (cs:Array Bool) :
  ∃o' cap' w',(builtin .append #[t,t] tr cs #[.slice o l.length cap,.slice (some ⟨b,0,none⟩) 1 1]).run P w = .ok (.value (.slice o' (l++[x]).length cap')) w'/\Q9 bs w w'/\Ob enc z ty base bs w' o' cap' (l++[x])/\Q0 (Qu o) w w':=by
 have hbb:(2*(l.length+1))*bytes<=281474976710656:=Nat.le_trans (Nat.mul_le_mul (show 2*(l.length+1)<=2097154 by omega) hby) (by decide);obtain ⟨o2,c2,w2,hrun,hO2,hx2,ho2⟩:=za2 E ht hO.own hb h1 hbb (by omega) tr cs hbase;refine ⟨o2,c2,w2,hrun,fun y hm=>hx2.block y (hs y hm) fun hm'=>hO.nb y hm' hm,⟨hO2,fun y hy hm => ?_⟩,hx2⟩;rcases ho2 with rfl | rfl
 ·exact hO.nb y hy hm
 ·have:y=w.heap.size:=by simpa [Qu] using hy
  have:=hs y hm;omega
def Xi (f:Nat->Int):Nat->Int
 | 0=>0
 | k+1=>Xi f k+f k
theorem U3 {f:Nat->Int} {B:Int} (h:∀j,0<=f j/\f j<=B):∀k:Nat,0<=Xi f k/\Xi f k<=(k:Int)*B
 | 0=>by simp [Xi]
 | k+1=>by
  have ih:=U3 h k;have:=h k;simp only [Xi];rw [show ((k+1:Nat):Int)*B=(k:Int)*B+B by rw [show ((k+1:Nat):Int)=(k:Int)+1 by omega,Int.add_mul,Int.one_mul]];omega
theorem Xg (n:Int):0<=Qd n/\Qd n<=20:=by
 unfold Qd;split
 ·rename_i h;have:=Qx.1 h;omega
 ·omega
def NQ (W:Q7) (c:Int) (j:Nat):Int:=if (((Q8 W (j:Int)).cpu==c)&&ZH W (j:Int))=true then Qd (Q8 W (j:Int)).nice else 0
def zaa (W:Q7) (g c:Int) (j:Nat):Int:=if ((((Q8 W (j:Int)).state==1)&&((Q8 W (j:Int)).cpu==c))&&YJ 3 W.groups g (Q8 W (j:Int)).group)=true then Qd (Q8 W (j:Int)).nice else 0
theorem zno {W:Q7} {g c:Int} {k:Nat} (h:((((Q8 W (k:Int)).state==1)&&((Q8 W (k:Int)).cpu==c))&&YJ 3 W.groups g (Q8 W (k:Int)).group)=true):zaa W g c k=Qd (Q8 W (k:Int)).nice:=if_pos h
theorem znn {W:Q7} {g c:Int} {k:Nat} (h:((((Q8 W (k:Int)).state==1)&&((Q8 W (k:Int)).cpu==c))&&YJ 3 W.groups g (Q8 W (k:Int)).group)=false):zaa W g c k=0:=if_neg (by rw [h]; decide)
def Lx (W:Q7) (c:Int):Int:=Xi (NQ W c) W.tasks.length
def Fh (W:Q7) (g c:Int):Int:=Xi (zaa W g c) W.tasks.length
theorem Hu (W:Q7) (c:Int) (j:Nat):0<=NQ W c j/\NQ W c j<=20:=by
 unfold NQ;split
 ·exact Xg _
 ·omega
theorem Fg (W:Q7) (g c:Int) (j:Nat):0<=zaa W g c j/\zaa W g c j<=20:=by
 unfold zaa;split
 ·exact Xg _
 ·omega
def YK (W:Q7) (c:Int):Bool:=X3 c 0 ((W.cpus.length:Int) - 1)
theorem Vj {W:Q7} {c:Int} (h:YK W c=true):0<=c/\c<(W.cpus.length:Int):=by have:=Qx.1 h; omega
theorem XG.li {W:Q7} (wp:XG W) {t:Int} (t0:0<=t) (t1:t<(W.tasks.length:Int)) (hs:(Q8 W t).state=1):Q6 W.groups (Q8 W t).group=true/\0<=(Q8 W t).cpu/\(Q8 W t).cpu<(W.cpus.length:Int):=by
 have:=wp.a.t;exact zah wp.a (wp.t t t0 (by omega)) hs
structure TU (W:Q7):Prop where
 a:WA W
 li:∀{t:Int},0<=t->t<(W.tasks.length:Int)->(Q8 W t).state=1->Q6 W.groups (Q8 W t).group=true/\0<=(Q8 W t).cpu/\(Q8 W t).cpu<(W.cpus.length:Int)
structure X4 (W:Q7):Prop where
 c:W.cpus.length<=maxLen
 t:W.tasks.length<=maxLen
 g:W.groups.length<=maxLen
 f:∀i:Int,0<=i->i<(W.groups.length:Int)->zg6 (gi W.groups i)
section
variable {W:Q7} {m:MW} {w:World} {bs:List Nat} {p:OA}
theorem Ut {c:Int} (h:Xo bs w W m) (wp:XG W):PX bs YL #[.agg (Qa W m).toArray,.int .i64 c] w (.int .i64 (Lx W c)):=
 FK W.now m.cO W.cpus.length m.cC m.tO W.tasks.length m.tC m.gO W.groups.length m.gC c fun wr hx=>by
  have h:=(h.ext hx).less (cs:=[]) (by simp);have htl:=wp.a.t;intro _ _;refine Tx W.tasks.length 0 rfl (fun x k=>k<=W.tasks.length/\x=Xi (NQ W c) k) ⟨Nat.zero_le _,rfl⟩ fun x k ⟨hk,hx2⟩=>⟨fun hlt => ?_,fun hge => ?_⟩
  ·have hlt:=of_decide_eq_true hlt;have hr:=U3 (Hu W c) k;have hw:=Xg (Q8 W (k:Int)).nice;have eF:NQ W c k=if (((Q8 W (k:Int)).cpu==c)&&ZH W (k:Int))=true then Qd (Q8 W (k:Int)).nice else 0:=rfl;refine ⟨h.t.ix QJ (by omega) hlt,_,h.t.f (by omega) hlt (j:=0) rfl,fun _=>h.t.ix QJ (by omega) hlt,_,fun _=>h.t.f (by omega) hlt (j:=2) rfl,ZH W (k:Int),fun _=>JJ h wp.a (by omega) hlt fun hs=>wp.li (by omega) hlt hs,fun g2=>⟨h.t.ix QJ (by omega) hlt,_,h.t.f (by omega) hlt (j:=3) rfl,Qd (Q8 W (k:Int)).nice,Zq,⟨by omega,by omega⟩,⟨by omega,by omega⟩,QA (by omega) ⟨by omega,?_⟩⟩,fun g2=>⟨⟨by omega,by omega⟩,QA (by omega) ⟨by omega,?_⟩⟩⟩
   ·have g2:((((Q8 W (k:Int)).state==1)&&((Q8 W (k:Int)).cpu==c))&&ZH W (k:Int))=true:=g2;simp only [Bool.and_eq_true] at g2;simp only [Xi]; rw [eF,if_pos (by rw [g2.1.2,g2.2]; rfl),hx2]
   ·have g2:((((Q8 W (k:Int)).state==1)&&((Q8 W (k:Int)).cpu==c))&&ZH W (k:Int))=false:=g2
    simp only [Xi]; rw [eF,if_neg (fun hc=>by
     simp only [Bool.and_eq_true] at hc;have hl:=hc.2;unfold ZH at hl;simp only [Bool.and_eq_true] at hl;rw [hc.1,hc.2,hl.1] at g2
     cases g2),hx2]; omega
  ·have hge:=of_decide_eq_false hge;have:k=W.tasks.length:=by omega
   subst this;rw [hx2]; rfl
theorem Oz {g c:Int} (h:Xo bs w W m) (wp:TU W) (hl:X4 W) (hu:Q6 W.groups g=true):PX bs XO #[.agg (Qa W m).toArray,.int .i64 g,.int .i64 c] w (.int .i64 (Fh W g c)):=
 H1 W.now m.cO W.cpus.length m.cC m.tO W.tasks.length m.tC m.gO W.groups.length m.gC g c fun wr hx=>by
  have h:=(h.ext hx).less (cs:=[]) (by simp);have htl:=wp.a.t;intro _ _;refine Tx W.tasks.length 0 rfl (fun x k=>k<=W.tasks.length/\x=Xi (zaa W g c) k) ⟨Nat.zero_le _,rfl⟩ fun x k ⟨hk,hx2⟩=>⟨fun hlt => ?_,fun hge => ?_⟩
  ·have hlt:=of_decide_eq_true hlt;have hr:=U3 (Fg W g c) k;have hw:=Xg (Q8 W (k:Int)).nice
   have hun:(((Q8 W (k:Int)).state==1)&&((Q8 W (k:Int)).cpu==c))=true->UB W.groups g (Q8 W (k:Int)).group=YJ 3 W.groups g (Q8 W (k:Int)).group:=fun q=>by
    simp only [Bool.and_eq_true,beq_iff_eq] at q;unfold UB;rw [Y5.2 wp.a.tree,hu,(wp.li (by omega) hlt q.1).1]; rfl
   have eF:zaa W g c k=if ((((Q8 W (k:Int)).state==1)&&((Q8 W (k:Int)).cpu==c))&&YJ 3 W.groups g (Q8 W (k:Int)).group)=true then Qd (Q8 W (k:Int)).nice else 0:=rfl
   have e2:((((Q8 W (k:Int)).state==1)&&((Q8 W (k:Int)).cpu==c))&&YJ 3 W.groups g (Q8 W (k:Int)).group)=((((Q8 W (k:Int)).state==1)&&((Q8 W (k:Int)).cpu==c))&&UB W.groups g (Q8 W (k:Int)).group):=by
    cases hq:(((Q8 W (k:Int)).state==1)&&((Q8 W (k:Int)).cpu==c)) with
    | false=>rfl
    | true=>rw [hun hq]
   refine ⟨h.t.ix QJ (by omega) hlt,_,_,_,_,_,_,_,_,_,h.t k (by omega) hlt,fun _ _=>⟨UB W.groups g (Q8 W (k:Int)).group,fun _=>V8 h.g hl.g,fun g2=>⟨Qd (Q8 W (k:Int)).nice,Zq,⟨by omega,by omega⟩,⟨by omega,by omega⟩,QA (by omega) ⟨by omega,?_⟩⟩,fun g2=>⟨⟨by omega,by omega⟩,QA (by omega) ⟨by omega,?_⟩⟩⟩⟩
   ·simp only [Xi]; rw [zno (W:=W) (g:=g) (c:=c) (k:=k) (e2.trans g2),hx2]
   ·simp only [Xi]; rw [znn (W:=W) (g:=g) (c:=c) (k:=k) (e2.trans g2),hx2]; omega
  ·have hge:=of_decide_eq_false hge;have:k=W.tasks.length:=by omega
   subst this;rw [hx2]; rfl
end
def zga (k:Int):TQ:=⟨Int.tmod (k) 3==0,k+1,k+1+1,k+1+1+1,k+1+1+1+1⟩
theorem XR.same {α:Type} {enc:α->List Value} {z:Nat} {ty:TypeId} {base:Nat} {w:World} {o:OA} {cap:Nat} {l l':List α} (h:XR enc z ty base w o cap l) (he:l'.flatMap enc=l.flatMap enc) (hl:l'.length=l.length):XR enc z ty base w o cap l':=by
 rcases h with ⟨h1,rfl,h3⟩ | ⟨b,sp,rfl,h1,h2,h3,h4⟩
 ·exact .inl ⟨h1,List.eq_nil_of_length_eq_zero hl,h3⟩
 ·exact .inr ⟨b,sp,rfl,h1,by rw [he]; exact h2,by rw [he]; exact h3,by omega⟩
theorem MM {α:Type} {enc:α->List Value}:∀(l:List α) (i:Nat) (x:α),(∀y,l[i]? = some y->enc x=enc y)->(l.set i x).flatMap enc=l.flatMap enc
 | [],_,_,_=>rfl
 | y::r,0,x,h=>by simp only [List.set_cons_zero,List.flatMap_cons]; rw [h y rfl]
 | y::r,i+1,x,h=>by
  simp only [List.set_cons_succ,List.flatMap_cons];rw [MM r i x fun z hz=>h z (by simpa using hz)]
theorem znm {α:Type} [Inhabited α] {l:List α} {i:Int} (h0:0<=i) (hi:i<(l.length:Int)):l[i.toNat]? = some (gi l i):=by
 obtain ⟨k,rfl⟩:=Int.eq_ofNat_of_zero_le h0;rw [Int.toNat_natCast];exact zkx (by omega)
section
variable {base:Nat} {w w':World} {o:OA} {cap:Nat} {ps:List (Z0×MG)}
theorem OS.foreign {α:Type} {enc:α->List Value} {z:Nat} {ty:TypeId} {base' cap':Nat} {o':OA} {l:List α} (h:OS base w o cap ps) (h':XR enc z ty base' w o' cap' l)
  (n1:QH≠ty) (n2:Qb≠ty) (n3:Yp≠ty) (n4:Ye≠ty) (hx:Q0 (Qu o') w w'):OS base w' o cap ps:=
 ⟨h.row.ext hx (h.row.ty_ne h' n1),fun i a b=>(h.each i a b).ext hx fun x hm=>by
  simp only [Qp,List.mem_append] at hm;rcases hm with (hm | hm) | hm
  ·exact (h.each i a b).loc.ty_ne h' n2 x hm
  ·exact (h.each i a b).dry.ty_ne h' n3 x hm
  ·exact (h.each i a b).shl.ty_ne h' n4 x hm,h.dj⟩
theorem OS.sto (h:OS base w o cap ps) {i:Int} (h0:0<=i) (hi:i<(ps.length:Int)) {p:Z0×MG} (hp:OT base w p)
  (hd:∀j:Int,0<=j->j<(ps.length:Int)->i≠j->∀b∈Qp (gi ps j).2,b∉Qp p.2) {j:Nat} {vs:List Value}
  (he:Tf p=(Tf (gi ps i)).take j++vs++(Tf (gi ps i)).drop (j+vs.length)) (hj:j+vs.length<=14):OS base (Go.Proofs.YtclpmgfpjeaibaaGreat.sto w o (Int.toNat i*14+j) vs) o cap (ps.set i.toNat p):=by
 have hx:=h.row.stoX (Int.toNat i*14+j) vs;have hlen:(ps.set i.toNat p).length=ps.length:=List.length_set;refine ⟨h.row.sto Yy.len h0 hi he hj,fun k hk hkl => ?_,fun a k ha hal hk hkl hak b hb hb' => ?_⟩
 ·rw [hlen] at hkl;rw [Qt _ _ h0 hi hk];split
  ·exact hp.ext hx (Xj h.row hp)
  ·exact (h.each k hk hkl).ext hx (Xj h.row (h.each k hk hkl))
 ·rw [hlen] at hal hkl;rw [Qt _ _ h0 hi ha] at hb;rw [Qt _ _ h0 hi hk] at hb'
  by_cases e1:i=a
  ·rw [if_pos e1] at hb
   by_cases e2:i=k
   ·omega
   ·rw [if_neg e2] at hb';exact hd k hk hkl e2 b hb' hb
  ·rw [if_neg e1] at hb
   by_cases e2:i=k
   ·rw [if_pos e2] at hb';exact hd a ha hal e1 b hb hb'
   ·rw [if_neg e2] at hb';exact h.dj a k ha hal hk hkl hak b hb hb'
theorem OS.in (h:OS base w o cap ps) {i:Int} (h0:0<=i) (hi:i<(ps.length:Int)) {p:Z0×MG} {bs:List Nat} (hx:Q0 bs w w') (hb:∀x∈bs,x∈Qp (gi ps i).2)
  (hp:OT base w' p) (hm:p.2=(gi ps i).2) (he:Tf p=Tf (gi ps i)):OS base w' o cap (ps.set i.toNat p):=by
 have hlen:(ps.set i.toNat p).length=ps.length:=List.length_set;refine ⟨?_,fun k hk hkl => ?_,fun a k ha hal hk hkl hak b hb1 hb' => ?_⟩
 ·refine (h.row.ext hx fun b hb1 hb2=>Xj h.row (h.each i h0 hi) b (hb b hb2) hb1).same (MM _ _ _ fun y hy => ?_) hlen;rw [znm h0 hi] at hy;cases hy;exact he
 ·rw [hlen] at hkl;rw [Qt _ _ h0 hi hk];split
  ·exact hp
  ·rename_i hne;exact (h.each k hk hkl).ext hx fun b hb1 hb2=>h.dj i k h0 hi hk hkl hne b (hb b hb2) hb1
 ·rw [hlen] at hal hkl;rw [Qt _ _ h0 hi ha] at hb1;rw [Qt _ _ h0 hi hk] at hb'
  have e1:b∈Qp (gi ps a).2:=by
   by_cases e:i=a
   ·rw [if_pos e,hm,e] at hb1; exact hb1
   ·rw [if_neg e] at hb1; exact hb1
  have e2:b∈Qp (gi ps k).2:=by
   by_cases e:i=k
   ·rw [if_pos e,hm,e] at hb'; exact hb'
   ·rw [if_neg e] at hb'; exact hb'
  exact h.dj a k ha hal hk hkl hak b e1 e2
end
def zgn (W:Q7) (m:MW):List (Z0×MG):=(List.range W.groups.length).map fun (k:Nat)=>(gi W.groups (k:Int),m.ms k)
theorem YW (W:Q7) (m:MW):(zgn W m).length=W.groups.length:=by simp [zgn]
theorem Uz {W:Q7} {m:MW} {i:Int} (h0:0<=i) (hi:i<(W.groups.length:Int)):gi (zgn W m) i=(gi W.groups i,m.ms i.toNat):=by
 obtain ⟨k,rfl⟩:=Int.eq_ofNat_of_zero_le h0;rw [Ju (by rw [YW]; omega)];simp [zgn]
def QF (n:Nat) (m:MW):List Nat:=Qu m.cO++Qu m.tO++Qu m.gO++(List.range n).flatMap fun (k:Nat)=>Qp (m.ms k)
structure Y8 (n base:Nat) (w:World) (W:Q7) (m:MW):Prop where
 c:XR Pk 5 ZJ base w m.cO m.cC W.cpus
 t:XR Yz 9 QL base w m.tO m.tC W.tasks
 g:OS base w m.gO m.gC (zgn W m)
 len:W.groups.length=n
section
variable {n base:Nat} {w w':World} {W:Q7} {m:MW} {bs:List Nat}
theorem GM {x:Nat} (h:x∈Qu m.cO):x∈QF n m:=by simp [QF,h]
theorem GO {x:Nat} (h:x∈Qu m.tO):x∈QF n m:=by simp [QF,h]
theorem GN {x:Nat} (h:x∈Qu m.gO):x∈QF n m:=by simp [QF,h]
theorem J1 {x k:Nat} (hk:k<n) (h:x∈Qp (m.ms k)):x∈QF n m:=by
 unfold QF;exact List.mem_append_right _ (List.mem_flatMap.2 ⟨k,List.mem_range.2 hk,h⟩)
theorem Hz {x:Nat} (h:x∈QF n m):x∈Qu m.cO\/x∈Qu m.tO\/x∈Qu m.gO\/∃k,k<n/\x∈Qp (m.ms k):=by
 unfold QF at h;simp only [List.mem_append,List.mem_flatMap,List.mem_range] at h;rcases h with ((h | h) | h) | ⟨k,hk,h⟩
 ·exact .inl h
 ·exact .inr (.inl h)
 ·exact .inr (.inr (.inl h))
 ·exact .inr (.inr (.inr ⟨k,hk,h⟩))
theorem Y8.each (h:Y8 n base w W m) {i:Int} (h0:0<=i) (hi:i<(n:Int)):OT base w (gi W.groups i,m.ms i.toNat):=by
 have:=h.g.each i h0 (by rw [YW,h.len]; exact hi)
 rwa [Uz h0 (by rw [h.len]; exact hi)] at this
theorem Y8.lt (h:Y8 n base w W m):∀x∈QF n m,base<=x/\x<w.heap.size:=fun x hx=>by
 rcases Hz hx with hx | hx | hx | ⟨k,hk,hx⟩
 ·exact h.c.lt x hx
 ·exact h.t.lt x hx
 ·exact h.g.row.lt x hx
 ·exact (h.each (i:=(k:Int)) (by omega) (by omega)).lt x (by simpa using hx)
theorem Y8.ext (h:Y8 n base w W m) (hx:Q0 bs w w') (hd:∀x∈QF n m,x∉bs):Y8 n base w' W m:=
 ⟨h.c.ext hx fun b hb=>hd b (GM hb),h.t.ext hx fun b hb=>hd b (GO hb),
  ⟨h.g.row.ext hx fun b hb=>hd b (GN hb),fun i a b=>by
   have b':i<(W.groups.length:Int):=by rw [YW] at b; exact b
   have hl:=h.len;refine (h.g.each i a b).ext hx fun x hm => ?_
   rw [Uz a b'] at hm;exact hd x (J1 (by omega) hm),h.g.dj⟩,h.len⟩
theorem Y8.ext0 (h:Y8 n base w W m) (hx:Q0 [] w w'):Y8 n base w' W m:=h.ext hx (by simp)
theorem Y8.mono {base':Nat} (h:Y8 n base w W m) (hb:base'<=base):Y8 n base' w W m:=⟨h.c.mono hb,h.t.mono hb,h.g.mono hb,h.len⟩
theorem Y8.rd (h:Y8 n base w W m) (hd:∀x∈QF n m,x∉bs):Xo bs w W m:=by
 have hl:=h.len;refine ⟨h.c.rd Ma.len fun b hb=>hd b (GM hb),h.t.rd Te.len fun b hb=>hd b (GO hb),⟨fun i h0 hi => ?_,fun i h0 hi => ?_,fun i h0 hi => ?_,fun i h0 hi => ?_⟩⟩
 ·have:=h.g.row.rd Yy.len (bs:=bs) (fun b hb=>hd b (GN hb)) i h0 (by rw [YW]; exact hi)
  rwa [Uz h0 hi] at this
 ·exact (h.each h0 (by omega)).loc.rd ZO.len fun b hb=>hd b (J1 (k:=i.toNat) (by omega) (by simp [Qp]; exact .inl hb))
 ·exact (h.each h0 (by omega)).dry.rd YO.len fun b hb=>hd b (J1 (k:=i.toNat) (by omega) (by simp [Qp]; exact .inr (.inl hb)))
 ·exact (h.each h0 (by omega)).shl.rd UO.len fun b hb=>hd b (J1 (k:=i.toNat) (by omega) (by simp [Qp]; exact .inr (.inr hb)))
theorem Y8.stoT (h:Y8 n base w W m) {i:Int} (h0:0<=i) (hi:i<(W.tasks.length:Int)) {j:Nat} {vs:List Value} {x:Oi} (he:Yz x=(Yz (gi W.tasks i)).take j++vs++(Yz (gi W.tasks i)).drop (j+vs.length)) (hj:j+vs.length<=9) :
  Y8 n base (sto w m.tO (Int.toNat i*9+j) vs) { W with tasks:=W.tasks.set i.toNat x } m:=
 ⟨h.c.ext (h.t.stoX _ _) (h.c.ty_ne h.t (by decide)),h.t.sto Te.len h0 hi he hj,h.g.foreign h.t (by decide) (by decide) (by decide) (by decide) (h.t.stoX _ _),h.len⟩
theorem Y8.stoC (h:Y8 n base w W m) {i:Int} (h0:0<=i) (hi:i<(W.cpus.length:Int)) {j:Nat} {vs:List Value} {x:TQ} (he:Pk x=(Pk (gi W.cpus i)).take j++vs++(Pk (gi W.cpus i)).drop (j+vs.length)) (hj:j+vs.length<=5) :
  Y8 n base (sto w m.cO (Int.toNat i*5+j) vs) { W with cpus:=W.cpus.set i.toNat x } m:=
 ⟨h.c.sto Ma.len h0 hi he hj,h.t.ext (h.c.stoX _ _) (h.t.ty_ne h.c (by decide)),h.g.foreign h.c (by decide) (by decide) (by decide) (by decide) (h.c.stoX _ _),h.len⟩
def T3 (m:MW) (k:Nat) (p:MG):MW:={ m with ms:=fun j=>if k=j then p else m.ms j }
theorem Aa (m:MW) (k:Nat):T3 m k (m.ms k)=m:=by
 unfold T3
 have:(fun j=>if k=j then m.ms k else m.ms j)=m.ms:=by
  funext j
  split
  ·rename_i e; rw [e]
  ·rfl
 rw [this]
theorem Cv {i:Int} (h0:0<=i) (hi:i<(W.groups.length:Int)) (g:Z0) (p:MG):zgn { W with groups:=W.groups.set i.toNat g } (T3 m i.toNat p)=(zgn W m).set i.toNat (g,p):=by
 refine zh2 (by rw [YW,List.length_set,List.length_set,YW]) fun k hk => ?_
 rw [YW,List.length_set] at hk;rw [Uz (by omega) (by rw [List.length_set]; omega),Qt _ _ h0 hi (by omega),Qt _ _ h0 (by rw [YW]; exact hi) (by omega)];simp only [T3]
 by_cases e:i=(k:Int)
 ·rw [if_pos e,if_pos e,if_pos (by omega)]
 ·rw [if_neg e,if_neg e,if_neg (by omega),Uz (by omega) (by omega)]
theorem Y8.foreignM {p:MG} (h:Y8 n base w W m) {i:Int} (hn:∀x∈Qp p,x∉QF n m\/x∈Qp (m.ms i.toNat)) (h0:0<=i) (hi:i<(n:Int)):∀j:Int,0<=j->j<((zgn W m).length:Int)->i≠j->∀b∈Qp (gi (zgn W m) j).2,b∉Qp p:=fun j hj hjl hij b hb hb'=>by
 have hl:=h.len;rw [YW] at hjl;have hb2:=hb;rw [Uz hj hjl] at hb;rcases hn b hb' with h1 | h1
 ·exact h1 (J1 (by omega) hb)
 ·have:=h.g.dj i j h0 (by rw [YW]; omega) hj (by rw [YW]; exact hjl) hij b (by rw [Uz h0 (by omega)]; exact h1);exact this hb2
theorem Y8.stoG (h:Y8 n base w W m) {i:Int} (h0:0<=i) (hi:i<(n:Int)) {g:Z0} {p:MG} (hp:OT base w (g,p)) (hn:∀x∈Qp p,x∉QF n m\/x∈Qp (m.ms i.toNat)) {j:Nat} {vs:List Value}
  (he:Yq g p=(Yq (gi W.groups i) (m.ms i.toNat)).take j++vs++(Yq (gi W.groups i) (m.ms i.toNat)).drop (j+vs.length)) (hj:j+vs.length<=14) :
  Y8 n base (sto w m.gO (Int.toNat i*14+j) vs) { W with groups:=W.groups.set i.toNat g } (T3 m i.toNat p):=by
 have hl:=h.len;have hx:=h.g.row.stoX (Int.toNat i*14+j) vs;refine ⟨h.c.ext hx (h.c.ty_ne h.g.row (by decide)),h.t.ext hx (h.t.ty_ne h.g.row (by decide)),?_,by rw [List.length_set]; exact hl⟩;have:=h.g.sto h0 (by rw [YW]; omega) hp (h.foreignM hn h0 hi) (j:=j) (vs:=vs) (by rw [Uz h0 (by omega)]; exact he) hj;rw [Cv h0 (by omega)];exact this
theorem Y8.stoG0 (h:Y8 n base w W m) {i:Int} (h0:0<=i) (hi:i<(n:Int)) {g:Z0} (e1:g.band.locals=(gi W.groups i).band.locals) (e2:g.band.dry=(gi W.groups i).band.dry) (e3:g.shelves=(gi W.groups i).shelves) {j:Nat} {vs:List Value}
  (he:Yq g (m.ms i.toNat)=(Yq (gi W.groups i) (m.ms i.toNat)).take j++vs++(Yq (gi W.groups i) (m.ms i.toNat)).drop (j+vs.length)) (hj:j+vs.length<=14) :
  Y8 n base (sto w m.gO (Int.toNat i*14+j) vs) { W with groups:=W.groups.set i.toNat g } m:=by
 have hm:=h.each h0 hi;have:=h.stoG h0 hi (g:=g) (p:=m.ms i.toNat) ⟨by rw [e1]; exact hm.loc,by rw [e2]; exact hm.dry,by rw [e3]; exact hm.shl⟩ (fun x hx=>.inr hx) he hj
 rwa [Aa] at this
theorem Y8.in (h:Y8 n base w W m) {i:Int} (h0:0<=i) (hi:i<(n:Int)) {g:Z0} (hx:Q0 bs w w') (hb:∀x∈bs,x∈Qp (m.ms i.toNat)) (hp:OT base w' (g,m.ms i.toNat)) (he:Yq g (m.ms i.toNat)=Yq (gi W.groups i) (m.ms i.toNat)) :
  Y8 n base w' { W with groups:=W.groups.set i.toNat g } m:=by
 have hl:=h.len;have hmi:=h.each h0 hi
 have hf:∀{α:Type} {enc:α->List Value} {z:Nat} {ty:TypeId} {base' cap':Nat} {o':OA} {l:List α},XR enc z ty base' w o' cap' l->ty≠Qb->ty≠Yp->ty≠Ye->∀b∈Qu o',b∉bs:=fun ho n1 n2 n3 b hb1 hb2=>by
  have hm:=hb b hb2;simp only [Qp,List.mem_append] at hm;rcases hm with (hm | hm) | hm
  ·exact ho.ty_ne hmi.loc n1 b hb1 hm
  ·exact ho.ty_ne hmi.dry n2 b hb1 hm
  ·exact ho.ty_ne hmi.shl n3 b hb1 hm
 refine ⟨h.c.ext hx (hf h.c (by decide) (by decide) (by decide)),h.t.ext hx (hf h.t (by decide) (by decide) (by decide)),?_,by rw [List.length_set]; exact hl⟩;have:=h.g.in h0 (by rw [YW]; omega) (p:=(g,m.ms i.toNat)) hx (by rw [Uz h0 (by omega)]; exact hb) hp (by rw [Uz h0 (by omega)]) (by rw [Uz h0 (by omega)]; exact he);have hs:=Cv (m:=m) h0 (W:=W) (by omega) g (m.ms i.toNat);rw [Aa] at hs;rw [hs];exact this
theorem zma (W:Q7) (i:Int) (c:Int) (x:Pi) (mg:MG):Yq { gi W.groups i with shelves:=(gi W.groups i).shelves.set c.toNat x } mg=Yq (gi W.groups i) mg:=by
 simp [Yq]
theorem Y8.stoS (h:Y8 n base w W m) {i c:Int} (h0:0<=i) (hi:i<(n:Int)) (c0:0<=c) (c1:c<((gi W.groups i).shelves.length:Int)) {j:Nat} {vs:List Value} {x:Pi}
  (he:OV x=(OV (gi (gi W.groups i).shelves c)).take j++vs++(OV (gi (gi W.groups i).shelves c)).drop (j+vs.length)) (hj:j+vs.length<=5) :
  Y8 n base (sto w (m.ms i.toNat).sO (Int.toNat c*5+j) vs) { W with groups:=W.groups.set i.toNat { gi W.groups i with shelves:=(gi W.groups i).shelves.set c.toNat x } } m:=by
 have hm:=h.each h0 hi;have hx:=hm.shl.stoX (Int.toNat c*5+j) vs;exact h.in h0 hi hx (fun x hx=>by simp [Qp]; exact .inr (.inr hx)) ⟨hm.loc.ext hx (hm.loc.ty_ne hm.shl (by decide)),hm.dry.ext hx (hm.dry.ty_ne hm.shl (by decide)),hm.shl.sto UO.len c0 c1 he hj⟩ (zma _ _ _ _ _)
end
end Go.Proofs.YtclpmgfpjeaibaaGreat
