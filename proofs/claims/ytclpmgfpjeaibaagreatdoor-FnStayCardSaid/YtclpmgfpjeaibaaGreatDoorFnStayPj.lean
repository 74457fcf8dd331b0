/- Part 10 of what the law FnStay needs: the engine, the functions' propositions, the contracts. -/
import Derived.Test.YtclpmgfpjeaibaaGreatDoorFnStayPi
import Derived.Laws.StructEq
namespace Go.Proofs.YtclpmgfpjeaibaaGreatDoor
open Go.RowKit
set_option linter.unusedVariables false
set_option linter.unusedSimpArgs false
set_option maxRecDepth 10000
def zzs (P:Program):List Field->Nat->List Value->List Value->Option Bool
 | [],_,[],[]=>some true
 | f :: r, k, x :: xs, y :: ys => bif decide (f.name ≠ "_") && Nat.beq f.offset k then
   (match zzs P r (k+1) xs ys with
   | some q=>(match P.underlying f.type,x,y with
    | some (.int _),.int a n,.int b m=>bif decide (a=b) then some ((n==m)&&q) else none
    | some .bool,.bool n,.bool m=>some ((n==m)&&q)
    | some .string,.string n,.string m=>some (zcs n m&&q)
    | _,_,_=>none)
   | none=>none) else none
 | _,_,_,_=>none
theorem ztl {P:Program} (d:Nat) (w:World) (xs ys:List Value):∀(fs:List Field) (k:Nat) (b:Bool),zzs P fs k (xs.drop k) (ys.drop k)=some b->(Op.eqFields (d+1) xs.toArray ys.toArray fs).run P w = .ok b w
 | [],k,b,h=>by
  have hb:some true=some b:=by
   cases ex:xs.drop k with
   | nil=>
    cases ey:ys.drop k with
    | nil=>rw [ex,ey] at h; exact h
    | cons y ys'=>rw [ex,ey] at h; cases h
   | cons x xs'=>rw [ex] at h; cases h
  simp only [Option.some.injEq] at hb
  subst hb
  simp [Op.eqFields]
 | f::r,k,b,h=>by
  have hx:∀{l:List Value} {x:Value} {q:List Value},l.drop k=x::q->l[k]? = some x/\l.drop (k+1)=q:=fun {l x q} e=>by
   have h1:l[k]? = (l.drop k)[0]? := by simp
   have h2:l.drop (k+1)=(l.drop k).drop 1:=by simp
   rw [h1,h2,e]; simp
  cases exx:xs.drop k with
  | nil=>rw [exx] at h; cases h
  | cons x xs'=>
  cases eyy:ys.drop k with
  | nil=>rw [exx,eyy] at h; cases h
  | cons y ys'=>
   rw [exx,eyy] at h
   simp only [zzs] at h
   obtain ⟨gx,dx⟩:=hx exx
   obtain ⟨gy,dy⟩:=hx eyy
   cases hc : (decide (f.name ≠ "_") && Nat.beq f.offset k) with
   | false=>rw [hc] at h; cases h
   | true=>
    rw [hc] at h
    simp only [cond_true] at h
    simp only [Bool.and_eq_true,decide_eq_true_eq] at hc
    have hof:=Nat.eq_of_beq_eq_true hc.2
    split at h
    ·rename_i q hq
     have ih:=ztl d w xs ys r (k+1) q (by rw [dx,dy]; exact hq)
     have hpart:∀{D:TypeDesc},P.underlying f.type=some D->zo1 D=false->(part f.type xs.toArray f.offset).run P w = .ok x w/\(part f.type ys.toArray f.offset).run P w = .ok y w:=fun {D} hu hD=>by
      rw [hof]
      simp [part,zhz hu,hD,gx,gy]
     split at h
     ·rename_i K a n b' m hu
      cases hab:decide (a=b') with
      | false=>rw [hab] at h; cases h
      | true=>
       have:=of_decide_eq_true hab
       subst this
       rw [hab] at h
       simp only [cond_true,Option.some.injEq] at h
       subst h
       obtain ⟨p1,p2⟩:=hpart hu rfl
       simp only [Op.eqFields,if_pos hc.1,Sem.run_bind,p1,p2,Result.andThen_ok,run_equalIn_int w d f.type a K n m hu,Sem.run_ite]
       cases n==m <;> simp [ih]
     ·rename_i n m hu
      simp only [Option.some.injEq] at h
      subst h
      obtain ⟨p1,p2⟩:=hpart hu rfl
      simp only [Op.eqFields,if_pos hc.1,Sem.run_bind,p1,p2,Result.andThen_ok,run_equalIn_bool' w d f.type n m hu,Sem.run_ite]
      cases n==m <;> simp [ih]
     ·rename_i n m hu
      simp only [Option.some.injEq] at h
      subst h
      obtain ⟨p1,p2⟩:=hpart hu rfl
      simp only [Op.eqFields,if_pos hc.1,Sem.run_bind,p1,p2,Result.andThen_ok,run_equalIn_string w d f.type n m hu,Sem.run_ite]
      unfold zcs
      cases n.toList==m.toList <;> simp [ih]
     ·cases h
    ·cases h
structure z7b (P:Program) (t:TypeId):Prop where
 u:P.underlying t=some (.struct (P.fieldsOf t))
 s:P.stoodInHeld t=false
 g:P.eqGuardType P.depth t=false
theorem znr {P:Program} {t:TypeId} (F:z7b P t) {xs ys:List Value} {b:Bool} (h:zzs P (P.fieldsOf t).toList 0 xs ys=some b) (w:World):(Op.equal t (.agg xs.toArray) (.agg ys.toArray)).run P w = .ok b w:=by
 have:=run_equalIn_struct (P:=P) w 9999 t xs.toArray ys.toArray F.u F.s
 rw [ztl 9998 w xs ys _ 0 b (by simpa using h)] at this
 exact this
theorem z1g {P:Program} {t:TypeId} (F:z7b P t) {xs ys:List Value} {b:Bool} (h:zzs P (P.fieldsOf t).toList 0 xs ys=some b) (x y:Operand) (w:World):((do eqGuard .eql t x y (.agg xs.toArray) (.agg ys.toArray); binOp .eql t (.agg xs.toArray) (.agg ys.toArray)):Sem Value).run P w = .ok (.bool b) w:=by
 have:=znr F h w
 simp only [Op.equal,Op.maxDepth] at this
 simp only [Sem.run_bind,run_eqGuard_agg w .eql t x y _ _ F.g,Result.andThen_ok,run_eql_struct,this]
theorem zst {P:Program} {t:TypeId} (F:z7b P t) {xs ys:List Value} {b:Bool} (h:zzs P (P.fieldsOf t).toList 0 xs ys=some b) (x y:Operand) (w:World):((do eqGuard .neq t x y (.agg xs.toArray) (.agg ys.toArray); binOp .neq t (.agg xs.toArray) (.agg ys.toArray)):Sem Value).run P w = .ok (.bool (!b)) w:=by
 have:=znr F h w
 simp only [Op.equal,Op.maxDepth] at this
 simp only [Sem.run_bind,run_eqGuard_agg w .neq t x y _ _ F.g,Result.andThen_ok,run_neq_struct,this]
theorem zkk:z7b Tryz.prog zas:=⟨by kernel_rfl,by kernel_rfl,by kernel_rfl⟩
def keyV (p:Int) (n:ByteArray):Value:=.agg #[.int .i64 p,.string n]
theorem z99 (p q:Int) (n m:ByteArray):zzs Tryz.prog (Tryz.prog.fieldsOf zas).toList 0 [.int .i64 p,.string n] [.int .i64 q,.string m]=some ((p==q)&&(zcs n m&&true)):=by kernel_rfl
theorem z6u (p q:Int) (n m:ByteArray) (w:World):(Op.equal zas (keyV p n) (keyV q m)).run Tryz.prog w = .ok (decide (p=q/\n=m)) w:=by
 have:=znr zkk (z99 p q n m) w
 have e:((p==q)&&(zcs n m&&true))=decide (p=q/\n=m):=by
  rw [zuy,Bool.and_true]
  by_cases h1:p=q <;> by_cases h2:n=m <;> simp [h1,h2]
 rw [e] at this
 exact this
theorem z9l (p:Int) (n:ByteArray) (w:World):∀(es:List MapEntry) (i:Nat),(∀e∈es,∃q m v,e.key=keyV q m/\e.val = .int .i64 v)->
  (∃(j:Nat) (v:Int),(Instr.findAsking zas (keyV p n) es i).run Tryz.prog w = .ok (some (j,.int .i64 v)) w/\∃e∈es,e.key=keyV p n) \/
  ((Instr.findAsking zas (keyV p n) es i).run Tryz.prog w = .ok none w/\∀e∈es,e.key≠keyV p n)
 | [],i,_=>.inr ⟨by simp [Instr.findAsking],fun e he=>by cases he⟩
 | e::r,i,h=>by
  obtain ⟨q,m,v,hk,hv⟩:=h e (List.mem_cons_self ..)
  by_cases hq:p=q/\n=m
  ·refine .inl ⟨i,v,?_,e,List.mem_cons_self ..,by rw [hk,hq.1,hq.2]⟩
   simp only [Instr.findAsking,hk,Sem.run_bind,z6u,decide_eq_true hq,Result.andThen_ok,if_true,Sem.run_pure,hv]
  ·have hstep:(Instr.findAsking zas (keyV p n) (e::r) i).run Tryz.prog w=(Instr.findAsking zas (keyV p n) r (i+1)).run Tryz.prog w:=by
    simp only [Instr.findAsking,hk,Sem.run_bind,z6u,decide_eq_false hq,Result.andThen_ok,Bool.false_eq_true,if_false]
   have hne:e.key≠keyV p n:=fun e'=>by
    rw [hk] at e'
    simp only [keyV,Value.agg.injEq,List.toArray_inj,Array.mk.injEq,List.cons.injEq,Value.int.injEq,true_and,Value.string.injEq,and_true] at e'
    exact hq ⟨e'.1.symm,e'.2.symm⟩
   rcases z9l p n w r (i+1) (fun x hx=>h x (List.mem_cons_of_mem _ hx)) with ⟨j,v',h1,x,hx,h2⟩ | ⟨h1,h2⟩
   ·exact .inl ⟨j,v',by rw [hstep]; exact h1,x,List.mem_cons_of_mem _ hx,h2⟩
   ·exact .inr ⟨by rw [hstep]; exact h1,fun x hx=>by
     rcases List.mem_cons.1 hx with rfl | hx
     ·exact hne
     ·exact h2 x hx⟩
theorem zyg (p:Int) (n:ByteArray) (w:World) (es:List MapEntry) (h:∀e∈es,∃q m v,e.key=keyV q m/\e.val = .int .i64 v) :
  (∃(j:Nat) (v:Int),(Instr.findKey zas (keyV p n) es).run Tryz.prog w = .ok (some (j,.int .i64 v)) w/\∃e∈es,e.key=keyV p n) \/
  ((Instr.findKey zas (keyV p n) es).run Tryz.prog w = .ok none w/\∀e∈es,e.key≠keyV p n):=by
 cases es with
 | nil=>exact .inr ⟨by simp [Instr.findKey,run_underlying zkk.u,Instr.findNow],fun e he=>by cases he⟩
 | cons e r=>
  have hs:(Instr.findKey zas (keyV p n) (e::r)).run Tryz.prog w=(Instr.findAsking zas (keyV p n) (e::r) 0).run Tryz.prog w:=by
   simp [Instr.findKey,run_underlying zkk.u,Instr.findNow,Instr.sameNow]
  rw [hs]
  exact z9l p n w (e::r) 0 h
theorem zzr:∃a b:Field,(Tryz.prog.fieldsOf zas).toList=[a,b]/\a.type=zao/\a.offset=0/\b.type=zfo/\b.offset=1:=⟨(Tryz.prog.fieldsOf zas)[0]!,(Tryz.prog.fieldsOf zas)[1]!,by kernel_rfl,by kernel_rfl,by kernel_rfl,by kernel_rfl,by kernel_rfl⟩
theorem znq (em:Bool) (p:Int) (n:ByteArray) (w:World):(Instr.checkKey em 10000 zas (keyV p n)).run Tryz.prog w = .ok () w:=by
 obtain ⟨a,b,hl,a1,a2,b1,b2⟩:=zzr
 have p1:(part zao #[.int .i64 p,.string n] 0).run Tryz.prog w = .ok (.int .i64 p) w:=by simp [part,zhz zakm,zo1]
 have p2:(part zfo #[.int .i64 p,.string n] 1).run Tryz.prog w = .ok (.string n) w:=by simp [part,zhz z4w,zo1]
 have c1:∀d:Nat,(Instr.checkKey em (d+1) zao (.int .i64 p)).run Tryz.prog w = .ok () w:=fun d=>by simp [Instr.checkKey,run_underlying zakm]
 have c2:∀d:Nat,(Instr.checkKey em (d+1) zfo (.string n)).run Tryz.prog w = .ok () w:=fun d=>by simp [Instr.checkKey,run_underlying z4w]
 have key:∀d:Nat,(Instr.checkKey em (d+1+1) zas (keyV p n)).run Tryz.prog w = .ok () w:=fun d=>by
  rw [Instr.checkKey]
  simp only [keyV,Sem.run_bind,run_underlying zkk.u,Result.andThen_ok]
  rw [<-Array.forIn_toList,hl]
  by_cases ha : a.name ≠ "_" <;> by_cases hb : b.name ≠ "_" <;> simp [ha, hb, a1, a2, b1, b2, p1, p2, c1, c2]
 exact key 9998
theorem zys:Tryz.prog.underlying zbw=some (.map zas zao):=by kernel_rfl
theorem zak5 (w:World):(zeroValue zao).run Tryz.prog w = .ok (.int .i64 0) w:=by
 have h:(match Tryz.prog.info? zao with | some i=>i.zero | none=>none)=some (.int .i64 0):=by kernel_rfl
 cases hi:Tryz.prog.info? zao with
 | none=>rw [hi] at h; cases h
 | some i=>
  rw [hi] at h
  simp only at h
  simp [zeroValue,zfx hi,h]
def z1t (w:World) (b:Nat) (es:Array MapEntry):Prop:=(∃c,w.heap[b]? = some (.map es c))/\∀e∈es.toList,∃q m v,e.key=keyV q m/\e.val = .int .i64 v
theorem zaf3 {w:World} {b:Nat} {es:Array MapEntry} (h:z1t w b es) (p:Int) (n:ByteArray) :
  ∃(v:Int) (ok:Bool),(Instr.lookup zbw (.map (some b)) (keyV p n) true).run Tryz.prog w = .ok (.tuple #[.int .i64 v,.bool ok]) w/\(ok=true↔∃e∈es.toList,e.key=keyV p n):=by
 obtain ⟨⟨c,hc⟩,hes⟩:=h
 have hg:(getObj b).run Tryz.prog w = .ok (.map es c) w:=by simp [getObj,Sem.run,hc]
 rcases zyg p n w es.toList hes with ⟨j,v,h1,h2⟩ | ⟨h1,h2⟩
 ·exact ⟨v,true,by simp [Instr.lookup,run_underlying zys,hg,znq,h1],by simpa using h2⟩
 ·exact ⟨0,false,by simp [Instr.lookup,run_underlying zys,hg,znq,h1,zak5],⟨fun h=>(by cases h),fun ⟨e,he,hk⟩=>absurd hk (h2 e he)⟩⟩
theorem zaiy {w:World} {b:Nat} {es:Array MapEntry} (h:z1t w b es) {p:Int} {n:ByteArray} (hno:∀e∈es.toList,e.key≠keyV p n) (v:Int) :
  ∃w' c,((do Instr.mapUpdate zbw (.map (some b)) (keyV p n) (.int .i64 v); pure undef):Sem Value).run Tryz.prog w = .ok undef w'/\ExtX [b] w w'/\z1t w' b (es.push { key:=keyV p n,val:=.int .i64 v,born:=c }):=by
 obtain ⟨⟨c,hc⟩,hes⟩:=h
 have hg:(getObj b).run Tryz.prog w = .ok (.map es c) w:=by simp [getObj,Sem.run,hc]
 have hfk:(Instr.findKey zas (keyV p n) es.toList).run Tryz.prog w = .ok none w:=by
  rcases zyg p n w es.toList hes with ⟨j,v,_,e,he,hk⟩ | ⟨h1,_⟩
  ·exact absurd hk (hno e he)
  ·exact h1
 have hs:(setObj b (.map (es.push { key:=keyV p n,val:=.int .i64 v,born:=c }) (c+1))).run Tryz.prog w = .ok () { w with heap:=w.heap.setIfInBounds b (.map (es.push { key:=keyV p n,val:=.int .i64 v,born:=c }) (c+1)) }:=by
  simp [setObj,Sem.run,hc]
 have hlt:=zjm hc
 refine ⟨{ w with heap:=w.heap.setIfInBounds b (.map (es.push { key:=keyV p n,val:=.int .i64 v,born:=c }) (c+1)) },c,by simp [Instr.mapUpdate,run_underlying zys,hg,znq,hfk,hs],⟨rfl,rfl,rfl,by simp,fun k _ hk => ?_⟩,⟨c+1,by simp [hlt]⟩,fun e he => ?_⟩
 ·have:b≠k:=fun e=>hk (by simp [e])
  show (w.heap.setIfInBounds b _)[k]? = _
  rw [Array.getElem?_setIfInBounds_ne this]
 ·rw [Array.toList_push,List.mem_append] at he
  rcases he with he | he
  ·exact hes e he
  ·rw [List.mem_singleton] at he
   subst he
   exact ⟨p,n,v,rfl,rfl⟩
theorem z1t.ext {w w':World} {b:Nat} {es:Array MapEntry} {bs:List Nat} (h:z1t w b es) (hx:ExtX bs w w') (hb:b∉bs):z1t w' b es:=by
 obtain ⟨⟨c,hc⟩,hes⟩:=h
 exact ⟨⟨c,za0 hc hx hb⟩,hes⟩
def encQ (p:Option Addr):List Value:=[.pointer p]
theorem zlq:Elt Tryz.prog encQ 1 zcn 8 none:=ztb (by kernel_rfl) fun _=>rfl
theorem zaea:Tryz.prog.underlying zlm=some (.slice zcn):=by kernel_rfl
def zjj (w:World) (b:Nat) (g:Int) (n:ByteArray) (up:Option Addr):Prop:=w.heap[b]? = some (.cells ([.int .i64 g,.string n,.pointer up]:List Value).toArray ztm (0,0))
theorem zjj.ext {w w':World} {b:Nat} {g:Int} {n:ByteArray} {up:Option Addr} {bs:List Nat} (h:zjj w b g n up) (hx:ExtX bs w w') (hb:b∉bs):zjj w' b g n up:=za0 h hx hb
theorem zjj.cells {w:World} {b:Nat} {g:Int} {n:ByteArray} {up:Option Addr} (h:zjj w b g n up) {bs:List Nat} (hb:b∉bs):zaa bs w (some ⟨b,0,none⟩) 0 [.int .i64 g,.string n,.pointer up]:=
 zhp h hb fun j v hj=>by rw [Nat.zero_add,Nat.zero_add]; exact hj
def upOf (gs:List Grp) (nb:Int->Nat) (x:Int):Option Addr:=if x=0 then none else some ⟨nb (gi gs x).parent,0,none⟩
structure Ns (bs:List Nat) (w:World) (gs:List Grp) (nb:Int->Nat):Prop where
 node:∀x:Int,zae gs x=true->zaa bs w (some ⟨nb x,0,none⟩) 0 [.int .i64 x,.string (gi gs x).name,.pointer (upOf gs nb x)]
 par:∀x:Int,x≠0->zae gs x=true->zae gs (gi gs x).parent=true
theorem Ns.ext {bs:List Nat} {w w':World} {gs:List Grp} {nb:Int->Nat} (h:Ns bs w gs nb) (hx:ExtX bs w w'):Ns bs w' gs nb:=⟨fun x hu=>(h.node x hu).ext hx,h.par⟩
theorem Ns.less {bs cs:List Nat} {w:World} {gs:List Grp} {nb:Int->Nat} (h:Ns bs w gs nb) (hs:∀x∈cs,x∈bs):Ns cs w gs nb:=⟨fun x hu=>(h.node x hu).less hs,h.par⟩
def ndep (gs:List Grp) (f:Nat) (x:Int) (s:Int):Int:=if dep f gs x<0 then -1 else s+dep f gs x
theorem zaid {gs:List Grp} {nb:Int->Nat} {w:World} {bs:List Nat} (h:Ns bs w gs nb) {x:Int} (hu:zae gs x=true):zad bs Tryz.prog zg3 #[.pointer (some ⟨nb x,0,none⟩)] w (.int .i64 (ndep gs 3 x 0)):=
 zsq (some ⟨nb x,0,none⟩) fun wr hx=>by
  have h:=(h.ext hx).less (cs:=[]) (by simp)
  refine ⟨fun vs=>(∃(y:Int) (s:Nat),zae gs y=true/\s<=4/\vs=[.pointer (some ⟨nb y,0,none⟩),.int .i64 (s:Int)]/\(s<=3->ndep gs (3 - s) y s=ndep gs 3 x 0)/\(s=4->ndep gs 3 x 0 = -1))\/∃s:Nat,s<=4/\vs=[.pointer none,.int .i64 (s:Int)]/\ndep gs 3 x 0 = -1,fun vs=>(5 - zef 1 vs).toNat,.inl ⟨x,0,hu,by omega,rfl,fun _=>rfl,fun h=>by omega⟩,?_⟩
  rintro n1 st (⟨y,s,hy,hs,he,h1,h2⟩ | ⟨s,hs,he,h1⟩)
  ·simp only [List.cons.injEq,Value.int.injEq,Value.pointer.injEq,true_and,and_true] at he
   obtain ⟨rfl,rfl⟩:=he
   refine ⟨fun hc => ?_,fun hc => ?_⟩
   ·have hs3:s<=3:=by
     simp only [Option.isNone_some,Bool.not_false,Bool.true_and,decide_eq_true_eq] at hc
     omega
    have hn:=h.node y hy
    refine ⟨rfl,y,hn.get 0 _ rfl,fun hz => ?_,fun hz => ?_⟩
    ·have hz:y=0:=by simpa using hz
     rw [<-h1 hs3]
     subst hz
     unfold ndep
     rw [zcv,if_neg (by omega),Int.add_zero]
    ·have hz:y≠0:=by simpa using hz
     have hm:upOf gs nb y=some ⟨nb (gi gs y).parent,0,none⟩:=by unfold upOf; rw [if_neg hz]
     refine ⟨⟨by omega,by omega⟩,rfl,_,by have:=hn.get 2 _ rfl; exact this,.inl ⟨(gi gs y).parent,s+1,h.par y hz hy,by omega,by rw [hm]; simp,fun hs' => ?_,fun hs' => ?_⟩,?_⟩
     ·rw [<-h1 hs3]
      have e:3 - s=(3 - (s+1))+1:=by omega
      rw [e]
      unfold ndep
      simp only [dep,if_neg hz]
      by_cases hd:dep (3 - (s+1)) gs (gi gs y).parent<0
      ·rw [if_pos hd,if_pos hd,if_pos (by omega)]
      ·rw [if_neg hd,if_neg hd,if_neg (by omega)]; omega
     ·rw [<-h1 hs3]
      have e:3 - s=0:=by omega
      rw [e]
      unfold ndep
      simp only [dep,if_neg hz]
      rfl
     ·show (5 - ((s:Int)+1)).toNat<(5 - (s:Int)).toNat
      omega
   ·have hs4:s=4:=by
     simp only [Option.isNone_some,Bool.not_false,Bool.true_and,decide_eq_false_iff_not] at hc
     omega
    rw [h2 hs4]
  ·simp only [List.cons.injEq,Value.int.injEq,Value.pointer.injEq,true_and,and_true] at he
   obtain ⟨rfl,rfl⟩:=he
   refine ⟨fun hc=>by simp at hc,fun _=>by rw [h1]⟩
section
variable {gs:List Grp} {ms:Nat->MG} {o:Option Addr} {c:Nat} {w:World} {bs:List Nat}
theorem zmd {g:Int} (h:RdG bs w o gs ms) (hl:gs.length<=maxLen):zad bs Tryz.prog zfq #[.slice o gs.length c,.int .i64 g] w (.bool (zae gs g)):=
 zuh o gs.length c g fun wr hx=>by
  have h:=(h.ext hx).less (cs:=[]) (by simp)
  have:=zj4
  have e:inB g 0 ((gs.length:Int) - 1)=(decide (g>=0)&&decide (g<(gs.length:Int))):=by
   unfold inB
   congr 1
   exact decide_eq_decide.2 (by omega)
  refine ⟨⟨by omega,by omega⟩,_,zap,fun q => ?_,(gi gs g).used,fun q => ?_,by rw [e]; rfl⟩
  ·have q:=za6.1 q
   exact h.ix (by omega) (by omega)
  ·have q:=za6.1 q
   exact h.used (by omega) (by omega)
theorem zaie (h:RdG [] w o gs ms) (hl:gs.length<=maxLen) :
  Calls Tryz.prog zlt #[.slice o gs.length c] w fun e w'=>∃(o':Option Addr) (L C:Nat) (ok:Bool),e = .returned (.tuple #[.slice o' L C,.bool ok])/\ok=zrq gs/\ExtX [] w w'/\
   (ok=false->L=0)/\(ok=true->L=8/\∃(pl:List (Option Addr)) (nb:Int->Nat),pl.length=8/\Rd encQ 1 [] w' o' pl/\(∀g:Int,0<=g->g<8->gi pl g=if (gi gs g).used then some ⟨nb g,0,none⟩ else none)/\Ns [] w' gs nb):=by
 refine (z5h o gs.length c (R:=fun v w'=>∃(o':Option Addr) (L C:Nat) (ok:Bool),v = .tuple #[.slice o' L C,.bool ok]/\ok=zrq gs/\ExtX [] w w'/\
   (ok=false->L=0)/\(ok=true->L=8/\∃(pl:List (Option Addr)) (nb:Int->Nat),pl.length=8/\Rd encQ 1 [] w' o' pl/\(∀g:Int,0<=g->g<8->gi pl g=if (gi gs g).used then some ⟨nb g,0,none⟩ else none)/\Ns [] w' gs nb)) ?_).mono fun e w' ⟨v,he,o',L,C,ok,hv,hr⟩=>⟨o',L,C,ok,by rw [he,hv],hr⟩
 have bad:∀w',ExtX [] w w'->¬zeb gs->∃(o':Option Addr) (L C:Nat) (ok:Bool),Value.tuple #[.slice none 0 0,.bool false] = .tuple #[.slice o' L C,.bool ok]/\ok=zrq gs/\ExtX [] w w'/\
   (ok=false->L=0)/\(ok=true->L=8/\∃(pl:List (Option Addr)) (nb:Int->Nat),pl.length=8/\Rd encQ 1 [] w' o' pl/\(∀g:Int,0<=g->g<8->gi pl g=if (gi gs g).used then some ⟨nb g,0,none⟩ else none)/\Ns [] w' gs nb):=fun w' hx hno=>
  ⟨none,0,0,false,rfl,(zu1 hno).symm,hx,fun _=>rfl,fun h=>by cases h⟩
 have l8:((((gs.length:Nat):Int) != 8)=false)->gs.length=8:=fun q=>by have:=(bne_eq_false_iff_eq).1 q; omega
 have i0:∀q:(((gs.length:Nat):Int) != 8)=false,(0:Int)<(gs.length:Int):=fun q=>by have:=l8 q; omega
 refine ⟨fun q=>h.ix (Int.le_refl _) (i0 q),(gi gs 0).used,fun q=>h.used (Int.le_refl _) (i0 q),fun q => ?_,(gi gs 0).parent,fun q => ?_,fun q => ?_,(gi gs 0).name,fun q => ?_,fun q => ?_,fun q => ?_⟩
 ·simp only [Bool.or_eq_false_iff] at q; exact h.ix (Int.le_refl _) (i0 q.1)
 ·simp only [Bool.or_eq_false_iff] at q; exact h.parent (Int.le_refl _) (i0 q.1)
 ·simp only [Bool.or_eq_false_iff] at q; exact h.ix (Int.le_refl _) (i0 q.1.1)
 ·simp only [Bool.or_eq_false_iff] at q; exact h.name (Int.le_refl _) (i0 q.1.1)
 ·intro w1 hx1
  refine bad w1 hx1 fun ht => ?_
  have e:((gs.length:Nat):Int)=8:=by have:=ht.len; omega
  rw [e,ht.ru,ht.rp,ht.rn,zuy] at q
  simp at q
 simp only [Bool.or_eq_false_iff,Bool.not_eq_false',bne_eq_false_iff_eq,zf5] at q
 obtain ⟨⟨⟨q1,ru⟩,rp⟩,rn⟩:=q
 have hl8:gs.length=8:=by omega
 intro wr hx _
 refine ⟨some ⟨wr.heap.size,0,none⟩,8,8,wr.alloc (.cells ((List.replicate 8 none).flatMap encQ).toArray zcn),z1h zlq zaea 8 (by decide) (by simp [maxLen]) wr,ze8,?_⟩
 have hO0:=zoa (enc:=encQ) zlq.len zcn 8 none wr
 have hX0:ExtX [] wr (wr.alloc (.cells ((List.replicate 8 none).flatMap encQ).toArray zcn)):=zcp wr _
 generalize wr.alloc (.cells ((List.replicate 8 (none:Option Addr)).flatMap encQ).toArray zcn)=wv at hO0 hX0
 refine zik 8 0 rfl (fun k w1=>k<=8/\ExtX [] wr w1/\∃(pl:List (Option Addr)) (nb:Int->Nat),pl.length=8/\Own encQ 1 zcn wr.heap.size w1 (some ⟨wr.heap.size,0,none⟩) 8 pl/\
   (∀g:Int,0<=g->g<8->gi pl g=if g<(k:Int)/\(gi gs g).used=true then some ⟨nb g,0,none⟩ else none)/\
   (∀g:Int,0<=g->g<(k:Int)->(gi gs g).used=true->wr.heap.size<=nb g/\zjj w1 (nb g) g (gi gs g).name none)/\
   (∀g g':Int,0<=g->g<(k:Int)->0<=g'->g'<(k:Int)->(gi gs g).used=true->(gi gs g').used=true->nb g=nb g'->g=g')) (fun w1 hx1 _=>⟨Nat.zero_le _,hX0.trans hx1,List.replicate 8 none,fun _=>0,rfl,hO0.ext0 hx1,fun g h0 h1 => ?_,fun g h0 h1=>by omega,fun g g' h0 h1=>by omega⟩) fun k w1 _ ⟨hk,hX,pl,nb,hpl,hO,hP,hN,hinj⟩=>⟨fun hlt => ?_,fun hge => ?_⟩
 ·rw [if_neg (fun hc=>by omega)]
  exact List.eq_of_mem_replicate (zagy h0 (by simpa using h1))
 ·have hlt:=of_decide_eq_true hlt
  have hr:=(h.ext hx).ext hX
  have hk0:(0:Int)<=(k:Int):=by omega
  refine ⟨hr.ix hk0 hlt,_,hr.used hk0 hlt,fun hu=>⟨hr.ix hk0 hlt,_,hr.name hk0 hlt,fun b wb hxb hb hhb _ => ?_⟩,fun hu=>⟨⟨by omega,by omega⟩,fun w2 hx2 _=>zan (by omega) ⟨by omega,hX.trans hx2,pl,nb,hpl,hO.ext0 hx2,fun g h0 h1 => ?_,fun g h0 h1 hg => ?_,fun g g' h0 h1 h0' h1' hg hg' => ?_⟩⟩⟩
  ·have hOb:=hO.ext0 hxb
   have hkl:(k:Int)<(pl.length:Int):=by rw [hpl]; omega
   have hix:=hOb.ix hk0 hkl
   rw [hpl] at hix
   refine ⟨hix,hOb.wr zlq.len (by simp) hk0 hkl (j:=0) (n:=1) (by omega),⟨by omega,by omega⟩,fun w2 hx2 _=>zan (by omega) ⟨by omega,?_,pl.set k (some ⟨b,0,none⟩),fun g=>if g=(k:Int) then b else nb g,by rw [List.length_set]; exact hpl,?_,fun g h0 h1 => ?_,fun g h0 h1 hg => ?_,fun g g' h0 h1 h0' h1' hg hg' he => ?_⟩⟩
   ·exact (hOb.stoB _ _ (hX.trans hxb) (Nat.le_refl _)).trans hx2
   ·exact (hOb.sto zlq.len (i:=(k:Int)) hk0 hkl (j:=0) (vs:=[.pointer (some ⟨b,0,none⟩)]) (x:=some ⟨b,0,none⟩) rfl (by simp)).ext0 hx2
   ·have:=za4 pl (some ⟨b,0,none⟩) (i:=(k:Int)) (j:=g) hk0 hkl h0
    rw [Int.toNat_natCast] at this
    rw [this]
    by_cases hgk:(k:Int)=g
    ·subst hgk
     rw [if_pos rfl,if_pos ⟨by omega,hu⟩]
     dsimp only
     rw [if_pos rfl]
    ·rw [if_neg hgk,hP g h0 h1]
     dsimp only
     rw [show (if g=(k:Int) then b else nb g)=nb g from if_neg (fun e=>hgk e.symm)]
     by_cases hlt2:g<(k:Int)
     ·by_cases hgu:(gi gs g).used=true
      ·rw [if_pos ⟨hlt2,hgu⟩,if_pos ⟨by omega,hgu⟩]
      ·rw [if_neg (fun hc=>hgu hc.2),if_neg (fun hc=>hgu hc.2)]
     ·rw [if_neg (fun hc=>hlt2 hc.1),if_neg (fun hc=>by omega)]
   ·have hsz:ExtX (za9 (some ⟨wr.heap.size,0,none⟩)) wb (sto wb (some ⟨wr.heap.size,0,none⟩) (Int.toNat (k:Int)*1) [.pointer (some ⟨b,0,none⟩)]):=hOb.stoX _ _
    have hne:∀q,zjj wb q g (gi gs g).name none->q∉za9 (some (⟨wr.heap.size,0,none⟩:Addr)):=fun q hq hm=>by
     simp only [za9,List.mem_singleton] at hm
     subst hm
     rcases hOb with ⟨hc,_⟩ | ⟨b',sp,he,_,h2,_⟩
     ·cases hc
     ·simp only [Option.some.injEq,Addr.mk.injEq,and_true] at he
      subst he
      unfold zjj at hq
      rw [h2] at hq
      simp only [Option.some.injEq,Obj.cells.injEq] at hq
      exact absurd hq.2.1 (by decide)
    dsimp only
    by_cases hgk:g=(k:Int)
    ·subst hgk
     rw [if_pos rfl]
     have hq:zjj wb b (k:Int) (gi gs (k:Int)).name none:=hhb
     exact ⟨Nat.le_trans hX.size hb,((hq.ext hsz (hne b hq)).ext hx2 (by simp))⟩
    ·rw [if_neg hgk]
     obtain ⟨n1,n2⟩:=hN g h0 (by omega) hg
     have n3:=n2.ext hxb (by simp)
     exact ⟨n1,(n3.ext hsz (hne _ n3)).ext hx2 (by simp)⟩
   ·have fresh:∀q:Int,0<=q->q<(k:Int)->(gi gs q).used=true->nb q≠b:=fun q a1 a2 a3 e=>by
     have:=zjm (hN q a1 a2 a3).2
     omega
    dsimp only at he
    by_cases hgk:g=(k:Int)
    ·by_cases hgk':g'=(k:Int)
     ·rw [hgk,hgk']
     ·rw [if_pos hgk,if_neg hgk'] at he
      exact absurd he.symm (fresh g' h0' (by omega) hg')
    ·by_cases hgk':g'=(k:Int)
     ·rw [if_neg hgk,if_pos hgk'] at he
      exact absurd he (fresh g h0 (by omega) hg)
     ·rw [if_neg hgk,if_neg hgk'] at he
      exact hinj g g' h0 (by omega) h0' (by omega) hg hg' he
  ·rw [hP g h0 h1]
   by_cases hgk:g=(k:Int)
   ·subst hgk
    rw [if_neg (fun hc=>by omega),if_neg (fun hc=>by rw [hu] at hc; exact absurd hc.2 (by decide))]
   ·by_cases hlt2:g<(k:Int)
    ·by_cases hgu:(gi gs g).used=true
     ·rw [if_pos ⟨hlt2,hgu⟩,if_pos ⟨by omega,hgu⟩]
     ·rw [if_neg (fun hc=>hgu hc.2),if_neg (fun hc=>hgu hc.2)]
    ·rw [if_neg (fun hc=>hlt2 hc.1),if_neg (fun hc=>by omega)]
  ·by_cases hgk:g=(k:Int)
   ·subst hgk; rw [hu] at hg; cases hg
   ·obtain ⟨n1,n2⟩:=hN g h0 (by omega) hg
    exact ⟨n1,n2.ext hx2 (by simp)⟩
  ·have e1:g≠(k:Int):=fun e=>by subst e; rw [hu] at hg; cases hg
   have e2:g'≠(k:Int):=fun e=>by subst e; rw [hu] at hg'; cases hg'
   exact hinj g g' h0 (by omega) h0' (by omega) hg hg'
 ·have hge:=of_decide_eq_false hge
  have hk8:k=8:=by omega
  subst hk8
  intro w2 hx2 _
  refine ⟨.map (some w2.heap.size),w2.alloc (.map #[] 0),by simp [Instr.makeMap],ze8,?_⟩
  have hM0:z1t (w2.alloc (.map #[] 0)) w2.heap.size #[]:=⟨⟨0,Array.getElem?_push_size ..⟩,fun e he=>by cases he⟩
  have hX2:ExtX [] wr (w2.alloc (.map #[] 0)):=(hX.trans hx2).trans (zcp w2 _)
  have hO2:=(hO.ext0 hx2).ext0 (zcp w2 (.map #[] 0))
  have hN2:∀g:Int,0<=g->g<8->(gi gs g).used=true->wr.heap.size<=nb g/\zjj (w2.alloc (.map #[] 0)) (nb g) g (gi gs g).name none:=fun g h0 h1 hg=>
   ⟨(hN g h0 (by omega) hg).1,((hN g h0 (by omega) hg).2.ext hx2 (by simp)).ext (zcp w2 _) (by simp)⟩
  have hP2:∀g:Int,0<=g->g<8->gi pl g=if (gi gs g).used=true then some ⟨nb g,0,none⟩ else none:=fun g h0 h1=>by
   rw [hP g h0 h1]
   by_cases hgu:(gi gs g).used=true
   ·rw [if_pos ⟨by omega,hgu⟩,if_pos hgu]
   ·rw [if_neg (fun hc=>hgu hc.2),if_neg hgu]
  have hinj2:∀g g':Int,0<=g->g<8->0<=g'->g'<8->(gi gs g).used=true->(gi gs g').used=true->nb g=nb g'->g=g':=fun g g' a b c d=>hinj g g' a (by omega) c (by omega)
  have hmb:wr.heap.size<=w2.heap.size:=(hX.trans hx2).size
  generalize w2.heap.size=mb at hM0 hmb
  generalize w2.alloc (.map #[] 0)=w3 at hM0 hX2 hO2 hN2
  clear hX hO hN hP hinj
  refine zik 8 1 rfl (fun k w1=>1<=k/\k<=8/\ExtX [] wr w1/\Own encQ 1 zcn wr.heap.size w1 (some ⟨wr.heap.size,0,none⟩) 8 pl/\
    (∀g:Int,0<=g->g<8->(gi gs g).used=true->zjj w1 (nb g) g (gi gs g).name (if g<(k:Int) then upOf gs nb g else none))/\
    (∃es,z1t w1 mb es/\(∀e∈es.toList,∃g:Int,1<=g/\g<(k:Int)/\(gi gs g).used=true/\e.key=keyV (gi gs g).parent (gi gs g).name)/\∀g:Int,1<=g->g<(k:Int)->(gi gs g).used=true->∃e∈es.toList,e.key=keyV (gi gs g).parent (gi gs g).name)/\
    (∀g:Int,1<=g->g<(k:Int)->(gi gs g).used=true->zin (gi gs g).name=true/\zae gs (gi gs g).parent=true/\∀h:Int,1<=h->h<g->(gi gs h).used=true->¬((gi gs h).parent=(gi gs g).parent/\(gi gs h).name=(gi gs g).name)))
   (fun w4 hx4 _=>⟨Nat.le_refl _,by omega,hX2.trans hx4,hO2.ext0 hx4,fun g h0 h1 hg => ?_,⟨#[],hM0.ext hx4 (by simp),(fun e he=>by cases he),fun g h1 h2=>by omega⟩,fun g h1 h2=>by omega⟩) fun k w4 _ ⟨hk1,hk,hX,hO,hN,⟨es,hM,hE1,hE2⟩,hT⟩=>⟨fun hlt => ?_,fun hge => ?_⟩
  ·have:=(hN2 g h0 h1 hg).2.ext hx4 (by simp)
   by_cases hg1:g<((1:Nat):Int)
   ·rw [if_pos hg1]
    have:g=0:=by omega
    subst this
    exact this
   ·rw [if_neg hg1]; exact this
  ·have hlt:=of_decide_eq_true hlt
   have hr:=(h.ext hx).ext hX
   have hk0:(0:Int)<=(k:Int):=by omega
   have hkl:(k:Int)<(pl.length:Int):=by omega
   have hgl:(k:Int)<(gs.length:Int):=by omega
   have hPl:=hO.rd zlq.len (bs:=[]) (by simp)
   have hix:=hO.ix hk0 hkl
   rw [hpl] at hix
   have hXw:ExtX [] w w4:=hx.trans hX
   refine ⟨hix,gi pl (k:Int),hPl k hk0 hkl,fun hno => ?_,fun hyes => ?_⟩
   ·have hu:¬(gi gs (k:Int)).used=true:=fun hu=>by rw [hP2 k hk0 hlt,if_pos hu] at hno; cases hno
    refine ⟨⟨by omega,by omega⟩,fun w5 hx5 _=>zan (by omega) ⟨by omega,by omega,hX.trans hx5,hO.ext0 hx5,fun g h0 h1 hg => ?_,⟨es,hM.ext hx5 (by simp),fun e he => ?_,fun g h1 h2 hg => ?_⟩,fun g h1 h2 hg => ?_⟩⟩
    ·have:=(hN g h0 h1 hg).ext hx5 (by simp)
     have hgk:g≠(k:Int):=fun e=>hu (e▸hg)
     by_cases hg1:g<(k:Int)
     ·rw [if_pos hg1] at this; rw [if_pos (by omega)]; exact this
     ·rw [if_neg hg1] at this; rw [if_neg (by omega)]; exact this
    ·obtain ⟨g,a1,a2,a3⟩:=hE1 e he
     exact ⟨g,a1,by omega,a3⟩
    ·have hgk:g≠(k:Int):=fun e=>hu (e▸hg)
     exact hE2 g h1 (by omega) hg
    ·have hgk:g≠(k:Int):=fun e=>hu (e▸hg)
     exact hT g h1 (by omega) hg
   ·have hu:(gi gs (k:Int)).used=true:=by
     cases hq:(gi gs (k:Int)).used with
     | true=>rfl
     | false=>rw [hP2 k hk0 hlt,hq] at hyes; cases hyes
    have hpk:gi pl (k:Int)=some ⟨nb (k:Int),0,none⟩:=by rw [hP2 k hk0 hlt,if_pos hu]
    refine ⟨hr.ix hk0 hgl,_,hr.name hk0 hgl,_,z3g,fun _=>hr.ix hk0 hgl,(gi gs (k:Int)).parent,fun _=>hr.parent hk0 hgl,zae gs (gi gs (k:Int)).parent,fun _=>zmd hr hl,fun q => ?_,fun q => ?_⟩
    ·intro w5 hx5
     refine bad w5 (hXw.trans hx5) fun ht => ?_
     rw [ht.nm k (by omega) hlt hu,ht.par k (by omega) hlt hu] at q
     cases q
    ·simp only [Bool.or_eq_false_iff,Bool.not_eq_false'] at q
     obtain ⟨qn,qp⟩:=q
     obtain ⟨p0,p1,pu⟩:=zac.1 qp
     have p8:(gi gs (k:Int)).parent<8:=by omega
     have hixp:=hO.ix p0 (by omega)
     rw [hpl] at hixp
     have hnk:=hN k hk0 hlt hu
     rw [if_neg (by omega)] at hnk
     have hpp:gi pl (gi gs (k:Int)).parent=some ⟨nb (gi gs (k:Int)).parent,0,none⟩:=by rw [hP2 _ p0 p8,if_pos pu]
     have hnb:nb (k:Int)∉za9 (some (⟨wr.heap.size,0,none⟩:Addr)):=fun hm=>by
      simp only [za9,List.mem_singleton] at hm
      rcases hO with ⟨hc,_⟩ | ⟨b',sp,he,_,h2,_⟩
      ·cases hc
      ·simp only [Option.some.injEq,Addr.mk.injEq,and_true] at he
       subst he
       unfold zjj at hnk
       rw [hm,h2] at hnk
       simp only [Option.some.injEq,Obj.cells.injEq] at hnk
       exact absurd hnk.2.1 (by decide)
     have hWr:WrX [] w4 (some ⟨nb (k:Int),0,none⟩) (0+2) 1:=zyy hnk (by simp) (by show 0+(0+2+1)<=3; omega)
     have hsx:ExtX [nb (k:Int)] w4 (sto w4 (some ⟨nb (k:Int),0,none⟩) (0+2) [.pointer (some ⟨nb (gi gs (k:Int)).parent,0,none⟩)]):=zj8 fun a ha=>by cases ha; simp
     have hbk:wr.heap.size<=nb (k:Int):=(hN2 k hk0 hlt hu).1
     have hXs:ExtX [] wr (sto w4 (some ⟨nb (k:Int),0,none⟩) (0+2) [.pointer (some ⟨nb (gi gs (k:Int)).parent,0,none⟩)]):=hX.fresh hsx fun x hm=>.inl (by rw [List.mem_singleton.1 hm]; exact hbk)
     have hrs:=(h.ext hx).ext hXs
     have hup:upOf gs nb (k:Int)=some ⟨nb (gi gs (k:Int)).parent,0,none⟩:=by unfold upOf; rw [if_neg (by omega)]
     have hNs:∀g:Int,0<=g->g<8->(gi gs g).used=true->zjj (sto w4 (some ⟨nb (k:Int),0,none⟩) (0+2) [.pointer (some ⟨nb (gi gs (k:Int)).parent,0,none⟩)]) (nb g) g (gi gs g).name (if g<((k+1:Nat):Int) then upOf gs nb g else none):=fun g h0 h1 hg=>by
      by_cases hgk:g=(k:Int)
      ·subst hgk
       rw [if_pos (by omega),hup]
       exact znz hnk
      ·have hne:nb g≠nb (k:Int):=fun e=>hgk (hinj2 g k h0 h1 hk0 hlt hg hu e)
       have:=(hN g h0 h1 hg).ext hsx (by simpa using hne)
       by_cases hg1:g<(k:Int)
       ·rw [if_pos hg1] at this; rw [if_pos (by omega)]; exact this
       ·rw [if_neg hg1] at this; rw [if_neg (by omega)]; exact this
     have hOs:Own encQ 1 zcn wr.heap.size (sto w4 (some ⟨nb (k:Int),0,none⟩) (0+2) [.pointer (some ⟨nb (gi gs (k:Int)).parent,0,none⟩)]) (some ⟨wr.heap.size,0,none⟩) 8 pl:=hO.ext hsx fun b hm hm'=>hnb (by rw [List.mem_singleton.1 hm'] at hm; exact hm)
     have hMs:z1t (sto w4 (some ⟨nb (k:Int),0,none⟩) (0+2) [.pointer (some ⟨nb (gi gs (k:Int)).parent,0,none⟩)]) mb es:=hM.ext hsx fun hm=>by
      rw [List.mem_singleton] at hm
      obtain ⟨⟨cc,hc⟩,_⟩:=hM
      unfold zjj at hnk
      rw [<-hm,hc] at hnk
      cases hnk
     refine ⟨hix,some ⟨nb (k:Int),0,none⟩,by rw [<-hpk]; exact hPl k hk0 hkl,hr.ix hk0 hgl,_,hr.parent hk0 hgl,hixp,some ⟨nb (gi gs (k:Int)).parent,0,none⟩,by rw [<-hpp]; exact hPl _ p0 (by omega),rfl,hWr,?_⟩
     generalize sto w4 (some ⟨nb (k:Int),0,none⟩) (0+2) [.pointer (some ⟨nb (gi gs (k:Int)).parent,0,none⟩)]=w5 at hXs hrs hNs hOs hMs
     refine ⟨hrs.ix hk0 hgl,_,hrs.parent hk0 hgl,hrs.ix hk0 hgl,_,hrs.name hk0 hgl,fun b1 hb1=>⟨hrs.name hk0 hgl,hrs.parent hk0 hgl,fun w6 hx6 hs6 => ?_⟩⟩
     have hM6:=hMs.ext hx6 (by simp)
     obtain ⟨v,okk,hlook,hok⟩:=zaf3 hM6 (gi gs (k:Int)).parent (gi gs (k:Int)).name
     have hb1':∀x∈[b1],wr.heap.size<=x\/x∈([]:List Nat):=fun x hm=>.inl (by rw [List.mem_singleton.1 hm]; exact Nat.le_trans hXs.size hb1)
     refine ⟨v,okk,w6,hlook,fun _ _=>rfl,fun hdup => ?_,fun hnew w7 hx7 hs7 => ?_⟩
     ·intro w7 hx7
      refine bad w7 (hx.trans (((hXs.trans hx6).fresh hx7 hb1'))) fun ht => ?_
      obtain ⟨e,he,hk⟩:=hok.1 hdup
      obtain ⟨g,a1,a2,a3,a4⟩:=hE1 e he
      rw [a4] at hk
      simp only [keyV,Value.agg.injEq,List.toArray_inj,Array.mk.injEq,List.cons.injEq,Value.int.injEq,true_and,Value.string.injEq,and_true] at hk
      exact ht.uniq k g a1 a2 hlt hu a3 hk
     ·have hM7:=hM6.ext hx7 (fun hm=>by
       rw [List.mem_singleton] at hm
       obtain ⟨⟨cc,hc⟩,_⟩:=hMs
       have:=zjm hc
       omega)
      have hnok:¬∃e∈es.toList,e.key=keyV (gi gs (k:Int)).parent (gi gs (k:Int)).name:=fun hc=>by
       have:=hok.2 hc
       rw [hnew] at this; cases this
      obtain ⟨w8,cc,hupd,hx8,hM8⟩:=zaiy hM7 (fun e he hk=>hnok ⟨e,he,hk⟩) (k:Int)
      have hmx:∀x∈[mb],wr.heap.size<=x\/x∈([]:List Nat):=fun x hm=>.inl (by rw [List.mem_singleton.1 hm]; exact hmb)
      have hX7:ExtX [] wr w7:=(hXs.trans hx6).fresh hx7 hb1'
      have hX8:ExtX [] wr w8:=hX7.fresh hx8 hmx
      refine ⟨w8,hupd,fun x hm=>hx8.block x (hs7 x hm) (fun hm' => ?_),⟨by omega,by omega⟩,fun w9 hx9 hs9=>zan (by omega) ⟨by omega,by omega,hX8.fresh hx9 hb1',?_,fun g h0 h1 hg => ?_,⟨_,hM8.ext hx9 ?_,fun e he => ?_,fun g h1 h2 hg => ?_⟩,fun g h1 h2 hg => ?_⟩⟩
      ·rw [List.mem_singleton] at hm hm'
       subst hm'
       obtain ⟨⟨c2,hc⟩,_⟩:=hMs
       have:=zjm hc
       omega
      ·have hnm:∀b∈za9 (some (⟨wr.heap.size,0,none⟩:Addr)),b∉[mb]:=fun b hm hm'=>by
        simp only [za9,List.mem_singleton] at hm hm'
        rcases hOs with ⟨hc,_⟩ | ⟨b',sp,he,_,h2,_⟩
        ·cases hc
        ·simp only [Option.some.injEq,Addr.mk.injEq,and_true] at he
         subst he
         obtain ⟨⟨c2,hc⟩,_⟩:=hMs
         rw [<-hm',hm,h2] at hc
         cases hc
       have hn1:∀b∈za9 (some (⟨wr.heap.size,0,none⟩:Addr)),b∉[b1]:=fun b hm hm'=>by
        have:=(hOs.lt b hm).2
        rw [List.mem_singleton] at hm'
        omega
       exact (((hOs.ext0 hx6).ext hx7 hn1).ext hx8 hnm).ext hx9 hn1
      ·have hq:=hNs g h0 h1 hg
       have hql:=zjm hq
       have n1:nb g∉[b1]:=fun hm=>by rw [List.mem_singleton] at hm; omega
       have n2:nb g∉[mb]:=fun hm=>by
        rw [List.mem_singleton] at hm
        obtain ⟨⟨c2,hc⟩,_⟩:=hMs
        unfold zjj at hq
        rw [hm,hc] at hq
        cases hq
       exact (((hq.ext hx6 (by simp)).ext hx7 n1).ext hx8 n2).ext hx9 n1
      ·intro hm
       rw [List.mem_singleton] at hm
       obtain ⟨⟨c2,hc⟩,_⟩:=hMs
       have:=zjm hc
       omega
      ·rw [Array.toList_push,List.mem_append] at he
       rcases he with he | he
       ·obtain ⟨g,a1,a2,a3⟩:=hE1 e he
        exact ⟨g,a1,by omega,a3⟩
       ·rw [List.mem_singleton] at he
        subst he
        exact ⟨k,by omega,by omega,hu,rfl⟩
      ·rw [Array.toList_push]
       by_cases hgk:g=(k:Int)
       ·subst hgk
        exact ⟨_,List.mem_append_right _ (List.mem_singleton.2 rfl),rfl⟩
       ·obtain ⟨e,he,hk⟩:=hE2 g h1 (by omega) hg
        exact ⟨e,List.mem_append_left _ he,hk⟩
      ·by_cases hgk:g=(k:Int)
       ·subst hgk
        refine ⟨qn,qp,fun q a1 a2 a3 a4=>hnok ?_⟩
        obtain ⟨e,he,hk⟩:=hE2 q a1 a2 a3
        exact ⟨e,he,by rw [hk,a4.1,a4.2]⟩
       ·exact hT g h1 (by omega) hg
  ·have hge:=of_decide_eq_false hge
   have hk8:k=8:=by omega
   subst hk8
   have hXw:ExtX [] w w4:=hx.trans hX
   have hNs:Ns [] w4 gs nb:=⟨fun x hu=>by
     obtain ⟨a1,a2,a3⟩:=zac.1 hu
     have:=hN x a1 (by omega) a3
     rw [if_pos (by omega)] at this
     exact this.cells (by simp),fun x hz hu=>by
     obtain ⟨a1,a2,a3⟩:=zac.1 hu
     exact (hT x (by omega) (by omega) a3).2.1⟩
   refine zik 8 0 rfl (fun j w5=>j<=8/\ExtX [] w4 w5/\∀g:Int,0<=g->g<(j:Int)->(gi gs g).used=true->0<=dep 3 gs g) (fun w5 hx5 _=>⟨Nat.zero_le _,hx5,fun g h0 h1=>by omega⟩) fun j w5 _ ⟨hj,hX5,hD⟩=>⟨fun hlt => ?_,fun hge => ?_⟩
   ·have hlt:=of_decide_eq_true hlt
    have hj0:(0:Int)<=(j:Int):=by omega
    have hjl:(j:Int)<(pl.length:Int):=by omega
    have hO5:=hO.ext0 hX5
    have hix:=hO5.ix hj0 hjl
    rw [hpl] at hix
    refine ⟨hix,gi pl (j:Int),hO5.rd zlq.len (by simp) j hj0 hjl,ndep gs 3 (j:Int) 0,fun hs => ?_,fun hb => ?_,fun hb=>⟨⟨by omega,by omega⟩,fun w6 hx6 _=>zan (by omega) ⟨by omega,hX5.trans hx6,fun g h0 h1 hg => ?_⟩⟩⟩
    ·have hu:(gi gs (j:Int)).used=true:=by
      cases hq:(gi gs (j:Int)).used with
      | true=>rfl
      | false=>rw [hP2 j hj0 hlt,hq] at hs; cases hs
     rw [hP2 j hj0 hlt,if_pos hu]
     exact zaid (hNs.ext hX5) (zac.2 ⟨hj0,by omega,hu⟩)
    ·intro w6 hx6
     refine bad w6 ((hXw.trans hX5).trans hx6) fun ht => ?_
     simp only [Bool.and_eq_true,decide_eq_true_eq] at hb
     have hu:(gi gs (j:Int)).used=true:=by
      cases hq:(gi gs (j:Int)).used with
      | true=>rfl
      | false=>rw [hP2 j hj0 hlt,hq] at hb; cases hb.1
     have hd:0<=dep 3 gs (j:Int):=by
      by_cases hj0':(j:Int)=0
      ·rw [hj0',zcv]; omega
      ·exact ht.dp j (by omega) hlt hu
     have:=hb.2
     unfold ndep at this
     rw [if_neg (by omega)] at this
     omega
    ·by_cases hgj:g=(j:Int)
     ·subst hgj
      have hpj:gi pl (j:Int)=some ⟨nb (j:Int),0,none⟩:=by rw [hP2 j hj0 hlt,if_pos hg]
      rw [hpj] at hb
      simp only [Option.isNone_some,Bool.not_false,Bool.true_and,decide_eq_false_iff_not] at hb
      unfold ndep at hb
      have:=zjo gs 3 (j:Int)
      split at hb <;> omega
     ·exact hD g h0 (by omega) hg
   ·have hge:=of_decide_eq_false hge
    have hj8:j=8:=by omega
    subst hj8
    have ht:zeb gs:=⟨hl8,ru,rp,rn,fun g h1 h2 hg=>(hT g h1 h2 hg).1,fun g h1 h2 hg=>(hT g h1 h2 hg).2.1,fun g h1 h2 hg=>hD g (by omega) h2 hg,fun g q a1 a2 a3 a4 a5=>(hT g (by omega) a3 a4).2.2 q a1 a2 a5⟩
    intro w6 hx6
    refine ⟨some ⟨wr.heap.size,0,none⟩,8,8,true,rfl,(zj9.2 ht).symm,(hXw.trans hX5).trans hx6,fun h=>(by cases h),fun _=>⟨rfl,pl,nb,hpl,?_,hP2,(hNs.ext hX5).ext hx6⟩⟩
    exact ((hO.ext0 hX5).ext0 hx6).rd zlq.len (by simp)
theorem z3h {bs:List Nat} (h:RdG bs w o gs ms) (hl:gs.length<=maxLen):zad bs Tryz.prog zkt #[.slice o gs.length c] w (.bool (zrq gs)):=by
 refine zri fun wr hx=>z2z o gs.length c (R:=fun v w'=>v = .bool (zrq gs)/\ExtX [] wr w') ?_
 have h:=(h.ext hx).less (cs:=[]) (by simp)
 intro w1 hx1 _
 refine (zaie (h.ext hx1) hl).mono fun e w2 ⟨o',L,C,ok,he,hok,hx2,_⟩=>⟨_,_,_,_,he,ze8,fun w3 hx3=>⟨by rw [hok],(hx1.trans hx2).trans hx3⟩⟩
end
theorem zdy {n k:Int} {w:World} {bs:List Nat}:zad bs Tryz.prog zca #[.int .i64 n,.int .i64 k] w (.int .i64 (zbn n k)):=
 zrh n k fun wr hx=>by
  refine ⟨_,zfk,_,fun _=>za1,fun h => ?_,fun h => ?_⟩
  ·congr 1; unfold zbn; rw [if_neg]; intro h2; simp only [Bool.and_eq_true] at h2; simp [h2] at h
  ·have h2:inB k 1 20=true/\inB n 0 100000000=true:=by simpa using h
   rw [za6,za6] at h2
   have hm:=z76 h2.2.1 h2.2.2 h2.1.1 h2.1.2
   have hs:=z64 h2.1.1 h2.1.2
   unfold stp at hm hs
   refine ⟨⟨by omega,zjx (by omega) (by omega)⟩,zjx (by omega) (by omega),?_⟩
   rw [zko h2.2.1 h2.2.2 h2.1.1 h2.1.2]; rfl
theorem zo4 {k:Int} {w:World} {bs:List Nat}:zad bs Tryz.prog zg4 #[.int .i64 k] w (.int .i64 (zcq k)):=
 z0e k fun wr hx=>⟨_,zdy,rfl⟩
def minI (a b:Int):Int:=if a<b then a else b
def maxI (a b:Int):Int:=if a>b then a else b
theorem zne {a b:Int} {w:World} {bs:List Nat}:zad bs Tryz.prog zg5 #[.int .i64 a,.int .i64 b] w (.int .i64 (minI a b)):=
 z6k a b fun wr hx=>⟨fun h=>by rw [minI,if_pos (of_decide_eq_true h)],fun h=>by rw [minI,if_neg (of_decide_eq_false h)]⟩
theorem z5y {a b:Int} {w:World} {bs:List Nat}:zad bs Tryz.prog zlu #[.int .i64 a,.int .i64 b] w (.int .i64 (maxI a b)):=
 z6j a b fun wr hx=>⟨fun h=>by rw [maxI,if_pos (of_decide_eq_true h)],fun h=>by rw [maxI,if_neg (of_decide_eq_false h)]⟩
def zd6 (l k:Int):Int:=if (if zcq k<l then zcq k else l)>0 then (if zcq k<l then zcq k else l) else 0
theorem zc8 (k:Int):0<=zcq k/\zcq k<=34686091440:=by
 unfold zcq
 by_cases h:1<=k/\k<=20
 ·rw [zko (by decide) (by decide) h.1 h.2]
  have:=z64 h.1 h.2
  omega
 ·rw [zrs (by omega)]; omega
theorem zeh (l k:Int):0<=zd6 l k/\zd6 l k<=zcq k:=by
 have:=zc8 k
 unfold zd6; by_cases h1:zcq k<l <;> simp only [h1,if_true,if_false] <;> split <;> omega
theorem z3f {l k:Int} {w:World} {bs:List Nat}:zad bs Tryz.prog zkr #[.int .i64 l,.int .i64 k] w (.int .i64 (zd6 l k)):=
 z33 l k fun wr hx=>⟨_,zo2,rfl⟩
theorem zqz {l k:Int} {w:World} {bs:List Nat}:zad bs Tryz.prog zh5 #[.int .i64 l,.int .i64 k] w (.int .i64 (zd6 l k)):=
 z4d l k fun wr hx=>by
  have hr:=zc8 k
  refine ⟨_,zfk,fun h => ?_,fun h=>⟨_,z5y,_,zo4,_,zne,?_⟩⟩
  ·have h:inB k 1 20=false:=by simpa using h
   rw [zajw] at h
   have h0:zcq k=0:=zrs (by omega)
   congr 1; unfold zd6; rw [h0]; by_cases h1:0<l <;> simp only [h1,if_true,if_false] <;> (repeat' split) <;> omega
  ·congr 1; unfold zd6 minI maxI; by_cases h1:zcq k<l <;> simp only [h1,if_true,if_false] <;> by_cases h2:l>0 <;> simp only [h2,if_true,if_false] <;> (repeat' split) <;> omega
def zai (n:Int):Int:=if inB n (-10) 9 then 10 - n else 0
theorem zjy {k:Int} {w:World} {bs:List Nat}:zad bs Tryz.prog zer #[.int .i64 k] w (.int .i64 (zai k)):=
 zxv k fun wr hx=>by
  refine ⟨_,zqv,fun h => ?_,fun h => ?_⟩
  ·have h:inB k (-10) 9=false:=by simpa using h
   rw [zai,h]; rfl
  ·have h:inB k (-10) 9=true:=by simpa using h
   have h2:=za6.1 h
   refine ⟨zjx (by omega) (by omega),?_⟩
   rw [zai,h]; rfl
structure Rdr (b:Nat) (c:Option Addr) (L N:Nat) (w:World):Prop where
 hd:∃(C:Nat) (p:Int),w.heap[b]? = some (.cells [.slice c L C,.int .i64 p].toArray zjf (0,0))/\0<=p/\p<=N
 bytes:∀i<L,∃(a:Addr) (x:Int),c=some a/\a.block≠b/\0<=x/\x<=255/\w.cell? (a.add i)=some (.int .u8 x)
theorem Rdr.ext {b:Nat} {c:Option Addr} {L N:Nat} {w w':World} {bs:List Nat} (h:Rdr b c L N w) (hx:ExtX bs w w') (hb:b∉bs) (hc:∀a,c=some a->a.block∉bs\/L=0):Rdr b c L N w':=by
 obtain ⟨⟨C,p,h1,h2,h3⟩,hby⟩:=h
 refine ⟨⟨C,p,za0 h1 hx hb,h2,h3⟩,fun i hi => ?_⟩
 obtain ⟨a,x,ha,hne,hx1,hx2,hx3⟩:=hby i hi
 refine ⟨a,x,ha,hne,hx1,hx2,?_⟩
 have hbk:a.block∉bs:=by
  rcases hc a ha with h | h
  ·exact h
  ·omega
 obtain ⟨a',e,_,h''⟩:=(show ziq bs w c i (.int .u8 x) from ⟨a,ha,hbk,hx3⟩).ext hx
 rw [ha] at e; cases e; exact h''
theorem Rdr.ext0 {b:Nat} {c:Option Addr} {L N:Nat} {w w':World} (h:Rdr b c L N w) (hx:ExtX [] w w'):Rdr b c L N w':=h.ext hx (by simp) (fun _ _=>.inl (by simp))
theorem Rdr.mono {b:Nat} {c:Option Addr} {L N M:Nat} {w:World} (h:Rdr b c L N w) (hm:N<=M):Rdr b c L M w:=by
 obtain ⟨⟨C,p,h1,h2,h3⟩,hby⟩:=h
 exact ⟨⟨C,p,h1,h2,by omega⟩,hby⟩
theorem Rdr.lt {b:Nat} {c:Option Addr} {L N:Nat} {w:World} (h:Rdr b c L N w):b<w.heap.size:=by
 obtain ⟨⟨C,p,h1,h2,h3⟩,hby⟩:=h
 exact zjm h1
theorem Rdr.ltc {b:Nat} {c:Option Addr} {L N:Nat} {w:World} (h:Rdr b c L N w) (a:Addr) (ha:c=some a):a.block<w.heap.size\/L=0:=by
 rcases Nat.eq_zero_or_pos L with h0 | h0
 ·exact .inr h0
 ·obtain ⟨a',x,ha',hne,hx1,hx2,hx3⟩:=h.bytes 0 h0
  rw [ha] at ha'; cases ha'
  have:=World.block_lt_of_cell? w _ hx3
  rw [zb2] at this
  exact .inl this
def z1u (n v:Int):Prop:=0<=v/\(n<1->v=0)/\(1<=n->v<n)
theorem z6q {x n:Int} (hx:0<=x) (hn:1<=n):z1u n (Int.tmod x n):=by
 refine ⟨Int.tmod_nonneg _ hx,by omega,fun _=>Int.tmod_lt_of_pos _ (by omega)⟩
theorem zaa4 {x y:Int} (h1:0<=x) (h2:x<=9223372036854775807) (h3:0<=y) (h4:y<=9223372036854775807):0<=BitI .xor .i64 x y:=by
 have hlt:(BitVec.ofInt 64 x ^^^ BitVec.ofInt 64 y).toNat<2 ^ 63:=by
  rw [BitVec.toNat_xor]
  refine Nat.xor_lt_two_pow ?_ ?_
  ·rw [BitVec.toNat_ofInt]; omega
  ·rw [BitVec.toNat_ofInt]; omega
 have h:=InR.wrap (k:=.i64) (z:=((BitVec.ofInt 64 x ^^^ BitVec.ofInt 64 y).toNat:Int)) (zjx (by omega) (by omega))
 show 0<=IntKind.i64.wrap ((BitVec.ofInt 64 x ^^^ BitVec.ofInt 64 y).toNat:Int)
 rw [h]; omega
theorem zag2 {b:Nat} {c:Option Addr} {L N:Nat} {w:World} {n:Int} (h:Rdr b c L N w) (hN:N<=1000000000000) :
  Calls Tryz.prog zag #[.pointer (some ⟨b,0,none⟩),.int .i64 n] w fun e w'=>∃v,e = .returned (.int .i64 v)/\z1u n v/\Rdr b c L (N+1) w'/\ExtX [b] w w':=by
 refine (zsc (some ⟨b,0,none⟩) n (R:=fun v w'=>∃x,v = .int .i64 x/\z1u n x/\Rdr b c L (N+1) w'/\ExtX [b] w w') ?_).mono fun e w' ⟨v,he,x,hv,h1,h2,h3⟩=>⟨x,by rw [he,hv],h1,h2,h3⟩
 obtain ⟨C,p,hh,hp0,hpN⟩:=h.hd
 have hs:=znz (k:=0) (n:=1) (vs:=[.int .i64 (p+1)]) hh
 have hxt:ExtX [b] w (sto w (some ⟨b,0,none⟩) 1 [.int .i64 (p+1)]):=zj8 fun a ha=>by cases ha; exact List.mem_singleton.2 rfl
 generalize hw1:sto w (some ⟨b,0,none⟩) 1 [.int .i64 (p+1)]=w1 at hs hxt
 have hs:w1.heap[b]? = some (.cells [.slice c L C,.int .i64 (p+1)].toArray zjf (0,0)):=hs
 have hc:zaa [] w1 (some ⟨b,0,none⟩) (0+0) [.slice c L C]:=zij hs (by simp) rfl
 have hpp:zaa [] w1 (some ⟨b,0,none⟩) (0+1) [.int .i64 (p+1)]:=zij hs (by simp) rfl
 have hby:∀i:Int,0<=i->i<L->∃x:Int,0<=x/\x<=255/\c.isSome=true/\zaa [] w1 c (Int.toNat i*1) [.int .u8 x]:=fun i h0 hi=>by
  obtain ⟨a,x,ha,hne,hx1,hx2,hx3⟩:=h.bytes i.toNat (by omega)
  refine ⟨x,hx1,hx2,by rw [ha]; rfl,?_⟩
  have:=(show ziq [b] w c i.toNat (.int .u8 x) from ⟨a,ha,by simpa using hne,hx3⟩).ext hxt
  rw [Nat.mul_one]
  exact zhq (this.less (by simp))
 have fin:∀(v:Int),z1u n v->∀wr,ExtX [] w1 wr->∃x,Value.int .i64 v = .int .i64 x/\z1u n x/\Rdr b c L (N+1) wr/\ExtX [b] w wr:=fun v hv wr hr=>
  ⟨v,rfl,hv,Rdr.ext0 ⟨⟨C,p+1,hs,by omega,by omega⟩,fun i hi=>by
   obtain ⟨a,x,ha,hne,hx1,hx2,hx3⟩:=h.bytes i hi
   have:=(show ziq [b] w c i (.int .u8 x) from ⟨a,ha,by simpa using hne,hx3⟩).ext hxt
   obtain ⟨a',ha',_,hc'⟩:=this
   rw [ha] at ha'; cases ha'
   exact ⟨a,x,ha,hne,hx1,hx2,hc'⟩⟩ hr,hxt.trans hr.of_nil⟩
 refine ⟨rfl,p,zij hh (by simp) rfl,zjx (by omega) (by omega),rfl,zyy hh (by simp) (by simp),?_⟩
 rw [show (0+1:Nat)=1 from rfl,hw1]
 refine ⟨fun _=>rfl,c,L,C,fun _=>hc,fun h => ?_,fun h => ?_⟩
 ·simp only [Bool.or_eq_true,decide_eq_true_eq,beq_iff_eq] at h
  refine fin 0 ⟨by omega,by omega,fun hn=>by omega⟩
 ·have h:1<=n/\L≠0:=by simpa using h
  refine ⟨rfl,p+1,hpp,zjx (by omega) (by omega),rfl,c,L,C,hc,fun hlt => ?_,fun hlt => ?_⟩
  ·have hlt:=of_decide_eq_true hlt
   obtain ⟨x,hx1,hx2,hx3,hx4⟩:=hby (p+1 - 1) (by omega) hlt
   exact ⟨rfl,c,L,C,hc,⟨by omega,hlt,hx3⟩,x,hx4,zjx (by omega) (by omega),by omega,fin _ (z6q hx1 h.1)⟩
  ·have hLp:(0:Int)<(L:Int):=by omega
   have hm1:=Int.tmod_nonneg (L:Int) (show 0<=p+1 - 1 by omega)
   have hm2:=Int.tmod_lt_of_pos (p+1 - 1) hLp
   have hm3:=Int.tmod_nonneg (L:Int) (show 0<=(p+1 - 1)*7+3 by omega)
   have hm4:=Int.tmod_lt_of_pos ((p+1 - 1)*7+3) hLp
   have hd1:0<=Int.tdiv (p+1 - 1) (L:Int):=Int.tdiv_nonneg (by omega) (by omega)
   have hd2:Int.tdiv (p+1 - 1) (L:Int)<=p+1 - 1:=by
    rw [Int.tdiv_eq_ediv_of_nonneg (by omega)]; exact Int.ediv_le_self _ (by omega)
   obtain ⟨x1,hx1,hx2,hx3,hx4⟩:=hby _ hm1 hm2
   obtain ⟨x2,hy1,hy2,hy3,hy4⟩:=hby _ hm3 hm4
   have hX0:0<=(x1*131+x2*1117+(p+1 - 1)*29)+Int.tdiv (p+1 - 1) (L:Int)*53:=by omega
   have hX1:(x1*131+x2*1117+(p+1 - 1)*29)+Int.tdiv (p+1 - 1) (L:Int)*53<=1000000000000000:=by omega
   have hq0:=Int.tdiv_nonneg hX0 (show (0:Int)<=64 by decide)
   have hq1:Int.tdiv ((x1*131+x2*1117+(p+1 - 1)*29)+Int.tdiv (p+1 - 1) (L:Int)*53) 64<=(x1*131+x2*1117+(p+1 - 1)*29)+Int.tdiv (p+1 - 1) (L:Int)*53:=by
    rw [Int.tdiv_eq_ediv_of_nonneg hX0]; exact Int.ediv_le_self _ hX0
   refine ⟨rfl,c,L,C,hc,rfl,c,L,C,hc,by omega,⟨hm1,hm2,hx3⟩,x1,hx4,zjx (by omega) (by omega),zjx (by omega) (by omega),rfl,c,L,C,hc,zjx (by omega) (by omega),zjx (by omega) (by omega),rfl,c,L,C,hc,by omega,⟨hm3,hm4,hy3⟩,x2,hy4,
    zjx (by omega) (by omega),zjx (by omega) (by omega),zjx (by omega) (by omega),zjx (by omega) (by omega),zjx (by omega) (by omega),rfl,c,L,C,hc,⟨by omega,zjx (by omega) (by omega)⟩,zjx (by omega) (by omega),zjx (by omega) (by omega),⟨by decide,zjx (by omega) (by omega)⟩,by omega,?_⟩
   exact fin _ (z6q (zaa4 hX0 (by omega) hq0 (by omega)) h.1)
end Go.Proofs.YtclpmgfpjeaibaaGreatDoor
namespace Go.Proofs.YtclpmgfpjeaibaaGreatDoor
open Go.RowKit Go.ChangeShapes
set_option linter.unusedVariables false
set_option linter.unusedSimpArgs false
section
variable {H:Type} {en:TypeId×Value->H} {w:World} {base:Nat} {spare:Nat->Bool} {held:Bool} {fuel:Nat} {cs:List Value} {x:DataW H×List MemPlace}
structure MW where
 cO:Option Addr
 cC:Nat
 tO:Option Addr
 tC:Nat
 gO:Option Addr
 gC:Nat
 ms:Nat->MG
def encW (W:Wld) (m:MW):List Value:=[.int .i64 W.now,.slice m.cO W.cpus.length m.cC,.slice m.tO W.tasks.length m.tC,.slice m.gO W.groups.length m.gC]
structure RdW (bs:List Nat) (w:World) (W:Wld) (m:MW):Prop where
 c:RdC bs w m.cO W.cpus
 t:RdT bs w m.tO W.tasks
 g:RdG bs w m.gO W.groups m.ms
theorem RdW.ext {bs:List Nat} {w w':World} {W:Wld} {m:MW} (h:RdW bs w W m) (hx:ExtX bs w w'):RdW bs w' W m:=⟨h.c.ext hx,h.t.ext hx,h.g.ext hx⟩
theorem RdW.less {bs cs:List Nat} {w:World} {W:Wld} {m:MW} (h:RdW bs w W m) (hs:∀x∈cs,x∈bs):RdW cs w W m:=⟨h.c.less hs,h.t.less hs,h.g.less hs⟩
theorem RdW.wide {bs cs:List Nat} {w:World} {W:Wld} {m:MW} (h:RdW bs w W m) (hs:∀x∈cs,x∈bs\/w.heap.size<=x):RdW cs w W m:=⟨h.c.wide hs,h.t.wide hs,h.g.wide hs⟩
end
end Go.Proofs.YtclpmgfpjeaibaaGreatDoor
namespace Go.Proofs.YtclpmgfpjeaibaaGreatDoor
open Go.RowKit
set_option linter.unusedVariables false
set_option linter.unusedSimpArgs false
set_option maxRecDepth 10000
def bitN (k:Nat):Int:=1*2 ^ (min (Int.toNat (k:Int)) 64)
def mOk (m:Int):Bool:=inB m 0 15
def mHas (m c:Int):Bool:=(mOk m&&inB c 0 3)&&(Int.tmod (Int.fdiv m (2 ^ (min (Int.toNat c) 64))) 2==1)
def mAnd (a b:Int):Int:=if mOk a=true/\mOk b=true then BitI .and .i64 a b else 0
def andN (a b:Int):Nat->Int
 | 0=>0
 | k+1=>if (mHas a (k:Int)&&mHas b (k:Int))=true then andN a b k+bitN k else andN a b k
theorem zqo {m:Int} (h:mOk m=true):∃f:Fin 16,m=(f.val:Int):=by
 have:=za6.1 h
 exact ⟨⟨m.toNat,by omega⟩,by show m=((m.toNat:Nat):Int); omega⟩
theorem zaeq:∀a b:Fin 16,andN (a.val:Int) (b.val:Int) 4=BitI .and .i64 (a.val:Int) (b.val:Int):=by decide +kernel
theorem zaer:∀a b:Fin 16,0<=BitI .and .i64 (a.val:Int) (b.val:Int)/\BitI .and .i64 (a.val:Int) (b.val:Int)<=15:=by decide +kernel
theorem zaeo:∀a b:Fin 16,BitI .and .i64 (a.val:Int) (b.val:Int)=BitI .and .i64 (b.val:Int) (a.val:Int):=by decide +kernel
theorem zaen:∀a b c:Fin 16,BitI .and .i64 (BitI .and .i64 (a.val:Int) (b.val:Int)) (c.val:Int)=BitI .and .i64 (a.val:Int) (BitI .and .i64 (b.val:Int) (c.val:Int)):=by decide +kernel
theorem zaep:∀(a b:Fin 16) (c:Fin 4),mHas (BitI .and .i64 (a.val:Int) (b.val:Int)) (c.val:Int)=(mHas (a.val:Int) (c.val:Int)&&mHas (b.val:Int) (c.val:Int)):=by decide +kernel
theorem zaem:∀a:Fin 16,BitI .and .i64 (a.val:Int) 0=0:=by decide +kernel
theorem z3y (a b:Int):mOk (mAnd a b)=true:=by
 unfold mAnd
 split
 ·rename_i h
  obtain ⟨x,rfl⟩:=zqo h.1
  obtain ⟨y,rfl⟩:=zqo h.2
  exact za6.2 (zaer x y)
 ·exact za6.2 (by decide)
theorem zk8 {a b:Int} (ha:mOk a=true) (hb:mOk b=true):mAnd a b=BitI .and .i64 a b:=by unfold mAnd; rw [if_pos ⟨ha,hb⟩]
theorem zem {a b:Int} (h:mOk a=false\/mOk b=false):mAnd a b=0:=by
 unfold mAnd
 rw [if_neg]
 rintro ⟨h1,h2⟩
 rcases h with h | h
 ·rw [h1] at h; cases h
 ·rw [h2] at h; cases h
theorem zxp (a b:Int):mAnd a b=mAnd b a:=by
 cases ha:mOk a with
 | false=>rw [zem (.inl ha),zem (.inr ha)]
 | true=>
  cases hb:mOk b with
  | false=>rw [zem (.inr hb),zem (.inl hb)]
  | true=>
   rw [zk8 ha hb,zk8 hb ha]
   obtain ⟨x,rfl⟩:=zqo ha
   obtain ⟨y,rfl⟩:=zqo hb
   exact zaeo x y
theorem zq5 (a:Int):mAnd a 0=0:=by
 cases ha:mOk a with
 | false=>exact zem (.inl ha)
 | true=>
  rw [zk8 ha (by decide)]
  obtain ⟨x,rfl⟩:=zqo ha
  exact zaem x
theorem zaal (a b c:Int):mAnd (mAnd a b) c=mAnd a (mAnd b c):=by
 cases hb:mOk b with
 | false=>rw [zem (a:=a) (.inr hb),zem (b:=c) (.inl hb),zxp 0 c,zq5,zq5]
 | true=>
  cases ha:mOk a with
  | false=>rw [zem (b:=b) (.inl ha),zem (b:=mAnd b c) (.inl ha),zxp,zq5]
  | true=>
   cases hc:mOk c with
   | false=>rw [zem (a:=mAnd a b) (.inr hc),zem (a:=b) (.inr hc),zq5]
   | true=>
    have h1:=z3y a b
    have h2:=z3y b c
    rw [zk8 h1 hc,zk8 ha h2,zk8 ha hb,zk8 hb hc]
    obtain ⟨x,rfl⟩:=zqo ha
    obtain ⟨y,rfl⟩:=zqo hb
    obtain ⟨z,rfl⟩:=zqo hc
    exact zaen x y z
theorem zlh {m c:Int} (h:mHas m c=true):mOk m=true/\0<=c/\c<=3:=by
 unfold mHas at h
 simp only [Bool.and_eq_true] at h
 exact ⟨h.1.1,za6.1 h.1.2⟩
theorem z88 {a b c:Int} (h:mHas (mAnd a b) c=true):mHas a c=true/\mHas b c=true:=by
 have hr:=zlh h
 have hz:mHas 0 c=false:=by
  have:c=0\/c=1\/c=2\/c=3:=by omega
  rcases this with rfl | rfl | rfl | rfl <;> decide
 cases ha:mOk a with
 | false=>rw [zem (.inl ha),hz] at h; cases h
 | true=>
  cases hb:mOk b with
  | false=>rw [zem (.inr hb),hz] at h; cases h
  | true=>
   rw [zk8 ha hb] at h
   obtain ⟨x,rfl⟩:=zqo ha
   obtain ⟨y,rfl⟩:=zqo hb
   have:=zaep x y ⟨c.toNat,by omega⟩
   rw [show ((⟨c.toNat,by omega⟩:Fin 4).val:Int)=c by show ((c.toNat:Nat):Int)=c; omega] at this
   rw [this] at h
   simpa using h
def upsN (cs:List Cpu):Nat->Int
 | 0=>0
 | k+1=>if (gi cs (k:Int)).up=true then upsN cs k+bitN k else upsN cs k
def upsD (cs:List Cpu):Int:=upsN cs cs.length
theorem zs2 (cs:List Cpu):∀k:Nat,k<=4->0<=upsN cs k/\upsN cs k<bitN k
 | 0,_=>by simp [upsN,bitN]
 | k+1,h=>by
  have ih:=zs2 cs k (by omega)
  have hb:bitN (k+1)=2*bitN k/\0<=bitN k:=by
   have:k=0\/k=1\/k=2\/k=3:=by omega
   rcases this with rfl | rfl | rfl | rfl <;> decide
  simp only [upsN]
  split <;> omega
theorem z8o {k:Nat} (h:k<=4):1<=bitN k/\bitN k<=16:=by
 have:k=0\/k=1\/k=2\/k=3\/k=4:=by omega
 rcases this with rfl | rfl | rfl | rfl | rfl <;> decide
theorem zai9 {cs:List Cpu} (h:cs.length<=4):mOk (upsD cs)=true:=by
 have:=zs2 cs cs.length h
 have:=z8o h
 exact za6.2 (by unfold upsD; omega)
theorem zakb:∀(k:Fin 4) (s:Fin 8),(s.val:Int)<bitN k.val->BitI .or .i64 (s.val:Int) (bitN k.val)=(s.val:Int)+bitN k.val:=by decide +kernel
theorem zaka {k:Nat} {s:Int} (hk:k<4) (h0:0<=s) (h1:s<bitN k):BitI .or .i64 s (bitN k)=s+bitN k:=by
 have hb:bitN k<=8:=by
  have:k=0\/k=1\/k=2\/k=3:=by omega
  rcases this with rfl | rfl | rfl | rfl <;> decide
 have:=zakb ⟨k,hk⟩ ⟨s.toNat,by omega⟩
 rw [show ((⟨s.toNat,by omega⟩:Fin 8).val:Int)=s by show ((s.toNat:Nat):Int)=s; omega] at this
 exact this h1
theorem z81:∀(k:Fin 4) (s:Fin 8) (c:Fin 4),(s.val:Int)<bitN k.val->mHas ((s.val:Int)+bitN k.val) (c.val:Int)=(decide (c.val=k.val)||mHas (s.val:Int) (c.val:Int)):=by decide +kernel
theorem zaed (cs:List Cpu) {c:Int}:∀k:Nat,k<=4->mHas (upsN cs k) c=true->c<(k:Int)/\(gi cs c).up=true
 | 0,_,h=>by
  have hr:=zlh h
  have:c=0\/c=1\/c=2\/c=3:=by omega
  rcases this with rfl | rfl | rfl | rfl <;> exact absurd h (by simp only [upsN]; decide)
 | k+1,hk,h=>by
  have hr:=zlh h
  have ih:=zaed cs (c:=c) k (by omega)
  have hl:=zs2 cs k (by omega)
  have hb:bitN k<=8:=by
   have:k=0\/k=1\/k=2\/k=3:=by omega
   rcases this with rfl | rfl | rfl | rfl <;> decide
  simp only [upsN] at h
  split at h
  ·rename_i hu
   have:=z81 ⟨k,by omega⟩ ⟨(upsN cs k).toNat,by omega⟩ ⟨c.toNat,by omega⟩
   rw [show ((⟨(upsN cs k).toNat,by omega⟩:Fin 8).val:Int)=upsN cs k by show (((upsN cs k).toNat:Nat):Int)=upsN cs k; omega,show ((⟨c.toNat,by omega⟩:Fin 4).val:Int)=c by show ((c.toNat:Nat):Int)=c; omega] at this
   rw [this hl.2] at h
   simp only [Bool.or_eq_true,decide_eq_true_eq] at h
   rcases h with h | h
   ·have:c=(k:Int):=by omega
    subst this
    exact ⟨by omega,hu⟩
   ·have:=ih h
    exact ⟨by omega,this.2⟩
  ·have:=ih h
   exact ⟨by omega,this.2⟩
def zl2:Nat->List Grp->Int->List Int
 | 0,_,_=>[]
 | f+1,gs,g=>if g=0 then [] else g::zl2 f gs (gi gs g).parent
abbrev zbk (gs:List Grp) (g:Int):List Int:=zl2 3 gs g
theorem zbm (gs:List Grp) (f:Nat):zl2 f gs 0=[]:=by cases f <;> simp [zl2]
theorem zac6 {gs:List Grp} (ht:zeb gs):∀(f f':Nat) (h:Int),zae gs h=true->dep 3 gs h<=f->dep 3 gs h<=f'->zl2 f gs h=zl2 f' gs h:=by
 intro f
 induction f with
 | zero=>
  intro f' h hu h1 h2
  have hz:h=0:=Decidable.byContradiction fun hz=>by
   obtain ⟨_,_,_,d,e,_⟩:=zd4 ht hu hz
   omega
  subst hz
  rw [zbm,zbm]
 | succ f ih=>
  intro f' h hu h1 h2
  by_cases hz:h=0
  ·subst hz
   rw [zbm,zbm]
  ·obtain ⟨hp,_,_,d,e,e2,_⟩:=zd4 ht hu hz
   cases f' with
   | zero=>omega
   | succ f'=>
    simp only [zl2]
    rw [if_neg hz,if_neg hz,ih f' (gi gs h).parent hp (by omega) (by omega)]
theorem zcf {gs:List Grp} (ht:zeb gs) {h:Int} (hu:zae gs h=true) (hz:h≠0):zbk gs h=h::zbk gs (gi gs h).parent:=by
 obtain ⟨hp,_,_,d,e,e2,hd⟩:=zd4 ht hu hz
 show zl2 3 gs h=_
 rw [show zl2 3 gs h=if h=0 then [] else h::zl2 2 gs (gi gs h).parent from rfl,if_neg hz,zac6 ht 2 3 _ hp (by omega) (by omega)]
theorem zob {gs:List Grp} (ht:zeb gs) {Q:Int->Prop} (h0:Q 0) (hs:∀h:Int,zae gs h=true->h≠0->Q (gi gs h).parent->Q h):∀h:Int,zae gs h=true->Q h:=by
 have key:∀(n:Nat) (h:Int),zae gs h=true->dep 3 gs h<=n->Q h:=by
  intro n
  induction n with
  | zero=>
   intro h hu hd
   by_cases hz:h=0
   ·subst hz; exact h0
   ·obtain ⟨_,_,_,d,e,_⟩:=zd4 ht hu hz
    omega
  | succ n ih=>
   intro h hu hd
   by_cases hz:h=0
   ·subst hz; exact h0
   ·obtain ⟨hp,_,_,d,e,e2,_⟩:=zd4 ht hu hz
    exact hs h hu hz (ih _ hp (by omega))
 intro h hu
 have:=zjo gs 3 h
 exact key 3 h hu (by omega)
theorem zafy {gs:List Grp} (ht:zeb gs) {h:Int} (hu:zae gs h=true):zbk gs h++[0]=h::(zbk gs h).map fun x=>(gi gs x).parent:=by
 refine zob ht (Q:=fun h=>zbk gs h++[0]=h::(zbk gs h).map fun x=>(gi gs x).parent) (by simp [zbk,zbm]) (fun h hu hz ih => ?_) h hu
 rw [zcf ht hu hz,List.cons_append,ih,List.map_cons]
def pinD (gs:List Grp) (g u:Int):Int:=(zbk gs g++[0]).foldl (fun s x=>mAnd s (gi gs x).cpus) u
def zadt (gs:List Grp) (g:Int):Int:=(zbk gs g).foldl (fun s x=>mAnd s (gi gs (gi gs x).parent).cpus) (gi gs g).cpus
theorem z8y (f:Int->Int):∀(l:List Int) (m u:Int),mAnd (l.foldl (fun s x=>mAnd s (f x)) m) u=l.foldl (fun s x=>mAnd s (f x)) (mAnd u m)
 | [],m,u=>zxp m u
 | x::l,m,u=>by
  simp only [List.foldl_cons]
  rw [z8y f l,zaal]
theorem zaf8 {gs:List Grp} (ht:zeb gs) {g u:Int} (hu:zae gs g=true):mAnd (zadt gs g) u=pinD gs g u:=by
 unfold zadt pinD
 rw [zafy ht hu,List.foldl_cons,List.foldl_map,z8y (fun x=>(gi gs (gi gs x).parent).cpus)]
theorem zadb {gs:List Grp} {g u c:Int} (h:mHas (pinD gs g u) c=true):mHas u c=true:=by
 unfold pinD at h
 revert h
 generalize zbk gs g++[0]=l
 induction l generalizing u with
 | nil=>exact fun h=>h
 | cons x l ih=>
  intro h
  rw [List.foldl_cons] at h
  exact (z88 (ih h)).1
def zch (W:Wld) (g mask:Int):Int:=
 if mAnd mask (pinD W.groups g (upsD W.cpus))≠0 then mAnd mask (pinD W.groups g (upsD W.cpus)) else if pinD W.groups g (upsD W.cpus)≠0 then pinD W.groups g (upsD W.cpus) else upsD W.cpus
theorem zaeg {W:Wld} {g mask c:Int} (h:mHas (zch W g mask) c=true):mHas (upsD W.cpus) c=true:=by
 unfold zch at h
 split at h
 ·exact zadb (z88 h).2
 ·split at h
  ·exact zadb h
  ·exact h
def sumI (l:List Int):Nat->Int
 | 0=>0
 | k+1=>sumI l k+gi l (k:Int)
def anyB (p:Nat->Bool):Nat->Bool
 | 0=>false
 | k+1=>anyB p k||p k
theorem z0p {p:Nat->Bool}:∀{n:Nat},anyB p n=true↔∃j,j<n/\p j=true
 | 0=>by simp [anyB]
 | n+1=>by
  simp only [anyB,Bool.or_eq_true,z0p (n:=n)]
  constructor
  ·rintro (⟨j,hj,h⟩ | h)
   ·exact ⟨j,by omega,h⟩
   ·exact ⟨n,by omega,h⟩
  ·rintro ⟨j,hj,h⟩
   by_cases hjn:j=n
   ·subst hjn; exact .inr h
   ·exact .inl ⟨j,by omega,h⟩
theorem z8m {p:Nat->Bool} {n:Nat} (h:∀j,j<n->p j=false):anyB p n=false:=by
 cases ha:anyB p n with
 | false=>rfl
 | true=>
  obtain ⟨j,hj,hp⟩:=z0p.1 ha
  rw [h j hj] at hp; cases hp
noncomputable def decB (P:Prop):Bool := @decide P (Classical.propDecidable P)
theorem zbp {P:Prop}:decB P=true↔P := @decide_eq_true_iff P (Classical.propDecidable P)
theorem zta {P:Prop}:decB P=false↔¬P:=by
 constructor
 ·intro h hp
  rw [zbp.2 hp] at h; cases h
 ·intro h
  cases hb:decB P with
  | false=>rfl
  | true=>exact absurd (zbp.1 hb) h
theorem zom {b:Bool} {P:Prop} (h:b=true↔P):Value.bool b = .bool (decB P):=by
 have:b=decB P:=by
  cases hb:decB P with
  | true=>exact h.2 (zbp.1 hb)
  | false=>
   cases hc:b with
   | false=>rfl
   | true=>exact absurd (h.1 hc) (zta.1 hb)
 rw [this]
theorem noP {P:Prop} (h:¬P):Value.bool false = .bool (decB P):=by rw [zta.2 h]
theorem yesP {P:Prop} (h:P):Value.bool true = .bool (decB P):=by rw [zbp.2 h]
def tkk (W:Wld) (t:Int):Tsk:=gi W.tasks t
def shf (W:Wld) (g c:Int):Shf:=gi (gi W.groups g).shelves c
def tmOk (v:Int):Bool:=inB v 0 100000000000000000
theorem ze9 {v:Int}:tmOk v=true↔0<=v/\v<=100000000000000000:=za6
def zpa (b:Bnd):Bool:=((((b.quota==0)&&(b.pool==0))&&(b.spent==0))&&(((b.locals.length:Nat):Int)==0))&&(((b.dry.length:Nat):Int)==0)
structure BndP (b:Bnd):Prop where
 q1:1<=b.quota
 q2:b.quota<=10000
 l1:1<=b.locals.length
 l2:b.locals.length<=4
 dl:b.dry.length=b.locals.length
 p1:0<=b.pool
 p2:b.pool<=b.quota
 s1:0<=b.spent
 s2:b.spent<=b.quota
 each:∀c:Int,0<=c->c<(b.locals.length:Int)->0<=gi b.locals c/\gi b.locals c<=b.quota/\(gi b.dry c=true->gi b.locals c=0/\b.pool=0)
 sum:b.pool+b.spent+sumI b.locals b.locals.length=b.quota
structure GrpU (W:Wld) (k:Int) (g:Grp):Prop where
 w1:1<=g.weight
 w2:g.weight<=20
 m:mOk g.cpus=true
 m0:g.cpus≠0
 s:tmOk g.sum=true
 len:g.shelves.length=W.cpus.length
 root:k=0->g.weight=10/\g.cpus=15/\g.band.quota=0
 none:g.band.quota=0->zpa g.band=true/\g.period=0/\g.next=0
 band:g.band.quota≠0->BndP g.band/\g.band.locals.length=W.cpus.length/\1<=g.period/\g.period<=1000/\W.now<g.next/\g.next - W.now<=g.period
structure GrpN (g:Grp):Prop where
 p:g.parent=0
 n:g.name=⟨[].toArray⟩
 w:g.weight=0
 c:g.cpus=0
 pe:g.period=0
 ne:g.next=0
 s:g.sum=0
 l:g.shelves.length=0
 b:zpa g.band=true
def GrpP (W:Wld) (k:Int):Prop:=((gi W.groups k).used=false->GrpN (gi W.groups k))/\((gi W.groups k).used=true->GrpU W k (gi W.groups k))
structure WA (W:Wld):Prop where
 n1:0<=W.now
 n2:W.now<=100000000000000000
 c1:1<=W.cpus.length
 c2:W.cpus.length<=4
 t:W.tasks.length=12
 tree:zeb W.groups
 ups:upsD W.cpus≠0
 grp:∀k:Int,0<=k->k<8->GrpP W k
def dryD (W:Wld) (g c:Int):Bool:=decide ((gi W.groups g).band.quota>0)&&gi (gi W.groups g).band.dry c
def actT (W:Wld) (g c:Int) (j:Nat):Bool:=(((gi W.tasks (j:Int)).state==1)&&((gi W.tasks (j:Int)).group==g))&&((gi W.tasks (j:Int)).cpu==c)
def actG (W:Wld) (g c:Int) (j:Nat):Bool:=(decide (1<=j)&&((gi W.groups (j:Int)).used&&((gi W.groups (j:Int)).parent==g)))&&(shf W (j:Int) c).on
def za5 (W:Wld) (g c:Int):Bool:=anyB (actT W g c) W.tasks.length||anyB (actG W g c) W.groups.length
def zk7 (W:Wld) (g c:Int):Bool:=(zbk W.groups g).all fun x=>(shf W x c).on
def ze3 (W:Wld) (t:Int):Bool:=((tkk W t).state==1)&&zk7 W (tkk W t).group (tkk W t).cpu
def zpc (v f k:Int):Bool:=decide (v>=f)&&decide (IntKind.i64.wrap (v - f)<=zcq k)
def zny (W:Wld) (g c ran:Int):Bool:=(zbk W.groups g).all fun x=>decide ((shf W x c).v - (shf W (gi W.groups x).parent c).floor<=zbn ran (shf W x c).w)
def zsx (W:Wld) (c:Int):Bool:=
 decide ((tkk W (gi W.cpus c).cur).v - (shf W (tkk W (gi W.cpus c).cur).group c).floor<=zbn (gi W.cpus c).ran (zai (tkk W (gi W.cpus c).cur).nice))&&zny W (tkk W (gi W.cpus c).cur).group c (gi W.cpus c).ran
def zn6:Tsk:=⟨0,0,0,0,0,0,0,0,0⟩
structure TskU (W:Wld) (x:Tsk):Prop where
 st:x.state=1\/x.state=2
 g:zae W.groups x.group=true
 n:zai x.nice≠0
 m:mOk x.mask=true
 m0:x.mask≠0
 v:tmOk x.v=true
 s:tmOk x.sum=true
 u:tmOk x.used=true
 l1:0<=x.load
 l2:x.load<=8000000
 c:mHas (zch W x.group x.mask) x.cpu=true
 f:x.state=1->zpc x.v (shf W x.group x.cpu).floor (zai x.nice)=true
def TskP (W:Wld) (t:Int):Prop:=(tkk W t).state=0/\tkk W t=zn6\/(tkk W t).state≠0/\TskU W (tkk W t)
structure ShfP (W:Wld) (k c:Int):Prop where
 f:tmOk (shf W k c).floor=true
 v:tmOk (shf W k c).v=true
 s:tmOk (shf W k c).sum=true
 w1:1<=(shf W k c).w
 w2:(shf W k c).w<=20
 root:k=0->(shf W k c).on=false/\(shf W k c).v=0/\(shf W k c).w=10
 on:k≠0->(shf W k c).on=(za5 W k c && !dryD W k c)
 st:k≠0->(shf W k c).on=true->zpc (shf W k c).v (shf W (gi W.groups k).parent c).floor (shf W k c).w=true
structure CpuP (W:Wld) (c:Int):Prop where
 b:tmOk (gi W.cpus c).busy=true
 i:tmOk (gi W.cpus c).idle=true
 c1 : -1<=(gi W.cpus c).cur
 c2:(gi W.cpus c).cur<(W.tasks.length:Int)
 no:(gi W.cpus c).cur<0->(gi W.cpus c).ran=0
 yes:0<=(gi W.cpus c).cur->(gi W.cpus c).up=true/\1<=(gi W.cpus c).ran/\(gi W.cpus c).ran<=149/\(tkk W (gi W.cpus c).cur).cpu=c/\ze3 W (gi W.cpus c).cur=true/\zsx W c=true
structure WldP (W:Wld):Prop where
 a:WA W
 t:∀t:Int,0<=t->t<12->TskP W t
 s:∀k c:Int,0<=k->k<8->0<=c->c<((gi W.groups k).shelves.length:Int)->ShfP W k c
 c:∀c:Int,0<=c->c<(W.cpus.length:Int)->CpuP W c
noncomputable def zbi (W:Wld):Bool:=decB (WldP W)
section
variable {W:Wld}
theorem WA.gl (h:WA W):W.groups.length=8:=h.tree.len
theorem WA.u (h:WA W) {g:Int} (hu:zae W.groups g=true):0<=g/\g<8/\GrpU W g (gi W.groups g):=by
 obtain ⟨a,b,c⟩:=zac.1 hu
 have:=h.gl
 exact ⟨a,by omega,(h.grp g a (by omega)).2 c⟩
theorem WA.root (h:WA W):zae W.groups 0=true:=zac.2 ⟨by decide,by have:=h.gl; omega,h.tree.ru⟩
theorem WA.sl (h:WA W) {g:Int} (hu:zae W.groups g=true):(gi W.groups g).shelves.length=W.cpus.length:=(h.u hu).2.2.len
theorem WA.up (h:WA W) {g:Int} (hu:zae W.groups g=true) (hz:g≠0):zae W.groups (gi W.groups g).parent=true:=(zd4 h.tree hu hz).1
theorem WA.dl (h:WA W) {g:Int} (hu:zae W.groups g=true) (hq:(gi W.groups g).band.quota≠0):(gi W.groups g).band.dry.length=W.cpus.length/\(gi W.groups g).band.locals.length=W.cpus.length:=by
 have hb:=(h.u hu).2.2.band hq
 exact ⟨by rw [hb.1.dl,hb.2.1],hb.2.1⟩
end
theorem zc7 {v:Int} {w:World} {bs:List Nat}:zad bs Tryz.prog zb4 #[.int .i64 v] w (.bool (tmOk v)):=z4h v fun wr hx=>⟨_,za1,rfl⟩
theorem zfj {n:Int} {w:World} {bs:List Nat}:zad bs Tryz.prog zcy #[.int .i64 n] w (.int .i64 (zai n)):=
 zx1 n fun wr hx=>⟨_,za1,fun g=>by
  unfold zai; rw [if_neg (by simpa using g)],fun g=>by
  have g':inB n (-10) 9=true:=by simpa using g
  have:=za6.1 g'
  refine ⟨⟨by omega,by omega⟩,?_⟩
  unfold zai; rw [if_pos g']⟩
theorem zfv {m:Int} {w:World} {bs:List Nat}:zad bs Tryz.prog zc9 #[.int .i64 m] w (.bool (mOk m)):=z4e m fun wr hx=>⟨_,za1,rfl⟩
theorem zia {m c:Int} {w:World} {bs:List Nat}:zad bs Tryz.prog zec #[.int .i64 m,.int .i64 c] w (.bool (mHas m c)):=
 z0g m c fun wr hx=>by
  have hr:(mOk m&&inB c 0 3)=true->0<=c/\c<=3:=fun g=>by
   simp only [Bool.and_eq_true] at g
   exact za6.1 g.2
  exact ⟨_,zfv,_,fun _=>za1,fun g=>by have:=hr g; exact ⟨by omega,by show c<=18446744073709551615; omega⟩,fun g=>(hr g).1,fun _=>by decide,rfl⟩
theorem zaa6 (a b:Int):∀k:Nat,k<=4->0<=andN a b k/\andN a b k<bitN k
 | 0,_=>by simp [andN,bitN]
 | k+1,h=>by
  have ih:=zaa6 a b k (by omega)
  have hb:bitN (k+1)=2*bitN k/\0<=bitN k:=by
   have:k=0\/k=1\/k=2\/k=3:=by omega
   rcases this with rfl | rfl | rfl | rfl <;> decide
  simp only [andN]
  split <;> omega
theorem zajx {k:Nat} (h:k<=64):InR .u64 (k:Int):=⟨by show (0:Int)<=(k:Int); omega,by show (k:Int)<=18446744073709551615; omega⟩
theorem zk4 {a b:Int} {w:World} {bs:List Nat}:zad bs Tryz.prog zfg #[.int .i64 a,.int .i64 b] w (.int .i64 (mAnd a b)):=
 z0f a b fun wr hx=>by
  refine ⟨_,zfv,_,fun _=>zfv,fun g => ?_,fun g => ?_⟩
  ·rw [zem]
   simpa using g
  ·simp only [Bool.or_eq_false_iff,Bool.not_eq_false'] at g
   have he:mAnd a b=andN a b 4:=by
    rw [zk8 g.1 g.2]
    obtain ⟨x,rfl⟩:=zqo g.1
    obtain ⟨y,rfl⟩:=zqo g.2
    exact (zaeq x y).symm
   rw [he]
   refine zz8 4 0 rfl (fun x k=>k<=4/\x=andN a b k) ⟨by omega,rfl⟩ fun x k ⟨hk,hx⟩=>⟨fun hlt => ?_,fun hge => ?_⟩
   ·have hlt:=of_decide_eq_true hlt
    have hb:=z8o (k:=k) (by omega)
    have hl:=zaa6 a b k hk
    have hbd:(1*2 ^ (min (Int.toNat (k:Int)) 64):Int)=bitN k:=rfl
    refine ⟨_,zia,_,fun _=>zia,fun h => ?_,fun h => ?_⟩
    ·rw [hbd]
     refine ⟨zajx (by omega),⟨by omega,by omega,by omega⟩,⟨by omega,by omega⟩,⟨by omega,by omega⟩,zb1 (by omega) ⟨by omega,?_⟩⟩
     rw [hx]; simp only [andN]; rw [if_pos h]
    ·refine ⟨⟨by omega,by omega⟩,zb1 (by omega) ⟨by omega,?_⟩⟩
     rw [hx]; simp only [andN]; rw [if_neg (by rw [h]; decide)]
   ·have hge:=of_decide_eq_false hge
    have:k=4:=by omega
    subst this
    rw [hx]
theorem zq8 {b:Bnd} (h:zpa b=true):b.quota=0/\b.pool=0/\b.spent=0/\b.locals.length=0/\b.dry.length=0:=by
 unfold zpa at h
 simp only [Bool.and_eq_true,beq_iff_eq] at h
 omega
theorem zng {b:Bnd} {m:MG} {w:World} {bs:List Nat}:zad bs Tryz.prog zgg #[.agg (zdj b m).toArray] w (.bool (zpa b)):=
 zx8 b.quota b.pool b.spent m.lO b.locals.length m.lC m.dO b.dry.length m.dC fun wr hx=>fun _ _=>rfl
theorem zqy {b:Bnd} {m:MG} {w:World} {bs:List Nat} (h1:RdI bs w m.lO b.locals) (h2:RdB bs w m.dO b.dry) (hl:b.locals.length<=maxLen):zad bs Tryz.prog zh4 #[.agg (zdj b m).toArray] w (.bool (decB (BndP b))):=
 z4c b.quota b.pool b.spent m.lO b.locals.length m.lC m.dO b.dry.length m.dC fun wr hx=>by
  have h1:=(h1.ext hx).less (cs:=[]) (by simp)
  have h2:=(h2.ext hx).less (cs:=[]) (by simp)
  intro _ _
  refine ⟨_,za1,_,fun _=>za1,_,fun _=>za1,_,fun _=>za1,fun g=>noP fun p => ?_,fun g => ?_⟩
  ·rw [za6.2 ⟨p.q1,p.q2⟩,za6.2 (by have:=p.l1; have:=p.l2; omega),za6.2 ⟨p.p1,p.p2⟩,za6.2 ⟨p.s1,p.s2⟩,p.dl] at g
   simp at g
  ·simp only [Bool.or_eq_false_iff,Bool.not_eq_false',bne_eq_false_iff_eq,za6] at g
   obtain ⟨⟨⟨⟨g1,g2⟩,g3⟩,g4⟩,g5⟩:=g
   have hdl:b.dry.length=b.locals.length:=by omega
   have all:∀{k:Nat},k<=b.locals.length->(∀c:Int,0<=c->c<(k:Int)->0<=gi b.locals c/\gi b.locals c<=b.quota/\(gi b.dry c=true->gi b.locals c=0/\b.pool=0))->0<=sumI b.locals k/\sumI b.locals k<=40000:=fun {k} hk h=>by
    have key:∀j:Nat,j<=k->0<=sumI b.locals j/\sumI b.locals j<=(j:Int)*10000:=fun j=>by
     induction j with
     | zero=>intro _; simp [sumI]
     | succ j ih=>
      intro hj
      have:=ih (by omega)
      have:=h (j:Int) (by omega) (by omega)
      simp only [sumI]; omega
    have:=key k (Nat.le_refl _)
    omega
   refine ⟨⟨by omega,by omega⟩,?_⟩
   refine zz8 b.locals.length 0 rfl (fun x k=>k<=b.locals.length/\x=b.pool+b.spent+sumI b.locals k/\∀c:Int,0<=c->c<(k:Int)->0<=gi b.locals c/\gi b.locals c<=b.quota/\(gi b.dry c=true->gi b.locals c=0/\b.pool=0)) ⟨Nat.zero_le _,by simp [sumI],fun c h0 h1=>by omega⟩ fun x k ⟨hk,hx2,hI⟩=>⟨fun hlt => ?_,fun hge => ?_⟩
   ·have hlt:=of_decide_eq_true hlt
    have hlt2:(k:Int)<(b.dry.length:Int):=by omega
    have hsr:=all hk hI
    refine ⟨h1.ix zf2 (by omega) hlt,_,h1 k (by omega) hlt,_,za1,fun _=>h2.ix zqm (by omega) hlt2,_,fun _=>h2 k (by omega) hlt2,fun _ _=>h1.ix zf2 (by omega) hlt,_,fun _ _=>h1 k (by omega) hlt,fun g=>noP fun p => ?_,fun g=>⟨h1.ix zf2 (by omega) hlt,_,h1 k (by omega) hlt,?_⟩⟩
    ·have pe:=p.each (k:Int) (by omega) hlt
     rw [za6.2 ⟨pe.1,pe.2.1⟩] at g
     simp only [Bool.not_true,Bool.false_or,Bool.and_eq_true,Bool.or_eq_true,decide_eq_true_eq] at g
     have:=pe.2.2 g.1
     omega
    ·simp only [Bool.or_eq_false_iff,Bool.not_eq_false',za6] at g
     obtain ⟨ga,gb⟩:=g
     refine ⟨⟨by omega,by omega⟩,⟨by omega,by omega⟩,zb1 (by omega) ⟨by omega,by simp only [sumI]; omega,fun c hc0 hc => ?_⟩⟩
     by_cases hck:c<(k:Int)
     ·exact hI c hc0 hck
     ·have:c=(k:Int):=by omega
      subst this
      refine ⟨ga.1,ga.2,fun hd => ?_⟩
      rw [hd] at gb
      simp only [Bool.true_and,Bool.or_eq_false_iff,decide_eq_false_iff_not] at gb
      omega
   ·have hge:=of_decide_eq_false hge
    have:k=b.locals.length:=by omega
    subst this
    refine zom ?_
    rw [beq_iff_eq,hx2]
    constructor
    ·intro hs
     exact ⟨g1.1,g1.2,by omega,by omega,hdl,g4.1,g4.2,g5.1,g5.2,hI,hs⟩
    ·exact fun p=>p.sum
section
variable {W:Wld} {m:MW} {w:World} {bs:List Nat}
theorem RdG.shelf {gs:List Grp} {ms:Nat->MG} {o:Option Addr} (h:RdG bs w o gs ms) {i:Int} (h0:0<=i) (h1:i<(gs.length:Int)):zaa bs w o (Int.toNat i*14+13) [.slice (ms i.toNat).sO (gi gs i).shelves.length (ms i.toNat).sC]:=(h.cells i h0 h1).get 13 _ rfl
theorem RdG.cpus {gs:List Grp} {ms:Nat->MG} {o:Option Addr} (h:RdG bs w o gs ms) {i:Int} (h0:0<=i) (h1:i<(gs.length:Int)):zaa bs w o (Int.toNat i*14+4) [.int .i64 (gi gs i).cpus]:=(h.cells i h0 h1).get 4 _ rfl
theorem RdG.band {gs:List Grp} {ms:Nat->MG} {o:Option Addr} (h:RdG bs w o gs ms) {i:Int} (h0:0<=i) (h1:i<(gs.length:Int)):zaa bs w o (Int.toNat i*14+8) (zdj (gi gs i).band (ms i.toNat)):=zjn fun j v hj=>by
 have e:encG (gi gs i) (ms i.toNat)=((encG (gi gs i) (ms i.toNat)).take 8++zdj (gi gs i).band (ms i.toNat))++[.slice (ms i.toNat).sO (gi gs i).shelves.length (ms i.toNat).sC]:=rfl
 have hj':j<5:=by
  have:=(List.getElem?_eq_some_iff.1 hj).1
  simpa [zdj] using this
 have:=(h.cells i h0 h1).get (8+j) v (by
  rw [e,List.getElem?_append_left (by simp [encG,zdj]; omega),List.getElem?_append_right (by simp [encG])]
  simpa [encG] using hj)
 rwa [<-Nat.add_assoc] at this
theorem RdT.f {ts:List Tsk} {o:Option Addr} (h:RdT bs w o ts) {i:Int} (h0:0<=i) (h1:i<(ts.length:Int)) {j:Nat} {v:Value} (hj:(encT (gi ts i))[j]? = some v):zaa bs w o (Int.toNat i*9+j) [v]:=zhq ((h i h0 h1).get j v hj)
theorem RdC.f {cs:List Cpu} {o:Option Addr} (h:RdC bs w o cs) {i:Int} (h0:0<=i) (h1:i<(cs.length:Int)) {j:Nat} {v:Value} (hj:(encC (gi cs i))[j]? = some v):zaa bs w o (Int.toNat i*5+j) [v]:=zhq ((h i h0 h1).get j v hj)
theorem RdS.f {ss:List Shf} {o:Option Addr} (h:RdS bs w o ss) {i:Int} (h0:0<=i) (h1:i<(ss.length:Int)) {j:Nat} {v:Value} (hj:(encS (gi ss i))[j]? = some v):zaa bs w o (Int.toNat i*5+j) [v]:=zhq ((h i h0 h1).get j v hj)
theorem zth (h:RdW bs w W m) (h4:W.cpus.length<=4):zad bs Tryz.prog zjc #[.agg (encW W m).toArray] w (.int .i64 (upsD W.cpus)):=
 z6m W.now m.cO W.cpus.length m.cC m.tO W.tasks.length m.tC m.gO W.groups.length m.gC fun wr hx=>by
  have h:=(h.ext hx).less (cs:=[]) (by simp)
  intro _ _
  refine zz8 W.cpus.length 0 rfl (fun x k=>k<=W.cpus.length/\x=upsN W.cpus k) ⟨Nat.zero_le _,rfl⟩ fun x k ⟨hk,hx2⟩=>⟨fun hlt => ?_,fun hge => ?_⟩
  ·have hlt:=of_decide_eq_true hlt
   have hb:=z8o (k:=k) (by omega)
   have hl:=zs2 W.cpus k (by omega)
   have hbd:(1*2 ^ (min (Int.toNat (k:Int)) 64):Int)=bitN k:=rfl
   refine ⟨h.c.ix zeg (by omega) hlt,_,h.c.f (by omega) hlt (j:=0) rfl,fun hu => ?_,fun hu => ?_⟩
   ·rw [hbd]
    refine ⟨zajx (by omega),⟨by omega,by omega,by omega⟩,⟨by omega,by omega⟩,⟨by omega,by omega⟩,zb1 (by omega) ⟨by omega,?_⟩⟩
    rw [hx2]; simp only [upsN]; rw [if_pos hu]
   ·refine ⟨⟨by omega,by omega⟩,zb1 (by omega) ⟨by omega,?_⟩⟩
    rw [hx2]; simp only [upsN]; rw [if_neg (by rw [hu]; decide)]
  ·have hge:=of_decide_eq_false hge
   have:k=W.cpus.length:=by omega
   subst this
   rw [hx2]; rfl
theorem z3q {g:Int} (h:RdW bs w W m) (ht:zeb W.groups) (hu:zae W.groups g=true):zad bs Tryz.prog zkz #[.agg (encW W m).toArray,.int .i64 g] w (.int .i64 (zadt W.groups g)):=
 z4l W.now m.cO W.cpus.length m.cC m.tO W.tasks.length m.tC m.gO W.groups.length m.gC g fun wr hx=>by
  have h:=(h.ext hx).less (cs:=[]) (by simp)
  intro _ _
  obtain ⟨u1,u2,_⟩:=zac.1 hu
  refine ⟨h.g.ix u1 u2,_,h.g.cpus u1 u2,fun vs=>∃(x s:Int),vs=[.int .i64 x,.int .i64 s]/\zae W.groups x=true/\(zbk W.groups x).foldl (fun s x=>mAnd s (gi W.groups (gi W.groups x).parent).cpus) s=zadt W.groups g,fun vs=>(dep 3 W.groups (zef 0 vs)).toNat,⟨g,_,rfl,hu,rfl⟩,?_⟩
  rintro x s ⟨x',s',he,hux,hI⟩
  simp only [List.cons.injEq,Value.int.injEq,true_and,and_true] at he
  obtain ⟨rfl,rfl⟩:=he
  refine ⟨fun hz => ?_,fun hz => ?_⟩
  ·have hz:x≠0:=by simpa using hz
   obtain ⟨hp,a,b,d,e,e2,hd⟩:=zd4 ht hux hz
   obtain ⟨v1,v2,_⟩:=zac.1 hp
   rw [zcf ht hux hz,List.foldl_cons] at hI
   exact ⟨h.g.ix a b,_,h.g.parent a b,h.g.ix v1 v2,_,h.g.cpus v1 v2,_,zk4,⟨_,_,rfl,hp,hI⟩,by
    show (dep 3 W.groups (gi W.groups x).parent).toNat<(dep 3 W.groups x).toNat
    omega⟩
  ·have hz:x=0:=by simpa using hz
   subst hz
   rw [show zbk W.groups 0=[] from zbm _ _,List.foldl_nil] at hI
   rw [hI]
theorem zo9 {g mask:Int} (h:RdW bs w W m) (h4:W.cpus.length<=4) (ht:zeb W.groups) (hu:zae W.groups g=true):zad bs Tryz.prog zha #[.agg (encW W m).toArray,.int .i64 g,.int .i64 mask] w (.int .i64 (zch W g mask)):=
 z0m W.now m.cO W.cpus.length m.cC m.tO W.tasks.length m.tC m.gO W.groups.length m.gC g mask fun wr hx=>by
  have h:=(h.ext hx).less (cs:=[]) (by simp)
  intro _ _
  have hk:=zk4 (a:=zadt W.groups g) (b:=upsD W.cpus) (w:=wr) (bs:=[])
  rw [zaf8 ht hu] at hk
  refine ⟨_,zth h h4,_,z3q h ht hu,_,hk,_,zk4,fun g1 => ?_,fun g1=>⟨fun g2 => ?_,fun g2 => ?_⟩⟩
  ·unfold zch; rw [if_pos (by simpa using g1)]
  ·unfold zch; rw [if_neg (by simpa using g1),if_pos (by simpa using g2)]
  ·unfold zch; rw [if_neg (by simpa using g1),if_neg (by simpa using g2)]
theorem ztf {g c:Int} (h:RdW bs w W m) (ha:WA W) (hu:zae W.groups g=true) (c0:0<=c) (c1:c<(W.cpus.length:Int)):zad bs Tryz.prog zja #[.agg (encW W m).toArray,.int .i64 g,.int .i64 c] w (.bool (dryD W g c)):=
 z6l W.now m.cO W.cpus.length m.cC m.tO W.tasks.length m.tC m.gO W.groups.length m.gC g c fun wr hx=>by
  have h:=(h.ext hx).less (cs:=[]) (by simp)
  intro _ _
  obtain ⟨u1,u2,_⟩:=zac.1 hu
  have hd:(decide ((gi W.groups g).band.quota>0))=true->c<((gi W.groups g).band.dry.length:Int):=fun g1=>by
   have:=of_decide_eq_true g1
   rw [(ha.dl hu (by omega)).1]; exact c1
  exact ⟨h.g.ix u1 u2,_,_,_,_,_,_,_,_,_,h.g.band u1 u2,fun _ _=>⟨fun g1=>(h.g.dry g u1 u2).ix zqm c0 (hd g1),_,fun g1=>(h.g.dry g u1 u2) c c0 (hd g1),rfl⟩⟩
theorem zhc {g c:Int} (h:RdW bs w W m) (ha:WA W) (hu:zae W.groups g=true) (c0:0<=c) (c1:c<(W.cpus.length:Int)):zad bs Tryz.prog zdp #[.agg (encW W m).toArray,.int .i64 g,.int .i64 c] w (.bool (shf W g c).on):=
 zx9 W.now m.cO W.cpus.length m.cC m.tO W.tasks.length m.tC m.gO W.groups.length m.gC g c fun wr hx=>by
  have h:=(h.ext hx).less (cs:=[]) (by simp)
  intro _ _
  obtain ⟨u1,u2,_⟩:=zac.1 hu
  have hs:=ha.sl hu
  have c2:c<((gi W.groups g).shelves.length:Int):=by omega
  exact ⟨h.g.ix u1 u2,_,_,_,h.g.shelf u1 u2,(h.g.shelves g u1 u2).ix ze4 c0 c2,_,RdS.f (h.g.shelves g u1 u2) c0 c2 (j:=1) rfl,rfl⟩
theorem z4y {gs:List Grp} {k:Nat} (hk:(k:Int)<(gs.length:Int)) (hu:(gi gs (k:Int)).used=true):zae gs (k:Int)=true:=zac.2 ⟨by omega,hk,hu⟩
theorem zj3 {g c:Int} (h:RdW bs w W m) (ha:WA W) (c0:0<=c) (c1:c<(W.cpus.length:Int)):zad bs Tryz.prog zeu #[.agg (encW W m).toArray,.int .i64 g,.int .i64 c] w (.bool (za5 W g c)):=
 zx6 W.now m.cO W.cpus.length m.cC m.tO W.tasks.length m.tC m.gO W.groups.length m.gC g c fun wr hx=>by
  have h:=(h.ext hx).less (cs:=[]) (by simp)
  intro _ _
  have hgl:=ha.gl
  have hm9:=zcx
  refine zgs W.tasks.length 0 rfl (fun k=>k<=W.tasks.length/\∀j:Nat,j<k->actT W g c j=false) ⟨Nat.zero_le _,fun j hj=>absurd hj (Nat.not_lt_zero j)⟩ fun k ⟨hk,hI⟩=>⟨fun hlt => ?_,fun hge => ?_⟩
  ·have hlt:=of_decide_eq_true hlt
   have ht:=ha.t
   refine ⟨h.t.ix zce (by omega) hlt,_,h.t.f (by omega) hlt (j:=0) rfl,fun _=>h.t.ix zce (by omega) hlt,_,fun _=>h.t.f (by omega) hlt (j:=1) rfl,fun _=>h.t.ix zce (by omega) hlt,_,fun _=>h.t.f (by omega) hlt (j:=2) rfl,fun hy => ?_,fun hn=>⟨⟨by omega,by omega⟩,zar (by omega) ⟨by omega,fun j hj => ?_⟩⟩⟩
   ·unfold za5
    rw [z0p.2 ⟨k,by omega,hy⟩]; rfl
   ·by_cases hjk:j<k
    ·exact hI j hjk
    ·have:j=k:=by omega
     subst this; exact hn
  ·have hge:=of_decide_eq_false hge
   have hno:anyB (actT W g c) W.tasks.length=false:=z8m fun j hj=>hI j (by omega)
   refine zgs W.groups.length 1 rfl (fun k=>1<=k/\k<=W.groups.length/\∀j:Nat,j<k->actG W g c j=false) ⟨Nat.le_refl _,by omega,fun j hj=>by
    have:j=0:=by omega
    subst this; simp [actG]⟩ fun k ⟨hk1,hk,hI⟩=>⟨fun hlt => ?_,fun hge => ?_⟩
   ·have hlt:=of_decide_eq_true hlt
    refine ⟨h.g.ix (by omega) hlt,_,h.g.used (by omega) hlt,fun _=>h.g.ix (by omega) hlt,_,fun _=>h.g.parent (by omega) hlt,(shf W (k:Int) c).on,fun hu=>zhc h ha (z4y hlt (by simp only [Bool.and_eq_true] at hu; exact hu.1)) c0 c1,fun hy => ?_,fun hn=>⟨⟨by omega,by omega⟩,zar (by omega) ⟨by omega,by omega,fun j hj => ?_⟩⟩⟩
    ·unfold za5
     have:anyB (actG W g c) W.groups.length=true:=z0p.2 ⟨k,by omega,by
      unfold actG
      rw [decide_eq_true hk1,Bool.true_and]; exact hy⟩
     rw [this,Bool.or_true]
    ·by_cases hjk:j<k
     ·exact hI j hjk
     ·have:j=k:=by omega
      subst this
      unfold actG
      rw [decide_eq_true hk1,Bool.true_and]; exact hn
   ·have hge:=of_decide_eq_false hge
    have:anyB (actG W g c) W.groups.length=false:=z8m fun j hj=>hI j (by omega)
    unfold za5
    rw [hno,this]; rfl
theorem znf {t:Int} (h:RdW bs w W m) (ha:WA W) (t0:0<=t) (t1:t<(W.tasks.length:Int)) (hu:(tkk W t).state=1->zae W.groups (tkk W t).group=true/\0<=(tkk W t).cpu/\(tkk W t).cpu<(W.cpus.length:Int)) :
  zad bs Tryz.prog zev #[.agg (encW W m).toArray,.int .i64 t] w (.bool (ze3 W t)):=
 zx7 W.now m.cO W.cpus.length m.cC m.tO W.tasks.length m.tC m.gO W.groups.length m.gC t fun wr hx=>by
  have h:=(h.ext hx).less (cs:=[]) (by simp)
  intro _ _
  refine ⟨h.t.ix zce t0 t1,_,_,_,_,_,_,_,_,_,h.t t t0 t1,fun _ _=>⟨fun g => ?_,fun g => ?_⟩⟩
  ·have:((tkk W t).state==1)=false:=by simpa [tkk] using g
   unfold ze3; rw [this]; rfl
  ·have hs:(tkk W t).state=1:=by simpa [tkk] using g
   obtain ⟨hug,hc0,hc1⟩:=hu hs
   have hL:ze3 W t=zk7 W (tkk W t).group (tkk W t).cpu:=by unfold ze3; rw [beq_iff_eq.2 hs,Bool.true_and]
   rw [hL]
   refine ⟨fun vs=>∃x:Int,vs=[.int .i64 x]/\zae W.groups x=true/\zk7 W x (tkk W t).cpu=zk7 W (tkk W t).group (tkk W t).cpu,fun vs=>(dep 3 W.groups (zef 0 vs)).toNat,⟨_,rfl,hug,rfl⟩,?_⟩
   rintro x ⟨x',he,hux,hI⟩
   simp only [List.cons.injEq,Value.int.injEq,true_and,and_true] at he
   subst he
   refine ⟨fun hz => ?_,fun hz => ?_⟩
   ·have hz:x≠0:=by simpa using hz
    obtain ⟨hp,a,b,d,e,e2,hd⟩:=zd4 ha.tree hux hz
    unfold zk7 at hI
    rw [zcf ha.tree hux hz,List.all_cons] at hI
    refine ⟨_,zhc h ha hux hc0 hc1,fun g2 => ?_,fun g2=>⟨h.g.ix a b,_,h.g.parent a b,⟨_,rfl,hp,?_⟩,by
     show (dep 3 W.groups (gi W.groups x).parent).toNat<(dep 3 W.groups x).toNat
     omega⟩⟩
    ·have g2:(shf W x (tkk W t).cpu).on=false:=by simpa [tkk] using g2
     rw [g2,Bool.false_and] at hI
     unfold zk7
     rw [<-hI]
    ·have g2:(shf W x (tkk W t).cpu).on=true:=by simpa [tkk] using g2
     rw [g2,Bool.true_and] at hI
     exact hI
   ·have hz:x=0:=by simpa using hz
    subst hz
    unfold zk7 at hI
    rw [show zbk W.groups 0=[] from zbm _ _,List.all_nil] at hI
    unfold zk7
    rw [<-hI]
end
theorem zo8 {v f k:Int} {w:World} {bs:List Nat}:zad bs Tryz.prog zg9 #[.int .i64 v,.int .i64 f,.int .i64 k] w (.bool (zpc v f k)):=
 z0l v f k fun wr hx=>⟨IntKind.i64.wrap (v - f),fun _ wq=>by simp [eqGuard,binOp,Op.intArith],_,fun _=>zo4,rfl⟩
theorem zw0:z7b Tryz.prog zau:=⟨by kernel_rfl,by kernel_rfl,by kernel_rfl⟩
theorem z7q (a b:Tsk):zzs Tryz.prog (Tryz.prog.fieldsOf zau).toList 0 (encT a) (encT b)=some ((a.state==b.state)&&((a.group==b.group)&&((a.cpu==b.cpu)&&((a.nice==b.nice)&&((a.mask==b.mask)&&((a.v==b.v)&&((a.sum==b.sum)&&((a.used==b.used)&&((a.load==b.load)&&true))))))))):=by kernel_rfl
theorem z8h {a b:Tsk}:((a.state==b.state)&&((a.group==b.group)&&((a.cpu==b.cpu)&&((a.nice==b.nice)&&((a.mask==b.mask)&&((a.v==b.v)&&((a.sum==b.sum)&&((a.used==b.used)&&((a.load==b.load)&&true)))))))))=decide (a=b):=by
 cases a; cases b
 simp only [Tsk.mk.injEq,Bool.and_true]
 rw [Bool.eq_iff_iff]
 simp only [Bool.and_eq_true,beq_iff_eq,decide_eq_true_eq]
section
variable {W:Wld} {m:MW} {w:World} {bs:List Nat}
theorem zue {k:Int} (h:RdW bs w W m) (hn:0<=W.now) (k0:0<=k) (k1:k<(W.groups.length:Int)) (hf:FitG (gi W.groups k)):zad bs Tryz.prog zhv #[.agg (encW W m).toArray,.int .i64 k] w (.bool (decB (GrpP W k))):=
 zul W.now m.cO W.cpus.length m.cC m.tO W.tasks.length m.tC m.gO W.groups.length m.gC k fun wr hx=>by
  have h:=(h.ext hx).less (cs:=[]) (by simp)
  intro _ _
  refine ⟨h.g.ix k0 k1,_,_,_,_,_,_,_,_,_,_,_,_,_,_,_,_,_,_,_,_,h.g.cells k k0 k1,fun _ _=>⟨fun g => ?_,fun g => ?_⟩⟩
  ·have hu:(gi W.groups k).used=false:=by simpa using g
   refine ⟨_,fun _=>zng (b:=(gi W.groups k).band) (m:=m.ms k.toNat),zom ?_⟩
   simp only [Bool.and_eq_true,beq_iff_eq,zf5]
   constructor
   ·rintro ⟨⟨⟨⟨⟨⟨⟨⟨e1,e2⟩,e3⟩,e4⟩,e5⟩,e6⟩,e7⟩,e8⟩,e9⟩
    exact ⟨fun _=>⟨e1,e2,e3,e4,e5,e6,e7,by omega,e9⟩,fun hu'=>by rw [hu'] at hu; cases hu⟩
   ·intro p
    have q:=p.1 hu
    exact ⟨⟨⟨⟨⟨⟨⟨⟨q.p,q.n⟩,q.w⟩,q.c⟩,q.pe⟩,q.ne⟩,q.s⟩,by have:=q.l; omega⟩,q.b⟩
  ·have hu:(gi W.groups k).used=true:=by simpa using g
   have mk:GrpU W k (gi W.groups k)->GrpP W k:=fun q=>⟨fun hu'=>(by rw [hu'] at hu; cases hu),fun _=>q⟩
   refine ⟨_,zfk,_,fun _=>zfv,_,fun _=>zc7,fun g2=>noP fun p => ?_,fun g2=>⟨fun g3=>noP fun p => ?_,fun g3=>⟨fun g4=>⟨_,zng (b:=(gi W.groups k).band) (m:=m.ms k.toNat),zom ?_⟩,fun g4=>⟨_,zqy (b:=(gi W.groups k).band) (m:=m.ms k.toNat) (h.g.locals k k0 k1) (h.g.dry k k0 k1) hf.lo,_,fun _=>za1,fun g5 => ?_,zom ?_⟩⟩⟩⟩
   ·have q:=p.2 hu
    have e1:inB (gi W.groups k).weight 1 20=true:=za6.2 ⟨q.w1,q.w2⟩
    have e3:((gi W.groups k).cpus==0)=false:=by simpa using q.m0
    have e5:(((gi W.groups k).shelves.length:Nat):Int)=((W.cpus.length:Nat):Int):=by have:=q.len; omega
    rw [e1,q.m,e3,q.s,e5] at g2
    simp at g2
   ·have q:=p.2 hu
    simp only [Bool.and_eq_true,beq_iff_eq] at g3
    have r:=q.root g3.1
    rw [r.1,r.2.1,r.2.2] at g3
    simp at g3
   all_goals
    simp only [Bool.or_eq_false_iff,Bool.not_eq_false',bne_eq_false_iff_eq,za6,beq_eq_false_iff_ne] at g2
    obtain ⟨⟨⟨⟨a1,a2⟩,a3⟩,a4⟩,a5⟩:=g2
    have hlen:(gi W.groups k).shelves.length=W.cpus.length:=by omega
    have hroot:k=0->(gi W.groups k).weight=10/\(gi W.groups k).cpus=15/\(gi W.groups k).band.quota=0:=fun hk=>by
     rw [beq_iff_eq.2 hk,Bool.true_and] at g3
     simp only [Bool.or_eq_false_iff,bne_eq_false_iff_eq] at g3
     exact ⟨g3.1.1,g3.1.2,g3.2⟩
   ·have q0:(gi W.groups k).band.quota=0:=by simpa using g4
    simp only [Bool.and_eq_true,beq_iff_eq]
    constructor
    ·rintro ⟨⟨e1,e2⟩,e3⟩
     exact mk ⟨a1.1,a1.2,a2,a3,a4,hlen,hroot,fun _=>⟨e1,e2,e3⟩,fun hne=>absurd q0 hne⟩
    ·intro p
     have q:=(p.2 hu).none q0
     exact ⟨⟨q.1,q.2.1⟩,q.2.2⟩
   ·simp only [Bool.and_eq_true,beq_iff_eq,decide_eq_true_eq] at g5
    have:=hf.nx
    exact ⟨by have:=this.1; omega,by have:=this.2; omega⟩
   ·have q0:(gi W.groups k).band.quota≠0:=by simpa using g4
    simp only [Bool.and_eq_true,beq_iff_eq,decide_eq_true_eq,zbp,za6]
    constructor
    ·rintro ⟨⟨⟨⟨e1,e2⟩,e3⟩,e4⟩,e5⟩
     exact mk ⟨a1.1,a1.2,a2,a3,a4,hlen,hroot,fun hne=>absurd hne q0,fun _=>⟨e1,by omega,e3.1,e3.2,e4,e5⟩⟩
    ·intro p
     have q:=(p.2 hu).band q0
     exact ⟨⟨⟨⟨q.1,by have:=q.2.1; omega⟩,q.2.2.1,q.2.2.2.1⟩,q.2.2.2.2.1⟩,q.2.2.2.2.2⟩
theorem zwe {W:Wld} (ha:WA W) {g mask c:Int} (hc:mHas (zch W g mask) c=true):0<=c/\c<(W.cpus.length:Int):=by
 have h1:=zaeg hc
 exact ⟨(zlh h1).2.1,(zaed W.cpus _ ha.c2 h1).1⟩
theorem zxg {t:Int} (h:RdW bs w W m) (ha:WA W) (t0:0<=t) (t1:t<(W.tasks.length:Int)):zad bs Tryz.prog zi0 #[.agg (encW W m).toArray,.int .i64 t] w (.bool (decB (TskP W t))):=
 zyb W.now m.cO W.cpus.length m.cC m.tO W.tasks.length m.tC m.gO W.groups.length m.gC t fun wr hx=>by
  have h:=(h.ext hx).less (cs:=[]) (by simp)
  intro _ _
  have hgl:=ha.gl
  have hm9:=zcx
  refine ⟨h.t.ix zce t0 t1,_,_,_,_,_,_,_,_,_,h.t t t0 t1,fun _ _=>⟨fun g => ?_,fun g => ?_⟩⟩
  ·have hs:(gi W.tasks t).state=0:=by simpa using g
   refine ⟨_,fun wq=>z1g zw0 (z7q (gi W.tasks t) zn6) _ _ wq,zom ?_⟩
   rw [z8h,decide_eq_true_eq]
   constructor
   ·exact fun e=>.inl ⟨hs,e⟩
   ·rintro (⟨_,e⟩ | ⟨e,_⟩)
    ·exact e
    ·exact absurd hs e
  ·have hs:(gi W.tasks t).state≠0:=by simpa using g
   have no:∀{q:TskP W t},TskU W (gi W.tasks t):=fun {q}=>by
    rcases q with ⟨e,_⟩ | ⟨_,q⟩
    ·exact absurd e hs
    ·exact q
   refine ⟨_,fun _=>zel (c:=m.gC) h.g,_,fun _=>zfj,_,fun _=>zfv,fun g2=>noP fun p => ?_,fun g2 => ?_⟩
   ·have q:=no (q:=p)
    have e3:(zai (gi W.tasks t).nice==0)=false:=by simpa using q.n
    have e4:((gi W.tasks t).mask==0)=false:=by simpa using q.m0
    rw [q.g,e3,q.m,e4] at g2
    simp only [Bool.not_true,Bool.or_false,Bool.and_eq_true,bne_iff_ne] at g2
    have:=q.st
    omega
   ·simp only [Bool.or_eq_false_iff,Bool.not_eq_false',beq_eq_false_iff_ne] at g2
    obtain ⟨⟨⟨⟨a1,a2⟩,a3⟩,a4⟩,a5⟩:=g2
    have st:(gi W.tasks t).state=1\/(gi W.tasks t).state=2:=by
     by_cases h1:(gi W.tasks t).state=1
     ·exact .inl h1
     ·refine .inr ?_
      have:((gi W.tasks t).state != 1)=true:=by simpa using h1
      rw [this,Bool.true_and] at a1
      simpa using a1
    refine ⟨_,zc7,_,fun _=>zc7,_,fun _=>zc7,_,fun _=>za1,zch W (gi W.tasks t).group (gi W.tasks t).mask,fun _=>zo9 h ha.c2 ha.tree a2,_,fun _=>zia,fun g3=>noP fun p => ?_,fun g3 => ?_⟩
    ·have q:=no (q:=p)
     have e4:inB (gi W.tasks t).load 0 8000000=true:=za6.2 ⟨q.l1,q.l2⟩
     rw [q.v,q.s,q.u,e4,q.c] at g3
     simp at g3
    ·simp only [Bool.or_eq_false_iff,Bool.not_eq_false',za6] at g3
     obtain ⟨⟨⟨⟨b1,b2⟩,b3⟩,b4⟩,b5⟩:=g3
     obtain ⟨u1,u2,_⟩:=zac.1 a2
     obtain ⟨c0,c1⟩:=zwe ha b5
     have hsl:=ha.sl a2
     have c2:(gi W.tasks t).cpu<((gi W.groups (gi W.tasks t).group).shelves.length:Int):=by omega
     refine ⟨fun _=>h.g.ix u1 u2,_,_,_,fun _=>h.g.shelf u1 u2,fun _=>(h.g.shelves _ u1 u2).ix ze4 c0 c2,_,fun _=>RdS.f (h.g.shelves _ u1 u2) c0 c2 (j:=0) rfl,_,fun _=>zfj,_,fun _=>zo8,zom ?_⟩
     simp only [Bool.or_eq_true,beq_iff_eq]
     constructor
     ·intro e
      exact .inr ⟨hs,⟨st,a2,a3,a4,a5,b1,b2,b3,b4.1,b4.2,b5,fun e1=>by
       rcases e with e | e
       ·have e:(gi W.tasks t).state=2:=e
        have e1:(gi W.tasks t).state=1:=e1
        omega
       ·exact e⟩⟩
     ·intro p
      have q:=no (q:=p)
      rcases st with e | e
      ·exact .inr (q.f e)
      ·exact .inl e
theorem zuf {k c:Int} (h:RdW bs w W m) (ha:WA W) (k0:0<=k) (k1:k<(W.groups.length:Int)) (c0:0<=c) (c2:c<((gi W.groups k).shelves.length:Int)):zad bs Tryz.prog zhw #[.agg (encW W m).toArray,.int .i64 k,.int .i64 c] w (.bool (decB (ShfP W k c))):=
 zum W.now m.cO W.cpus.length m.cC m.tO W.tasks.length m.tC m.gO W.groups.length m.gC k c fun wr hx=>by
  have h:=(h.ext hx).less (cs:=[]) (by simp)
  intro _ _
  have hgl:=ha.gl
  have hus:(gi W.groups k).used=true:=by
   cases hu:(gi W.groups k).used with
   | true=>rfl
   | false=>
    have:=((ha.grp k k0 (by omega)).1 hu).l
    omega
  have hu:zae W.groups k=true:=zac.2 ⟨k0,k1,hus⟩
  have hsl:=ha.sl hu
  have c1:c<(W.cpus.length:Int):=by omega
  refine ⟨h.g.ix k0 k1,_,_,_,_,_,_,_,_,_,_,_,_,_,_,_,_,_,_,_,_,h.g.cells k k0 k1,fun _ _=>⟨(h.g.shelves k k0 k1).ix ze4 c0 c2,_,_,_,_,_,(h.g.shelves k k0 k1) c c0 c2,fun _ _=>⟨_,zc7,_,fun _=>zc7,_,fun _=>zc7,_,fun _=>zfk,fun g=>noP fun p => ?_,fun g=>⟨fun g2=>zom ?_,fun g2=>⟨_,zj3 h ha c0 c1,_,fun _=>ztf h ha hu c0 c1,fun g3=>noP fun p => ?_,fun g3 => ?_⟩⟩⟩⟩⟩
  ·have e1:=p.f
   have e2:=p.v
   have e3:=p.s
   have e4:inB (shf W k c).w 1 20=true:=za6.2 ⟨p.w1,p.w2⟩
   have g':(((!tmOk (shf W k c).floor || !tmOk (shf W k c).v) || !tmOk (shf W k c).sum) || !inB (shf W k c).w 1 20)=true:=g
   rw [e1,e2,e3,e4] at g'
   cases g'
  ·have g':(((!tmOk (shf W k c).floor || !tmOk (shf W k c).v) || !tmOk (shf W k c).sum) || !inB (shf W k c).w 1 20)=false:=g
   simp only [Bool.or_eq_false_iff,Bool.not_eq_false',za6] at g'
   obtain ⟨⟨⟨a1,a2⟩,a3⟩,a4⟩:=g'
   have hk:k=0:=by simpa using g2
   show ((!(shf W k c).on&&((shf W k c).v==0))&&((shf W k c).w==10))=true↔_
   simp only [Bool.and_eq_true,Bool.not_eq_true',beq_iff_eq]
   constructor
   ·rintro ⟨⟨e1,e2⟩,e3⟩
    exact ⟨a1,a2,a3,a4.1,a4.2,fun _=>⟨e1,e2,e3⟩,fun hne=>absurd hk hne,fun hne=>absurd hk hne⟩
   ·intro p
    have q:=p.root hk
    exact ⟨⟨q.1,q.2.1⟩,q.2.2⟩
  ·have hk:k≠0:=by simpa using g2
   have g3':(!((shf W k c).on==(za5 W k c && !dryD W k c)))=true:=g3
   rw [p.on hk] at g3'
   simp at g3'
  ·have g':(((!tmOk (shf W k c).floor || !tmOk (shf W k c).v) || !tmOk (shf W k c).sum) || !inB (shf W k c).w 1 20)=false:=g
   simp only [Bool.or_eq_false_iff,Bool.not_eq_false',za6] at g'
   obtain ⟨⟨⟨a1,a2⟩,a3⟩,a4⟩:=g'
   have hk:k≠0:=by simpa using g2
   have hon:(shf W k c).on=(za5 W k c && !dryD W k c):=by
    have g3':(!((shf W k c).on==(za5 W k c && !dryD W k c)))=false:=g3
    simpa using g3'
   have hp:=ha.up hu hk
   obtain ⟨v1,v2,_⟩:=zac.1 hp
   have hpl:=ha.sl hp
   have c3:c<((gi W.groups (gi W.groups k).parent).shelves.length:Int):=by omega
   refine ⟨fun _=>h.g.ix v1 v2,_,_,_,fun _=>h.g.shelf v1 v2,fun _=>(h.g.shelves _ v1 v2).ix ze4 c0 c3,_,fun _=>RdS.f (h.g.shelves _ v1 v2) c0 c3 (j:=0) rfl,_,fun _=>zo8,zom ?_⟩
   show (!(shf W k c).on||zpc (shf W k c).v (shf W (gi W.groups k).parent c).floor (shf W k c).w)=true↔_
   simp only [Bool.or_eq_true,Bool.not_eq_true']
   constructor
   ·intro e
    exact ⟨a1,a2,a3,a4.1,a4.2,fun e0=>absurd e0 hk,fun _=>hon,fun _ ho=>by
     rcases e with e | e
     ·rw [ho] at e; cases e
     ·exact e⟩
   ·intro p
    cases ho:(shf W k c).on with
    | false=>exact .inl rfl
    | true=>exact .inr (p.st hk ho)
theorem z73 {t:Int} (ht:TskP W t) (hl:ze3 W t=true):TskU W (tkk W t)/\(tkk W t).state=1:=by
 have hs:(tkk W t).state=1:=by
  unfold ze3 at hl
  simp only [Bool.and_eq_true,beq_iff_eq] at hl
  exact hl.1
 rcases ht with ⟨e,_⟩ | ⟨_,q⟩
 ·omega
 ·exact ⟨q,hs⟩
theorem z02 {a b:Int} (ha:tmOk a=true) (hb:tmOk b=true):InR .i64 (a - b):=by
 have:=ze9.1 ha
 have:=ze9.1 hb
 exact ⟨by omega,by omega⟩
theorem zxf {c:Int} (h:RdW bs w W m) (ha:WA W) (hts:∀t:Int,0<=t->t<12->TskP W t) (hss:∀k c:Int,0<=k->k<8->0<=c->c<((gi W.groups k).shelves.length:Int)->ShfP W k c) (c0:0<=c) (c1:c<(W.cpus.length:Int)) (t0:0<=(gi W.cpus c).cur) (t1:(gi W.cpus c).cur<(W.tasks.length:Int)) (hl:ze3 W (gi W.cpus c).cur=true) :
  zad bs Tryz.prog ziz #[.agg (encW W m).toArray,.int .i64 c] w (.bool (zsx W c)):=
 zya W.now m.cO W.cpus.length m.cC m.tO W.tasks.length m.tC m.gO W.groups.length m.gC c fun wr hx=>by
  have h:=(h.ext hx).less (cs:=[]) (by simp)
  intro _ _
  have htl:=ha.t
  have hgl:=ha.gl
  obtain ⟨q,_⟩:=z73 (hts _ t0 (by omega)) hl
  have a2:=q.g
  obtain ⟨u1,u2,_⟩:=zac.1 a2
  have sl:∀{x:Int},zae W.groups x=true->0<=x/\x<(W.groups.length:Int)/\c<((gi W.groups x).shelves.length:Int)/\ShfP W x c:=fun {x} hx=>by
   obtain ⟨v1,v2,_⟩:=zac.1 hx
   have e:=ha.sl hx
   have c3:c<((gi W.groups x).shelves.length:Int):=by omega
   exact ⟨v1,v2,c3,hss x c v1 (by omega) c0 c3⟩
  obtain ⟨_,_,c2,sp⟩:=sl a2
  refine ⟨h.c.ix zeg c0 c1,_,_,_,_,_,h.c c c0 c1,fun _ _=>⟨h.t.ix zce t0 t1,_,_,_,_,_,_,_,_,_,h.t _ t0 t1,fun _ _=>⟨h.g.ix u1 u2,_,_,_,h.g.shelf u1 u2,(h.g.shelves _ u1 u2).ix ze4 c0 c2,_,RdS.f (h.g.shelves _ u1 u2) c0 c2 (j:=0) rfl,z02 q.v sp.f,_,zfj,_,zdy,fun g => ?_,fun g => ?_⟩⟩⟩
  ·have g:=of_decide_eq_true g
   have hd:¬((tkk W (gi W.cpus c).cur).v - (shf W (tkk W (gi W.cpus c).cur).group c).floor<=zbn (gi W.cpus c).ran (zai (tkk W (gi W.cpus c).cur).nice)):=Int.not_le.2 g
   unfold zsx
   rw [decide_eq_false hd]
   rfl
  ·have g:=of_decide_eq_false g
   have hS:zsx W c=zny W (tkk W (gi W.cpus c).cur).group c (gi W.cpus c).ran:=by
    have hd:(tkk W (gi W.cpus c).cur).v - (shf W (tkk W (gi W.cpus c).cur).group c).floor<=zbn (gi W.cpus c).ran (zai (tkk W (gi W.cpus c).cur).nice):=Int.not_lt.1 g
    unfold zsx
    rw [decide_eq_true hd,Bool.true_and]
   rw [hS]
   refine ⟨fun vs=>∃x:Int,vs=[.int .i64 x]/\zae W.groups x=true/\zny W x c (gi W.cpus c).ran=zny W (tkk W (gi W.cpus c).cur).group c (gi W.cpus c).ran,fun vs=>(dep 3 W.groups (zef 0 vs)).toNat,⟨_,rfl,a2,rfl⟩,?_⟩
   rintro x ⟨x',he,hux,hI⟩
   simp only [List.cons.injEq,Value.int.injEq,true_and,and_true] at he
   subst he
   refine ⟨fun hz => ?_,fun hz => ?_⟩
   ·have hz:x≠0:=by simpa using hz
    obtain ⟨hp,a,b,d,e,e2,hd⟩:=zd4 ha.tree hux hz
    obtain ⟨x1,x2,x3,xs⟩:=sl hux
    obtain ⟨p1,p2,p3,ps⟩:=sl hp
    unfold zny at hI
    rw [zcf ha.tree hux hz,List.all_cons] at hI
    refine ⟨h.g.ix x1 x2,_,_,_,h.g.shelf x1 x2,(h.g.shelves _ x1 x2).ix ze4 c0 x3,_,_,_,_,_,(h.g.shelves _ x1 x2) c c0 x3,fun _ _=>⟨h.g.ix x1 x2,_,h.g.parent x1 x2,h.g.ix p1 p2,_,_,_,h.g.shelf p1 p2,(h.g.shelves _ p1 p2).ix ze4 c0 p3,_,RdS.f (h.g.shelves _ p1 p2) c0 p3 (j:=0) rfl,z02 xs.v ps.f,_,zdy,fun g2 => ?_,fun g2=>⟨h.g.ix x1 x2,_,h.g.parent x1 x2,⟨_,rfl,hp,?_⟩,by
     show (dep 3 W.groups (gi W.groups x).parent).toNat<(dep 3 W.groups x).toNat
     omega⟩⟩⟩
    ·have g2:=of_decide_eq_true g2
     have hd:¬((shf W x c).v - (shf W (gi W.groups x).parent c).floor<=zbn (gi W.cpus c).ran (shf W x c).w):=Int.not_le.2 g2
     rw [decide_eq_false hd,Bool.false_and] at hI
     unfold zny
     rw [<-hI]
    ·have g2:=of_decide_eq_false g2
     have hd:(shf W x c).v - (shf W (gi W.groups x).parent c).floor<=zbn (gi W.cpus c).ran (shf W x c).w:=Int.not_lt.1 g2
     rw [decide_eq_true hd,Bool.true_and] at hI
     exact hI
   ·have hz:x=0:=by simpa using hz
    subst hz
    unfold zny at hI
    rw [show zbk W.groups 0=[] from zbm _ _,List.all_nil] at hI
    unfold zny
    rw [<-hI]
theorem z3x {t:Int} (ha:WA W) (ht:TskP W t) (hs:(tkk W t).state=1):zae W.groups (tkk W t).group=true/\0<=(tkk W t).cpu/\(tkk W t).cpu<(W.cpus.length:Int):=by
 rcases ht with ⟨e,_⟩ | ⟨_,q⟩
 ·omega
 ·exact ⟨q.g,zwe ha q.c⟩
theorem zz6 {c:Int} (h:RdW bs w W m) (ha:WA W) (hts:∀t:Int,0<=t->t<12->TskP W t) (hss:∀k c:Int,0<=k->k<8->0<=c->c<((gi W.groups k).shelves.length:Int)->ShfP W k c) (c0:0<=c) (c1:c<(W.cpus.length:Int)) :
  zad bs Tryz.prog zjv #[.agg (encW W m).toArray,.int .i64 c] w (.bool (decB (CpuP W c))):=
 z0j W.now m.cO W.cpus.length m.cC m.tO W.tasks.length m.tC m.gO W.groups.length m.gC c fun wr hx=>by
  have h:=(h.ext hx).less (cs:=[]) (by simp)
  intro _ _
  have htl:=ha.t
  refine ⟨h.c.ix zeg c0 c1,_,_,_,_,_,h.c c c0 c1,fun _ _=>⟨_,zc7,_,fun _=>zc7,fun _=>⟨by omega,by omega⟩,_,fun _=>za1,fun g=>noP fun p => ?_,fun g=>⟨fun g2=>zom ?_,fun g2 => ?_⟩⟩⟩
  ·have e3:inB (gi W.cpus c).cur (-1) (((W.tasks.length:Nat):Int) - 1)=true:=za6.2 (by have:=p.c1; have:=p.c2; omega)
   rw [p.b,p.i,e3] at g
   cases g
  ·simp only [Bool.or_eq_false_iff,Bool.not_eq_false',za6] at g
   obtain ⟨⟨a1,a2⟩,a3⟩:=g
   have g2:=of_decide_eq_true g2
   rw [beq_iff_eq]
   exact ⟨fun e=>⟨a1,a2,a3.1,by omega,fun _=>e,fun hc=>by omega⟩,fun p=>p.no g2⟩
  ·simp only [Bool.or_eq_false_iff,Bool.not_eq_false',za6] at g
   obtain ⟨⟨a1,a2⟩,a3⟩:=g
   have g2:=of_decide_eq_false g2
   have t0:0<=(gi W.cpus c).cur:=by omega
   have t1:(gi W.cpus c).cur<(W.tasks.length:Int):=by omega
   refine ⟨_,fun _=>za1,fun _=>h.t.ix zce t0 t1,_,fun _=>h.t.f t0 t1 (j:=2) rfl,ze3 W (gi W.cpus c).cur,fun _=>znf h ha t0 t1 fun hs=>z3x ha (hts _ t0 (by omega)) hs,zsx W c,fun g3=>zxf h ha hts hss c0 c1 t0 t1 (by simp only [Bool.and_eq_true] at g3; exact g3.2),zom ?_⟩
   simp only [Bool.and_eq_true,beq_iff_eq,za6]
   constructor
   ·rintro ⟨⟨⟨⟨e1,e2⟩,e3⟩,e4⟩,e5⟩
    exact ⟨a1,a2,a3.1,by omega,fun hc=>by omega,fun _=>⟨e1,e2.1,e2.2,e3,e4,e5⟩⟩
   ·intro p
    have q:=p.yes t0
    exact ⟨⟨⟨⟨q.1,q.2.1,q.2.2.1⟩,q.2.2.2.1⟩,q.2.2.2.2.1⟩,q.2.2.2.2.2⟩
theorem zk5 (h:RdW bs w W m) (lc:W.cpus.length<=maxLen) (lt:W.tasks.length<=maxLen) (lg:W.groups.length<=maxLen) (hf:∀i:Int,0<=i->i<(W.groups.length:Int)->FitG (gi W.groups i)) :
  zad bs Tryz.prog zfh #[.agg (encW W m).toArray] w (.bool (zbi W)):=
 z0h W.now m.cO W.cpus.length m.cC m.tO W.tasks.length m.tC m.gO W.groups.length m.gC fun wr hx=>by
  have h:=(h.ext hx).less (cs:=[]) (by simp)
  intro _ _
  have hm9:=zj4
  refine ⟨_,za1,_,fun _=>za1,zrq W.groups,fun _=>zq1 h.g lg,upsD W.cpus,fun g=>zth h ?_,fun g=>noP fun p => ?_,fun g => ?_⟩
  ·simp only [Bool.or_eq_false_iff,Bool.not_eq_false',za6] at g
   omega
  ·have a:=p.a
   have e1:inB W.now 0 100000000000000000=true:=za6.2 ⟨a.n1,a.n2⟩
   have e2:inB ((W.cpus.length:Nat):Int) 1 4=true:=za6.2 (by have:=a.c1; have:=a.c2; omega)
   have e3:((W.tasks.length:Nat):Int)=12:=by have:=a.t; omega
   have e5:(upsD W.cpus==0)=false:=by simpa using a.ups
   rw [e1,e2,e3,zj9.2 a.tree,e5] at g
   simp at g
  simp only [Bool.or_eq_false_iff,Bool.not_eq_false',za6,bne_eq_false_iff_eq,beq_eq_false_iff_ne] at g
  obtain ⟨⟨⟨⟨g1,g2⟩,g3⟩,g4⟩,g5⟩:=g
  have ht:=zj9.1 g4
  have hgl:=ht.len
  refine zgs W.groups.length 0 rfl (fun k=>k<=W.groups.length/\∀j:Int,0<=j->j<(k:Int)->GrpP W j) ⟨Nat.zero_le _,fun j h0 h1=>by omega⟩ fun k ⟨hk,hI⟩=>⟨fun hlt => ?_,fun hge => ?_⟩
  ·have hlt:=of_decide_eq_true hlt
   refine ⟨_,zue h g1.1 (by omega) hlt (hf _ (by omega) hlt),fun g6=>noP fun p => ?_,fun g6=>⟨⟨by omega,by omega⟩,zar (by omega) ⟨by omega,fun j h0 h1 => ?_⟩⟩⟩
   ·have g6:decB (GrpP W (k:Int))=false:=by simpa using g6
    exact zta.1 g6 (p.a.grp _ (by omega) (by omega))
   ·by_cases hjk:j<(k:Int)
    ·exact hI j h0 hjk
    ·have:j=(k:Int):=by omega
     subst this
     exact zbp.1 (by simpa using g6)
  have hge:=of_decide_eq_false hge
  have ha:WA W:=⟨g1.1,g1.2,by omega,by omega,by omega,ht,g5,fun j h0 h1=>hI j h0 (by omega)⟩
  refine zgs W.tasks.length 0 rfl (fun k=>k<=W.tasks.length/\∀j:Int,0<=j->j<(k:Int)->TskP W j) ⟨Nat.zero_le _,fun j h0 h1=>by omega⟩ fun k2 ⟨hk2,hI2⟩=>⟨fun hlt => ?_,fun hge2 => ?_⟩
  ·have hlt:=of_decide_eq_true hlt
   refine ⟨_,zxg h ha (by omega) hlt,fun g6=>noP fun p => ?_,fun g6=>⟨⟨by omega,by omega⟩,zar (by omega) ⟨by omega,fun j h0 h1 => ?_⟩⟩⟩
   ·have g6:decB (TskP W (k2:Int))=false:=by simpa using g6
    exact zta.1 g6 (p.t _ (by omega) (by omega))
   ·by_cases hjk:j<(k2:Int)
    ·exact hI2 j h0 hjk
    ·have:j=(k2:Int):=by omega
     subst this
     exact zbp.1 (by simpa using g6)
  have hge2:=of_decide_eq_false hge2
  have hts:∀t:Int,0<=t->t<12->TskP W t:=fun t h0 h1=>hI2 t h0 (by omega)
  refine zgs W.groups.length 0 rfl (fun k=>k<=W.groups.length/\∀j c:Int,0<=j->j<(k:Int)->0<=c->c<((gi W.groups j).shelves.length:Int)->ShfP W j c) ⟨Nat.zero_le _,fun j c h0 h1=>by omega⟩ fun k3 ⟨hk3,hI3⟩=>⟨fun hlt => ?_,fun hge3 => ?_⟩
  ·have hlt:=of_decide_eq_true hlt
   have k30:(0:Int)<=(k3:Int):=by omega
   refine zgs (gi W.groups (k3:Int)).shelves.length 0 rfl (fun c=>c<=(gi W.groups (k3:Int)).shelves.length/\∀d:Int,0<=d->d<(c:Int)->ShfP W (k3:Int) d) ⟨Nat.zero_le _,fun j h0 h1=>by omega⟩ fun c ⟨hc,hJ⟩=>⟨h.g.ix k30 hlt,_,_,_,h.g.shelf k30 hlt,fun hltc => ?_,fun hgec => ?_⟩
   ·have hltc:=of_decide_eq_true hltc
    have hsm:(gi W.groups (k3:Int)).shelves.length<=maxLen:=(hf _ k30 hlt).sh
    refine ⟨_,zuf h ha k30 hlt (by omega) hltc,fun g6=>noP fun p => ?_,fun g6=>⟨⟨by omega,by omega⟩,zar (by omega) ⟨by omega,fun d h0 h1 => ?_⟩⟩⟩
    ·have g6:decB (ShfP W (k3:Int) (c:Int))=false:=by simpa using g6
     exact zta.1 g6 (p.s _ _ (by omega) (by omega) (by omega) hltc)
    ·by_cases hjk:d<(c:Int)
     ·exact hJ d h0 hjk
     ·have:d=(c:Int):=by omega
      subst this
      exact zbp.1 (by simpa using g6)
   ·have hgec:=of_decide_eq_false hgec
    refine ⟨⟨by omega,by omega⟩,zar (by omega) ⟨by omega,fun j d h0 h1 h2 h3 => ?_⟩⟩
    by_cases hjk:j<(k3:Int)
    ·exact hI3 j d h0 hjk h2 h3
    ·have:j=(k3:Int):=by omega
     subst this
     exact hJ d h2 (by omega)
  have hge3:=of_decide_eq_false hge3
  have hss:∀k c:Int,0<=k->k<8->0<=c->c<((gi W.groups k).shelves.length:Int)->ShfP W k c:=fun k c h0 h1 h2 h3=>hI3 k c h0 (by omega) h2 h3
  refine zgs W.cpus.length 0 rfl (fun k=>k<=W.cpus.length/\∀j:Int,0<=j->j<(k:Int)->CpuP W j) ⟨Nat.zero_le _,fun j h0 h1=>by omega⟩ fun k4 ⟨hk4,hI4⟩=>⟨fun hlt => ?_,fun hge4 => ?_⟩
  ·have hlt:=of_decide_eq_true hlt
   refine ⟨_,zz6 h ha hts hss (by omega) hlt,fun g6=>noP fun p => ?_,fun g6=>⟨⟨by omega,by omega⟩,zar (by omega) ⟨by omega,fun j h0 h1 => ?_⟩⟩⟩
   ·have g6:decB (CpuP W (k4:Int))=false:=by simpa using g6
    exact zta.1 g6 (p.c _ (by omega) hlt)
   ·by_cases hjk:j<(k4:Int)
    ·exact hI4 j h0 hjk
    ·have:j=(k4:Int):=by omega
     subst this
     exact zbp.1 (by simpa using g6)
  ·have hge4:=of_decide_eq_false hge4
   exact yesP ⟨ha,hts,hss,fun c h0 h1=>hI4 c h0 (by omega)⟩
end
theorem zb0 {n p:Nat} {vs us:List Value} {k:Nat} (h1:zef p vs=(k:Int)+1) (h2:zef p us=(k:Int)) (hk:k<n):cntM n p vs<cntM n p us:=by
 unfold cntM
 rw [h1,h2]
 omega
theorem z2q {α:Type} [Inhabited α] {l:List α} {p:α->Bool}:l.all p=true↔∀k:Nat,k<l.length->p (gi l (k:Int))=true:=by
 rw [List.all_eq_true]
 constructor
 ·intro h k hk; exact h _ (zagy (by omega) (by omega))
 ·intro h x hx
  obtain ⟨k,hk,rfl⟩:=List.getElem_of_mem hx
  rw [<-zkd hk]; exact h k hk
theorem zod {bs:List Nat} {w:World} {b:Nat} {l:List Int} {t:TypeId} {fz:Nat×Nat} (h:w.heap[b]? = some (.cells (l.flatMap encI).toArray t fz)) (hb:b∉bs):RdI bs w (some ⟨b,0,none⟩) l:=fun i h0 hi=>by
 have hlt:i.toNat<l.length:=by omega
 refine zij h hb (k0:=0) ?_
 have:=zup (enc:=encI) (z:=1) (fun _=>rfl) l i.toNat 0 hlt (by decide)
 rw [Nat.add_zero] at this
 rw [Nat.zero_add,this]
 have e:gi l i=l[i.toNat]:=by
  have:=zkd hlt
  rwa [show ((i.toNat:Nat):Int)=i by omega] at this
 rw [e]; rfl
theorem zxj {l:List Int} {o:Option Addr} {c:Nat} {w:World} {bs:List Nat} (h:RdI bs w o l) (hl:l.length<=maxLen):zad bs Tryz.prog zb3 #[.slice o l.length c] w (.bool (l.all tmOk)):=
 z38 o l.length c fun wr hx=>by
  have h:=(h.ext hx).less (cs:=[]) (by simp)
  refine zgs l.length 0 rfl (fun k=>k<=l.length/\∀j:Nat,j<k->tmOk (gi l (j:Int))=true) ⟨Nat.zero_le _,fun j hj=>absurd hj (Nat.not_lt_zero j)⟩ fun k ⟨hk,hI⟩=>⟨fun hlt => ?_,fun hge => ?_⟩
  ·have hlt:=of_decide_eq_true hlt
   refine ⟨h.ix zf2 (by omega) hlt,_,h k (by omega) hlt,_,zap,fun g => ?_,fun g=>⟨z7w hlt hl,zar (by omega) ⟨by omega,fun j hj => ?_⟩⟩⟩
   ·have:l.all tmOk=false:=by
     cases hb:l.all tmOk with
     | false=>rfl
     | true=>
      have:=z2q.1 hb k (by omega)
      unfold tmOk at this
      rw [this] at g
      cases g
    rw [this]
   ·by_cases hjk:j<k
    ·exact hI j hjk
    ·have:j=k:=by omega
     subst this
     unfold tmOk
     simpa using g
  ·have hge:=of_decide_eq_false hge
   have hk:k=l.length:=by omega
   subst hk
   rw [z2q.2 hI]
theorem tm1 {a:Int} {w:World} {b:Nat} {t:TypeId} {fz:Nat×Nat} (h:w.heap[b]? = some (.cells ([.int .i64 a]:List Value).toArray t fz)):zad [] Tryz.prog zb3 #[.slice (some ⟨b,0,none⟩) 1 1] w (.bool (tmOk a)):=by
 have:=zxj (l:=[a]) (c:=1) (bs:=[]) (zod h (by simp)) (by simp [maxLen])
 simpa using this
theorem tm2 {a b2:Int} {w:World} {b:Nat} {t:TypeId} {fz:Nat×Nat} (h:w.heap[b]? = some (.cells ([.int .i64 a,.int .i64 b2]:List Value).toArray t fz)):zad [] Tryz.prog zb3 #[.slice (some ⟨b,0,none⟩) 2 2] w (.bool (tmOk a&&tmOk b2)):=by
 have:=zxj (l:=[a,b2]) (c:=2) (bs:=[]) (zod h (by simp)) (by simp [maxLen])
 simpa using this
theorem tm3 {a b2 b3:Int} {w:World} {b:Nat} {t:TypeId} {fz:Nat×Nat} (h:w.heap[b]? = some (.cells ([.int .i64 a,.int .i64 b2,.int .i64 b3]:List Value).toArray t fz)):zad [] Tryz.prog zb3 #[.slice (some ⟨b,0,none⟩) 3 3] w (.bool (tmOk a&&(tmOk b2&&tmOk b3))):=by
 have:=zxj (l:=[a,b2,b3]) (c:=3) (bs:=[]) (zod h (by simp)) (by simp [maxLen])
 simpa using this
theorem z04 {m:Int} {w:World} {bs:List Nat}:zad bs Tryz.prog zfp #[.int .i64 m] w (.bool (mOk m)):=zug m fun wr hx=>rfl
theorem zlw {m:Int} {w:World} {bs:List Nat}:zad bs Tryz.prog zf3 #[.int .i64 m] w (.bool (mOk m)):=z34 m fun wr hx=>⟨_,z04,rfl⟩
theorem znc {m:Int} {w:World} {bs:List Nat}:zad bs Tryz.prog zgd #[.int .i64 m] w (.bool ((m != 0)&&mOk m)):=zxz m fun wr hx=>⟨_,fun _=>zlw,rfl⟩
theorem zah6:∀(m:Fin 16) (c:Fin 4),(BitI .and .i64 (Int.fdiv (m.val:Int) (2 ^ (min (Int.toNat (c.val:Int)) 64))) 1==1)=(Int.tmod (Int.fdiv (m.val:Int) (2 ^ (min (Int.toNat (c.val:Int)) 64))) 2==1):=by decide +kernel
theorem zaag {m c:Int} {w:World} {bs:List Nat}:zad bs Tryz.prog zg1 #[.int .i64 m,.int .i64 c] w (.bool (mHas m c)):=
 zsn m c fun wr hx=>by
  refine ⟨_,z04,_,fun _=>zap,fun g => ?_,?_⟩
  ·simp only [Bool.and_eq_true] at g
   exact (za6.1 g.2).1
  ·unfold mHas
   cases h1:mOk m with
   | false=>rfl
   | true=>
    cases h2:inB c 0 3 with
    | false=>rfl
    | true=>
     obtain ⟨x,rfl⟩:=zqo h1
     have:=za6.1 h2
     have e:=zah6 x ⟨c.toNat,by omega⟩
     rw [show ((⟨c.toNat,by omega⟩:Fin 4).val:Int)=c by show ((c.toNat:Nat):Int)=c; omega] at e
     rw [e]
theorem zzu {m c:Int} {w:World} {bs:List Nat}:zad bs Tryz.prog zjq #[.int .i64 m,.int .i64 c] w (.bool (mHas m c)):=z0b m c fun wr hx=>⟨_,zaag,rfl⟩
theorem zk3 {a b:Int} {w:World} {bs:List Nat}:zad bs Tryz.prog zfe #[.int .i64 a,.int .i64 b] w (.int .i64 (mAnd a b)):=
 z0a a b fun wr hx=>by
  refine ⟨_,zlw,_,fun _=>zlw,fun g => ?_,fun g => ?_⟩
  ·rw [zem]; simpa using g
  ·simp only [Bool.or_eq_false_iff,Bool.not_eq_false'] at g
   rw [zk8 g.1 g.2]
theorem zna {b:Bnd} {m:MG} {w:World} {bs:List Nat}:zad bs Tryz.prog zgb #[.agg (zdj b m).toArray] w (.bool (zpa b)):=
 zxw b.quota b.pool b.spent m.lO b.locals.length m.lC m.dO b.dry.length m.dC fun wr hx=>fun _ _=>rfl
theorem zt9 {g:Grp} {m:MG} {w:World} {bs:List Nat} (hu:g.used=false):zad bs Tryz.prog zhr #[.agg (encG g m).toArray] w (.bool (decB (GrpN g))):=
 zui g.used g.parent g.name g.weight g.cpus g.period g.next g.sum g.band.quota g.band.pool g.band.spent m.lO g.band.locals.length m.lC m.dO g.band.dry.length m.dC m.sO g.shelves.length m.sC fun wr hx=>by
  intro _ _
  refine ⟨_,fun _=>zna (b:=g.band) (m:=m),zom ?_⟩
  simp only [hu,Bool.not_false,Bool.true_and,Bool.and_eq_true,beq_iff_eq,zf5]
  constructor
  ·rintro ⟨⟨⟨⟨⟨⟨⟨⟨e1,e2⟩,e3⟩,e4⟩,e5⟩,e6⟩,e7⟩,e9⟩,e8⟩
   exact ⟨e1,e2,e3,e4,e5,e6,e7,by omega,e9⟩
  ·intro q
   exact ⟨⟨⟨⟨⟨⟨⟨⟨q.p,q.n⟩,q.w⟩,q.c⟩,q.pe⟩,q.ne⟩,q.s⟩,q.b⟩,by have:=q.l; omega⟩
theorem z3e {b:Bnd} {m:MG} {w:World} {bs:List Nat} (h1:RdI bs w m.lO b.locals) (h2:RdB bs w m.dO b.dry) (hl:b.locals.length<=maxLen):zad bs Tryz.prog zkq #[.agg (zdj b m).toArray] w (.bool (decB (BndP b))):=
 z32 b.quota b.pool b.spent m.lO b.locals.length m.lC m.dO b.dry.length m.dC fun wr hx=>by
  have h1:=(h1.ext hx).less (cs:=[]) (by simp)
  have h2:=(h2.ext hx).less (cs:=[]) (by simp)
  intro _ _
  refine ⟨_,zap,_,fun _=>zap,fun g=>noP fun p => ?_,fun g=>⟨_,zap,_,fun _=>zap,fun g'=>noP fun p => ?_,fun g' => ?_⟩⟩
  ·rw [za6.2 ⟨p.q1,p.q2⟩,za6.2 (by have:=p.l1; have:=p.l2; omega),p.dl] at g
   simp at g
  ·rw [za6.2 ⟨p.p1,p.p2⟩,za6.2 ⟨p.s1,p.s2⟩] at g'
   cases g'
  ·simp only [Bool.or_eq_false_iff,Bool.not_eq_false',bne_eq_false_iff_eq,za6] at g g'
   obtain ⟨⟨g1,g2⟩,g3⟩:=g
   obtain ⟨g4,g5⟩:=g'
   have hdl:b.dry.length=b.locals.length:=by omega
   have all:∀{k:Nat},k<=b.locals.length->(∀c:Int,0<=c->c<(k:Int)->0<=gi b.locals c/\gi b.locals c<=b.quota/\(gi b.dry c=true->gi b.locals c=0/\b.pool=0))->0<=sumI b.locals k/\sumI b.locals k<=40000:=fun {k} hk h=>by
    have key:∀j:Nat,j<=k->0<=sumI b.locals j/\sumI b.locals j<=(j:Int)*10000:=fun j=>by
     induction j with
     | zero=>intro _; simp [sumI]
     | succ j ih=>
      intro hj
      have:=ih (by omega)
      have:=h (j:Int) (by omega) (by omega)
      simp only [sumI]; omega
    have:=key k (Nat.le_refl _)
    omega
   refine ⟨⟨by omega,by omega⟩,?_⟩
   refine zz8 b.locals.length 0 rfl (fun x k=>k<=b.locals.length/\x=b.pool+b.spent+sumI b.locals k/\∀c:Int,0<=c->c<(k:Int)->0<=gi b.locals c/\gi b.locals c<=b.quota/\(gi b.dry c=true->gi b.locals c=0/\b.pool=0)) ⟨Nat.zero_le _,by simp [sumI],fun c h0 h1=>by omega⟩ fun x k ⟨hk,hx2,hI⟩=>⟨fun hlt => ?_,fun hge => ?_⟩
   ·have hlt:=of_decide_eq_true hlt
    have hlt2:(k:Int)<(b.dry.length:Int):=by omega
    have hsr:=all hk hI
    refine ⟨h1.ix zf2 (by omega) hlt,_,h1 k (by omega) hlt,_,zap,fun _=>h2.ix zqm (by omega) hlt2,_,fun _=>h2 k (by omega) hlt2,fun g=>noP fun p => ?_,fun g => ?_⟩
    ·have pe:=p.each (k:Int) (by omega) hlt
     rw [za6.2 ⟨pe.1,pe.2.1⟩] at g
     simp only [Bool.not_true,Bool.false_or,Bool.and_eq_true,Bool.or_eq_true,bne_iff_ne] at g
     have:=pe.2.2 g.1
     rcases g.2 with h | h
     ·exact h this.1
     ·exact h this.2
    ·simp only [Bool.or_eq_false_iff,Bool.not_eq_false',za6] at g
     obtain ⟨ga,gb⟩:=g
     refine ⟨⟨by omega,by omega⟩,⟨by omega,by omega⟩,zb1 (by omega) ⟨by omega,by simp only [sumI]; omega,fun c hc0 hc => ?_⟩⟩
     by_cases hck:c<(k:Int)
     ·exact hI c hc0 hck
     ·have:c=(k:Int):=by omega
      subst this
      refine ⟨ga.1,ga.2,fun hd => ?_⟩
      rw [hd] at gb
      simp only [Bool.true_and,Bool.or_eq_false_iff,bne_eq_false_iff_eq] at gb
      exact gb
   ·have hge:=of_decide_eq_false hge
    have:k=b.locals.length:=by omega
    subst this
    refine zom ?_
    rw [beq_iff_eq,hx2]
    constructor
    ·intro hs
     exact ⟨g1.1,g1.2,by omega,by omega,hdl,g4.1,g4.2,g5.1,g5.2,hI,hs⟩
    ·exact fun p=>p.sum
def zag9 (v f k:Int):Bool:=decide (v>=f)&&decide (v - f<=zcq k)
theorem zajd {a b:Int} (ha:tmOk a=true) (hb:tmOk b=true):IntKind.i64.wrap (a - b)=a - b:=(z02 ha hb).wrap
theorem zaga {v f k:Int} (hv:tmOk v=true) (hf:tmOk f=true):zpc v f k=zag9 v f k:=by unfold zpc zag9; rw [zajd hv hf]
theorem zo3 {v f k:Int} {w:World} {bs:List Nat} (h:tmOk v=true) (hf:tmOk f=true):zad bs Tryz.prog zh3 #[.int .i64 v,.int .i64 f,.int .i64 k] w (.bool (zpc v f k)):=by
 rw [zaga h hf]
 exact z37 v f k fun wr hx=>⟨fun _=>z02 h hf,_,fun _=>zo2,rfl⟩
theorem z3k {n:Int} {w:World} {bs:List Nat}:zad bs Tryz.prog zku #[.int .i64 n] w (.bool (inB n 0 8000000)):=z35 n fun wr hx=>⟨_,zap,rfl⟩
structure WPt (bs:List Nat) (w:World) (p:Option Addr) (W:Wld) (m:MW):Prop where
 cs:zaa bs w p 0 (encW W m)
 rd:RdW bs w W m
theorem zf7 {bs:List Nat} {w:World} {o:Option Addr} {n:Nat} {vs:List Value} (h:zaa bs w o n vs) {j:Nat} {v:Value} (hj:vs[j]? = some v):zaa bs w (o.map (·.add n)) (0+j) [v]:=by
 obtain ⟨a,ha,hb,hc⟩:=h.get j v hj
 refine zhq ⟨a.add n,by rw [ha]; rfl,by rw [zb2]; exact hb,?_⟩
 rw [zf6,Nat.zero_add]; exact hc
theorem zl6 {bs:List Nat} {w:World} {o:Option Addr} {n k:Nat} {v:Value} {r:List Value} (h:zaa bs w o k (v::r)):(o.map (·.add n)).isSome=true:=by
 have:=h.some
 cases o with
 | none=>cases this
 | some a=>rfl
section
variable {W:Wld} {m:MW} {w w':World} {bs cs:List Nat} {p:Option Addr}
theorem WPt.ext (h:WPt bs w p W m) (hx:ExtX bs w w'):WPt bs w' p W m:=⟨h.cs.ext hx,h.rd.ext hx⟩
theorem WPt.less (h:WPt bs w p W m) (hs:∀x∈cs,x∈bs):WPt cs w p W m:=⟨h.cs.less hs,h.rd.less hs⟩
theorem WPt.wide (h:WPt bs w p W m) (hs:∀x∈cs,x∈bs\/w.heap.size<=x):WPt cs w p W m:=⟨h.cs.wide hs,h.rd.wide hs⟩
theorem WPt.some (h:WPt bs w p W m):p.isSome=true:=by
 have h1:=h.cs.get 0 _ (rfl:(encW W m)[0]? = Option.some (.int .i64 W.now))
 obtain ⟨a,rfl,_⟩:=h1
 rfl
theorem WPt.c (h:WPt bs w p W m) {j:Nat} {v:Value} (hj:(encW W m)[j]? = Option.some v):zaa bs w p (0+j) [v]:=zhq (h.cs.get j v hj)
theorem WPt.now (h:WPt bs w p W m):zaa bs w p (0+0) [.int .i64 W.now]:=h.c rfl
theorem WPt.cpus (h:WPt bs w p W m):zaa bs w p (0+1) [.slice m.cO W.cpus.length m.cC]:=h.c rfl
theorem WPt.tasks (h:WPt bs w p W m):zaa bs w p (0+2) [.slice m.tO W.tasks.length m.tC]:=h.c rfl
theorem WPt.groups (h:WPt bs w p W m):zaa bs w p (0+3) [.slice m.gO W.groups.length m.gC]:=h.c rfl
def shO (m:MW) (g c:Int):Option Addr:=(m.ms g.toNat).sO.map (·.add (Int.toNat c*5))
theorem WPt.sh (h:WPt bs w p W m) {g c:Int} (g0:0<=g) (g1:g<(W.groups.length:Int)) (c0:0<=c) (c1:c<((gi W.groups g).shelves.length:Int)):(shO m g c).isSome=true/\∀{j:Nat} {v:Value},(encS (shf W g c))[j]? = Option.some v->zaa bs w (shO m g c) (0+j) [v]:=
 ⟨zl6 (h.rd.g.shelves g g0 g1 c c0 c1),fun {j v} hj=>zf7 (h.rd.g.shelves g g0 g1 c c0 c1) hj⟩
theorem zgn {c:Int}:zad bs Tryz.prog zbl #[.pointer p,.int .i64 c] w (.agg #[.pointer p,.int .i64 c]):=zsk p c fun wr hx=>fun _ _=>rfl
theorem zbh {g c:Int} (h:WPt bs w p W m) (g0:0<=g) (g1:g<(W.groups.length:Int)) (c0:0<=c) (c1:c<((gi W.groups g).shelves.length:Int)):zad bs Tryz.prog zak #[.agg #[.pointer p,.int .i64 c],.int .i64 g] w (.pointer (shO m g c)):=
 zsp p c g fun wr hx=>by
  have h:=(h.ext hx).less (cs:=[]) (by simp)
  exact fun _ _=>⟨h.some,_,_,_,h.groups,h.rd.g.ix g0 g1,_,_,_,h.rd.g.shelf g0 g1,(h.rd.g.shelves g g0 g1).ix ze4 c0 c1,rfl⟩
theorem zhx {c:Int} (h:WPt bs w p W m) (c0:0<=c) (c1:c<(W.cpus.length:Int)):zad bs Tryz.prog zbs #[.agg #[.pointer p,.int .i64 c]] w (.pointer (m.cO.map (·.add (Int.toNat c*5)))):=
 zxx p c fun wr hx=>by
  have h:=(h.ext hx).less (cs:=[]) (by simp)
  exact fun _ _=>⟨h.some,_,_,_,h.cpus,h.rd.c.ix zeg c0 c1,rfl⟩
theorem zw7 {c:Int} (h:WPt bs w p W m) (hl:W.cpus.length<=maxLen):zad bs Tryz.prog ze0 #[.pointer p,.int .i64 c] w (.bool (inB c 0 ((W.cpus.length:Int) - 1))):=
 znm p c fun wr hx=>by
  have h:=(h.ext hx).less (cs:=[]) (by simp)
  have:=zj4
  exact ⟨h.some,_,_,_,h.cpus,⟨by omega,by omega⟩,_,zap,rfl⟩
theorem zub {t:Int} (h:WPt bs w p W m) (hl:W.tasks.length<=maxLen):zad bs Tryz.prog zej #[.pointer p,.int .i64 t] w (.bool (inB t 0 ((W.tasks.length:Int) - 1)&&((tkk W t).state != 0))):=
 zmq p t fun wr hx=>by
  have h:=(h.ext hx).less (cs:=[]) (by simp)
  have:=zj4
  have hr:inB t 0 ((W.tasks.length:Int) - 1)=true->0<=t/\t<(W.tasks.length:Int):=fun g=>by have:=za6.1 g; omega
  exact ⟨h.some,_,_,_,h.tasks,⟨by omega,by omega⟩,_,zap,fun _=>h.some,_,_,_,fun _=>h.tasks,fun g=>h.rd.t.ix zce (hr g).1 (hr g).2,_,fun g=>h.rd.t.f (hr g).1 (hr g).2 (j:=0) rfl,rfl⟩
theorem zly (h:WPt bs w p W m) (h4:W.cpus.length<=4):zad bs Tryz.prog zc2 #[.pointer p] w (.int .i64 (upsD W.cpus)):=
 zpx p fun wr hx=>by
  have h:=(h.ext hx).less (cs:=[]) (by simp)
  refine ⟨h.some,_,_,_,h.cpus,?_⟩
  refine zz8 W.cpus.length 0 rfl (fun x k=>k<=W.cpus.length/\x=upsN W.cpus k) ⟨Nat.zero_le _,rfl⟩ fun x k ⟨hk,hx2⟩=>⟨fun hlt => ?_,fun hge => ?_⟩
  ·have hlt:=of_decide_eq_true hlt
   have hb:=z8o (k:=k) (by omega)
   have hl:=zs2 W.cpus k (by omega)
   have hbd:(1*2 ^ (min (Int.toNat (k:Int)) 64):Int)=bitN k:=rfl
   refine ⟨h.rd.c.ix zeg (by omega) hlt,_,_,_,_,_,h.rd.c k (by omega) hlt,fun _ _=>⟨fun hu => ?_,fun hu => ?_⟩⟩
   ·rw [hbd,hx2,zaka (by omega) hl.1 hl.2]
    refine ⟨⟨by omega,by omega,by omega⟩,⟨by omega,by omega⟩,zb1 (by omega) ⟨by omega,?_⟩⟩
    simp only [upsN]; rw [if_pos hu]
   ·refine ⟨⟨by omega,by omega⟩,zb1 (by omega) ⟨by omega,?_⟩⟩
    rw [hx2]; simp only [upsN]; rw [if_neg (by rw [hu]; decide)]
  ·have hge:=of_decide_eq_false hge
   have:k=W.cpus.length:=by omega
   subst this
   rw [hx2]; rfl
theorem z70 {g:Int} (h:WPt bs w p W m) (h4:W.cpus.length<=4) (ht:zeb W.groups) (hu:zae W.groups g=true):zad bs Tryz.prog zgy #[.pointer p,.int .i64 g] w (.int .i64 (pinD W.groups g (upsD W.cpus))):=
 zsl p g fun wr hx=>by
  have h:=(h.ext hx).less (cs:=[]) (by simp)
  have hr:zae W.groups 0=true:=zac.2 ⟨by decide,by have:=ht.len; omega,ht.ru⟩
  obtain ⟨r1,r2,_⟩:=zac.1 hr
  refine ⟨_,zly h h4,fun vs=>∃(x s:Int),vs=[.int .i64 x,.int .i64 s]/\zae W.groups x=true/\pinD W.groups x s=pinD W.groups g (upsD W.cpus),fun vs=>(dep 3 W.groups (zef 0 vs)).toNat,⟨g,_,rfl,hu,rfl⟩,?_⟩
  rintro x s ⟨x',s',he,hux,hI⟩
  simp only [List.cons.injEq,Value.int.injEq,true_and,and_true] at he
  obtain ⟨rfl,rfl⟩:=he
  refine ⟨fun hz => ?_,fun hz => ?_⟩
  ·have hz:x≠0:=by simpa using hz
   obtain ⟨hp,a,b,d,e,e2,hd⟩:=zd4 ht hux hz
   unfold pinD at hI
   rw [zcf ht hux hz,List.cons_append,List.foldl_cons] at hI
   exact ⟨h.some,_,_,_,h.groups,h.rd.g.ix a b,_,h.rd.g.cpus a b,_,zk3,h.some,_,_,_,h.groups,h.rd.g.ix a b,_,h.rd.g.parent a b,⟨_,_,rfl,hp,hI⟩,by
    show (dep 3 W.groups (gi W.groups x).parent).toNat<(dep 3 W.groups x).toNat
    omega⟩
  ·have hz:x=0:=by simpa using hz
   subst hz
   unfold pinD at hI
   rw [show zbk W.groups 0=[] from zbm _ _] at hI
   refine ⟨h.some,_,_,_,h.groups,h.rd.g.ix r1 r2,_,h.rd.g.cpus r1 r2,_,zk3,?_⟩
   unfold pinD
   rw [<-hI]; rfl
theorem zt8 {g mask:Int} (h:WPt bs w p W m) (h4:W.cpus.length<=4) (ht:zeb W.groups) (hu:zae W.groups g=true):zad bs Tryz.prog zei #[.pointer p,.int .i64 mask,.int .i64 g] w (.int .i64 (zch W g mask)):=
 zmo p mask g fun wr hx=>by
  have h:=(h.ext hx).less (cs:=[]) (by simp)
  refine ⟨_,z70 h h4 ht hu,_,zk3,fun g1 => ?_,fun g1=>⟨fun g2 => ?_,fun g2=>⟨_,zly h h4,?_⟩⟩⟩
  ·unfold zch; rw [if_pos (by simpa using g1)]
  ·unfold zch; rw [if_neg (by simpa using g1),if_pos (by simpa using g2)]
  ·unfold zch; rw [if_neg (by simpa using g1),if_neg (by simpa using g2)]
theorem zzw {t:Int} (h:WPt bs w p W m) (h4:W.cpus.length<=4) (ht:zeb W.groups) (t0:0<=t) (t1:t<(W.tasks.length:Int)) (hu:zae W.groups (tkk W t).group=true):zad bs Tryz.prog zff #[.pointer p,.int .i64 t] w (.int .i64 (zch W (tkk W t).group (tkk W t).mask)):=
 zos p t fun wr hx=>by
  have h:=(h.ext hx).less (cs:=[]) (by simp)
  exact ⟨h.some,_,_,_,h.tasks,h.rd.t.ix zce t0 t1,_,h.rd.t.f t0 t1 (j:=4) rfl,h.some,_,_,_,h.tasks,h.rd.t.ix zce t0 t1,_,h.rd.t.f t0 t1 (j:=1) rfl,_,zt8 h h4 ht hu,rfl⟩
theorem zlz {t c g:Int} (h:WPt bs w p W m) (t0:0<=t) (t1:t<(W.tasks.length:Int)):zad bs Tryz.prog zdf #[.agg #[.pointer p,.int .i64 c],.int .i64 t,.int .i64 g] w (.bool (actT W g c t.toNat)):=
 zrf p c t g fun wr hx=>by
  have h:=(h.ext hx).less (cs:=[]) (by simp)
  refine fun _ _=>⟨h.some,_,_,_,h.tasks,h.rd.t.ix zce t0 t1,_,_,_,_,_,_,_,_,_,h.rd.t t t0 t1,fun _ _ => ?_⟩
  unfold actT
  rw [show ((t.toNat:Nat):Int)=t by omega]
theorem znb {k c g:Int} (h:WPt bs w p W m) (ha:WA W) (k0:0<=k) (k1:k<(W.groups.length:Int)) (c0:0<=c) (c1:c<(W.cpus.length:Int)):zad bs Tryz.prog zdv #[.agg #[.pointer p,.int .i64 c],.int .i64 k,.int .i64 g] w (.bool (actG W g c k.toNat)):=
 zso p c k g fun wr hx=>by
  have h:=(h.ext hx).less (cs:=[]) (by simp)
  have hc:(((k != 0)&&(gi W.groups k).used)&&((gi W.groups k).parent==g))=true->c<((gi W.groups k).shelves.length:Int):=fun q=>by
   simp only [Bool.and_eq_true] at q
   rw [ha.sl (zac.2 ⟨k0,k1,q.1.2⟩)]; exact c1
  refine fun _ _=>⟨fun _=>h.some,_,_,_,fun _=>h.groups,fun _=>h.rd.g.ix k0 k1,_,fun _=>h.rd.g.used k0 k1,fun _=>h.some,_,_,_,fun _=>h.groups,fun _=>h.rd.g.ix k0 k1,_,fun _=>h.rd.g.parent k0 k1,shO m k c,fun q=>zbh h k0 k1 c0 (hc q),fun q=>(h.sh k0 k1 c0 (hc q)).1,(shf W k c).on,fun q=>(h.sh k0 k1 c0 (hc q)).2 (j:=1) rfl,?_⟩
  unfold actG
  rw [show ((k.toNat:Nat):Int)=k by omega]
  have e:decide (1<=k.toNat)=(k != 0):=by
   by_cases hk:k=0
   ·subst hk; rfl
   ·rw [decide_eq_true (by omega),bne_iff_ne.2 hk]
  rw [e,Bool.and_assoc,Bool.and_assoc,Bool.and_assoc,Bool.and_assoc]
theorem zlx {g c:Int} (h:WPt bs w p W m) (ha:WA W) (c0:0<=c) (c1:c<(W.cpus.length:Int)):zad bs Tryz.prog zde #[.agg #[.pointer p,.int .i64 c],.int .i64 g] w (.bool (za5 W g c)):=
 zrd p c g fun wr hx=>by
  have h:=(h.ext hx).less (cs:=[]) (by simp)
  have hgl:=ha.gl
  have ht:=ha.t
  refine fun _ _=>⟨h.some,_,_,_,h.tasks,?_⟩
  refine zgs W.tasks.length 0 rfl (fun k=>k<=W.tasks.length/\∀j:Nat,j<k->actT W g c j=false) ⟨Nat.zero_le _,fun j hj=>absurd hj (Nat.not_lt_zero j)⟩ fun k ⟨hk,hI⟩=>⟨fun hlt => ?_,fun hge => ?_⟩
  ·have hlt:=of_decide_eq_true hlt
   refine ⟨_,zlz h (by omega) hlt,fun hy => ?_,fun hn=>⟨⟨by omega,by omega⟩,zar (by omega) ⟨by omega,fun j hj => ?_⟩⟩⟩
   ·rw [Int.toNat_natCast] at hy
    unfold za5
    rw [z0p.2 ⟨k,by omega,hy⟩]; rfl
   ·by_cases hjk:j<k
    ·exact hI j hjk
    ·have:j=k:=by omega
     subst this
     rwa [Int.toNat_natCast] at hn
  ·have hge:=of_decide_eq_false hge
   have hno:anyB (actT W g c) W.tasks.length=false:=z8m fun j hj=>hI j (by omega)
   refine ⟨h.some,_,_,_,h.groups,?_⟩
   refine zgs W.groups.length 0 rfl (fun k=>k<=W.groups.length/\∀j:Nat,j<k->actG W g c j=false) ⟨Nat.zero_le _,fun j hj=>absurd hj (Nat.not_lt_zero j)⟩ fun k ⟨hk,hI⟩=>⟨fun hlt => ?_,fun hge => ?_⟩
   ·have hlt:=of_decide_eq_true hlt
    refine ⟨_,znb h ha (by omega) hlt c0 c1,fun hy => ?_,fun hn=>⟨⟨by omega,by omega⟩,zar (by omega) ⟨by omega,fun j hj => ?_⟩⟩⟩
    ·rw [Int.toNat_natCast] at hy
     unfold za5
     rw [z0p.2 ⟨k,by omega,hy⟩,Bool.or_true]
    ·by_cases hjk:j<k
     ·exact hI j hjk
     ·have:j=k:=by omega
      subst this
      rwa [Int.toNat_natCast] at hn
   ·have hge:=of_decide_eq_false hge
    have:anyB (actG W g c) W.groups.length=false:=z8m fun j hj=>hI j (by omega)
    unfold za5
    rw [hno,this]; rfl
theorem z03 {g c:Int} (h:WPt bs w p W m) (ha:WA W) (hu:zae W.groups g=true) (c0:0<=c) (c1:c<(W.cpus.length:Int)):zad bs Tryz.prog zgc #[.agg #[.pointer p,.int .i64 c],.int .i64 g] w (.bool (dryD W g c)):=
 zxy p c g fun wr hx=>by
  have h:=(h.ext hx).less (cs:=[]) (by simp)
  obtain ⟨u1,u2,_⟩:=zac.1 hu
  have hd:(decide ((gi W.groups g).band.quota>0))=true->c<((gi W.groups g).band.dry.length:Int):=fun g1=>by
   have:=of_decide_eq_true g1
   rw [(ha.dl hu (by omega)).1]; exact c1
  exact fun _ _=>⟨h.some,_,_,_,h.groups,h.rd.g.ix u1 u2,_,_,_,_,_,_,_,_,_,h.rd.g.band u1 u2,fun _ _=>⟨fun g1=>(h.rd.g.dry g u1 u2).ix zqm c0 (hd g1),_,fun g1=>(h.rd.g.dry g u1 u2) c c0 (hd g1),rfl⟩⟩
theorem zqu {t c:Int} (h:WPt bs w p W m) (ha:WA W) (t0:0<=t) (t1:t<(W.tasks.length:Int)) (c0:0<=c) (c1:c<(W.cpus.length:Int)) (hu:(tkk W t).state=1->zae W.groups (tkk W t).group=true) :
  zad bs Tryz.prog zek #[.agg #[.pointer p,.int .i64 c],.int .i64 t] w (.bool (((tkk W t).cpu==c)&&ze3 W t)):=
 zre p c t fun wr hx=>by
  have h:=(h.ext hx).less (cs:=[]) (by simp)
  refine fun _ _=>⟨h.some,_,_,_,h.tasks,h.rd.t.ix zce t0 t1,_,_,_,_,_,_,_,_,_,h.rd.t t t0 t1,fun _ _=>⟨fun g => ?_,fun g => ?_⟩⟩
  ·have g':(((tkk W t).state != 1)||((tkk W t).cpu != c))=true:=g
   have:(((tkk W t).cpu==c)&&ze3 W t)=false:=by
    unfold ze3
    simp only [Bool.or_eq_true,bne_iff_ne] at g'
    rcases g' with e | e
    ·rw [beq_eq_false_iff_ne.2 e,Bool.false_and,Bool.and_false]
    ·rw [beq_eq_false_iff_ne.2 e,Bool.false_and]
   rw [this]
  ·have g':(((tkk W t).state != 1)||((tkk W t).cpu != c))=false:=g
   simp only [Bool.or_eq_false_iff,bne_eq_false_iff_eq] at g'
   obtain ⟨hs,hc⟩:=g'
   have hug:=hu hs
   have hL:(((tkk W t).cpu==c)&&ze3 W t)=zk7 W (tkk W t).group c:=by
    unfold ze3; rw [beq_iff_eq.2 hs,beq_iff_eq.2 hc,Bool.true_and,Bool.true_and,hc]
   rw [hL]
   refine ⟨fun vs=>∃x:Int,vs=[.int .i64 x]/\zae W.groups x=true/\zk7 W x c=zk7 W (tkk W t).group c,fun vs=>(dep 3 W.groups (zef 0 vs)).toNat,⟨_,rfl,hug,rfl⟩,?_⟩
   rintro x ⟨x',he,hux,hI⟩
   simp only [List.cons.injEq,Value.int.injEq,true_and,and_true] at he
   subst he
   refine ⟨fun hz => ?_,fun hz => ?_⟩
   ·have hz:x≠0:=by simpa using hz
    obtain ⟨hp,a,b,d,e,e2,hd⟩:=zd4 ha.tree hux hz
    have hc1:c<((gi W.groups x).shelves.length:Int):=by rw [ha.sl hux]; exact c1
    unfold zk7 at hI
    rw [zcf ha.tree hux hz,List.all_cons] at hI
    refine ⟨_,zbh h a b c0 hc1,(h.sh a b c0 hc1).1,_,(h.sh a b c0 hc1).2 (j:=1) rfl,fun g2 => ?_,fun g2=>⟨h.some,_,_,_,h.groups,h.rd.g.ix a b,_,h.rd.g.parent a b,⟨_,rfl,hp,?_⟩,by
     show (dep 3 W.groups (gi W.groups x).parent).toNat<(dep 3 W.groups x).toNat
     omega⟩⟩
    ·have g2:(shf W x c).on=false:=by simpa using g2
     rw [g2,Bool.false_and] at hI
     unfold zk7
     rw [<-hI]
    ·have g2:(shf W x c).on=true:=by simpa using g2
     rw [g2,Bool.true_and] at hI
     exact hI
   ·have hz:x=0:=by simpa using hz
    subst hz
    unfold zk7 at hI
    rw [show zbk W.groups 0=[] from zbm _ _,List.all_nil] at hI
    unfold zk7
    rw [<-hI]
end
end Go.Proofs.YtclpmgfpjeaibaaGreatDoor
