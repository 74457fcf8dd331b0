/- Part 11 of what the law FnYield needs: the engine, the functions' propositions, the contracts. -/
import Derived.Test.YtnclplgaicdapaaGreatDoorFnYieldPj
import Derived.Laws.StructEq
namespace Go.Proofs.YtnclplgaicdapaaGreatDoor
open Go.RowKit
set_option linter.unusedVariables false
set_option linter.unusedSimpArgs false
set_option maxRecDepth 10000
set_option maxHeartbeats 8000000
def LB (P:Program):List Field->Nat->List Va->List Va->Option Bool
 | [],_,[],[]=>some true
 | f :: r, k, x :: xs, y :: ys => bif decide (f.name ≠ "_") && Nat.beq f.offset k then
   (match LB P r (k+1) xs ys with
   | some q=>(match P.underlying f.type,x,y with
    | some (.int _),.int a n,.int b m=>bif decide (a=b) then some ((n==m)&&q) else none
    | some .bool,.bool n,.bool m=>some ((n==m)&&q)
    | some .string,.string n,.string m=>some (Zg n m&&q)
    | _,_,_=>none)
   | none=>none) else none
 | _,_,_,_=>none
theorem D0 {P:Program} (d:Nat) (w:Wo) (xs ys:List Va):∀(fs:List Field) (k:Nat) (b:Bool),LB P fs k (xs.drop k) (ys.drop k)=some b->(Op.eqFields (d+1) xs.toArray ys.toArray fs).run P w=.ok b w
 | [],k,b,h=>by
  have hb:some true=some b:=by
   cases ex:xs.drop k with
   | nil=>
    cases ey:ys.drop k with
    | nil=>rw[ex,ey] at h; exact h
    | cons y ys'=>rw[ex,ey] at h; cases h
   | cons x xs'=>rw[ex] at h; cases h
  simp only[Option.some.injEq] at hb
  subst hb
  simp[Op.eqFields]
 | f::r,k,b,h=>by
  have hx:∀{l:List Va} {x:Va} {q:List Va},l.drop k=x::q->l[k]? = some x/\l.drop (k+1)=q:=fun {l x q} e=>by
   have h1:l[k]? = (l.drop k)[0]? := by simp
   have h2:l.drop (k+1)=(l.drop k).drop 1:=by simp
   rw[h1,h2,e]; simp
  cases exx:xs.drop k with
  | nil=>rw[exx] at h; cases h
  | cons x xs'=>
  cases eyy:ys.drop k with
  | nil=>rw[exx,eyy] at h; cases h
  | cons y ys'=>
   rw[exx,eyy] at h
   simp only[LB] at h
   obtain⟨gx,dx⟩:=hx exx
   obtain⟨gy,dy⟩:=hx eyy
   cases hc : (decide (f.name ≠ "_") && Nat.beq f.offset k) with
   | false=>rw[hc] at h; cases h
   | true=>
    rw[hc] at h
    simp only[cond_true] at h
    simp only[Bool.and_eq_true,decide_eq_true_eq] at hc
    have hof:=Nat.eq_of_beq_eq_true hc.2
    split at h
    ·rename_i q hq
     have ih:=D0 d w xs ys r (k+1) q (by rw[dx,dy]; exact hq)
     have hpart:∀{D:TypeDesc},P.underlying f.type=some D->Ps D=false->(part f.type xs.toArray f.offset).run P w=.ok x w/\(part f.type ys.toArray f.offset).run P w=.ok y w:=fun {D} hu hD=>by
      rw[hof]
      simp[part,UK hu,hD,gx,gy]
     split at h
     ·rename_i K a n b' m hu
      cases hab:decide (a=b') with
      | false=>rw[hab] at h; cases h
      | true=>
       have:=Ot hab
       subst this
       rw[hab] at h
       simp only[cond_true,Option.some.injEq] at h
       subst h
       obtain⟨p1,p2⟩:=hpart hu rfl
       simp only[Op.eqFields,if_pos hc.1,Sem.run_bind,p1,p2,Result.andThen_ok,run_equalIn_int w d f.type a K n m hu,Sem.run_ite]
       cases n==m <;> simp[ih]
     ·rename_i n m hu
      simp only[Option.some.injEq] at h
      subst h
      obtain⟨p1,p2⟩:=hpart hu rfl
      simp only[Op.eqFields,if_pos hc.1,Sem.run_bind,p1,p2,Result.andThen_ok,run_equalIn_bool' w d f.type n m hu,Sem.run_ite]
      cases n==m <;> simp[ih]
     ·rename_i n m hu
      simp only[Option.some.injEq] at h
      subst h
      obtain⟨p1,p2⟩:=hpart hu rfl
      simp only[Op.eqFields,if_pos hc.1,Sem.run_bind,p1,p2,Result.andThen_ok,run_equalIn_string w d f.type n m hu,Sem.run_ite]
      unfold Zg
      cases n.toList==m.toList <;> simp[ih]
     ·cases h
    ·cases h
structure BY (P:Program) (t:TypeId):Prop where
 u:P.underlying t=some (.struct (P.fieldsOf t))
 s:P.stoodInHeld t=false
 g:P.eqGuardType P.depth t=false
theorem Ms{P:Program}{t:TypeId}(F:BY P t){xs ys:List Va}{b:Bool}(h:LB P (P.fieldsOf t).toList 0 xs ys=some b)(w:Wo):(Op.equal t (.agg xs.toArray) (.agg ys.toArray)).run P w=.ok b w:=by
 have:=run_equalIn_struct (P:=P) w 9999 t xs.toArray ys.toArray F.u F.s;rw[D0 9998 w xs ys _ 0 b (by simpa using h)] at this;exact this
theorem AZ{P:Program}{t:TypeId}(F:BY P t){xs ys:List Va}{b:Bool}(h:LB P (P.fieldsOf t).toList 0 xs ys=some b)(x y:Operand)(w:Wo):((do eqGuard .eql t x y (.agg xs.toArray) (.agg ys.toArray); binOp .eql t (.agg xs.toArray) (.agg ys.toArray)):Sem Va).run P w=.ok (.bool b) w:=by
 have:=Ms F h w;simp only[Op.equal,Op.maxDepth] at this;simp only[Sem.run_bind,run_eqGuard_agg w .eql t x y _ _ F.g,Result.andThen_ok,run_eql_struct,this]
theorem GB{P:Program}{t:TypeId}(F:BY P t){xs ys:List Va}{b:Bool}(h:LB P (P.fieldsOf t).toList 0 xs ys=some b)(x y:Operand)(w:Wo):((do eqGuard .neq t x y (.agg xs.toArray) (.agg ys.toArray); binOp .neq t (.agg xs.toArray) (.agg ys.toArray)):Sem Va).run P w=.ok (.bool (!b)) w:=by
 have:=Ms F h w;simp only[Op.equal,Op.maxDepth] at this;simp only[Sem.run_bind,run_eqGuard_agg w .neq t x y _ _ F.g,Result.andThen_ok,run_neq_struct,this]
theorem O7:BY Tryz.prog QE:=⟨by kernel_rfl,by kernel_rfl,by kernel_rfl⟩
def Jz(p:Int)(n:ByteArray):Va:=.agg #[.int .i64 p,.string n]
theorem zh6(p q:Int)(n m:ByteArray):LB Tryz.prog (Tryz.prog.fieldsOf QE).toList 0 [.int .i64 p,.string n] [.int .i64 q,.string m]=some ((p==q)&&(Zg n m&&true)):=by kernel_rfl
theorem zcc(p q:Int)(n m:ByteArray)(w:Wo):(Op.equal QE (Jz p n) (Jz q m)).run Tryz.prog w=.ok (decide (p=q/\n=m)) w:=by
 have:=Ms O7 (zh6 p q n m) w
 have e:((p==q)&&(Zg n m&&true))=decide (p=q/\n=m):=by
  rw[D2,Bool.and_true]
  by_cases h1:p=q <;> by_cases h2:n=m <;> simp[h1,h2]
 rw[e] at this;exact this
theorem zgz(p:Int)(n:ByteArray)(w:Wo):∀(es:List MapEntry) (i:Nat),(∀e∈es,∃q m v,e.key=Jz q m/\e.val=.int .i64 v)->
  (∃(j:Nat) (v:Int),(Instr.findAsking QE (Jz p n) es i).run Tryz.prog w=.ok (some (j,.int .i64 v)) w/\∃e∈es,e.key=Jz p n) \/
  ((Instr.findAsking QE (Jz p n) es i).run Tryz.prog w=.ok none w/\∀e∈es,e.key≠Jz p n)
 | [],i,_=>.inr ⟨by simp[Instr.findAsking],fun e he=>by cases he⟩
 | e::r,i,h=>by
  obtain⟨q,m,v,hk,hv⟩:=h e (List.mem_cons_self ..)
  by_cases hq:p=q/\n=m
  ·refine .inl ⟨i,v,?_,e,List.mem_cons_self ..,by rw[hk,hq.1,hq.2]⟩;simp only[Instr.findAsking,hk,Sem.run_bind,zcc,decide_eq_true hq,Result.andThen_ok,if_true,Sem.run_pure,hv]
  ·have hstep:(Instr.findAsking QE (Jz p n) (e::r) i).run Tryz.prog w=(Instr.findAsking QE (Jz p n) r (i+1)).run Tryz.prog w:=by
    simp only[Instr.findAsking,hk,Sem.run_bind,zcc,decide_eq_false hq,Result.andThen_ok,Bool.false_eq_true,if_false]
   have hne:e.key≠Jz p n:=fun e'=>by
    rw[hk] at e';simp only[Jz,Value.agg.injEq,List.toArray_inj,Array.mk.injEq,List.cons.injEq,Value.int.injEq,true_and,Value.string.injEq,and_true] at e';exact hq ⟨e'.1.symm,e'.2.symm⟩
   rcases zgz p n w r (i+1) (fun x hx=>h x (List.mem_cons_of_mem _ hx)) with ⟨j,v',h1,x,hx,h2⟩ | ⟨h1,h2⟩
   ·exact .inl ⟨j,v',by rw[hstep]; exact h1,x,List.mem_cons_of_mem _ hx,h2⟩
   ·exact .inr ⟨by rw[hstep]; exact h1,fun x hx=>by
     rcases List.mem_cons.1 hx with rfl | hx
     ·exact hne
     ·exact h2 x hx⟩
theorem F0(p:Int)(n:ByteArray)(w:Wo)(es:List MapEntry)(h:∀e∈es,∃q m v,e.key=Jz q m/\e.val=.int .i64 v) :
  (∃(j:Nat) (v:Int),(Instr.findKey QE (Jz p n) es).run Tryz.prog w=.ok (some (j,.int .i64 v)) w/\∃e∈es,e.key=Jz p n) \/
  ((Instr.findKey QE (Jz p n) es).run Tryz.prog w=.ok none w/\∀e∈es,e.key≠Jz p n):=by
 cases es with
 | nil=>exact .inr ⟨by simp[Instr.findKey,run_underlying O7.u,Instr.findNow],fun e he=>by cases he⟩
 | cons e r=>
  have hs:(Instr.findKey QE (Jz p n) (e::r)).run Tryz.prog w=(Instr.findAsking QE (Jz p n) (e::r) 0).run Tryz.prog w:=by
   simp[Instr.findKey,run_underlying O7.u,Instr.findNow,Instr.sameNow]
  rw[hs];exact zgz p n w (e::r) 0 h
theorem NQ:∃a b:Field,(Tryz.prog.fieldsOf QE).toList=[a,b]/\a.type=Qb/\a.offset=0/\b.type=Zs/\b.offset=1:=⟨(Tryz.prog.fieldsOf QE)[0]!,(Tryz.prog.fieldsOf QE)[1]!,by kernel_rfl,by kernel_rfl,by kernel_rfl,by kernel_rfl,by kernel_rfl⟩
theorem Mr (em:Bool) (p:Int) (n:ByteArray) (w:Wo):(Instr.checkKey em 10000 QE (Jz p n)).run Tryz.prog w=.ok () w:=by
 obtain⟨a,b,hl,a1,a2,b1,b2⟩:=NQ
 have p1:(part Qb #[.int .i64 p,.string n] 0).run Tryz.prog w=.ok (.int .i64 p) w:=by simp[part,UK ztb,Ps]
 have p2:(part Zs #[.int .i64 p,.string n] 1).run Tryz.prog w=.ok (.string n) w:=by simp[part,UK Cb,Ps]
 have c1:∀d:Nat,(Instr.checkKey em (d+1) Qb (.int .i64 p)).run Tryz.prog w=.ok () w:=fun d=>by simp[Instr.checkKey,run_underlying ztb]
 have c2:∀d:Nat,(Instr.checkKey em (d+1) Zs (.string n)).run Tryz.prog w=.ok () w:=fun d=>by simp[Instr.checkKey,run_underlying Cb]
 have key:∀d:Nat,(Instr.checkKey em (d+1+1) QE (Jz p n)).run Tryz.prog w=.ok () w:=fun d=>by
  rw[Instr.checkKey]
  simp only[Jz,Sem.run_bind,run_underlying O7.u,Result.andThen_ok]
  rw[<-Array.forIn_toList,hl]
  by_cases ha : a.name ≠ "_" <;> by_cases hb : b.name ≠ "_" <;> simp [ha, hb, a1, a2, b1, b2, p1, p2, c1, c2]
 exact key 9998
theorem EK:Tryz.prog.underlying Zr=some (.map QE Qb):=by kernel_rfl
theorem zv0(w:Wo):(zeroValue Qb).run Tryz.prog w=.ok (.int .i64 0) w:=by
 have h:(match Tryz.prog.info? Qb with | some i=>i.zero | none=>none)=some (.int .i64 0):=by kernel_rfl
 cases hi:Tryz.prog.info? Qb with
 | none=>rw[hi] at h; cases h
 | some i=>
  rw[hi] at h;simp only at h;simp[zeroValue,J7 hi,h]
def GN(w:Wo)(b:Nat)(es:Array MapEntry):Prop:=(∃c,w.heap[b]? = some (.map es c))/\∀e∈es.toList,∃q m v,e.key=Jz q m/\e.val=.int .i64 v
theorem zpw{w:Wo}{b:Nat}{es:Array MapEntry}(h:GN w b es)(p:Int)(n:ByteArray) :
  ∃(v:Int) (ok:Bool),(Instr.lookup Zr (.map (some b)) (Jz p n) true).run Tryz.prog w=.ok (.tuple #[.int .i64 v,.bool ok]) w/\(ok=true↔∃e∈es.toList,e.key=Jz p n):=by
 obtain⟨⟨c,hc⟩,hes⟩:=h;have hg:(getObj b).run Tryz.prog w=.ok (.map es c) w:=by simp[getObj,Sem.run,hc]
 rcases F0 p n w es.toList hes with ⟨j,v,h1,h2⟩ | ⟨h1,h2⟩
 ·exact⟨v,true,by simp[Instr.lookup,run_underlying EK,hg,Mr,h1],by simpa using h2⟩
 ·exact⟨0,false,by simp[Instr.lookup,run_underlying EK,hg,Mr,h1,zv0],⟨fun h=>(by cases h),fun ⟨e,he,hk⟩=>absurd hk (h2 e he)⟩⟩
theorem zso{w:Wo}{b:Nat}{es:Array MapEntry}(h:GN w b es){p:Int}{n:ByteArray}(hno:∀e∈es.toList,e.key≠Jz p n)(v:Int) :
  ∃w' c,((do Instr.mapUpdate Zr (.map (some b)) (Jz p n) (.int .i64 v); pure undef):Sem Va).run Tryz.prog w=.ok undef w'/\Q0 [b] w w'/\GN w' b (es.push { key:=Jz p n,val:=.int .i64 v,born:=c }):=by
 obtain⟨⟨c,hc⟩,hes⟩:=h;have hg:(getObj b).run Tryz.prog w=.ok (.map es c) w:=by simp[getObj,Sem.run,hc]
 have hfk:(Instr.findKey QE (Jz p n) es.toList).run Tryz.prog w=.ok none w:=by
  rcases F0 p n w es.toList hes with ⟨j,v,_,e,he,hk⟩ | ⟨h1,_⟩
  ·exact absurd hk (hno e he)
  ·exact h1
 have hs:(setObj b (.map (es.push { key:=Jz p n,val:=.int .i64 v,born:=c }) (c+1))).run Tryz.prog w=.ok () { w with heap:=w.heap.setIfInBounds b (.map (es.push { key:=Jz p n,val:=.int .i64 v,born:=c }) (c+1)) }:=by
  simp[setObj,Sem.run,hc]
 have hlt:=VM hc;refine⟨{ w with heap:=w.heap.setIfInBounds b (.map (es.push { key:=Jz p n,val:=.int .i64 v,born:=c }) (c+1)) },c,by simp[Instr.mapUpdate,run_underlying EK,hg,Mr,hfk,hs],⟨rfl,rfl,rfl,by simp,fun k _ hk=>?_⟩,⟨c+1,by simp[hlt]⟩,fun e he=>?_⟩
 ·have:b≠k:=fun e=>hk (by simp[e])
  show (w.heap.setIfInBounds b _)[k]? = _;rw[Array.getElem?_setIfInBounds_ne this]
 ·rw[Array.toList_push,List.mem_append] at he;rcases he with he | he
  ·exact hes e he
  ·rw[List.mem_singleton] at he;subst he;exact⟨p,n,v,rfl,rfl⟩
theorem GN.ext{w w':Wo}{b:Nat}{es:Array MapEntry}{bs:List Nat}(h:GN w b es)(hx:Q0 bs w w')(hb:b∉bs):GN w' b es:=by
 obtain⟨⟨c,hc⟩,hes⟩:=h;exact⟨⟨c,ZP hc hx hb⟩,hes⟩
def NN(p:OA):List Va:=[.pointer p]
theorem Ok:zjn Tryz.prog NN 1 Y3 8 none:=Gb (by kernel_rfl) fun _=>rfl
theorem zm6:Tryz.prog.underlying Pg=some (.slice Y3):=by kernel_rfl
def Ur(w:Wo)(b:Nat)(g:Int)(n:ByteArray)(up:OA):Prop:=w.heap[b]? = some (.cells ([.int .i64 g,.string n,.pointer up]:List Va).toArray D7 (0,0))
theorem Ur.ext{w w':Wo}{b:Nat}{g:Int}{n:ByteArray}{up:OA}{bs:List Nat}(h:Ur w b g n up)(hx:Q0 bs w w')(hb:b∉bs):Ur w' b g n up:=ZP h hx hb
theorem Ur.cells{w:Wo}{b:Nat}{g:Int}{n:ByteArray}{up:OA}(h:Ur w b g n up){bs:List Nat}(hb:b∉bs):Q2 bs w (some ⟨b,0,none⟩) 0 [.int .i64 g,.string n,.pointer up]:=
 Oi h hb fun j v hj=>by rw[Nat.zero_add,Nat.zero_add]; exact hj
def zji(gs:List ZA)(nb:Int->Nat)(x:Int):OA:=if x=0 then none else some ⟨nb (gi gs x).parent,0,none⟩
structure Ns (bs:List Nat) (w:Wo) (gs:List ZA) (nb:Int->Nat):Prop where
 node:∀x:Int,Q6 gs x=true->Q2 bs w (some ⟨nb x,0,none⟩) 0 [.int .i64 x,.string (gi gs x).name,.pointer (zji gs nb x)]
 par:∀x:Int,x≠0->Q6 gs x=true->Q6 gs (gi gs x).parent=true
theorem Ns.ext{bs:List Nat}{w w':Wo}{gs:List ZA}{nb:Int->Nat}(h:Ns bs w gs nb)(hx:Q0 bs w w'):Ns bs w' gs nb:=⟨fun x hu=>(h.node x hu).ext hx,h.par⟩
theorem Ns.less{bs cs:List Nat}{w:Wo}{gs:List ZA}{nb:Int->Nat}(h:Ns bs w gs nb)(hs:∀x∈cs,x∈bs):Ns cs w gs nb:=⟨fun x hu=>(h.node x hu).less hs,h.par⟩
def Ar(gs:List ZA)(f:Nat)(x:Int)(s:Int):Int:=if dep f gs x<0 then -1 else s+dep f gs x
theorem zrw{gs:List ZA}{nb:Int->Nat}{w:Wo}{bs:List Nat}(h:Ns bs w gs nb){x:Int}(hu:Q6 gs x=true):PX bs UA #[.pointer (some ⟨nb x,0,none⟩)] w (.int .i64 (Ar gs 3 x 0)):=
 HQ (some ⟨nb x,0,none⟩) fun wr hx=>by
  have h:=(h.ext hx).less (cs:=[]) (by simp);refine⟨fun vs=>(∃(y:Int) (s:Nat),Q6 gs y=true/\s<=4/\vs=[.pointer (some ⟨nb y,0,none⟩),.int .i64 (s:Int)]/\(s<=3->Ar gs (3-s) y s=Ar gs 3 x 0)/\(s=4->Ar gs 3 x 0 = -1))\/∃s:Nat,s<=4/\vs=[.pointer none,.int .i64 (s:Int)]/\Ar gs 3 x 0 = -1,fun vs=>(5-Y5 1 vs).toNat,.inl ⟨x,0,hu,by omega,rfl,fun _=>rfl,fun h=>by omega⟩,?_⟩;rintro n1 st (⟨y,s,hy,hs,he,h1,h2⟩ | ⟨s,hs,he,h1⟩)
  ·simp only[List.cons.injEq,Value.int.injEq,Value.pointer.injEq,true_and,and_true] at he;obtain⟨rfl,rfl⟩:=he;refine⟨fun hc=>?_,fun hc=>?_⟩
   ·have hs3:s<=3:=by
     simp only[Option.isNone_some,Bool.not_false,Bool.true_and,decide_eq_true_eq] at hc;omega
    have hn:=h.node y hy;refine⟨rfl,y,hn.get 0 _ rfl,fun hz=>?_,fun hz=>?_⟩
    ·have hz:y=0:=by simpa using hz
     rw[<-h1 hs3];subst hz;unfold Ar;rw[Y8,if_neg (by omega),Int.add_zero]
    ·have hz:y≠0:=by simpa using hz
     have hm:zji gs nb y=some ⟨nb (gi gs y).parent,0,none⟩:=by unfold zji; rw[if_neg hz]
     refine⟨⟨by omega,by omega⟩,rfl,_,by have:=hn.get 2 _ rfl; exact this,.inl ⟨(gi gs y).parent,s+1,h.par y hz hy,by omega,by rw[hm]; simp,fun hs'=>?_,fun hs'=>?_⟩,?_⟩
     ·rw[<-h1 hs3];have e:3-s=(3-(s+1))+1:=by omega
      rw[e];unfold Ar;simp only[dep,if_neg hz]
      by_cases hd:dep (3-(s+1)) gs (gi gs y).parent<0
      ·rw[if_pos hd,if_pos hd,if_pos (by omega)]
      ·rw[if_neg hd,if_neg hd,if_neg (by omega)]; omega
     ·rw[<-h1 hs3];have e:3-s=0:=by omega
      rw[e];unfold Ar;simp only[dep,if_neg hz];rfl
     ·show (5-((s:Int)+1)).toNat<(5-(s:Int)).toNat;omega
   ·have hs4:s=4:=by
     simp only[Option.isNone_some,Bool.not_false,Bool.true_and,decide_eq_false_iff_not] at hc;omega
    rw[h2 hs4]
  ·simp only[List.cons.injEq,Value.int.injEq,Value.pointer.injEq,true_and,and_true] at he;obtain⟨rfl,rfl⟩:=he;refine⟨fun hc=>by simp at hc,fun _=>by rw[h1]⟩
section
variable {gs:List ZA}{ms:Nat->MG}{o:OA}{c:Nat}{w:Wo}{bs:List Nat}
theorem PL{g:Int}(h:Mw bs w o gs ms)(hl:gs.length<=maxLen):PX bs Jg #[.slice o gs.length c,.int .i64 g] w (.bool (Q6 gs g)):=
 Em o gs.length c g fun wr hx=>by
  have h:=(h.ext hx).less (cs:=[]) (by simp);have:=Xa
  have e:Yo g 0 ((gs.length:Int)-1)=(decide (g>=0)&&decide (g<(gs.length:Int))):=by
   unfold Yo
   congr 1
   exact decide_eq_decide.2 (by omega)
  refine⟨⟨by omega,by omega⟩,_,QH,fun q=>?_,(gi gs g).used,fun q=>?_,by rw[e]; rfl⟩
  ·have q:=Qo.1 q;exact h.ix (by omega) (by omega)
  ·have q:=Qo.1 q;exact h.used (by omega) (by omega)
theorem zrx(h:Mw [] w o gs ms)(hl:gs.length<=maxLen) :
  Cz Pp #[.slice o gs.length c] w fun e w'=>∃(o':OA) (L C:Nat) (ok:Bool),e=.returned (.tuple #[.slice o' L C,.bool ok])/\ok=Pf gs/\Q0 [] w w'/\
   (ok=false->L=0)/\(ok=true->L=8/\∃(pl:List (OA)) (nb:Int->Nat),pl.length=8/\Rd NN 1 [] w' o' pl/\(∀g:Int,0<=g->g<8->gi pl g=if (gi gs g).used then some ⟨nb g,0,none⟩ else none)/\Ns [] w' gs nb):=by
 refine(zdo o gs.length c (R:=fun v w'=>∃(o':OA) (L C:Nat) (ok:Bool),v=.tuple #[.slice o' L C,.bool ok]/\ok=Pf gs/\Q0 [] w w'/\
   (ok=false->L=0)/\(ok=true->L=8/\∃(pl:List (OA)) (nb:Int->Nat),pl.length=8/\Rd NN 1 [] w' o' pl/\(∀g:Int,0<=g->g<8->gi pl g=if (gi gs g).used then some ⟨nb g,0,none⟩ else none)/\Ns [] w' gs nb)) ?_).mono fun e w' ⟨v,he,o',L,C,ok,hv,hr⟩=>⟨o',L,C,ok,by rw[he,hv],hr⟩
 have bad:∀w',Q0 [] w w'->¬ZU gs->∃(o':OA) (L C:Nat) (ok:Bool),Value.tuple #[.slice none 0 0,.bool false]=.tuple #[.slice o' L C,.bool ok]/\ok=Pf gs/\Q0 [] w w'/\
   (ok=false->L=0)/\(ok=true->L=8/\∃(pl:List (OA)) (nb:Int->Nat),pl.length=8/\Rd NN 1 [] w' o' pl/\(∀g:Int,0<=g->g<8->gi pl g=if (gi gs g).used then some ⟨nb g,0,none⟩ else none)/\Ns [] w' gs nb):=fun w' hx hno=>
  ⟨none,0,0,false,rfl,(D6 hno).symm,hx,fun _=>rfl,fun h=>by cases h⟩
 have l8:((((gs.length:Nat):Int) != 8)=false)->gs.length=8:=fun q=>by have:=(bne_eq_false_iff_eq).1 q; omega
 have i0:∀q:(((gs.length:Nat):Int) != 8)=false,(0:Int)<(gs.length:Int):=fun q=>by have:=l8 q; omega
 refine⟨fun q=>h.ix (Int.le_refl _) (i0 q),(gi gs 0).used,fun q=>h.used (Int.le_refl _) (i0 q),fun q=>?_,(gi gs 0).parent,fun q=>?_,fun q=>?_,(gi gs 0).name,fun q=>?_,fun q=>?_,fun q=>?_⟩
 ·simp only[Bool.or_eq_false_iff] at q; exact h.ix (Int.le_refl _) (i0 q.1)
 ·simp only[Bool.or_eq_false_iff] at q; exact h.parent (Int.le_refl _) (i0 q.1)
 ·simp only[Bool.or_eq_false_iff] at q; exact h.ix (Int.le_refl _) (i0 q.1.1)
 ·simp only[Bool.or_eq_false_iff] at q; exact h.name (Int.le_refl _) (i0 q.1.1)
 ·intro w1 hx1;refine bad w1 hx1 fun ht=>?_
  have e:((gs.length:Nat):Int)=8:=by have:=ht.len; omega
  rw[e,ht.ru,ht.rp,ht.rn,D2] at q;simp at q
 simp only[Bool.or_eq_false_iff,Bool.not_eq_false',bne_eq_false_iff_eq,J9] at q;obtain⟨⟨⟨q1,ru⟩,rp⟩,rn⟩:=q;have hl8:gs.length=8:=by omega
 intro wr hx _;refine⟨some ⟨wr.heap.size,0,none⟩,8,8,wr.alloc (.cells ((List.replicate 8 none).flatMap NN).toArray Y3),Pz Ok zm6 8 (by decide) (by simp[maxLen]) wr,Tv,?_⟩;have hO0:=U9 (enc:=NN) Ok.len Y3 8 none wr;have hX0:Q0 [] wr (wr.alloc (.cells ((List.replicate 8 none).flatMap NN).toArray Y3)):=QV wr _;generalize wr.alloc (.cells ((List.replicate 8 (none:OA)).flatMap NN).toArray Y3)=wv at hO0 hX0
 refine OM 8 0 rfl (fun k w1=>k<=8/\Q0 [] wr w1/\∃(pl:List (OA)) (nb:Int->Nat),pl.length=8/\Jp NN 1 Y3 wr.heap.size w1 (some ⟨wr.heap.size,0,none⟩) 8 pl/\
   (∀g:Int,0<=g->g<8->gi pl g=if g<(k:Int)/\(gi gs g).used=true then some ⟨nb g,0,none⟩ else none)/\
   (∀g:Int,0<=g->g<(k:Int)->(gi gs g).used=true->wr.heap.size<=nb g/\Ur w1 (nb g) g (gi gs g).name none)/\
   (∀g g':Int,0<=g->g<(k:Int)->0<=g'->g'<(k:Int)->(gi gs g).used=true->(gi gs g').used=true->nb g=nb g'->g=g')) (fun w1 hx1 _=>⟨Nat.zero_le _,hX0.trans hx1,List.replicate 8 none,fun _=>0,rfl,hO0.ext0 hx1,fun g h0 h1=>?_,fun g h0 h1=>by omega,fun g g' h0 h1=>by omega⟩) fun k w1 _ ⟨hk,hX,pl,nb,hpl,hO,hP,hN,hinj⟩=>⟨fun hlt=>?_,fun hge=>?_⟩
 ·rw[if_neg (fun hc=>by omega)];exact List.eq_of_mem_replicate (zib h0 (by simpa using h1))
 ·have hlt:=Ot hlt;have hr:=(h.ext hx).ext hX;have hk0:(0:Int)<=(k:Int):=by omega
  refine⟨hr.ix hk0 hlt,_,hr.used hk0 hlt,fun hu=>⟨hr.ix hk0 hlt,_,hr.name hk0 hlt,fun b wb hxb hb hhb _=>?_⟩,fun hu=>⟨⟨by omega,by omega⟩,fun w2 hx2 _=>Z0 (by omega) ⟨by omega,hX.trans hx2,pl,nb,hpl,hO.ext0 hx2,fun g h0 h1=>?_,fun g h0 h1 hg=>?_,fun g g' h0 h1 h0' h1' hg hg'=>?_⟩⟩⟩
  ·have hOb:=hO.ext0 hxb;have hkl:(k:Int)<(pl.length:Int):=by rw[hpl]; omega
   have hix:=hOb.ix hk0 hkl;rw[hpl] at hix;refine⟨hix,hOb.wr Ok.len (by simp) hk0 hkl (j:=0) (n:=1) (by omega),⟨by omega,by omega⟩,fun w2 hx2 _=>Z0 (by omega) ⟨by omega,?_,pl.set k (some ⟨b,0,none⟩),fun g=>if g=(k:Int) then b else nb g,by rw[List.length_set]; exact hpl,?_,fun g h0 h1=>?_,fun g h0 h1 hg=>?_,fun g g' h0 h1 h0' h1' hg hg' he=>?_⟩⟩
   ·exact(hOb.stoB _ _ (hX.trans hxb) (Nat.le_refl _)).trans hx2
   ·exact(hOb.sto Ok.len (i:=(k:Int)) hk0 hkl (j:=0) (vs:=[.pointer (some ⟨b,0,none⟩)]) (x:=some ⟨b,0,none⟩) rfl (by simp)).ext0 hx2
   ·have:=Qw pl (some ⟨b,0,none⟩) (i:=(k:Int)) (j:=g) hk0 hkl h0;rw[Int.toNat_natCast] at this;rw[this]
    by_cases hgk:(k:Int)=g
    ·subst hgk;rw[if_pos rfl,if_pos ⟨by omega,hu⟩]
     dsimp only
     rw[if_pos rfl]
    ·rw[if_neg hgk,hP g h0 h1]
     dsimp only
     rw[show (if g=(k:Int) then b else nb g)=nb g from if_neg (fun e=>hgk e.symm)]
     by_cases hlt2:g<(k:Int)
     ·by_cases hgu:(gi gs g).used=true
      ·rw[if_pos ⟨hlt2,hgu⟩,if_pos ⟨by omega,hgu⟩]
      ·rw[if_neg (fun hc=>hgu hc.2),if_neg (fun hc=>hgu hc.2)]
     ·rw[if_neg (fun hc=>hlt2 hc.1),if_neg (fun hc=>by omega)]
   ·have hsz:Q0 (Qy (some ⟨wr.heap.size,0,none⟩)) wb (sto wb (some ⟨wr.heap.size,0,none⟩) (Int.toNat (k:Int)*1) [.pointer (some ⟨b,0,none⟩)]):=hOb.stoX _ _
    have hne:∀q,Ur wb q g (gi gs g).name none->q∉Qy (some (⟨wr.heap.size,0,none⟩:Addr)):=fun q hq hm=>by
     simp only[Qy,List.mem_singleton] at hm;subst hm;rcases hOb with ⟨hc,_⟩ | ⟨b',sp,he,_,h2,_⟩
     ·cases hc
     ·simp only[Option.some.injEq,Addr.mk.injEq,and_true] at he;subst he;unfold Ur at hq;rw[h2] at hq;simp only[Option.some.injEq,Obj.cells.injEq] at hq;exact absurd hq.2.1 (by decide)
    dsimp only
    by_cases hgk:g=(k:Int)
    ·subst hgk;rw[if_pos rfl];have hq:Ur wb b (k:Int) (gi gs (k:Int)).name none:=hhb;exact⟨Nat.le_trans hX.size hb,((hq.ext hsz (hne b hq)).ext hx2 (by simp))⟩
    ·rw[if_neg hgk];obtain⟨n1,n2⟩:=hN g h0 (by omega) hg;have n3:=n2.ext hxb (by simp);exact⟨n1,(n3.ext hsz (hne _ n3)).ext hx2 (by simp)⟩
   ·have fresh:∀q:Int,0<=q->q<(k:Int)->(gi gs q).used=true->nb q≠b:=fun q a1 a2 a3 e=>by
     have:=VM (hN q a1 a2 a3).2;omega
    dsimp only at he
    by_cases hgk:g=(k:Int)
    ·by_cases hgk':g'=(k:Int)
     ·rw[hgk,hgk']
     ·rw[if_pos hgk,if_neg hgk'] at he;exact absurd he.symm (fresh g' h0' (by omega) hg')
    ·by_cases hgk':g'=(k:Int)
     ·rw[if_neg hgk,if_pos hgk'] at he;exact absurd he (fresh g h0 (by omega) hg)
     ·rw[if_neg hgk,if_neg hgk'] at he;exact hinj g g' h0 (by omega) h0' (by omega) hg hg' he
  ·rw[hP g h0 h1]
   by_cases hgk:g=(k:Int)
   ·subst hgk;rw[if_neg (fun hc=>by omega),if_neg (fun hc=>by rw[hu] at hc; exact absurd hc.2 (by decide))]
   ·by_cases hlt2:g<(k:Int)
    ·by_cases hgu:(gi gs g).used=true
     ·rw[if_pos ⟨hlt2,hgu⟩,if_pos ⟨by omega,hgu⟩]
     ·rw[if_neg (fun hc=>hgu hc.2),if_neg (fun hc=>hgu hc.2)]
    ·rw[if_neg (fun hc=>hlt2 hc.1),if_neg (fun hc=>by omega)]
  ·by_cases hgk:g=(k:Int)
   ·subst hgk; rw[hu] at hg; cases hg
   ·obtain⟨n1,n2⟩:=hN g h0 (by omega) hg;exact⟨n1,n2.ext hx2 (by simp)⟩
  ·have e1:g≠(k:Int):=fun e=>by subst e; rw[hu] at hg; cases hg
   have e2:g'≠(k:Int):=fun e=>by subst e; rw[hu] at hg'; cases hg'
   exact hinj g g' h0 (by omega) h0' (by omega) hg hg'
 ·have hge:=Ou hge;have hk8:k=8:=by omega
  subst hk8;intro w2 hx2 _;refine⟨.map (some w2.heap.size),w2.alloc (.map #[] 0),by simp[Instr.makeMap],Tv,?_⟩;have hM0:GN (w2.alloc (.map #[] 0)) w2.heap.size #[]:=⟨⟨0,Array.getElem?_push_size ..⟩,fun e he=>by cases he⟩;have hX2:Q0 [] wr (w2.alloc (.map #[] 0)):=(hX.trans hx2).trans (QV w2 _);have hO2:=(hO.ext0 hx2).ext0 (QV w2 (.map #[] 0))
  have hN2:∀g:Int,0<=g->g<8->(gi gs g).used=true->wr.heap.size<=nb g/\Ur (w2.alloc (.map #[] 0)) (nb g) g (gi gs g).name none:=fun g h0 h1 hg=>
   ⟨(hN g h0 (by omega) hg).1,((hN g h0 (by omega) hg).2.ext hx2 (by simp)).ext (QV w2 _) (by simp)⟩
  have hP2:∀g:Int,0<=g->g<8->gi pl g=if (gi gs g).used=true then some ⟨nb g,0,none⟩ else none:=fun g h0 h1=>by
   rw[hP g h0 h1]
   by_cases hgu:(gi gs g).used=true
   ·rw[if_pos ⟨by omega,hgu⟩,if_pos hgu]
   ·rw[if_neg (fun hc=>hgu hc.2),if_neg hgu]
  have hinj2:∀g g':Int,0<=g->g<8->0<=g'->g'<8->(gi gs g).used=true->(gi gs g').used=true->nb g=nb g'->g=g':=fun g g' a b c d=>hinj g g' a (by omega) c (by omega)
  have hmb:wr.heap.size<=w2.heap.size:=(hX.trans hx2).size;generalize w2.heap.size=mb at hM0 hmb;generalize w2.alloc (.map #[] 0)=w3 at hM0 hX2 hO2 hN2;clear hX hO hN hP hinj
  refine OM 8 1 rfl (fun k w1=>1<=k/\k<=8/\Q0 [] wr w1/\Jp NN 1 Y3 wr.heap.size w1 (some ⟨wr.heap.size,0,none⟩) 8 pl/\
    (∀g:Int,0<=g->g<8->(gi gs g).used=true->Ur w1 (nb g) g (gi gs g).name (if g<(k:Int) then zji gs nb g else none))/\
    (∃es,GN w1 mb es/\(∀e∈es.toList,∃g:Int,1<=g/\g<(k:Int)/\(gi gs g).used=true/\e.key=Jz (gi gs g).parent (gi gs g).name)/\∀g:Int,1<=g->g<(k:Int)->(gi gs g).used=true->∃e∈es.toList,e.key=Jz (gi gs g).parent (gi gs g).name)/\
    (∀g:Int,1<=g->g<(k:Int)->(gi gs g).used=true->JC (gi gs g).name=true/\Q6 gs (gi gs g).parent=true/\∀h:Int,1<=h->h<g->(gi gs h).used=true->¬((gi gs h).parent=(gi gs g).parent/\(gi gs h).name=(gi gs g).name)))
   (fun w4 hx4 _=>⟨Nat.le_refl _,by omega,hX2.trans hx4,hO2.ext0 hx4,fun g h0 h1 hg=>?_,⟨#[],hM0.ext hx4 (by simp),(fun e he=>by cases he),fun g h1 h2=>by omega⟩,fun g h1 h2=>by omega⟩) fun k w4 _ ⟨hk1,hk,hX,hO,hN,⟨es,hM,hE1,hE2⟩,hT⟩=>⟨fun hlt=>?_,fun hge=>?_⟩
  ·have:=(hN2 g h0 h1 hg).2.ext hx4 (by simp)
   by_cases hg1:g<((1:Nat):Int)
   ·rw[if_pos hg1];have:g=0:=by omega
    subst this;exact this
   ·rw[if_neg hg1]; exact this
  ·have hlt:=Ot hlt;have hr:=(h.ext hx).ext hX;have hk0:(0:Int)<=(k:Int):=by omega
   have hkl:(k:Int)<(pl.length:Int):=by omega
   have hgl:(k:Int)<(gs.length:Int):=by omega
   have hPl:=hO.rd Ok.len (bs:=[]) (by simp);have hix:=hO.ix hk0 hkl;rw[hpl] at hix;have hXw:Q0 [] w w4:=hx.trans hX;refine⟨hix,gi pl (k:Int),hPl k hk0 hkl,fun hno=>?_,fun hyes=>?_⟩
   ·have hu:¬(gi gs (k:Int)).used=true:=fun hu=>by rw[hP2 k hk0 hlt,if_pos hu] at hno; cases hno
    refine⟨⟨by omega,by omega⟩,fun w5 hx5 _=>Z0 (by omega) ⟨by omega,by omega,hX.trans hx5,hO.ext0 hx5,fun g h0 h1 hg=>?_,⟨es,hM.ext hx5 (by simp),fun e he=>?_,fun g h1 h2 hg=>?_⟩,fun g h1 h2 hg=>?_⟩⟩
    ·have:=(hN g h0 h1 hg).ext hx5 (by simp);have hgk:g≠(k:Int):=fun e=>hu (e▸hg)
     by_cases hg1:g<(k:Int)
     ·rw[if_pos hg1] at this; rw[if_pos (by omega)]; exact this
     ·rw[if_neg hg1] at this; rw[if_neg (by omega)]; exact this
    ·obtain⟨g,a1,a2,a3⟩:=hE1 e he;exact⟨g,a1,by omega,a3⟩
    ·have hgk:g≠(k:Int):=fun e=>hu (e▸hg)
     exact hE2 g h1 (by omega) hg
    ·have hgk:g≠(k:Int):=fun e=>hu (e▸hg)
     exact hT g h1 (by omega) hg
   ·have hu:(gi gs (k:Int)).used=true:=by
     cases hq:(gi gs (k:Int)).used with
     | true=>rfl
     | false=>rw[hP2 k hk0 hlt,hq] at hyes; cases hyes
    have hpk:gi pl (k:Int)=some ⟨nb (k:Int),0,none⟩:=by rw[hP2 k hk0 hlt,if_pos hu]
    refine⟨hr.ix hk0 hgl,_,hr.name hk0 hgl,_,y7,fun _=>hr.ix hk0 hgl,(gi gs (k:Int)).parent,fun _=>hr.parent hk0 hgl,Q6 gs (gi gs (k:Int)).parent,fun _=>PL hr hl,fun q=>?_,fun q=>?_⟩
    ·intro w5 hx5;refine bad w5 (hXw.trans hx5) fun ht=>?_
     rw[ht.nm k (by omega) hlt hu,ht.par k (by omega) hlt hu] at q;cases q
    ·simp only[Bool.or_eq_false_iff,Bool.not_eq_false'] at q;obtain⟨qn,qp⟩:=q;obtain⟨p0,p1,pu⟩:=Q5.1 qp;have p8:(gi gs (k:Int)).parent<8:=by omega
     have hixp:=hO.ix p0 (by omega);rw[hpl] at hixp;have hnk:=hN k hk0 hlt hu;rw[if_neg (by omega)] at hnk;have hpp:gi pl (gi gs (k:Int)).parent=some ⟨nb (gi gs (k:Int)).parent,0,none⟩:=by rw[hP2 _ p0 p8,if_pos pu]
     have hnb:nb (k:Int)∉Qy (some (⟨wr.heap.size,0,none⟩:Addr)):=fun hm=>by
      simp only[Qy,List.mem_singleton] at hm;rcases hO with ⟨hc,_⟩ | ⟨b',sp,he,_,h2,_⟩
      ·cases hc
      ·simp only[Option.some.injEq,Addr.mk.injEq,and_true] at he;subst he;unfold Ur at hnk;rw[hm,h2] at hnk;simp only[Option.some.injEq,Obj.cells.injEq] at hnk;exact absurd hnk.2.1 (by decide)
     have hWr:YX [] w4 (some ⟨nb (k:Int),0,none⟩) (0+2) 1:=BW hnk (by simp) (by show 0+(0+2+1)<=3; omega);have hsx:Q0 [nb (k:Int)] w4 (sto w4 (some ⟨nb (k:Int),0,none⟩) (0+2) [.pointer (some ⟨nb (gi gs (k:Int)).parent,0,none⟩)]):=Pc fun a ha=>by cases ha; simp
     have hbk:wr.heap.size<=nb (k:Int):=(hN2 k hk0 hlt hu).1;have hXs:Q0 [] wr (sto w4 (some ⟨nb (k:Int),0,none⟩) (0+2) [.pointer (some ⟨nb (gi gs (k:Int)).parent,0,none⟩)]):=hX.fresh hsx fun x hm=>.inl (by rw[List.mem_singleton.1 hm]; exact hbk)
     have hrs:=(h.ext hx).ext hXs;have hup:zji gs nb (k:Int)=some ⟨nb (gi gs (k:Int)).parent,0,none⟩:=by unfold zji; rw[if_neg (by omega)]
     have hNs:∀g:Int,0<=g->g<8->(gi gs g).used=true->Ur (sto w4 (some ⟨nb (k:Int),0,none⟩) (0+2) [.pointer (some ⟨nb (gi gs (k:Int)).parent,0,none⟩)]) (nb g) g (gi gs g).name (if g<((k+1:Nat):Int) then zji gs nb g else none):=fun g h0 h1 hg=>by
      by_cases hgk:g=(k:Int)
      ·subst hgk;rw[if_pos (by omega),hup];exact L7 hnk
      ·have hne:nb g≠nb (k:Int):=fun e=>hgk (hinj2 g k h0 h1 hk0 hlt hg hu e)
       have:=(hN g h0 h1 hg).ext hsx (by simpa using hne)
       by_cases hg1:g<(k:Int)
       ·rw[if_pos hg1] at this; rw[if_pos (by omega)]; exact this
       ·rw[if_neg hg1] at this; rw[if_neg (by omega)]; exact this
     have hOs:Jp NN 1 Y3 wr.heap.size (sto w4 (some ⟨nb (k:Int),0,none⟩) (0+2) [.pointer (some ⟨nb (gi gs (k:Int)).parent,0,none⟩)]) (some ⟨wr.heap.size,0,none⟩) 8 pl:=hO.ext hsx fun b hm hm'=>hnb (by rw[List.mem_singleton.1 hm'] at hm; exact hm)
     have hMs:GN (sto w4 (some ⟨nb (k:Int),0,none⟩) (0+2) [.pointer (some ⟨nb (gi gs (k:Int)).parent,0,none⟩)]) mb es:=hM.ext hsx fun hm=>by
      rw[List.mem_singleton] at hm;obtain⟨⟨cc,hc⟩,_⟩:=hM;unfold Ur at hnk;rw[<-hm,hc] at hnk;cases hnk
     refine⟨hix,some ⟨nb (k:Int),0,none⟩,by rw[<-hpk]; exact hPl k hk0 hkl,hr.ix hk0 hgl,_,hr.parent hk0 hgl,hixp,some ⟨nb (gi gs (k:Int)).parent,0,none⟩,by rw[<-hpp]; exact hPl _ p0 (by omega),rfl,hWr,?_⟩;generalize sto w4 (some ⟨nb (k:Int),0,none⟩) (0+2) [.pointer (some ⟨nb (gi gs (k:Int)).parent,0,none⟩)]=w5 at hXs hrs hNs hOs hMs;refine⟨hrs.ix hk0 hgl,_,hrs.parent hk0 hgl,hrs.ix hk0 hgl,_,hrs.name hk0 hgl,fun b1 hb1=>⟨hrs.name hk0 hgl,hrs.parent hk0 hgl,fun w6 hx6 hs6=>?_⟩⟩;have hM6:=hMs.ext hx6 (by simp);obtain⟨v,okk,hlook,hok⟩:=zpw hM6 (gi gs (k:Int)).parent (gi gs (k:Int)).name;have hb1':∀x∈[b1],wr.heap.size<=x\/x∈([]:List Nat):=fun x hm=>.inl (by rw[List.mem_singleton.1 hm]; exact Nat.le_trans hXs.size hb1)
     refine⟨v,okk,w6,hlook,fun _ _=>rfl,fun hdup=>?_,fun hnew w7 hx7 hs7=>?_⟩
     ·intro w7 hx7;refine bad w7 (hx.trans (((hXs.trans hx6).fresh hx7 hb1'))) fun ht=>?_
      obtain⟨e,he,hk⟩:=hok.1 hdup;obtain⟨g,a1,a2,a3,a4⟩:=hE1 e he;rw[a4] at hk;simp only[Jz,Value.agg.injEq,List.toArray_inj,Array.mk.injEq,List.cons.injEq,Value.int.injEq,true_and,Value.string.injEq,and_true] at hk;exact ht.uniq k g a1 a2 hlt hu a3 hk
     ·have hM7:=hM6.ext hx7 (fun hm=>by
       rw[List.mem_singleton] at hm;obtain⟨⟨cc,hc⟩,_⟩:=hMs;have:=VM hc;omega)
      have hnok:¬∃e∈es.toList,e.key=Jz (gi gs (k:Int)).parent (gi gs (k:Int)).name:=fun hc=>by
       have:=hok.2 hc;rw[hnew] at this; cases this
      obtain⟨w8,cc,hupd,hx8,hM8⟩:=zso hM7 (fun e he hk=>hnok ⟨e,he,hk⟩) (k:Int);have hmx:∀x∈[mb],wr.heap.size<=x\/x∈([]:List Nat):=fun x hm=>.inl (by rw[List.mem_singleton.1 hm]; exact hmb)
      have hX7:Q0 [] wr w7:=(hXs.trans hx6).fresh hx7 hb1';have hX8:Q0 [] wr w8:=hX7.fresh hx8 hmx;refine⟨w8,hupd,fun x hm=>hx8.block x (hs7 x hm) (fun hm'=>?_),⟨by omega,by omega⟩,fun w9 hx9 hs9=>Z0 (by omega) ⟨by omega,by omega,hX8.fresh hx9 hb1',?_,fun g h0 h1 hg=>?_,⟨_,hM8.ext hx9 ?_,fun e he=>?_,fun g h1 h2 hg=>?_⟩,fun g h1 h2 hg=>?_⟩⟩
      ·rw[List.mem_singleton] at hm hm';subst hm';obtain⟨⟨c2,hc⟩,_⟩:=hMs;have:=VM hc;omega
      ·have hnm:∀b∈Qy (some (⟨wr.heap.size,0,none⟩:Addr)),b∉[mb]:=fun b hm hm'=>by
        simp only[Qy,List.mem_singleton] at hm hm';rcases hOs with ⟨hc,_⟩ | ⟨b',sp,he,_,h2,_⟩
        ·cases hc
        ·simp only[Option.some.injEq,Addr.mk.injEq,and_true] at he;subst he;obtain⟨⟨c2,hc⟩,_⟩:=hMs;rw[<-hm',hm,h2] at hc;cases hc
       have hn1:∀b∈Qy (some (⟨wr.heap.size,0,none⟩:Addr)),b∉[b1]:=fun b hm hm'=>by
        have:=(hOs.lt b hm).2;rw[List.mem_singleton] at hm';omega
       exact(((hOs.ext0 hx6).ext hx7 hn1).ext hx8 hnm).ext hx9 hn1
      ·have hq:=hNs g h0 h1 hg;have hql:=VM hq;have n1:nb g∉[b1]:=fun hm=>by rw[List.mem_singleton] at hm; omega
       have n2:nb g∉[mb]:=fun hm=>by
        rw[List.mem_singleton] at hm;obtain⟨⟨c2,hc⟩,_⟩:=hMs;unfold Ur at hq;rw[hm,hc] at hq;cases hq
       exact(((hq.ext hx6 (by simp)).ext hx7 n1).ext hx8 n2).ext hx9 n1
      ·intro hm;rw[List.mem_singleton] at hm;obtain⟨⟨c2,hc⟩,_⟩:=hMs;have:=VM hc;omega
      ·rw[Array.toList_push,List.mem_append] at he;rcases he with he | he
       ·obtain⟨g,a1,a2,a3⟩:=hE1 e he;exact⟨g,a1,by omega,a3⟩
       ·rw[List.mem_singleton] at he;subst he;exact⟨k,by omega,by omega,hu,rfl⟩
      ·rw[Array.toList_push]
       by_cases hgk:g=(k:Int)
       ·subst hgk;exact⟨_,List.mem_append_right _ (List.mem_singleton.2 rfl),rfl⟩
       ·obtain⟨e,he,hk⟩:=hE2 g h1 (by omega) hg;exact⟨e,List.mem_append_left _ he,hk⟩
      ·by_cases hgk:g=(k:Int)
       ·subst hgk;refine⟨qn,qp,fun q a1 a2 a3 a4=>hnok ?_⟩;obtain⟨e,he,hk⟩:=hE2 q a1 a2 a3;exact⟨e,he,by rw[hk,a4.1,a4.2]⟩
       ·exact hT g h1 (by omega) hg
  ·have hge:=Ou hge;have hk8:k=8:=by omega
   subst hk8;have hXw:Q0 [] w w4:=hx.trans hX
   have hNs:Ns [] w4 gs nb:=⟨fun x hu=>by
     obtain⟨a1,a2,a3⟩:=Q5.1 hu;have:=hN x a1 (by omega) a3;rw[if_pos (by omega)] at this;exact this.cells (by simp),fun x hz hu=>by
     obtain⟨a1,a2,a3⟩:=Q5.1 hu;exact(hT x (by omega) (by omega) a3).2.1⟩
   refine OM 8 0 rfl (fun j w5=>j<=8/\Q0 [] w4 w5/\∀g:Int,0<=g->g<(j:Int)->(gi gs g).used=true->0<=dep 3 gs g) (fun w5 hx5 _=>⟨Nat.zero_le _,hx5,fun g h0 h1=>by omega⟩) fun j w5 _ ⟨hj,hX5,hD⟩=>⟨fun hlt=>?_,fun hge=>?_⟩
   ·have hlt:=Ot hlt;have hj0:(0:Int)<=(j:Int):=by omega
    have hjl:(j:Int)<(pl.length:Int):=by omega
    have hO5:=hO.ext0 hX5;have hix:=hO5.ix hj0 hjl;rw[hpl] at hix;refine⟨hix,gi pl (j:Int),hO5.rd Ok.len (by simp) j hj0 hjl,Ar gs 3 (j:Int) 0,fun hs=>?_,fun hb=>?_,fun hb=>⟨⟨by omega,by omega⟩,fun w6 hx6 _=>Z0 (by omega) ⟨by omega,hX5.trans hx6,fun g h0 h1 hg=>?_⟩⟩⟩
    ·have hu:(gi gs (j:Int)).used=true:=by
      cases hq:(gi gs (j:Int)).used with
      | true=>rfl
      | false=>rw[hP2 j hj0 hlt,hq] at hs; cases hs
     rw[hP2 j hj0 hlt,if_pos hu];exact zrw (hNs.ext hX5) (Q5.2 ⟨hj0,by omega,hu⟩)
    ·intro w6 hx6;refine bad w6 ((hXw.trans hX5).trans hx6) fun ht=>?_
     simp only[Bool.and_eq_true,decide_eq_true_eq] at hb
     have hu:(gi gs (j:Int)).used=true:=by
      cases hq:(gi gs (j:Int)).used with
      | true=>rfl
      | false=>rw[hP2 j hj0 hlt,hq] at hb; cases hb.1
     have hd:0<=dep 3 gs (j:Int):=by
      by_cases hj0':(j:Int)=0
      ·rw[hj0',Y8]; omega
      ·exact ht.dp j (by omega) hlt hu
     have:=hb.2;unfold Ar at this;rw[if_neg (by omega)] at this;omega
    ·by_cases hgj:g=(j:Int)
     ·subst hgj;have hpj:gi pl (j:Int)=some ⟨nb (j:Int),0,none⟩:=by rw[hP2 j hj0 hlt,if_pos hg]
      rw[hpj] at hb;simp only[Option.isNone_some,Bool.not_false,Bool.true_and,decide_eq_false_iff_not] at hb;unfold Ar at hb;have:=VN gs 3 (j:Int)
      split at hb <;> omega
     ·exact hD g h0 (by omega) hg
   ·have hge:=Ou hge;have hj8:j=8:=by omega
    subst hj8;have ht:ZU gs:=⟨hl8,ru,rp,rn,fun g h1 h2 hg=>(hT g h1 h2 hg).1,fun g h1 h2 hg=>(hT g h1 h2 hg).2.1,fun g h1 h2 hg=>hD g (by omega) h2 hg,fun g q a1 a2 a3 a4 a5=>(hT g (by omega) a3 a4).2.2 q a1 a2 a5⟩;intro w6 hx6;refine⟨some ⟨wr.heap.size,0,none⟩,8,8,true,rfl,(UT.2 ht).symm,(hXw.trans hX5).trans hx6,fun h=>(by cases h),fun _=>⟨rfl,pl,nb,hpl,?_,hP2,(hNs.ext hX5).ext hx6⟩⟩;exact((hO.ext0 hX5).ext0 hx6).rd Ok.len (by simp)
theorem y8{bs:List Nat}(h:Mw bs w o gs ms)(hl:gs.length<=maxLen):PX bs Oo #[.slice o gs.length c] w (.bool (Pf gs)):=by
 refine HU fun wr hx=>CZ o gs.length c (R:=fun v w'=>v=.bool (Pf gs)/\Q0 [] wr w') ?_
 have h:=(h.ext hx).less (cs:=[]) (by simp);intro w1 hx1 _;refine(zrx (h.ext hx1) hl).mono fun e w2 ⟨o',L,C,ok,he,hok,hx2,_⟩=>⟨_,_,_,_,he,Tv,fun w3 hx3=>⟨by rw[hok],(hx1.trans hx2).trans hx3⟩⟩
end
theorem X1{n k:Int}{w:Wo}{bs:List Nat}:PX bs ZF #[.int .i64 n,.int .i64 k] w (.int .i64 (Z3 n k)):=
 Gw n k fun wr hx=>by
  refine⟨_,J1,_,fun _=>Qj,fun h=>?_,fun h=>?_⟩
  ·congr 1; unfold Z3; rw[if_neg]; intro h2; simp only[Bool.and_eq_true] at h2; simp[h2] at h
  ·have h2:Yo k 1 20=true/\Yo n 0 100000000=true:=by simpa using h
   rw[Qo,Qo] at h2;have hm:=zef h2.2.1 h2.2.2 h2.1.1 h2.1.2;have hs:=C7 h2.1.1 h2.1.2;unfold zcj at hm hs;refine⟨⟨by omega,Jm (by omega) (by omega)⟩,Jm (by omega) (by omega),?_⟩;rw[TC h2.2.1 h2.2.2 h2.1.1 h2.1.2]; rfl
theorem OI{k:Int}{w:Wo}{bs:List Nat}:PX bs XX #[.int .i64 k] w (.int .i64 (Zq k)):=
 AB k fun wr hx=>⟨_,X1,rfl⟩
def ZX(a b:Int):Int:=if a<b then a else b
def zea(a b:Int):Int:=if a>b then a else b
theorem XS{a b:Int}{w:Wo}{bs:List Nat}:PX bs Yn #[.int .i64 a,.int .i64 b] w (.int .i64 (ZX a b)):=
 zej a b fun wr hx=>⟨fun h=>by rw[ZX,if_pos (Ot h)],fun h=>by rw[ZX,if_neg (Ou h)]⟩
theorem Vo{a b:Int}{w:Wo}{bs:List Nat}:PX bs Ym #[.int .i64 a,.int .i64 b] w (.int .i64 (zea a b)):=
 zei a b fun wr hx=>⟨fun h=>by rw[zea,if_pos (Ot h)],fun h=>by rw[zea,if_neg (Ou h)]⟩
def X3(l k:Int):Int:=if (if Zq k<l then Zq k else l)>0 then (if Zq k<l then Zq k else l) else 0
theorem ZN(k:Int):0<=Zq k/\Zq k<=34686091440:=by
 unfold Zq
 by_cases h:1<=k/\k<=20
 ·rw[TC (by decide) (by decide) h.1 h.2];have:=C7 h.1 h.2;omega
 ·rw[Lb (by omega)]; omega
theorem ZQ(l k:Int):0<=X3 l k/\X3 l k<=Zq k:=by
 have:=ZN k;unfold X3; by_cases h1:Zq k<l <;> simp only[h1,if_true,if_false] <;> split <;> omega
theorem Pv{l k:Int}{w:Wo}{bs:List Nat}:PX bs Jx #[.int .i64 l,.int .i64 k] w (.int .i64 (X3 l k)):=
 zau l k fun wr hx=>by
  have hr:=ZN k;refine⟨_,J1,fun h=>?_,fun h=>⟨_,Vo,_,OI,_,XS,?_⟩⟩
  ·have h:Yo k 1 20=false:=by simpa using h
   rw[zs5] at h;have h0:Zq k=0:=Lb (by omega)
   congr 1; unfold X3; rw[h0]; by_cases h1:0<l <;> simp only[h1,if_true,if_false] <;> (repeat' split) <;> omega
  ·congr 1; unfold X3 ZX zea; by_cases h1:Zq k<l <;> simp only[h1,if_true,if_false] <;> by_cases h2:l>0 <;> simp only[h2,if_true,if_false] <;> (repeat' split) <;> omega
def Qe(n:Int):Int:=if Yo n (-10) 9 then 10-n else 0
theorem MC{k:Int}{w:Wo}{bs:List Nat}:PX bs JI #[.int .i64 k] w (.int .i64 (Qe k)):=
 Bj k fun wr hx=>by
  refine⟨_,LG,fun h=>?_,fun h=>?_⟩
  ·have h:Yo k (-10) 9=false:=by simpa using h
   rw[Qe,h]; rfl
  ·have h:Yo k (-10) 9=true:=by simpa using h
   have h2:=Qo.1 h;refine⟨Jm (by omega) (by omega),?_⟩;rw[Qe,h]; rfl
structure JF (b:Nat) (c:OA) (L N:Nat) (w:Wo):Prop where
 hd:∃(C:Nat) (p:Int),w.heap[b]? = some (.cells [.slice c L C,.int .i64 p].toArray Ti (0,0))/\0<=p/\p<=N
 bytes:∀i<L,∃(a:Addr) (x:Int),c=some a/\a.block≠b/\0<=x/\x<=255/\w.cell? (a.add i)=some (.int .u8 x)
theorem JF.ext{b:Nat}{c:OA}{L N:Nat}{w w':Wo}{bs:List Nat}(h:JF b c L N w)(hx:Q0 bs w w')(hb:b∉bs)(hc:∀a,c=some a->a.block∉bs\/L=0):JF b c L N w':=by
 obtain⟨⟨C,p,h1,h2,h3⟩,hby⟩:=h;refine⟨⟨C,p,ZP h1 hx hb,h2,h3⟩,fun i hi=>?_⟩;obtain⟨a,x,ha,hne,hx1,hx2,hx3⟩:=hby i hi;refine⟨a,x,ha,hne,hx1,hx2,?_⟩
 have hbk:a.block∉bs:=by
  rcases hc a ha with h | h
  ·exact h
  ·omega
 obtain⟨a',e,_,h''⟩:=(show Ju bs w c i (.int .u8 x) from ⟨a,ha,hbk,hx3⟩).ext hx;rw[ha] at e; cases e; exact h''
theorem JF.ext0{b:Nat}{c:OA}{L N:Nat}{w w':Wo}(h:JF b c L N w)(hx:Q0 [] w w'):JF b c L N w':=h.ext hx (by simp) (fun _ _=>.inl (by simp))
theorem JF.mono{b:Nat}{c:OA}{L N M:Nat}{w:Wo}(h:JF b c L N w)(hm:N<=M):JF b c L M w:=by
 obtain⟨⟨C,p,h1,h2,h3⟩,hby⟩:=h;exact⟨⟨C,p,h1,h2,by omega⟩,hby⟩
theorem JF.lt{b:Nat}{c:OA}{L N:Nat}{w:Wo}(h:JF b c L N w):b<w.heap.size:=by
 obtain⟨⟨C,p,h1,h2,h3⟩,hby⟩:=h;exact VM h1
theorem JF.ltc{b:Nat}{c:OA}{L N:Nat}{w:Wo}(h:JF b c L N w)(a:Addr)(ha:c=some a):a.block<w.heap.size\/L=0:=by
 rcases Nat.eq_zero_or_pos L with h0 | h0
 ·exact .inr h0
 ·obtain⟨a',x,ha',hne,hx1,hx2,hx3⟩:=h.bytes 0 h0;rw[ha] at ha'; cases ha';have:=World.block_lt_of_cell? w _ hx3;rw[Zl] at this;exact .inl this
theorem JF.extN{b:Nat}{c:OA}{L N M:Nat}{w0 w w':Wo}{bs:List Nat}(h0:JF b c L M w0)(h:JF b c L N w)(hx:Q0 bs w w')(hb:∀x∈bs,w0.heap.size<=x):JF b c L N w':=
 h.ext hx (fun hm=>by have:=hb _ hm; have:=h0.lt; omega) fun a ha=>by
  rcases h0.ltc a ha with hl | hl
  ·exact .inl fun hm=>by have:=hb _ hm; omega
  ·exact .inr hl
def GO(n v:Int):Prop:=0<=v/\(n<1->v=0)/\(1<=n->v<n)
theorem zb4{x n:Int}(hx:0<=x)(hn:1<=n):GO n (Int.tmod x n):=by
 refine⟨Int.tmod_nonneg _ hx,by omega,fun _=>Int.tmod_lt_of_pos _ (by omega)⟩
theorem zjl{x y:Int}(h1:0<=x)(h2:x<=9223372036854775807)(h3:0<=y)(h4:y<=9223372036854775807):0<=Vy .xor .i64 x y:=by
 have hlt:(BitVec.ofInt 64 x ^^^ BitVec.ofInt 64 y).toNat<2 ^ 63:=by
  rw[BitVec.toNat_xor];refine Nat.xor_lt_two_pow ?_ ?_
  ·rw[BitVec.toNat_ofInt]; omega
  ·rw[BitVec.toNat_ofInt]; omega
 have h:=Qn.wrap (k:=.i64) (z:=((BitVec.ofInt 64 x ^^^ BitVec.ofInt 64 y).toNat:Int)) (Jm (by omega) (by omega));show 0<=IntKind.i64.wrap ((BitVec.ofInt 64 x ^^^ BitVec.ofInt 64 y).toNat:Int);rw[h]; omega
theorem Gk{b:Nat}{c:OA}{L N:Nat}{w:Wo}{n:Int}(h:JF b c L N w)(hN:N<=1000000000000) :
  Cz Q1 #[.pointer (some ⟨b,0,none⟩),.int .i64 n] w fun e w'=>∃v,e=.returned (.int .i64 v)/\GO n v/\JF b c L (N+1) w'/\Q0 [b] w w':=by
 refine(Hn (some ⟨b,0,none⟩) n (R:=fun v w'=>∃x,v=.int .i64 x/\GO n x/\JF b c L (N+1) w'/\Q0 [b] w w') ?_).mono fun e w' ⟨v,he,x,hv,h1,h2,h3⟩=>⟨x,by rw[he,hv],h1,h2,h3⟩
 obtain⟨C,p,hh,hp0,hpN⟩:=h.hd;have hs:=L7 (k:=0) (n:=1) (vs:=[.int .i64 (p+1)]) hh;have hxt:Q0 [b] w (sto w (some ⟨b,0,none⟩) 1 [.int .i64 (p+1)]):=Pc fun a ha=>by cases ha; exact List.mem_singleton.2 rfl
 generalize hw1:sto w (some ⟨b,0,none⟩) 1 [.int .i64 (p+1)]=w1 at hs hxt;have hs:w1.heap[b]? = some (.cells [.slice c L C,.int .i64 (p+1)].toArray Ti (0,0)):=hs;have hc:Q2 [] w1 (some ⟨b,0,none⟩) (0+0) [.slice c L C]:=UO hs (by simp) rfl;have hpp:Q2 [] w1 (some ⟨b,0,none⟩) (0+1) [.int .i64 (p+1)]:=UO hs (by simp) rfl
 have hby:∀i:Int,0<=i->i<L->∃x:Int,0<=x/\x<=255/\c.isSome=true/\Q2 [] w1 c (Int.toNat i*1) [.int .u8 x]:=fun i h0 hi=>by
  obtain⟨a,x,ha,hne,hx1,hx2,hx3⟩:=h.bytes i.toNat (by omega);refine⟨x,hx1,hx2,by rw[ha]; rfl,?_⟩;have:=(show Ju [b] w c i.toNat (.int .u8 x) from ⟨a,ha,by simpa using hne,hx3⟩).ext hxt;rw[Nat.mul_one];exact Ut (this.less (by simp))
 have fin:∀(v:Int),GO n v->∀wr,Q0 [] w1 wr->∃x,Value.int .i64 v=.int .i64 x/\GO n x/\JF b c L (N+1) wr/\Q0 [b] w wr:=fun v hv wr hr=>
  ⟨v,rfl,hv,JF.ext0 ⟨⟨C,p+1,hs,by omega,by omega⟩,fun i hi=>by
   obtain⟨a,x,ha,hne,hx1,hx2,hx3⟩:=h.bytes i hi;have:=(show Ju [b] w c i (.int .u8 x) from ⟨a,ha,by simpa using hne,hx3⟩).ext hxt;obtain⟨a',ha',_,hc'⟩:=this;rw[ha] at ha'; cases ha';exact⟨a,x,ha,hne,hx1,hx2,hc'⟩⟩ hr,hxt.trans hr.of_nil⟩
 refine⟨rfl,p,UO hh (by simp) rfl,Jm (by omega) (by omega),rfl,BW hh (by simp) (by simp),?_⟩;rw[show (0+1:Nat)=1 from rfl,hw1];refine⟨fun _=>rfl,c,L,C,fun _=>hc,fun h=>?_,fun h=>?_⟩
 ·simp only[Bool.or_eq_true,decide_eq_true_eq,beq_iff_eq] at h;refine fin 0 ⟨by omega,by omega,fun hn=>by omega⟩
 ·have h:1<=n/\L≠0:=by simpa using h
  refine⟨rfl,p+1,hpp,Jm (by omega) (by omega),rfl,c,L,C,hc,fun hlt=>?_,fun hlt=>?_⟩
  ·have hlt:=Ot hlt;obtain⟨x,hx1,hx2,hx3,hx4⟩:=hby (p+1-1) (by omega) hlt;exact⟨rfl,c,L,C,hc,⟨by omega,hlt,hx3⟩,x,hx4,Jm (by omega) (by omega),by omega,fin _ (zb4 hx1 h.1)⟩
  ·have hLp:(0:Int)<(L:Int):=by omega
   have hm1:=Int.tmod_nonneg (L:Int) (show 0<=p+1-1 by omega);have hm2:=Int.tmod_lt_of_pos (p+1-1) hLp;have hm3:=Int.tmod_nonneg (L:Int) (show 0<=(p+1-1)*7+3 by omega);have hm4:=Int.tmod_lt_of_pos ((p+1-1)*7+3) hLp;have hd1:0<=Int.tdiv (p+1-1) (L:Int):=Int.tdiv_nonneg (by omega) (by omega)
   have hd2:Int.tdiv (p+1-1) (L:Int)<=p+1-1:=by
    rw[Int.tdiv_eq_ediv_of_nonneg (by omega)]; exact Int.ediv_le_self _ (by omega)
   obtain⟨x1,hx1,hx2,hx3,hx4⟩:=hby _ hm1 hm2;obtain⟨x2,hy1,hy2,hy3,hy4⟩:=hby _ hm3 hm4;have hX0:0<=(x1*131+x2*1117+(p+1-1)*29)+Int.tdiv (p+1-1) (L:Int)*53:=by omega
   have hX1:(x1*131+x2*1117+(p+1-1)*29)+Int.tdiv (p+1-1) (L:Int)*53<=1000000000000000:=by omega
   have hq0:=Int.tdiv_nonneg hX0 (show (0:Int)<=64 by decide)
   have hq1:Int.tdiv ((x1*131+x2*1117+(p+1-1)*29)+Int.tdiv (p+1-1) (L:Int)*53) 64<=(x1*131+x2*1117+(p+1-1)*29)+Int.tdiv (p+1-1) (L:Int)*53:=by
    rw[Int.tdiv_eq_ediv_of_nonneg hX0]; exact Int.ediv_le_self _ hX0
   refine⟨rfl,c,L,C,hc,rfl,c,L,C,hc,by omega,⟨hm1,hm2,hx3⟩,x1,hx4,Jm (by omega) (by omega),Jm (by omega) (by omega),rfl,c,L,C,hc,Jm (by omega) (by omega),Jm (by omega) (by omega),rfl,c,L,C,hc,by omega,⟨hm3,hm4,hy3⟩,x2,hy4,
    Jm (by omega) (by omega),Jm (by omega) (by omega),Jm (by omega) (by omega),Jm (by omega) (by omega),Jm (by omega) (by omega),rfl,c,L,C,hc,⟨by omega,Jm (by omega) (by omega)⟩,Jm (by omega) (by omega),Jm (by omega) (by omega),⟨by decide,Jm (by omega) (by omega)⟩,by omega,?_⟩
   exact fin _ (zb4 (zjl hX0 (by omega) hq0 (by omega)) h.1)
end Go.Proofs.YtnclplgaicdapaaGreatDoor
namespace Go.Proofs.YtnclplgaicdapaaGreatDoor
open Go.RowKit Go.ChangeShapes
set_option linter.unusedVariables false
set_option linter.unusedSimpArgs false
set_option maxHeartbeats 8000000
section
variable {H:Type}{en:TypeId×Va->H}{w:Wo}{base:Nat}{spare:Nat->Bool}{held:Bool}{fuel:Nat}{cs:List Va}{x:DataW H×List MemPlace}
structure MW where
 cO:OA
 cC:Nat
 tO:OA
 tC:Nat
 gO:OA
 gC:Nat
 ms:Nat->MG
def Qa(W:Q7)(m:MW):List Va:=[.int .i64 W.now,.slice m.cO W.cpus.length m.cC,.slice m.tO W.tasks.length m.tC,.slice m.gO W.groups.length m.gC]
structure YZ (bs:List Nat) (w:Wo) (W:Q7) (m:MW):Prop where
 c:zu8 bs w m.cO W.cpus
 t:zqo bs w m.tO W.tasks
 g:Mw bs w m.gO W.groups m.ms
theorem YZ.ext{bs:List Nat}{w w':Wo}{W:Q7}{m:MW}(h:YZ bs w W m)(hx:Q0 bs w w'):YZ bs w' W m:=⟨h.c.ext hx,h.t.ext hx,h.g.ext hx⟩
theorem YZ.less{bs cs:List Nat}{w:Wo}{W:Q7}{m:MW}(h:YZ bs w W m)(hs:∀x∈cs,x∈bs):YZ cs w W m:=⟨h.c.less hs,h.t.less hs,h.g.less hs⟩
theorem YZ.wide{bs cs:List Nat}{w:Wo}{W:Q7}{m:MW}(h:YZ bs w W m)(hs:∀x∈cs,x∈bs\/w.heap.size<=x):YZ cs w W m:=⟨h.c.wide hs,h.t.wide hs,h.g.wide hs⟩
end
end Go.Proofs.YtnclplgaicdapaaGreatDoor
namespace Go.Proofs.YtnclplgaicdapaaGreatDoor
open Go.RowKit
set_option linter.unusedVariables false
set_option linter.unusedSimpArgs false
set_option maxRecDepth 10000
set_option maxHeartbeats 8000000
def Jq(k:Nat):Int:=1*2 ^ (min (Int.toNat (k:Int)) 64)
def O9(m:Int):Bool:=Yo m 0 15
def Z8(m c:Int):Bool:=(O9 m&&Yo c 0 3)&&(Int.tmod (Int.fdiv m (2 ^ (min (Int.toNat c) 64))) 2==1)
def Vp(a b:Int):Int:=if O9 a=true/\O9 b=true then Vy .and .i64 a b else 0
def Nu(a b:Int):Nat->Int
 | 0=>0
 | k+1=>if (Z8 a (k:Int)&&Z8 b (k:Int))=true then Nu a b k+Jq k else Nu a b k
theorem P8{m:Int}(h:O9 m=true):∃f:Fin 16,m=(f.val:Int):=by
 have:=Qo.1 h;exact⟨⟨m.toNat,by omega⟩,by show m=((m.toNat:Nat):Int); omega⟩
theorem zno:∀a b:Fin 16,Nu (a.val:Int) (b.val:Int) 4=Vy .and .i64 (a.val:Int) (b.val:Int):=by decide +kernel
theorem znp:∀a b:Fin 16,0<=Vy .and .i64 (a.val:Int) (b.val:Int)/\Vy .and .i64 (a.val:Int) (b.val:Int)<=15:=by decide +kernel
theorem znm:∀a b:Fin 16,Vy .and .i64 (a.val:Int) (b.val:Int)=Vy .and .i64 (b.val:Int) (a.val:Int):=by decide +kernel
theorem znl:∀a b c:Fin 16,Vy .and .i64 (Vy .and .i64 (a.val:Int) (b.val:Int)) (c.val:Int)=Vy .and .i64 (a.val:Int) (Vy .and .i64 (b.val:Int) (c.val:Int)):=by decide +kernel
theorem znn:∀(a b:Fin 16) (c:Fin 4),Z8 (Vy .and .i64 (a.val:Int) (b.val:Int)) (c.val:Int)=(Z8 (a.val:Int) (c.val:Int)&&Z8 (b.val:Int) (c.val:Int)):=by decide +kernel
theorem znk:∀a:Fin 16,Vy .and .i64 (a.val:Int) 0=0:=by decide +kernel
theorem BP(a b:Int):O9 (Vp a b)=true:=by
 unfold Vp;split
 ·rename_i h;obtain⟨x,rfl⟩:=P8 h.1;obtain⟨y,rfl⟩:=P8 h.2;exact Qo.2 (znp x y)
 ·exact Qo.2 (by decide)
theorem Tg{a b:Int}(ha:O9 a=true)(hb:O9 b=true):Vp a b=Vy .and .i64 a b:=by unfold Vp; rw[if_pos ⟨ha,hb⟩]
theorem X4{a b:Int}(h:O9 a=false\/O9 b=false):Vp a b=0:=by
 unfold Vp;rw[if_neg];rintro⟨h1,h2⟩;rcases h with h | h
 ·rw[h1] at h; cases h
 ·rw[h2] at h; cases h
theorem Eb(a b:Int):Vp a b=Vp b a:=by
 cases ha:O9 a with
 | false=>rw[X4 (.inl ha),X4 (.inr ha)]
 | true=>
  cases hb:O9 b with
  | false=>rw[X4 (.inr hb),X4 (.inl hb)]
  | true=>
   rw[Tg ha hb,Tg hb ha];obtain⟨x,rfl⟩:=P8 ha;obtain⟨y,rfl⟩:=P8 hb;exact znm x y
theorem KV(a:Int):Vp a 0=0:=by
 cases ha:O9 a with
 | false=>exact X4 (.inl ha)
 | true=>
  rw[Tg ha (by decide)];obtain⟨x,rfl⟩:=P8 ha;exact znk x
theorem zin(a b c:Int):Vp (Vp a b) c=Vp a (Vp b c):=by
 cases hb:O9 b with
 | false=>rw[X4 (a:=a) (.inr hb),X4 (b:=c) (.inl hb),Eb 0 c,KV,KV]
 | true=>
  cases ha:O9 a with
  | false=>rw[X4 (b:=b) (.inl ha),X4 (b:=Vp b c) (.inl ha),Eb,KV]
  | true=>
   cases hc:O9 c with
   | false=>rw[X4 (a:=Vp a b) (.inr hc),X4 (a:=b) (.inr hc),KV]
   | true=>
    have h1:=BP a b;have h2:=BP b c;rw[Tg h1 hc,Tg ha h2,Tg ha hb,Tg hb hc];obtain⟨x,rfl⟩:=P8 ha;obtain⟨y,rfl⟩:=P8 hb;obtain⟨z,rfl⟩:=P8 hc;exact znl x y z
theorem ON{m c:Int}(h:Z8 m c=true):O9 m=true/\0<=c/\c<=3:=by
 unfold Z8 at h;simp only[Bool.and_eq_true] at h;exact⟨h.1.1,Qo.1 h.1.2⟩
theorem zge{a b c:Int}(h:Z8 (Vp a b) c=true):Z8 a c=true/\Z8 b c=true:=by
 have hr:=ON h
 have hz:Z8 0 c=false:=by
  have:c=0\/c=1\/c=2\/c=3:=by omega
  rcases this with rfl | rfl | rfl | rfl <;> decide
 cases ha:O9 a with
 | false=>rw[X4 (.inl ha),hz] at h; cases h
 | true=>
  cases hb:O9 b with
  | false=>rw[X4 (.inr hb),hz] at h; cases h
  | true=>
   rw[Tg ha hb] at h;obtain⟨x,rfl⟩:=P8 ha;obtain⟨y,rfl⟩:=P8 hb;have:=znn x y ⟨c.toNat,by omega⟩;rw[show ((⟨c.toNat,by omega⟩:Fin 4).val:Int)=c by show ((c.toNat:Nat):Int)=c; omega] at this;rw[this] at h
   simpa using h
def Uc(cs:List OY):Nat->Int
 | 0=>0
 | k+1=>if (gi cs (k:Int)).up=true then Uc cs k+Jq k else Uc cs k
def J2(cs:List OY):Int:=Uc cs cs.length
theorem L8(cs:List OY):∀k:Nat,k<=4->0<=Uc cs k/\Uc cs k<Jq k
 | 0,_=>by simp[Uc,Jq]
 | k+1,h=>by
  have ih:=L8 cs k (by omega)
  have hb:Jq (k+1)=2*Jq k/\0<=Jq k:=by
   have:k=0\/k=1\/k=2\/k=3:=by omega
   rcases this with rfl | rfl | rfl | rfl <;> decide
  simp only[Uc]
  split <;> omega
theorem DD{k:Nat}(h:k<=4):1<=Jq k/\Jq k<=16:=by
 have:k=0\/k=1\/k=2\/k=3\/k=4:=by omega
 rcases this with rfl | rfl | rfl | rfl | rfl <;> decide
theorem zsu{cs:List OY}(h:cs.length<=4):O9 (J2 cs)=true:=by
 have:=L8 cs cs.length h;have:=DD h;exact Qo.2 (by unfold J2; omega)
theorem zum:∀(k:Fin 4) (s:Fin 8),(s.val:Int)<Jq k.val->Vy .or .i64 (s.val:Int) (Jq k.val)=(s.val:Int)+Jq k.val:=by decide +kernel
theorem zul{k:Nat}{s:Int}(hk:k<4)(h0:0<=s)(h1:s<Jq k):Vy .or .i64 s (Jq k)=s+Jq k:=by
 have hb:Jq k<=8:=by
  have:k=0\/k=1\/k=2\/k=3:=by omega
  rcases this with rfl | rfl | rfl | rfl <;> decide
 have:=zum ⟨k,hk⟩ ⟨s.toNat,by omega⟩;rw[show ((⟨s.toNat,by omega⟩:Fin 8).val:Int)=s by show ((s.toNat:Nat):Int)=s; omega] at this;exact this h1
theorem zf1:∀(k:Fin 4) (s:Fin 8) (c:Fin 4),(s.val:Int)<Jq k.val->Z8 ((s.val:Int)+Jq k.val) (c.val:Int)=(decide (c.val=k.val)||Z8 (s.val:Int) (c.val:Int)):=by decide +kernel
theorem ze1(cs:List OY){c:Int}:∀k:Nat,k<=4->Z8 (Uc cs k) c=true->c<(k:Int)/\(gi cs c).up=true
 | 0,_,h=>by
  have hr:=ON h;have:c=0\/c=1\/c=2\/c=3:=by omega
  rcases this with rfl | rfl | rfl | rfl <;> exact absurd h (by simp only[Uc]; decide)
 | k+1,hk,h=>by
  have hr:=ON h;have ih:=ze1 cs (c:=c) k (by omega);have hl:=L8 cs k (by omega)
  have hb:Jq k<=8:=by
   have:k=0\/k=1\/k=2\/k=3:=by omega
   rcases this with rfl | rfl | rfl | rfl <;> decide
  simp only[Uc] at h
  split at h
  ·rename_i hu;have:=zf1 ⟨k,by omega⟩ ⟨(Uc cs k).toNat,by omega⟩ ⟨c.toNat,by omega⟩;rw[show ((⟨(Uc cs k).toNat,by omega⟩:Fin 8).val:Int)=Uc cs k by show (((Uc cs k).toNat:Nat):Int)=Uc cs k; omega,show ((⟨c.toNat,by omega⟩:Fin 4).val:Int)=c by show ((c.toNat:Nat):Int)=c; omega] at this;rw[this hl.2] at h;simp only[Bool.or_eq_true,decide_eq_true_eq] at h;rcases h with h | h
   ·have:c=(k:Int):=by omega
    subst this;exact⟨by omega,hu⟩
   ·have:=ih h;exact⟨by omega,this.2⟩
  ·have:=ih h;exact⟨by omega,this.2⟩
def JS:Nat->List ZA->Int->List Int
 | 0,_,_=>[]
 | f+1,gs,g=>if g=0 then [] else g::JS f gs (gi gs g).parent
abbrev QX(gs:List ZA)(g:Int):List Int:=JS 3 gs g
theorem Zc(gs:List ZA)(f:Nat):JS f gs 0=[]:=by cases f <;> simp[JS]
theorem zmp{gs:List ZA}(ht:ZU gs):∀(f f':Nat) (h:Int),Q6 gs h=true->dep 3 gs h<=f->dep 3 gs h<=f'->JS f gs h=JS f' gs h:=by
 intro f
 induction f with
 | zero=>
  intro f' h hu h1 h2
  have hz:h=0:=Decidable.byContradiction fun hz=>by
   obtain⟨_,_,_,d,e,_⟩:=ZZ ht hu hz;omega
  subst hz;rw[Zc,Zc]
 | succ f ih=>
  intro f' h hu h1 h2
  by_cases hz:h=0
  ·subst hz;rw[Zc,Zc]
  ·obtain⟨hp,_,_,d,e,e2,_⟩:=ZZ ht hu hz
   cases f' with
   | zero=>omega
   | succ f'=>
    simp only[JS];rw[if_neg hz,if_neg hz,ih f' (gi gs h).parent hp (by omega) (by omega)]
theorem Yi{gs:List ZA}(ht:ZU gs){h:Int}(hu:Q6 gs h=true)(hz:h≠0):QX gs h=h::QX gs (gi gs h).parent:=by
 obtain⟨hp,_,_,d,e,e2,hd⟩:=ZZ ht hu hz;show JS 3 gs h=_;rw[show JS 3 gs h=if h=0 then [] else h::JS 2 gs (gi gs h).parent from rfl,if_neg hz,zmp ht 2 3 _ hp (by omega) (by omega)]
theorem OO{gs:List ZA}(ht:ZU gs){Q:Int->Prop}(h0:Q 0)(hs:∀h:Int,Q6 gs h=true->h≠0->Q (gi gs h).parent->Q h):∀h:Int,Q6 gs h=true->Q h:=by
 have key:∀(n:Nat) (h:Int),Q6 gs h=true->dep 3 gs h<=n->Q h:=by
  intro n
  induction n with
  | zero=>
   intro h hu hd
   by_cases hz:h=0
   ·subst hz; exact h0
   ·obtain⟨_,_,_,d,e,_⟩:=ZZ ht hu hz;omega
  | succ n ih=>
   intro h hu hd
   by_cases hz:h=0
   ·subst hz; exact h0
   ·obtain⟨hp,_,_,d,e,e2,_⟩:=ZZ ht hu hz;exact hs h hu hz (ih _ hp (by omega))
 intro h hu;have:=VN gs 3 h;exact key 3 h hu (by omega)
theorem zpn{gs:List ZA}(ht:ZU gs){h:Int}(hu:Q6 gs h=true):QX gs h++[0]=h::(QX gs h).map fun x=>(gi gs x).parent:=by
 refine OO ht (Q:=fun h=>QX gs h++[0]=h::(QX gs h).map fun x=>(gi gs x).parent) (by simp[QX,Zc]) (fun h hu hz ih=>?_) h hu;rw[Yi ht hu hz,List.cons_append,ih,List.map_cons]
def UW(gs:List ZA)(g u:Int):Int:=(QX gs g++[0]).foldl (fun s x=>Vp s (gi gs x).cpus) u
def zg6(gs:List ZA)(g:Int):Int:=(QX gs g).foldl (fun s x=>Vp s (gi gs (gi gs x).parent).cpus) (gi gs g).cpus
theorem zfw(f:Int->Int):∀(l:List Int) (m u:Int),Vp (l.foldl (fun s x=>Vp s (f x)) m) u=l.foldl (fun s x=>Vp s (f x)) (Vp u m)
 | [],m,u=>Eb m u
 | x::l,m,u=>by
  simp only[List.foldl_cons];rw[zfw f l,zin]
theorem zp1{gs:List ZA}(ht:ZU gs){g u:Int}(hu:Q6 gs g=true):Vp (zg6 gs g) u=UW gs g u:=by
 unfold zg6 UW;rw[zpn ht hu,List.foldl_cons,List.foldl_map,zfw (fun x=>(gi gs (gi gs x).parent).cpus)]
theorem zks{gs:List ZA}{g u c:Int}(h:Z8 (UW gs g u) c=true):Z8 u c=true:=by
 unfold UW at h
 revert h
 generalize QX gs g++[0]=l
 induction l generalizing u with
 | nil=>exact fun h=>h
 | cons x l ih=>
  intro h;rw[List.foldl_cons] at h;exact(zge (ih h)).1
def Qs(W:Q7)(g mask:Int):Int:=
 if Vp mask (UW W.groups g (J2 W.cpus))≠0 then Vp mask (UW W.groups g (J2 W.cpus)) else if UW W.groups g (J2 W.cpus)≠0 then UW W.groups g (J2 W.cpus) else J2 W.cpus
theorem zm8{W:Q7}{g mask c:Int}(h:Z8 (Qs W g mask) c=true):Z8 (J2 W.cpus) c=true:=by
 unfold Qs at h
 split at h
 ·exact zks (zge h).2
 ·split at h
  ·exact zks h
  ·exact h
def Ub(l:List Int):Nat->Int
 | 0=>0
 | k+1=>Ub l k+gi l (k:Int)
def VC(p:Nat->Bool):Nat->Bool
 | 0=>false
 | k+1=>VC p k||p k
theorem G2{p:Nat->Bool}:∀{n:Nat},VC p n=true↔∃j,j<n/\p j=true
 | 0=>by simp[VC]
 | n+1=>by
  simp only[VC,Bool.or_eq_true,G2 (n:=n)];constructor
  ·rintro (⟨j,hj,h⟩ | h)
   ·exact⟨j,by omega,h⟩
   ·exact⟨n,by omega,h⟩
  ·rintro⟨j,hj,h⟩
   by_cases hjn:j=n
   ·subst hjn; exact .inr h
   ·exact .inl ⟨j,by omega,h⟩
theorem zc5{p:Nat->Bool}{n:Nat}(h:∀j,j<n->p j=false):VC p n=false:=by
 cases ha:VC p n with
 | false=>rfl
 | true=>
  obtain⟨j,hj,hp⟩:=G2.1 ha;rw[h j hj] at hp; cases hp
noncomputable def Jr(P:Prop):Bool:=@decide P (Classical.propDecidable P)
theorem Qh{P:Prop}:Jr P=true↔P:=@decide_eq_true_iff P (Classical.propDecidable P)
theorem G6{P:Prop}:Jr P=false↔¬P:=by
 constructor
 ·intro h hp;rw[Qh.2 hp] at h; cases h
 ·intro h
  cases hb:Jr P with
  | false=>rfl
  | true=>exact absurd (Qh.1 hb) h
theorem O0{b:Bool}{P:Prop}(h:b=true↔P):Value.bool b=.bool (Jr P):=by
 have:b=Jr P:=by
  cases hb:Jr P with
  | true=>exact h.2 (Qh.1 hb)
  | false=>
   cases hc:b with
   | false=>rfl
   | true=>exact absurd (h.1 hc) (G6.1 hb)
 rw[this]
theorem MU{P:Prop}(h:¬P):Value.bool false=.bool (Jr P):=by rw[G6.2 h]
theorem zhj{P:Prop}(h:P):Value.bool true=.bool (Jr P):=by rw[Qh.2 h]
def Q8(W:Q7)(t:Int):P5:=gi W.tasks t
def Qc(W:Q7)(g c:Int):Mx:=gi (gi W.groups g).shelves c
def Zz(v:Int):Bool:=Yo v 0 100000000000000000
theorem ZY{v:Int}:Zz v=true↔0<=v/\v<=100000000000000000:=Qo
def T7(b:Jb):Bool:=((((b.quota==0)&&(b.pool==0))&&(b.spent==0))&&(((b.locals.length:Nat):Int)==0))&&(((b.dry.length:Nat):Int)==0)
structure Vz (b:Jb):Prop where
 q1:1<=b.quota
 q2:b.quota<=10000
 l1:1<=b.locals.length
 l2:b.locals.length<=4
 dl:b.dry.length=b.locals.length
 p1:0<=b.pool
 p2:b.pool<=b.quota
 s1:0<=b.spent
 s2:b.spent<=b.quota
 each:∀c:Int,0<=c->c<(b.locals.length:Int)->0<=gi b.locals c/\gi b.locals c<=b.quota/\(gi b.dry c=true->gi b.locals c=0/\b.pool=0)
 sum:b.pool+b.spent+Ub b.locals b.locals.length=b.quota
structure zhm (W:Q7) (k:Int) (g:ZA):Prop where
 w1:1<=g.weight
 w2:g.weight<=20
 m:O9 g.cpus=true
 m0:g.cpus≠0
 s:Zz g.sum=true
 len:g.shelves.length=W.cpus.length
 root:k=0->g.weight=10/\g.cpus=15/\g.band.quota=0
 none:g.band.quota=0->T7 g.band=true/\g.period=0/\g.next=0
 band:g.band.quota≠0->Vz g.band/\g.band.locals.length=W.cpus.length/\1<=g.period/\g.period<=1000/\W.now<g.next/\g.next-W.now<=g.period
structure zne (g:ZA):Prop where
 p:g.parent=0
 n:g.name=⟨[].toArray⟩
 w:g.weight=0
 c:g.cpus=0
 pe:g.period=0
 ne:g.next=0
 s:g.sum=0
 l:g.shelves.length=0
 b:T7 g.band=true
def Pl(W:Q7)(k:Int):Prop:=((gi W.groups k).used=false->zne (gi W.groups k))/\((gi W.groups k).used=true->zhm W k (gi W.groups k))
structure WA (W:Q7):Prop where
 n1:0<=W.now
 n2:W.now<=100000000000000000
 c1:1<=W.cpus.length
 c2:W.cpus.length<=4
 t:W.tasks.length=12
 tree:ZU W.groups
 ups:J2 W.cpus≠0
 grp:∀k:Int,0<=k->k<8->Pl W k
def UU(W:Q7)(g c:Int):Bool:=decide ((gi W.groups g).band.quota>0)&&gi (gi W.groups g).band.dry c
def TH(W:Q7)(g c:Int)(j:Nat):Bool:=(((gi W.tasks (j:Int)).state==1)&&((gi W.tasks (j:Int)).group==g))&&((gi W.tasks (j:Int)).cpu==c)
def XV(W:Q7)(g c:Int)(j:Nat):Bool:=(decide (1<=j)&&((gi W.groups (j:Int)).used&&((gi W.groups (j:Int)).parent==g)))&&(Qc W (j:Int) c).on
def QP(W:Q7)(g c:Int):Bool:=VC (TH W g c) W.tasks.length||VC (XV W g c) W.groups.length
def U8(W:Q7)(g c:Int):Bool:=(QX W.groups g).all fun x=>(Qc W x c).on
def Zy(W:Q7)(t:Int):Bool:=((Q8 W t).state==1)&&U8 W (Q8 W t).group (Q8 W t).cpu
def PA(v f k:Int):Bool:=decide (v>=f)&&decide (IntKind.i64.wrap (v-f)<=Zq k)
def VJ(W:Q7)(g c ran:Int):Bool:=(QX W.groups g).all fun x=>decide ((Qc W x c).v-(Qc W (gi W.groups x).parent c).floor<=Z3 ran (Qc W x c).w)
def OS(W:Q7)(c:Int):Bool:=
 decide ((Q8 W (gi W.cpus c).cur).v-(Qc W (Q8 W (gi W.cpus c).cur).group c).floor<=Z3 (gi W.cpus c).ran (Qe (Q8 W (gi W.cpus c).cur).nice))&&VJ W (Q8 W (gi W.cpus c).cur).group c (gi W.cpus c).ran
def VK:P5:=⟨0,0,0,0,0,0,0,0,0⟩
structure zqu (W:Q7) (x:P5):Prop where
 st:x.state=1\/x.state=2
 g:Q6 W.groups x.group=true
 n:Qe x.nice≠0
 m:O9 x.mask=true
 m0:x.mask≠0
 v:Zz x.v=true
 s:Zz x.sum=true
 u:Zz x.used=true
 l1:0<=x.load
 l2:x.load<=8000000
 c:Z8 (Qs W x.group x.mask) x.cpu=true
 f:x.state=1->PA x.v (Qc W x.group x.cpu).floor (Qe x.nice)=true
def F5(W:Q7)(t:Int):Prop:=(Q8 W t).state=0/\Q8 W t=VK\/(Q8 W t).state≠0/\zqu W (Q8 W t)
structure Pm (W:Q7) (k c:Int):Prop where
 f:Zz (Qc W k c).floor=true
 v:Zz (Qc W k c).v=true
 s:Zz (Qc W k c).sum=true
 w1:1<=(Qc W k c).w
 w2:(Qc W k c).w<=20
 root:k=0->(Qc W k c).on=false/\(Qc W k c).v=0/\(Qc W k c).w=10
 on:k≠0->(Qc W k c).on=(QP W k c && !UU W k c)
 st:k≠0->(Qc W k c).on=true->PA (Qc W k c).v (Qc W (gi W.groups k).parent c).floor (Qc W k c).w=true
structure De (W:Q7) (c:Int):Prop where
 b:Zz (gi W.cpus c).busy=true
 i:Zz (gi W.cpus c).idle=true
 c1 : -1<=(gi W.cpus c).cur
 c2:(gi W.cpus c).cur<(W.tasks.length:Int)
 no:(gi W.cpus c).cur<0->(gi W.cpus c).ran=0
 yes:0<=(gi W.cpus c).cur->(gi W.cpus c).up=true/\1<=(gi W.cpus c).ran/\(gi W.cpus c).ran<=149/\(Q8 W (gi W.cpus c).cur).cpu=c/\Zy W (gi W.cpus c).cur=true/\OS W c=true
structure Xs (W:Q7):Prop where
 a:WA W
 t:∀t:Int,0<=t->t<12->F5 W t
 s:∀k c:Int,0<=k->k<8->0<=c->c<((gi W.groups k).shelves.length:Int)->Pm W k c
 c:∀c:Int,0<=c->c<(W.cpus.length:Int)->De W c
noncomputable def Qv(W:Q7):Bool:=Jr (Xs W)
section
variable {W:Q7}
theorem WA.gl(h:WA W):W.groups.length=8:=h.tree.len
theorem WA.u(h:WA W){g:Int}(hu:Q6 W.groups g=true):0<=g/\g<8/\zhm W g (gi W.groups g):=by
 obtain⟨a,b,c⟩:=Q5.1 hu;have:=h.gl;exact⟨a,by omega,(h.grp g a (by omega)).2 c⟩
theorem WA.root(h:WA W):Q6 W.groups 0=true:=Q5.2 ⟨by decide,by have:=h.gl; omega,h.tree.ru⟩
theorem WA.sl(h:WA W){g:Int}(hu:Q6 W.groups g=true):(gi W.groups g).shelves.length=W.cpus.length:=(h.u hu).2.2.len
theorem WA.up(h:WA W){g:Int}(hu:Q6 W.groups g=true)(hz:g≠0):Q6 W.groups (gi W.groups g).parent=true:=(ZZ h.tree hu hz).1
theorem WA.dl(h:WA W){g:Int}(hu:Q6 W.groups g=true)(hq:(gi W.groups g).band.quota≠0):(gi W.groups g).band.dry.length=W.cpus.length/\(gi W.groups g).band.locals.length=W.cpus.length:=by
 have hb:=(h.u hu).2.2.band hq;exact⟨by rw[hb.1.dl,hb.2.1],hb.2.1⟩
end
theorem Yp{v:Int}{w:Wo}{bs:List Nat}:PX bs Zx #[.int .i64 v] w (.bool (Zz v)):=zaz v fun wr hx=>⟨_,Qj,rfl⟩
theorem ZB{n:Int}{w:Wo}{bs:List Nat}:PX bs Z4 #[.int .i64 n] w (.int .i64 (Qe n)):=
 Bp n fun wr hx=>⟨_,Qj,fun g=>by
  unfold Qe; rw[if_neg (by simpa using g)],fun g=>by
  have g':Yo n (-10) 9=true:=by simpa using g
  have:=Qo.1 g';refine⟨⟨by omega,by omega⟩,?_⟩;unfold Qe; rw[if_pos g']⟩
theorem YQ{m:Int}{w:Wo}{bs:List Nat}:PX bs ZK #[.int .i64 m] w (.bool (O9 m)):=zav m fun wr hx=>⟨_,Qj,rfl⟩
theorem ZM{m c:Int}{w:Wo}{bs:List Nat}:PX bs Za #[.int .i64 m,.int .i64 c] w (.bool (Z8 m c)):=
 AD m c fun wr hx=>by
  have hr:(O9 m&&Yo c 0 3)=true->0<=c/\c<=3:=fun g=>by
   simp only[Bool.and_eq_true] at g;exact Qo.1 g.2
  exact⟨_,YQ,_,fun _=>Qj,fun g=>by have:=hr g; exact⟨by omega,by show c<=18446744073709551615; omega⟩,fun g=>(hr g).1,fun _=>by decide,rfl⟩
theorem zjt(a b:Int):∀k:Nat,k<=4->0<=Nu a b k/\Nu a b k<Jq k
 | 0,_=>by simp[Nu,Jq]
 | k+1,h=>by
  have ih:=zjt a b k (by omega)
  have hb:Jq (k+1)=2*Jq k/\0<=Jq k:=by
   have:k=0\/k=1\/k=2\/k=3:=by omega
   rcases this with rfl | rfl | rfl | rfl <;> decide
  simp only[Nu]
  split <;> omega
theorem zs6{k:Nat}(h:k<=64):Qn .u64 (k:Int):=⟨by show (0:Int)<=(k:Int); omega,by show (k:Int)<=18446744073709551615; omega⟩
theorem OJ{a b:Int}{w:Wo}{bs:List Nat}:PX bs XY #[.int .i64 a,.int .i64 b] w (.int .i64 (Vp a b)):=
 AC a b fun wr hx=>by
  refine⟨_,YQ,_,fun _=>YQ,fun g=>?_,fun g=>?_⟩
  ·rw[X4]
   simpa using g
  ·simp only[Bool.or_eq_false_iff,Bool.not_eq_false'] at g
   have he:Vp a b=Nu a b 4:=by
    rw[Tg g.1 g.2];obtain⟨x,rfl⟩:=P8 g.1;obtain⟨y,rfl⟩:=P8 g.2;exact(zno x y).symm
   rw[he];refine Tx 4 0 rfl (fun x k=>k<=4/\x=Nu a b k) ⟨by omega,rfl⟩ fun x k ⟨hk,hx⟩=>⟨fun hlt=>?_,fun hge=>?_⟩
   ·have hlt:=Ot hlt;have hb:=DD (k:=k) (by omega);have hl:=zjt a b k hk;have hbd:(1*2 ^ (min (Int.toNat (k:Int)) 64):Int)=Jq k:=rfl;refine⟨_,ZM,_,fun _=>ZM,fun h=>?_,fun h=>?_⟩
    ·rw[hbd];refine⟨zs6 (by omega),⟨by omega,by omega,by omega⟩,⟨by omega,by omega⟩,⟨by omega,by omega⟩,QA (by omega) ⟨by omega,?_⟩⟩;rw[hx]; simp only[Nu]; rw[if_pos h]
    ·refine⟨⟨by omega,by omega⟩,QA (by omega) ⟨by omega,?_⟩⟩;rw[hx]; simp only[Nu]; rw[if_neg (by rw[h]; decide)]
   ·have hge:=Ou hge;have:k=4:=by omega
    subst this;rw[hx]
theorem At{b:Jb}(h:T7 b=true):b.quota=0/\b.pool=0/\b.spent=0/\b.locals.length=0/\b.dry.length=0:=by
 unfold T7 at h;simp only[Bool.and_eq_true,beq_iff_eq] at h;omega
theorem MJ{b:Jb}{m:MG}{w:Wo}{bs:List Nat}:PX bs JO #[.agg (QT b m).toArray] w (.bool (T7 b)):=
 BA b.quota b.pool b.spent m.lO b.locals.length m.lC m.dO b.dry.length m.dC fun wr hx=>fun _ _=>rfl
theorem LI{b:Jb}{m:MG}{w:Wo}{bs:List Nat}(h1:zfa bs w m.lO b.locals)(h2:zjp bs w m.dO b.dry)(hl:b.locals.length<=maxLen):PX bs V8 #[.agg (QT b m).toArray] w (.bool (Jr (Vz b))):=
 zat b.quota b.pool b.spent m.lO b.locals.length m.lC m.dO b.dry.length m.dC fun wr hx=>by
  have h1:=(h1.ext hx).less (cs:=[]) (by simp);have h2:=(h2.ext hx).less (cs:=[]) (by simp);intro _ _;refine⟨_,Qj,_,fun _=>Qj,_,fun _=>Qj,_,fun _=>Qj,fun g=>MU fun p=>?_,fun g=>?_⟩
  ·rw[Qo.2 ⟨p.q1,p.q2⟩,Qo.2 (by have:=p.l1; have:=p.l2; omega),Qo.2 ⟨p.p1,p.p2⟩,Qo.2 ⟨p.s1,p.s2⟩,p.dl] at g;simp at g
  ·simp only[Bool.or_eq_false_iff,Bool.not_eq_false',bne_eq_false_iff_eq,Qo] at g;obtain⟨⟨⟨⟨g1,g2⟩,g3⟩,g4⟩,g5⟩:=g;have hdl:b.dry.length=b.locals.length:=by omega
   have all:∀{k:Nat},k<=b.locals.length->(∀c:Int,0<=c->c<(k:Int)->0<=gi b.locals c/\gi b.locals c<=b.quota/\(gi b.dry c=true->gi b.locals c=0/\b.pool=0))->0<=Ub b.locals k/\Ub b.locals k<=40000:=fun {k} hk h=>by
    have key:∀j:Nat,j<=k->0<=Ub b.locals j/\Ub b.locals j<=(j:Int)*10000:=fun j=>by
     induction j with
     | zero=>intro _; simp[Ub]
     | succ j ih=>
      intro hj;have:=ih (by omega);have:=h (j:Int) (by omega) (by omega);simp only[Ub]; omega
    have:=key k (Nat.le_refl _);omega
   refine⟨⟨by omega,by omega⟩,?_⟩;refine Tx b.locals.length 0 rfl (fun x k=>k<=b.locals.length/\x=b.pool+b.spent+Ub b.locals k/\∀c:Int,0<=c->c<(k:Int)->0<=gi b.locals c/\gi b.locals c<=b.quota/\(gi b.dry c=true->gi b.locals c=0/\b.pool=0)) ⟨Nat.zero_le _,by simp[Ub],fun c h0 h1=>by omega⟩ fun x k ⟨hk,hx2,hI⟩=>⟨fun hlt=>?_,fun hge=>?_⟩
   ·have hlt:=Ot hlt;have hlt2:(k:Int)<(b.dry.length:Int):=by omega
    have hsr:=all hk hI;refine⟨h1.ix Uv (by omega) hlt,_,h1 k (by omega) hlt,_,Qj,fun _=>h2.ix Gc (by omega) hlt2,_,fun _=>h2 k (by omega) hlt2,fun _ _=>h1.ix Uv (by omega) hlt,_,fun _ _=>h1 k (by omega) hlt,fun g=>MU fun p=>?_,fun g=>⟨h1.ix Uv (by omega) hlt,_,h1 k (by omega) hlt,?_⟩⟩
    ·have pe:=p.each (k:Int) (by omega) hlt;rw[Qo.2 ⟨pe.1,pe.2.1⟩] at g;simp only[Bool.not_true,Bool.false_or,Bool.and_eq_true,Bool.or_eq_true,decide_eq_true_eq] at g;have:=pe.2.2 g.1;omega
    ·simp only[Bool.or_eq_false_iff,Bool.not_eq_false',Qo] at g;obtain⟨ga,gb⟩:=g;refine⟨⟨by omega,by omega⟩,⟨by omega,by omega⟩,QA (by omega) ⟨by omega,by simp only[Ub]; omega,fun c hc0 hc=>?_⟩⟩
     by_cases hck:c<(k:Int)
     ·exact hI c hc0 hck
     ·have:c=(k:Int):=by omega
      subst this;refine⟨ga.1,ga.2,fun hd=>?_⟩;rw[hd] at gb;simp only[Bool.true_and,Bool.or_eq_false_iff,decide_eq_false_iff_not] at gb;omega
   ·have hge:=Ou hge;have:k=b.locals.length:=by omega
    subst this;refine O0 ?_;rw[beq_iff_eq,hx2];constructor
    ·intro hs;exact⟨g1.1,g1.2,by omega,by omega,hdl,g4.1,g4.2,g5.1,g5.2,hI,hs⟩
    ·exact fun p=>p.sum
section
variable {W:Q7}{m:MW}{w:Wo}{bs:List Nat}
theorem Mw.shelf{gs:List ZA}{ms:Nat->MG}{o:OA}(h:Mw bs w o gs ms){i:Int}(h0:0<=i)(h1:i<(gs.length:Int)):Q2 bs w o (Int.toNat i*14+13) [.slice (ms i.toNat).sO (gi gs i).shelves.length (ms i.toNat).sC]:=(h.cells i h0 h1).get 13 _ rfl
theorem Mw.cpus{gs:List ZA}{ms:Nat->MG}{o:OA}(h:Mw bs w o gs ms){i:Int}(h0:0<=i)(h1:i<(gs.length:Int)):Q2 bs w o (Int.toNat i*14+4) [.int .i64 (gi gs i).cpus]:=(h.cells i h0 h1).get 4 _ rfl
theorem Mw.band{gs:List ZA}{ms:Nat->MG}{o:OA}(h:Mw bs w o gs ms){i:Int}(h0:0<=i)(h1:i<(gs.length:Int)):Q2 bs w o (Int.toNat i*14+8) (QT (gi gs i).band (ms i.toNat)):=UP fun j v hj=>by
 have e:Yc (gi gs i) (ms i.toNat)=((Yc (gi gs i) (ms i.toNat)).take 8++QT (gi gs i).band (ms i.toNat))++[.slice (ms i.toNat).sO (gi gs i).shelves.length (ms i.toNat).sC]:=rfl
 have hj':j<5:=by
  have:=(List.getElem?_eq_some_iff.1 hj).1
  simpa[QT] using this
 have:=(h.cells i h0 h1).get (8+j) v (by
  rw[e,List.getElem?_append_left (by simp[Yc,QT]; omega),List.getElem?_append_right (by simp[Yc])]
  simpa[Yc] using hj)
 rwa[<-Nat.add_assoc] at this
theorem zqo.f{ts:List P5}{o:OA}(h:zqo bs w o ts){i:Int}(h0:0<=i)(h1:i<(ts.length:Int)){j:Nat}{v:Va}(hj:(YM (gi ts i))[j]? = some v):Q2 bs w o (Int.toNat i*9+j) [v]:=Ut ((h i h0 h1).get j v hj)
theorem zu8.f{cs:List OY}{o:OA}(h:zu8 bs w o cs){i:Int}(h0:0<=i)(h1:i<(cs.length:Int)){j:Nat}{v:Va}(hj:(P0 (gi cs i))[j]? = some v):Q2 bs w o (Int.toNat i*5+j) [v]:=Ut ((h i h0 h1).get j v hj)
theorem ze8.f{ss:List Mx}{o:OA}(h:ze8 bs w o ss){i:Int}(h0:0<=i)(h1:i<(ss.length:Int)){j:Nat}{v:Va}(hj:(P1 (gi ss i))[j]? = some v):Q2 bs w o (Int.toNat i*5+j) [v]:=Ut ((h i h0 h1).get j v hj)
theorem Mi(h:YZ bs w W m)(h4:W.cpus.length<=4):PX bs U6 #[.agg (Qa W m).toArray] w (.int .i64 (J2 W.cpus)):=
 zel W.now m.cO W.cpus.length m.cC m.tO W.tasks.length m.tC m.gO W.groups.length m.gC fun wr hx=>by
  have h:=(h.ext hx).less (cs:=[]) (by simp);intro _ _;refine Tx W.cpus.length 0 rfl (fun x k=>k<=W.cpus.length/\x=Uc W.cpus k) ⟨Nat.zero_le _,rfl⟩ fun x k ⟨hk,hx2⟩=>⟨fun hlt=>?_,fun hge=>?_⟩
  ·have hlt:=Ot hlt;have hb:=DD (k:=k) (by omega);have hl:=L8 W.cpus k (by omega);have hbd:(1*2 ^ (min (Int.toNat (k:Int)) 64):Int)=Jq k:=rfl;refine⟨h.c.ix Zh (by omega) hlt,_,h.c.f (by omega) hlt (j:=0) rfl,fun hu=>?_,fun hu=>?_⟩
   ·rw[hbd];refine⟨zs6 (by omega),⟨by omega,by omega,by omega⟩,⟨by omega,by omega⟩,⟨by omega,by omega⟩,QA (by omega) ⟨by omega,?_⟩⟩;rw[hx2]; simp only[Uc]; rw[if_pos hu]
   ·refine⟨⟨by omega,by omega⟩,QA (by omega) ⟨by omega,?_⟩⟩;rw[hx2]; simp only[Uc]; rw[if_neg (by rw[hu]; decide)]
  ·have hge:=Ou hge;have:k=W.cpus.length:=by omega
   subst this;rw[hx2]; rfl
theorem zae{g:Int}(h:YZ bs w W m)(ht:ZU W.groups)(hu:Q6 W.groups g=true):PX bs Oz #[.agg (Qa W m).toArray,.int .i64 g] w (.int .i64 (zg6 W.groups g)):=
 za3 W.now m.cO W.cpus.length m.cC m.tO W.tasks.length m.tC m.gO W.groups.length m.gC g fun wr hx=>by
  have h:=(h.ext hx).less (cs:=[]) (by simp);intro _ _;obtain⟨u1,u2,_⟩:=Q5.1 hu;refine⟨h.g.ix u1 u2,_,h.g.cpus u1 u2,fun vs=>∃(x s:Int),vs=[.int .i64 x,.int .i64 s]/\Q6 W.groups x=true/\(QX W.groups x).foldl (fun s x=>Vp s (gi W.groups (gi W.groups x).parent).cpus) s=zg6 W.groups g,fun vs=>(dep 3 W.groups (Y5 0 vs)).toNat,⟨g,_,rfl,hu,rfl⟩,?_⟩;rintro x s ⟨x',s',he,hux,hI⟩;simp only[List.cons.injEq,Value.int.injEq,true_and,and_true] at he;obtain⟨rfl,rfl⟩:=he;refine⟨fun hz=>?_,fun hz=>?_⟩
  ·have hz:x≠0:=by simpa using hz
   obtain⟨hp,a,b,d,e,e2,hd⟩:=ZZ ht hux hz;obtain⟨v1,v2,_⟩:=Q5.1 hp;rw[Yi ht hux hz,List.foldl_cons] at hI
   exact⟨h.g.ix a b,_,h.g.parent a b,h.g.ix v1 v2,_,h.g.cpus v1 v2,_,OJ,⟨_,_,rfl,hp,hI⟩,by
    show (dep 3 W.groups (gi W.groups x).parent).toNat<(dep 3 W.groups x).toNat;omega⟩
  ·have hz:x=0:=by simpa using hz
   subst hz;rw[show QX W.groups 0=[] from Zc _ _,List.foldl_nil] at hI;rw[hI]
theorem XA{g mask:Int}(h:YZ bs w W m)(h4:W.cpus.length<=4)(ht:ZU W.groups)(hu:Q6 W.groups g=true):PX bs Y7 #[.agg (Qa W m).toArray,.int .i64 g,.int .i64 mask] w (.int .i64 (Qs W g mask)):=
 AM W.now m.cO W.cpus.length m.cC m.tO W.tasks.length m.tC m.gO W.groups.length m.gC g mask fun wr hx=>by
  have h:=(h.ext hx).less (cs:=[]) (by simp);intro _ _;have hk:=OJ (a:=zg6 W.groups g) (b:=J2 W.cpus) (w:=wr) (bs:=[]);rw[zp1 ht hu] at hk;refine⟨_,Mi h h4,_,zae h ht hu,_,hk,_,OJ,fun g1=>?_,fun g1=>⟨fun g2=>?_,fun g2=>?_⟩⟩
  ·unfold Qs; rw[if_pos (by simpa using g1)]
  ·unfold Qs; rw[if_neg (by simpa using g1),if_pos (by simpa using g2)]
  ·unfold Qs; rw[if_neg (by simpa using g1),if_neg (by simpa using g2)]
theorem Mh{g c:Int}(h:YZ bs w W m)(ha:WA W)(hu:Q6 W.groups g=true)(c0:0<=c)(c1:c<(W.cpus.length:Int)):PX bs U5 #[.agg (Qa W m).toArray,.int .i64 g,.int .i64 c] w (.bool (UU W g c)):=
 zek W.now m.cO W.cpus.length m.cC m.tO W.tasks.length m.tC m.gO W.groups.length m.gC g c fun wr hx=>by
  have h:=(h.ext hx).less (cs:=[]) (by simp);intro _ _;obtain⟨u1,u2,_⟩:=Q5.1 hu
  have hd:(decide ((gi W.groups g).band.quota>0))=true->c<((gi W.groups g).band.dry.length:Int):=fun g1=>by
   have:=Ot g1;rw[(ha.dl hu (by omega)).1]; exact c1
  exact⟨h.g.ix u1 u2,_,_,_,_,_,_,_,_,_,h.g.band u1 u2,fun _ _=>⟨fun g1=>(h.g.dry g u1 u2).ix Gc c0 (hd g1),_,fun g1=>(h.g.dry g u1 u2) c c0 (hd g1),rfl⟩⟩
theorem Up{g c:Int}(h:YZ bs w W m)(ha:WA W)(hu:Q6 W.groups g=true)(c0:0<=c)(c1:c<(W.cpus.length:Int)):PX bs YW #[.agg (Qa W m).toArray,.int .i64 g,.int .i64 c] w (.bool (Qc W g c).on):=
 BB W.now m.cO W.cpus.length m.cC m.tO W.tasks.length m.tC m.gO W.groups.length m.gC g c fun wr hx=>by
  have h:=(h.ext hx).less (cs:=[]) (by simp);intro _ _;obtain⟨u1,u2,_⟩:=Q5.1 hu;have hs:=ha.sl hu;have c2:c<((gi W.groups g).shelves.length:Int):=by omega
  exact⟨h.g.ix u1 u2,_,_,_,h.g.shelf u1 u2,(h.g.shelves g u1 u2).ix ZD c0 c2,_,ze8.f (h.g.shelves g u1 u2) c0 c2 (j:=1) rfl,rfl⟩
theorem ze3{gs:List ZA}{k:Nat}(hk:(k:Int)<(gs.length:Int))(hu:(gi gs (k:Int)).used=true):Q6 gs (k:Int)=true:=Q5.2 ⟨by omega,hk,hu⟩
theorem TW{g c:Int}(h:YZ bs w W m)(ha:WA W)(c0:0<=c)(c1:c<(W.cpus.length:Int)):PX bs Xz #[.agg (Qa W m).toArray,.int .i64 g,.int .i64 c] w (.bool (QP W g c)):=
 By W.now m.cO W.cpus.length m.cC m.tO W.tasks.length m.tC m.gO W.groups.length m.gC g c fun wr hx=>by
  have h:=(h.ext hx).less (cs:=[]) (by simp);intro _ _;have hgl:=ha.gl;have hm9:=Zb;refine YE W.tasks.length 0 rfl (fun k=>k<=W.tasks.length/\∀j:Nat,j<k->TH W g c j=false) ⟨Nat.zero_le _,fun j hj=>absurd hj (Nat.not_lt_zero j)⟩ fun k ⟨hk,hI⟩=>⟨fun hlt=>?_,fun hge=>?_⟩
  ·have hlt:=Ot hlt;have ht:=ha.t;refine⟨h.t.ix QI (by omega) hlt,_,h.t.f (by omega) hlt (j:=0) rfl,fun _=>h.t.ix QI (by omega) hlt,_,fun _=>h.t.f (by omega) hlt (j:=1) rfl,fun _=>h.t.ix QI (by omega) hlt,_,fun _=>h.t.f (by omega) hlt (j:=2) rfl,fun hy=>?_,fun hn=>⟨⟨by omega,by omega⟩,Qr (by omega) ⟨by omega,fun j hj=>?_⟩⟩⟩
   ·unfold QP;rw[G2.2 ⟨k,by omega,hy⟩]; rfl
   ·by_cases hjk:j<k
    ·exact hI j hjk
    ·have:j=k:=by omega
     subst this; exact hn
  ·have hge:=Ou hge;have hno:VC (TH W g c) W.tasks.length=false:=zc5 fun j hj=>hI j (by omega)
   refine YE W.groups.length 1 rfl (fun k=>1<=k/\k<=W.groups.length/\∀j:Nat,j<k->XV W g c j=false) ⟨Nat.le_refl _,by omega,fun j hj=>by
    have:j=0:=by omega
    subst this; simp[XV]⟩ fun k ⟨hk1,hk,hI⟩=>⟨fun hlt=>?_,fun hge=>?_⟩
   ·have hlt:=Ot hlt;refine⟨h.g.ix (by omega) hlt,_,h.g.used (by omega) hlt,fun _=>h.g.ix (by omega) hlt,_,fun _=>h.g.parent (by omega) hlt,(Qc W (k:Int) c).on,fun hu=>Up h ha (ze3 hlt (by simp only[Bool.and_eq_true] at hu; exact hu.1)) c0 c1,fun hy=>?_,fun hn=>⟨⟨by omega,by omega⟩,Qr (by omega) ⟨by omega,by omega,fun j hj=>?_⟩⟩⟩
    ·unfold QP
     have:VC (XV W g c) W.groups.length=true:=G2.2 ⟨k,by omega,by
      unfold XV;rw[decide_eq_true hk1,Bool.true_and]; exact hy⟩
     rw[this,Bool.or_true]
    ·by_cases hjk:j<k
     ·exact hI j hjk
     ·have:j=k:=by omega
      subst this;unfold XV;rw[decide_eq_true hk1,Bool.true_and]; exact hn
   ·have hge:=Ou hge;have:VC (XV W g c) W.groups.length=false:=zc5 fun j hj=>hI j (by omega)
    unfold QP;rw[hno,this]; rfl
theorem Uo{t:Int}(h:YZ bs w W m)(ha:WA W)(t0:0<=t)(t1:t<(W.tasks.length:Int))(hu:(Q8 W t).state=1->Q6 W.groups (Q8 W t).group=true/\0<=(Q8 W t).cpu/\(Q8 W t).cpu<(W.cpus.length:Int)) :
  PX bs Yh #[.agg (Qa W m).toArray,.int .i64 t] w (.bool (Zy W t)):=
 Bz W.now m.cO W.cpus.length m.cC m.tO W.tasks.length m.tC m.gO W.groups.length m.gC t fun wr hx=>by
  have h:=(h.ext hx).less (cs:=[]) (by simp);intro _ _;refine⟨h.t.ix QI t0 t1,_,_,_,_,_,_,_,_,_,h.t t t0 t1,fun _ _=>⟨fun g=>?_,fun g=>?_⟩⟩
  ·have:((Q8 W t).state==1)=false:=by simpa[Q8] using g
   unfold Zy; rw[this]; rfl
  ·have hs:(Q8 W t).state=1:=by simpa[Q8] using g
   obtain⟨hug,hc0,hc1⟩:=hu hs;have hL:Zy W t=U8 W (Q8 W t).group (Q8 W t).cpu:=by unfold Zy; rw[beq_iff_eq.2 hs,Bool.true_and]
   rw[hL];refine⟨fun vs=>∃x:Int,vs=[.int .i64 x]/\Q6 W.groups x=true/\U8 W x (Q8 W t).cpu=U8 W (Q8 W t).group (Q8 W t).cpu,fun vs=>(dep 3 W.groups (Y5 0 vs)).toNat,⟨_,rfl,hug,rfl⟩,?_⟩;rintro x ⟨x',he,hux,hI⟩;simp only[List.cons.injEq,Value.int.injEq,true_and,and_true] at he;subst he;refine⟨fun hz=>?_,fun hz=>?_⟩
   ·have hz:x≠0:=by simpa using hz
    obtain⟨hp,a,b,d,e,e2,hd⟩:=ZZ ha.tree hux hz;unfold U8 at hI;rw[Yi ha.tree hux hz,List.all_cons] at hI
    refine⟨_,Up h ha hux hc0 hc1,fun g2=>?_,fun g2=>⟨h.g.ix a b,_,h.g.parent a b,⟨_,rfl,hp,?_⟩,by
     show (dep 3 W.groups (gi W.groups x).parent).toNat<(dep 3 W.groups x).toNat;omega⟩⟩
    ·have g2:(Qc W x (Q8 W t).cpu).on=false:=by simpa[Q8] using g2
     rw[g2,Bool.false_and] at hI;unfold U8;rw[<-hI]
    ·have g2:(Qc W x (Q8 W t).cpu).on=true:=by simpa[Q8] using g2
     rw[g2,Bool.true_and] at hI;exact hI
   ·have hz:x=0:=by simpa using hz
    subst hz;unfold U8 at hI;rw[show QX W.groups 0=[] from Zc _ _,List.all_nil] at hI;unfold U8;rw[<-hI]
end
theorem Kp{v f k:Int}{w:Wo}{bs:List Nat}:PX bs Uk #[.int .i64 v,.int .i64 f,.int .i64 k] w (.bool (PA v f k)):=
 AL v f k fun wr hx=>⟨IntKind.i64.wrap (v-f),fun _ wq=>by simp[eqGuard,binOp,Op.intArith],_,fun _=>OI,rfl⟩
theorem DP:BY Tryz.prog QD:=⟨by kernel_rfl,by kernel_rfl,by kernel_rfl⟩
theorem zdw(a b:P5):LB Tryz.prog (Tryz.prog.fieldsOf QD).toList 0 (YM a) (YM b)=some ((a.state==b.state)&&((a.group==b.group)&&((a.cpu==b.cpu)&&((a.nice==b.nice)&&((a.mask==b.mask)&&((a.v==b.v)&&((a.sum==b.sum)&&((a.used==b.used)&&((a.load==b.load)&&true))))))))):=by kernel_rfl
theorem zez{a b:P5}:((a.state==b.state)&&((a.group==b.group)&&((a.cpu==b.cpu)&&((a.nice==b.nice)&&((a.mask==b.mask)&&((a.v==b.v)&&((a.sum==b.sum)&&((a.used==b.used)&&((a.load==b.load)&&true)))))))))=decide (a=b):=by
 cases a; cases b
 simp only[P5.mk.injEq,Bool.and_true];rw[Bool.eq_iff_iff];simp only[Bool.and_eq_true,beq_iff_eq,decide_eq_true_eq]
section
variable {W:Q7}{m:MW}{w:Wo}{bs:List Nat}
theorem E3{k:Int}(h:YZ bs w W m)(hn:0<=W.now)(k0:0<=k)(k1:k<(W.groups.length:Int))(hf:zcs (gi W.groups k)):PX bs Vj #[.agg (Qa W m).toArray,.int .i64 k] w (.bool (Jr (Pl W k))):=
 Ev W.now m.cO W.cpus.length m.cC m.tO W.tasks.length m.tC m.gO W.groups.length m.gC k fun wr hx=>by
  have h:=(h.ext hx).less (cs:=[]) (by simp);intro _ _;refine⟨h.g.ix k0 k1,_,_,_,_,_,_,_,_,_,_,_,_,_,_,_,_,_,_,_,_,h.g.cells k k0 k1,fun _ _=>⟨fun g=>?_,fun g=>?_⟩⟩
  ·have hu:(gi W.groups k).used=false:=by simpa using g
   refine⟨_,fun _=>MJ (b:=(gi W.groups k).band) (m:=m.ms k.toNat),O0 ?_⟩;simp only[Bool.and_eq_true,beq_iff_eq,J9];constructor
   ·rintro⟨⟨⟨⟨⟨⟨⟨⟨e1,e2⟩,e3⟩,e4⟩,e5⟩,e6⟩,e7⟩,e8⟩,e9⟩;exact⟨fun _=>⟨e1,e2,e3,e4,e5,e6,e7,by omega,e9⟩,fun hu'=>by rw[hu'] at hu; cases hu⟩
   ·intro p;have q:=p.1 hu;exact⟨⟨⟨⟨⟨⟨⟨⟨q.p,q.n⟩,q.w⟩,q.c⟩,q.pe⟩,q.ne⟩,q.s⟩,by have:=q.l; omega⟩,q.b⟩
  ·have hu:(gi W.groups k).used=true:=by simpa using g
   have mk:zhm W k (gi W.groups k)->Pl W k:=fun q=>⟨fun hu'=>(by rw[hu'] at hu; cases hu),fun _=>q⟩
   refine⟨_,J1,_,fun _=>YQ,_,fun _=>Yp,fun g2=>MU fun p=>?_,fun g2=>⟨fun g3=>MU fun p=>?_,fun g3=>⟨fun g4=>⟨_,MJ (b:=(gi W.groups k).band) (m:=m.ms k.toNat),O0 ?_⟩,fun g4=>⟨_,LI (b:=(gi W.groups k).band) (m:=m.ms k.toNat) (h.g.locals k k0 k1) (h.g.dry k k0 k1) hf.lo,_,fun _=>Qj,fun g5=>?_,O0 ?_⟩⟩⟩⟩
   ·have q:=p.2 hu;have e1:Yo (gi W.groups k).weight 1 20=true:=Qo.2 ⟨q.w1,q.w2⟩;have e3:((gi W.groups k).cpus==0)=false:=by simpa using q.m0
    have e5:(((gi W.groups k).shelves.length:Nat):Int)=((W.cpus.length:Nat):Int):=by have:=q.len; omega
    rw[e1,q.m,e3,q.s,e5] at g2;simp at g2
   ·have q:=p.2 hu;simp only[Bool.and_eq_true,beq_iff_eq] at g3;have r:=q.root g3.1;rw[r.1,r.2.1,r.2.2] at g3;simp at g3
   all_goals
    simp only[Bool.or_eq_false_iff,Bool.not_eq_false',bne_eq_false_iff_eq,Qo,beq_eq_false_iff_ne] at g2;obtain⟨⟨⟨⟨a1,a2⟩,a3⟩,a4⟩,a5⟩:=g2;have hlen:(gi W.groups k).shelves.length=W.cpus.length:=by omega
    have hroot:k=0->(gi W.groups k).weight=10/\(gi W.groups k).cpus=15/\(gi W.groups k).band.quota=0:=fun hk=>by
     rw[beq_iff_eq.2 hk,Bool.true_and] at g3;simp only[Bool.or_eq_false_iff,bne_eq_false_iff_eq] at g3;exact⟨g3.1.1,g3.1.2,g3.2⟩
   ·have q0:(gi W.groups k).band.quota=0:=by simpa using g4
    simp only[Bool.and_eq_true,beq_iff_eq];constructor
    ·rintro⟨⟨e1,e2⟩,e3⟩;exact mk ⟨a1.1,a1.2,a2,a3,a4,hlen,hroot,fun _=>⟨e1,e2,e3⟩,fun hne=>absurd q0 hne⟩
    ·intro p;have q:=(p.2 hu).none q0;exact⟨⟨q.1,q.2.1⟩,q.2.2⟩
   ·simp only[Bool.and_eq_true,beq_iff_eq,decide_eq_true_eq] at g5;have:=hf.nx;exact⟨by have:=this.1; omega,by have:=this.2; omega⟩
   ·have q0:(gi W.groups k).band.quota≠0:=by simpa using g4
    simp only[Bool.and_eq_true,beq_iff_eq,decide_eq_true_eq,Qh,Qo];constructor
    ·rintro⟨⟨⟨⟨e1,e2⟩,e3⟩,e4⟩,e5⟩;exact mk ⟨a1.1,a1.2,a2,a3,a4,hlen,hroot,fun hne=>absurd hne q0,fun _=>⟨e1,by omega,e3.1,e3.2,e4,e5⟩⟩
    ·intro p;have q:=(p.2 hu).band q0;exact⟨⟨⟨⟨q.1,by have:=q.2.1; omega⟩,q.2.2.1,q.2.2.2.1⟩,q.2.2.2.2.1⟩,q.2.2.2.2.2⟩
theorem Ka{W:Q7}(ha:WA W){g mask c:Int}(hc:Z8 (Qs W g mask) c=true):0<=c/\c<(W.cpus.length:Int):=by
 have h1:=zm8 hc;exact⟨(ON h1).2.1,(ze1 W.cpus _ ha.c2 h1).1⟩
theorem Bg{t:Int}(h:YZ bs w W m)(ha:WA W)(t0:0<=t)(t1:t<(W.tasks.length:Int)):PX bs T2 #[.agg (Qa W m).toArray,.int .i64 t] w (.bool (Jr (F5 W t))):=
 BD W.now m.cO W.cpus.length m.cC m.tO W.tasks.length m.tC m.gO W.groups.length m.gC t fun wr hx=>by
  have h:=(h.ext hx).less (cs:=[]) (by simp);intro _ _;have hgl:=ha.gl;have hm9:=Zb;refine⟨h.t.ix QI t0 t1,_,_,_,_,_,_,_,_,_,h.t t t0 t1,fun _ _=>⟨fun g=>?_,fun g=>?_⟩⟩
  ·have hs:(gi W.tasks t).state=0:=by simpa using g
   refine⟨_,fun wq=>AZ DP (zdw (gi W.tasks t) VK) _ _ wq,O0 ?_⟩;rw[zez,decide_eq_true_eq];constructor
   ·exact fun e=>.inl ⟨hs,e⟩
   ·rintro (⟨_,e⟩ | ⟨e,_⟩)
    ·exact e
    ·exact absurd hs e
  ·have hs:(gi W.tasks t).state≠0:=by simpa using g
   have no:∀{q:F5 W t},zqu W (gi W.tasks t):=fun {q}=>by
    rcases q with ⟨e,_⟩ | ⟨_,q⟩
    ·exact absurd e hs
    ·exact q
   refine⟨_,fun _=>YR (c:=m.gC) h.g,_,fun _=>ZB,_,fun _=>YQ,fun g2=>MU fun p=>?_,fun g2=>?_⟩
   ·have q:=no (q:=p);have e3:(Qe (gi W.tasks t).nice==0)=false:=by simpa using q.n
    have e4:((gi W.tasks t).mask==0)=false:=by simpa using q.m0
    rw[q.g,e3,q.m,e4] at g2;simp only[Bool.not_true,Bool.or_false,Bool.and_eq_true,bne_iff_ne] at g2;have:=q.st;omega
   ·simp only[Bool.or_eq_false_iff,Bool.not_eq_false',beq_eq_false_iff_ne] at g2;obtain⟨⟨⟨⟨a1,a2⟩,a3⟩,a4⟩,a5⟩:=g2
    have st:(gi W.tasks t).state=1\/(gi W.tasks t).state=2:=by
     by_cases h1:(gi W.tasks t).state=1
     ·exact .inl h1
     ·refine .inr ?_;have:((gi W.tasks t).state != 1)=true:=by simpa using h1
      rw[this,Bool.true_and] at a1
      simpa using a1
    refine⟨_,Yp,_,fun _=>Yp,_,fun _=>Yp,_,fun _=>Qj,Qs W (gi W.tasks t).group (gi W.tasks t).mask,fun _=>XA h ha.c2 ha.tree a2,_,fun _=>ZM,fun g3=>MU fun p=>?_,fun g3=>?_⟩
    ·have q:=no (q:=p);have e4:Yo (gi W.tasks t).load 0 8000000=true:=Qo.2 ⟨q.l1,q.l2⟩;rw[q.v,q.s,q.u,e4,q.c] at g3;simp at g3
    ·simp only[Bool.or_eq_false_iff,Bool.not_eq_false',Qo] at g3;obtain⟨⟨⟨⟨b1,b2⟩,b3⟩,b4⟩,b5⟩:=g3;obtain⟨u1,u2,_⟩:=Q5.1 a2;obtain⟨c0,c1⟩:=Ka ha b5;have hsl:=ha.sl a2;have c2:(gi W.tasks t).cpu<((gi W.groups (gi W.tasks t).group).shelves.length:Int):=by omega
     refine⟨fun _=>h.g.ix u1 u2,_,_,_,fun _=>h.g.shelf u1 u2,fun _=>(h.g.shelves _ u1 u2).ix ZD c0 c2,_,fun _=>ze8.f (h.g.shelves _ u1 u2) c0 c2 (j:=0) rfl,_,fun _=>ZB,_,fun _=>Kp,O0 ?_⟩;simp only[Bool.or_eq_true,beq_iff_eq];constructor
     ·intro e
      exact .inr ⟨hs,⟨st,a2,a3,a4,a5,b1,b2,b3,b4.1,b4.2,b5,fun e1=>by
       rcases e with e | e
       ·have e:(gi W.tasks t).state=2:=e;have e1:(gi W.tasks t).state=1:=e1;omega
       ·exact e⟩⟩
     ·intro p;have q:=no (q:=p);rcases st with e | e
      ·exact .inr (q.f e)
      ·exact .inl e
theorem E4{k c:Int}(h:YZ bs w W m)(ha:WA W)(k0:0<=k)(k1:k<(W.groups.length:Int))(c0:0<=c)(c2:c<((gi W.groups k).shelves.length:Int)):PX bs Vk #[.agg (Qa W m).toArray,.int .i64 k,.int .i64 c] w (.bool (Jr (Pm W k c))):=
 Ew W.now m.cO W.cpus.length m.cC m.tO W.tasks.length m.tC m.gO W.groups.length m.gC k c fun wr hx=>by
  have h:=(h.ext hx).less (cs:=[]) (by simp);intro _ _;have hgl:=ha.gl
  have hus:(gi W.groups k).used=true:=by
   cases hu:(gi W.groups k).used with
   | true=>rfl
   | false=>
    have:=((ha.grp k k0 (by omega)).1 hu).l;omega
  have hu:Q6 W.groups k=true:=Q5.2 ⟨k0,k1,hus⟩;have hsl:=ha.sl hu;have c1:c<(W.cpus.length:Int):=by omega
  refine⟨h.g.ix k0 k1,_,_,_,_,_,_,_,_,_,_,_,_,_,_,_,_,_,_,_,_,h.g.cells k k0 k1,fun _ _=>⟨(h.g.shelves k k0 k1).ix ZD c0 c2,_,_,_,_,_,(h.g.shelves k k0 k1) c c0 c2,fun _ _=>⟨_,Yp,_,fun _=>Yp,_,fun _=>Yp,_,fun _=>J1,fun g=>MU fun p=>?_,fun g=>⟨fun g2=>O0 ?_,fun g2=>⟨_,TW h ha c0 c1,_,fun _=>Mh h ha hu c0 c1,fun g3=>MU fun p=>?_,fun g3=>?_⟩⟩⟩⟩⟩
  ·have e1:=p.f;have e2:=p.v;have e3:=p.s;have e4:Yo (Qc W k c).w 1 20=true:=Qo.2 ⟨p.w1,p.w2⟩;have g':(((!Zz (Qc W k c).floor || !Zz (Qc W k c).v) || !Zz (Qc W k c).sum) || !Yo (Qc W k c).w 1 20)=true:=g;rw[e1,e2,e3,e4] at g'
   cases g'
  ·have g':(((!Zz (Qc W k c).floor || !Zz (Qc W k c).v) || !Zz (Qc W k c).sum) || !Yo (Qc W k c).w 1 20)=false:=g;simp only[Bool.or_eq_false_iff,Bool.not_eq_false',Qo] at g';obtain⟨⟨⟨a1,a2⟩,a3⟩,a4⟩:=g';have hk:k=0:=by simpa using g2
   show ((!(Qc W k c).on&&((Qc W k c).v==0))&&((Qc W k c).w==10))=true↔_;simp only[Bool.and_eq_true,Bool.not_eq_true',beq_iff_eq];constructor
   ·rintro⟨⟨e1,e2⟩,e3⟩;exact⟨a1,a2,a3,a4.1,a4.2,fun _=>⟨e1,e2,e3⟩,fun hne=>absurd hk hne,fun hne=>absurd hk hne⟩
   ·intro p;have q:=p.root hk;exact⟨⟨q.1,q.2.1⟩,q.2.2⟩
  ·have hk:k≠0:=by simpa using g2
   have g3':(!((Qc W k c).on==(QP W k c && !UU W k c)))=true:=g3;rw[p.on hk] at g3';simp at g3'
  ·have g':(((!Zz (Qc W k c).floor || !Zz (Qc W k c).v) || !Zz (Qc W k c).sum) || !Yo (Qc W k c).w 1 20)=false:=g;simp only[Bool.or_eq_false_iff,Bool.not_eq_false',Qo] at g';obtain⟨⟨⟨a1,a2⟩,a3⟩,a4⟩:=g';have hk:k≠0:=by simpa using g2
   have hon:(Qc W k c).on=(QP W k c && !UU W k c):=by
    have g3':(!((Qc W k c).on==(QP W k c && !UU W k c)))=false:=g3
    simpa using g3'
   have hp:=ha.up hu hk;obtain⟨v1,v2,_⟩:=Q5.1 hp;have hpl:=ha.sl hp;have c3:c<((gi W.groups (gi W.groups k).parent).shelves.length:Int):=by omega
   refine⟨fun _=>h.g.ix v1 v2,_,_,_,fun _=>h.g.shelf v1 v2,fun _=>(h.g.shelves _ v1 v2).ix ZD c0 c3,_,fun _=>ze8.f (h.g.shelves _ v1 v2) c0 c3 (j:=0) rfl,_,fun _=>Kp,O0 ?_⟩;show (!(Qc W k c).on||PA (Qc W k c).v (Qc W (gi W.groups k).parent c).floor (Qc W k c).w)=true↔_;simp only[Bool.or_eq_true,Bool.not_eq_true'];constructor
   ·intro e
    exact⟨a1,a2,a3,a4.1,a4.2,fun e0=>absurd e0 hk,fun _=>hon,fun _ ho=>by
     rcases e with e | e
     ·rw[ho] at e; cases e
     ·exact e⟩
   ·intro p
    cases ho:(Qc W k c).on with
    | false=>exact .inl rfl
    | true=>exact .inr (p.st hk ho)
theorem zd9{t:Int}(ht:F5 W t)(hl:Zy W t=true):zqu W (Q8 W t)/\(Q8 W t).state=1:=by
 have hs:(Q8 W t).state=1:=by
  unfold Zy at hl;simp only[Bool.and_eq_true,beq_iff_eq] at hl;exact hl.1
 rcases ht with ⟨e,_⟩ | ⟨_,q⟩
 ·omega
 ·exact⟨q,hs⟩
theorem DT{a b:Int}(ha:Zz a=true)(hb:Zz b=true):Qn .i64 (a-b):=by
 have:=ZY.1 ha;have:=ZY.1 hb;exact⟨by omega,by omega⟩
theorem Bf{c:Int}(h:YZ bs w W m)(ha:WA W)(hts:∀t:Int,0<=t->t<12->F5 W t)(hss:∀k c:Int,0<=k->k<8->0<=c->c<((gi W.groups k).shelves.length:Int)->Pm W k c)(c0:0<=c)(c1:c<(W.cpus.length:Int))(t0:0<=(gi W.cpus c).cur)(t1:(gi W.cpus c).cur<(W.tasks.length:Int))(hl:Zy W (gi W.cpus c).cur=true) :
  PX bs T1 #[.agg (Qa W m).toArray,.int .i64 c] w (.bool (OS W c)):=
 BC W.now m.cO W.cpus.length m.cC m.tO W.tasks.length m.tC m.gO W.groups.length m.gC c fun wr hx=>by
  have h:=(h.ext hx).less (cs:=[]) (by simp);intro _ _;have htl:=ha.t;have hgl:=ha.gl;obtain⟨q,_⟩:=zd9 (hts _ t0 (by omega)) hl;have a2:=q.g;obtain⟨u1,u2,_⟩:=Q5.1 a2
  have sl:∀{x:Int},Q6 W.groups x=true->0<=x/\x<(W.groups.length:Int)/\c<((gi W.groups x).shelves.length:Int)/\Pm W x c:=fun {x} hx=>by
   obtain⟨v1,v2,_⟩:=Q5.1 hx;have e:=ha.sl hx;have c3:c<((gi W.groups x).shelves.length:Int):=by omega
   exact⟨v1,v2,c3,hss x c v1 (by omega) c0 c3⟩
  obtain⟨_,_,c2,sp⟩:=sl a2;refine⟨h.c.ix Zh c0 c1,_,_,_,_,_,h.c c c0 c1,fun _ _=>⟨h.t.ix QI t0 t1,_,_,_,_,_,_,_,_,_,h.t _ t0 t1,fun _ _=>⟨h.g.ix u1 u2,_,_,_,h.g.shelf u1 u2,(h.g.shelves _ u1 u2).ix ZD c0 c2,_,ze8.f (h.g.shelves _ u1 u2) c0 c2 (j:=0) rfl,DT q.v sp.f,_,ZB,_,X1,fun g=>?_,fun g=>?_⟩⟩⟩
  ·have g:=Ot g;have hd:¬((Q8 W (gi W.cpus c).cur).v-(Qc W (Q8 W (gi W.cpus c).cur).group c).floor<=Z3 (gi W.cpus c).ran (Qe (Q8 W (gi W.cpus c).cur).nice)):=Int.not_le.2 g;unfold OS;rw[decide_eq_false hd];rfl
  ·have g:=Ou g
   have hS:OS W c=VJ W (Q8 W (gi W.cpus c).cur).group c (gi W.cpus c).ran:=by
    have hd:(Q8 W (gi W.cpus c).cur).v-(Qc W (Q8 W (gi W.cpus c).cur).group c).floor<=Z3 (gi W.cpus c).ran (Qe (Q8 W (gi W.cpus c).cur).nice):=Int.not_lt.1 g;unfold OS;rw[decide_eq_true hd,Bool.true_and]
   rw[hS];refine⟨fun vs=>∃x:Int,vs=[.int .i64 x]/\Q6 W.groups x=true/\VJ W x c (gi W.cpus c).ran=VJ W (Q8 W (gi W.cpus c).cur).group c (gi W.cpus c).ran,fun vs=>(dep 3 W.groups (Y5 0 vs)).toNat,⟨_,rfl,a2,rfl⟩,?_⟩;rintro x ⟨x',he,hux,hI⟩;simp only[List.cons.injEq,Value.int.injEq,true_and,and_true] at he;subst he;refine⟨fun hz=>?_,fun hz=>?_⟩
   ·have hz:x≠0:=by simpa using hz
    obtain⟨hp,a,b,d,e,e2,hd⟩:=ZZ ha.tree hux hz;obtain⟨x1,x2,x3,xs⟩:=sl hux;obtain⟨p1,p2,p3,ps⟩:=sl hp;unfold VJ at hI;rw[Yi ha.tree hux hz,List.all_cons] at hI
    refine⟨h.g.ix x1 x2,_,_,_,h.g.shelf x1 x2,(h.g.shelves _ x1 x2).ix ZD c0 x3,_,_,_,_,_,(h.g.shelves _ x1 x2) c c0 x3,fun _ _=>⟨h.g.ix x1 x2,_,h.g.parent x1 x2,h.g.ix p1 p2,_,_,_,h.g.shelf p1 p2,(h.g.shelves _ p1 p2).ix ZD c0 p3,_,ze8.f (h.g.shelves _ p1 p2) c0 p3 (j:=0) rfl,DT xs.v ps.f,_,X1,fun g2=>?_,fun g2=>⟨h.g.ix x1 x2,_,h.g.parent x1 x2,⟨_,rfl,hp,?_⟩,by
     show (dep 3 W.groups (gi W.groups x).parent).toNat<(dep 3 W.groups x).toNat;omega⟩⟩⟩
    ·have g2:=Ot g2;have hd:¬((Qc W x c).v-(Qc W (gi W.groups x).parent c).floor<=Z3 (gi W.cpus c).ran (Qc W x c).w):=Int.not_le.2 g2;rw[decide_eq_false hd,Bool.false_and] at hI;unfold VJ;rw[<-hI]
    ·have g2:=Ou g2;have hd:(Qc W x c).v-(Qc W (gi W.groups x).parent c).floor<=Z3 (gi W.cpus c).ran (Qc W x c).w:=Int.not_lt.1 g2;rw[decide_eq_true hd,Bool.true_and] at hI;exact hI
   ·have hz:x=0:=by simpa using hz
    subst hz;unfold VJ at hI;rw[show QX W.groups 0=[] from Zc _ _,List.all_nil] at hI;unfold VJ;rw[<-hI]
theorem HG{t:Int}(ha:WA W)(ht:F5 W t)(hs:(Q8 W t).state=1):Q6 W.groups (Q8 W t).group=true/\0<=(Q8 W t).cpu/\(Q8 W t).cpu<(W.cpus.length:Int):=by
 rcases ht with ⟨e,_⟩ | ⟨_,q⟩
 ·omega
 ·exact⟨q.g,Ka ha q.c⟩
theorem Af{c:Int}(h:YZ bs w W m)(ha:WA W)(hts:∀t:Int,0<=t->t<12->F5 W t)(hss:∀k c:Int,0<=k->k<8->0<=c->c<((gi W.groups k).shelves.length:Int)->Pm W k c)(c0:0<=c)(c1:c<(W.cpus.length:Int)) :
  PX bs TQ #[.agg (Qa W m).toArray,.int .i64 c] w (.bool (Jr (De W c))):=
 AJ W.now m.cO W.cpus.length m.cC m.tO W.tasks.length m.tC m.gO W.groups.length m.gC c fun wr hx=>by
  have h:=(h.ext hx).less (cs:=[]) (by simp);intro _ _;have htl:=ha.t;refine⟨h.c.ix Zh c0 c1,_,_,_,_,_,h.c c c0 c1,fun _ _=>⟨_,Yp,_,fun _=>Yp,fun _=>⟨by omega,by omega⟩,_,fun _=>Qj,fun g=>MU fun p=>?_,fun g=>⟨fun g2=>O0 ?_,fun g2=>?_⟩⟩⟩
  ·have e3:Yo (gi W.cpus c).cur (-1) (((W.tasks.length:Nat):Int)-1)=true:=Qo.2 (by have:=p.c1; have:=p.c2; omega);rw[p.b,p.i,e3] at g;cases g
  ·simp only[Bool.or_eq_false_iff,Bool.not_eq_false',Qo] at g;obtain⟨⟨a1,a2⟩,a3⟩:=g;have g2:=Ot g2;rw[beq_iff_eq];exact⟨fun e=>⟨a1,a2,a3.1,by omega,fun _=>e,fun hc=>by omega⟩,fun p=>p.no g2⟩
  ·simp only[Bool.or_eq_false_iff,Bool.not_eq_false',Qo] at g;obtain⟨⟨a1,a2⟩,a3⟩:=g;have g2:=Ou g2;have t0:0<=(gi W.cpus c).cur:=by omega
   have t1:(gi W.cpus c).cur<(W.tasks.length:Int):=by omega
   refine⟨_,fun _=>Qj,fun _=>h.t.ix QI t0 t1,_,fun _=>h.t.f t0 t1 (j:=2) rfl,Zy W (gi W.cpus c).cur,fun _=>Uo h ha t0 t1 fun hs=>HG ha (hts _ t0 (by omega)) hs,OS W c,fun g3=>Bf h ha hts hss c0 c1 t0 t1 (by simp only[Bool.and_eq_true] at g3; exact g3.2),O0 ?_⟩;simp only[Bool.and_eq_true,beq_iff_eq,Qo];constructor
   ·rintro⟨⟨⟨⟨e1,e2⟩,e3⟩,e4⟩,e5⟩;exact⟨a1,a2,a3.1,by omega,fun hc=>by omega,fun _=>⟨e1,e2.1,e2.2,e3,e4,e5⟩⟩
   ·intro p;have q:=p.yes t0;exact⟨⟨⟨⟨q.1,q.2.1,q.2.2.1⟩,q.2.2.2.1⟩,q.2.2.2.2.1⟩,q.2.2.2.2.2⟩
theorem X2(h:YZ bs w W m)(lc:W.cpus.length<=maxLen)(lt:W.tasks.length<=maxLen)(lg:W.groups.length<=maxLen)(hf:∀i:Int,0<=i->i<(W.groups.length:Int)->zcs (gi W.groups i)) :
  PX bs Y6 #[.agg (Qa W m).toArray] w (.bool (Qv W)):=
 AE W.now m.cO W.cpus.length m.cC m.tO W.tasks.length m.tC m.gO W.groups.length m.gC fun wr hx=>by
  have h:=(h.ext hx).less (cs:=[]) (by simp);intro _ _;have hm9:=Xa;refine⟨_,Qj,_,fun _=>Qj,Pf W.groups,fun _=>LK h.g lg,J2 W.cpus,fun g=>Mi h ?_,fun g=>MU fun p=>?_,fun g=>?_⟩
  ·simp only[Bool.or_eq_false_iff,Bool.not_eq_false',Qo] at g;omega
  ·have a:=p.a;have e1:Yo W.now 0 100000000000000000=true:=Qo.2 ⟨a.n1,a.n2⟩;have e2:Yo ((W.cpus.length:Nat):Int) 1 4=true:=Qo.2 (by have:=a.c1; have:=a.c2; omega);have e3:((W.tasks.length:Nat):Int)=12:=by have:=a.t; omega
   have e5:(J2 W.cpus==0)=false:=by simpa using a.ups
   rw[e1,e2,e3,UT.2 a.tree,e5] at g;simp at g
  simp only[Bool.or_eq_false_iff,Bool.not_eq_false',Qo,bne_eq_false_iff_eq,beq_eq_false_iff_ne] at g;obtain⟨⟨⟨⟨g1,g2⟩,g3⟩,g4⟩,g5⟩:=g;have ht:=UT.1 g4;have hgl:=ht.len;refine YE W.groups.length 0 rfl (fun k=>k<=W.groups.length/\∀j:Int,0<=j->j<(k:Int)->Pl W j) ⟨Nat.zero_le _,fun j h0 h1=>by omega⟩ fun k ⟨hk,hI⟩=>⟨fun hlt=>?_,fun hge=>?_⟩
  ·have hlt:=Ot hlt;refine⟨_,E3 h g1.1 (by omega) hlt (hf _ (by omega) hlt),fun g6=>MU fun p=>?_,fun g6=>⟨⟨by omega,by omega⟩,Qr (by omega) ⟨by omega,fun j h0 h1=>?_⟩⟩⟩
   ·have g6:Jr (Pl W (k:Int))=false:=by simpa using g6
    exact G6.1 g6 (p.a.grp _ (by omega) (by omega))
   ·by_cases hjk:j<(k:Int)
    ·exact hI j h0 hjk
    ·have:j=(k:Int):=by omega
     subst this;exact Qh.1 (by simpa using g6)
  have hge:=Ou hge;have ha:WA W:=⟨g1.1,g1.2,by omega,by omega,by omega,ht,g5,fun j h0 h1=>hI j h0 (by omega)⟩;refine YE W.tasks.length 0 rfl (fun k=>k<=W.tasks.length/\∀j:Int,0<=j->j<(k:Int)->F5 W j) ⟨Nat.zero_le _,fun j h0 h1=>by omega⟩ fun k2 ⟨hk2,hI2⟩=>⟨fun hlt=>?_,fun hge2=>?_⟩
  ·have hlt:=Ot hlt;refine⟨_,Bg h ha (by omega) hlt,fun g6=>MU fun p=>?_,fun g6=>⟨⟨by omega,by omega⟩,Qr (by omega) ⟨by omega,fun j h0 h1=>?_⟩⟩⟩
   ·have g6:Jr (F5 W (k2:Int))=false:=by simpa using g6
    exact G6.1 g6 (p.t _ (by omega) (by omega))
   ·by_cases hjk:j<(k2:Int)
    ·exact hI2 j h0 hjk
    ·have:j=(k2:Int):=by omega
     subst this;exact Qh.1 (by simpa using g6)
  have hge2:=Ou hge2;have hts:∀t:Int,0<=t->t<12->F5 W t:=fun t h0 h1=>hI2 t h0 (by omega)
  refine YE W.groups.length 0 rfl (fun k=>k<=W.groups.length/\∀j c:Int,0<=j->j<(k:Int)->0<=c->c<((gi W.groups j).shelves.length:Int)->Pm W j c) ⟨Nat.zero_le _,fun j c h0 h1=>by omega⟩ fun k3 ⟨hk3,hI3⟩=>⟨fun hlt=>?_,fun hge3=>?_⟩
  ·have hlt:=Ot hlt;have k30:(0:Int)<=(k3:Int):=by omega
   refine YE (gi W.groups (k3:Int)).shelves.length 0 rfl (fun c=>c<=(gi W.groups (k3:Int)).shelves.length/\∀d:Int,0<=d->d<(c:Int)->Pm W (k3:Int) d) ⟨Nat.zero_le _,fun j h0 h1=>by omega⟩ fun c ⟨hc,hJ⟩=>⟨h.g.ix k30 hlt,_,_,_,h.g.shelf k30 hlt,fun hltc=>?_,fun hgec=>?_⟩
   ·have hltc:=Ot hltc;have hsm:(gi W.groups (k3:Int)).shelves.length<=maxLen:=(hf _ k30 hlt).sh;refine⟨_,E4 h ha k30 hlt (by omega) hltc,fun g6=>MU fun p=>?_,fun g6=>⟨⟨by omega,by omega⟩,Qr (by omega) ⟨by omega,fun d h0 h1=>?_⟩⟩⟩
    ·have g6:Jr (Pm W (k3:Int) (c:Int))=false:=by simpa using g6
     exact G6.1 g6 (p.s _ _ (by omega) (by omega) (by omega) hltc)
    ·by_cases hjk:d<(c:Int)
     ·exact hJ d h0 hjk
     ·have:d=(c:Int):=by omega
      subst this;exact Qh.1 (by simpa using g6)
   ·have hgec:=Ou hgec;refine⟨⟨by omega,by omega⟩,Qr (by omega) ⟨by omega,fun j d h0 h1 h2 h3=>?_⟩⟩
    by_cases hjk:j<(k3:Int)
    ·exact hI3 j d h0 hjk h2 h3
    ·have:j=(k3:Int):=by omega
     subst this;exact hJ d h2 (by omega)
  have hge3:=Ou hge3;have hss:∀k c:Int,0<=k->k<8->0<=c->c<((gi W.groups k).shelves.length:Int)->Pm W k c:=fun k c h0 h1 h2 h3=>hI3 k c h0 (by omega) h2 h3
  refine YE W.cpus.length 0 rfl (fun k=>k<=W.cpus.length/\∀j:Int,0<=j->j<(k:Int)->De W j) ⟨Nat.zero_le _,fun j h0 h1=>by omega⟩ fun k4 ⟨hk4,hI4⟩=>⟨fun hlt=>?_,fun hge4=>?_⟩
  ·have hlt:=Ot hlt;refine⟨_,Af h ha hts hss (by omega) hlt,fun g6=>MU fun p=>?_,fun g6=>⟨⟨by omega,by omega⟩,Qr (by omega) ⟨by omega,fun j h0 h1=>?_⟩⟩⟩
   ·have g6:Jr (De W (k4:Int))=false:=by simpa using g6
    exact G6.1 g6 (p.c _ (by omega) hlt)
   ·by_cases hjk:j<(k4:Int)
    ·exact hI4 j h0 hjk
    ·have:j=(k4:Int):=by omega
     subst this;exact Qh.1 (by simpa using g6)
  ·have hge4:=Ou hge4;exact zhj ⟨ha,hts,hss,fun c h0 h1=>hI4 c h0 (by omega)⟩
end
theorem Z6{n p:Nat}{vs us:List Va}{k:Nat}(h1:Y5 p vs=(k:Int)+1)(h2:Y5 p us=(k:Int))(hk:k<n):XK n p vs<XK n p us:=by
 unfold XK;rw[h1,h2];omega
theorem zjs{α:Type}[Inhabited α]{l:List α}{p:α->Bool}:l.all p=true↔∀k:Nat,k<l.length->p (gi l (k:Int))=true:=by
 rw[List.all_eq_true];constructor
 ·intro h k hk; exact h _ (zib (by omega) (by omega))
 ·intro h x hx;obtain⟨k,hk,rfl⟩:=List.getElem_of_mem hx;rw[<-J0 hk]; exact h k hk
theorem AU{bs:List Nat}{w:Wo}{b:Nat}{l:List Int}{t:TypeId}{fz:Nat×Nat}(h:w.heap[b]? = some (.cells (l.flatMap Xu).toArray t fz))(hb:b∉bs):zfa bs w (some ⟨b,0,none⟩) l:=fun i h0 hi=>by
 have hlt:i.toNat<l.length:=by omega
 refine UO h hb (k0:=0) ?_;have:=Hr (enc:=Xu) (z:=1) (fun _=>rfl) l i.toNat 0 hlt (by decide);rw[Nat.add_zero] at this;rw[Nat.zero_add,this]
 have e:gi l i=l[i.toNat]:=by
  have:=J0 hlt
  rwa[show ((i.toNat:Nat):Int)=i by omega] at this
 rw[e]; rfl
theorem E5{l:List Int}{o:OA}{c:Nat}{w:Wo}{bs:List Nat}(h:zfa bs w o l)(hl:l.length<=maxLen):PX bs Zv #[.slice o l.length c] w (.bool (l.all Zz)):=
 zaq o l.length c fun wr hx=>by
  have h:=(h.ext hx).less (cs:=[]) (by simp);refine YE l.length 0 rfl (fun k=>k<=l.length/\∀j:Nat,j<k->Zz (gi l (j:Int))=true) ⟨Nat.zero_le _,fun j hj=>absurd hj (Nat.not_lt_zero j)⟩ fun k ⟨hk,hI⟩=>⟨fun hlt=>?_,fun hge=>?_⟩
  ·have hlt:=Ot hlt;refine⟨h.ix Uv (by omega) hlt,_,h k (by omega) hlt,_,QH,fun g=>?_,fun g=>⟨zka hlt hl,Qr (by omega) ⟨by omega,fun j hj=>?_⟩⟩⟩
   ·have:l.all Zz=false:=by
     cases hb:l.all Zz with
     | false=>rfl
     | true=>
      have:=zjs.1 hb k (by omega);unfold Zz at this;rw[this] at g;cases g
    rw[this]
   ·by_cases hjk:j<k
    ·exact hI j hjk
    ·have:j=k:=by omega
     subst this;unfold Zz
     simpa using g
  ·have hge:=Ou hge;have hk:k=l.length:=by omega
   subst hk;rw[zjs.2 hI]
theorem zwe{a:Int}{w:Wo}{b:Nat}{t:TypeId}{fz:Nat×Nat}(h:w.heap[b]? = some (.cells ([.int .i64 a]:List Va).toArray t fz)):PX [] Zv #[.slice (some ⟨b,0,none⟩) 1 1] w (.bool (Zz a)):=by
 have:=E5 (l:=[a]) (c:=1) (bs:=[]) (AU h (by simp)) (by simp[maxLen])
 simpa using this
theorem zww{a b2:Int}{w:Wo}{b:Nat}{t:TypeId}{fz:Nat×Nat}(h:w.heap[b]? = some (.cells ([.int .i64 a,.int .i64 b2]:List Va).toArray t fz)):PX [] Zv #[.slice (some ⟨b,0,none⟩) 2 2] w (.bool (Zz a&&Zz b2)):=by
 have:=E5 (l:=[a,b2]) (c:=2) (bs:=[]) (AU h (by simp)) (by simp[maxLen])
 simpa using this
theorem zwm{a b2 b3:Int}{w:Wo}{b:Nat}{t:TypeId}{fz:Nat×Nat}(h:w.heap[b]? = some (.cells ([.int .i64 a,.int .i64 b2,.int .i64 b3]:List Va).toArray t fz)):PX [] Zv #[.slice (some ⟨b,0,none⟩) 3 3] w (.bool (Zz a&&(Zz b2&&Zz b3))):=by
 have:=E5 (l:=[a,b2,b3]) (c:=3) (bs:=[]) (AU h (by simp)) (by simp[maxLen])
 simpa using this
theorem A7{m:Int}{w:Wo}{bs:List Nat}:PX bs Jf #[.int .i64 m] w (.bool (O9 m)):=El m fun wr hx=>rfl
theorem Pt{m:Int}{w:Wo}{bs:List Nat}:PX bs Jw #[.int .i64 m] w (.bool (O9 m)):=zam m fun wr hx=>⟨_,A7,rfl⟩
theorem ME{m:Int}{w:Wo}{bs:List Nat}:PX bs JL #[.int .i64 m] w (.bool ((m != 0)&&O9 m)):=Bn m fun wr hx=>⟨_,fun _=>Pt,rfl⟩
theorem zrg:∀(m:Fin 16) (c:Fin 4),(Vy .and .i64 (Int.fdiv (m.val:Int) (2 ^ (min (Int.toNat (c.val:Int)) 64))) 1==1)=(Int.tmod (Int.fdiv (m.val:Int) (2 ^ (min (Int.toNat (c.val:Int)) 64))) 2==1):=by decide +kernel
theorem zih{m c:Int}{w:Wo}{bs:List Nat}:PX bs Uy #[.int .i64 m,.int .i64 c] w (.bool (Z8 m c)):=
 HN m c fun wr hx=>by
  refine⟨_,A7,_,fun _=>QH,fun g=>?_,?_⟩
  ·simp only[Bool.and_eq_true] at g;exact(Qo.1 g.2).1
  ·unfold Z8
   cases h1:O9 m with
   | false=>rfl
   | true=>
    cases h2:Yo c 0 3 with
    | false=>rfl
    | true=>
     obtain⟨x,rfl⟩:=P8 h1;have:=Qo.1 h2;have e:=zrg x ⟨c.toNat,by omega⟩;rw[show ((⟨c.toNat,by omega⟩:Fin 4).val:Int)=c by show ((c.toNat:Nat):Int)=c; omega] at e;rw[e]
theorem A4{m c:Int}{w:Wo}{bs:List Nat}:PX bs TK #[.int .i64 m,.int .i64 c] w (.bool (Z8 m c)):=Ay m c fun wr hx=>⟨_,zih,rfl⟩
theorem OH{a b:Int}{w:Wo}{bs:List Nat}:PX bs XW #[.int .i64 a,.int .i64 b] w (.int .i64 (Vp a b)):=
 Ax a b fun wr hx=>by
  refine⟨_,Pt,_,fun _=>Pt,fun g=>?_,fun g=>?_⟩
  ·rw[X4]; simpa using g
  ·simp only[Bool.or_eq_false_iff,Bool.not_eq_false'] at g;rw[Tg g.1 g.2]
theorem MD{b:Jb}{m:MG}{w:Wo}{bs:List Nat}:PX bs JJ #[.agg (QT b m).toArray] w (.bool (T7 b)):=
 Bk b.quota b.pool b.spent m.lO b.locals.length m.lC m.dO b.dry.length m.dC fun wr hx=>fun _ _=>rfl
theorem DW{g:ZA}{m:MG}{w:Wo}{bs:List Nat}(hu:g.used=false):PX bs V3 #[.agg (Yc g m).toArray] w (.bool (Jr (zne g))):=
 En g.used g.parent g.name g.weight g.cpus g.period g.next g.sum g.band.quota g.band.pool g.band.spent m.lO g.band.locals.length m.lC m.dO g.band.dry.length m.dC m.sO g.shelves.length m.sC fun wr hx=>by
  intro _ _;refine⟨_,fun _=>MD (b:=g.band) (m:=m),O0 ?_⟩;simp only[hu,Bool.not_false,Bool.true_and,Bool.and_eq_true,beq_iff_eq,J9];constructor
  ·rintro⟨⟨⟨⟨⟨⟨⟨⟨e1,e2⟩,e3⟩,e4⟩,e5⟩,e6⟩,e7⟩,e9⟩,e8⟩;exact⟨e1,e2,e3,e4,e5,e6,e7,by omega,e9⟩
  ·intro q;exact⟨⟨⟨⟨⟨⟨⟨⟨q.p,q.n⟩,q.w⟩,q.c⟩,q.pe⟩,q.ne⟩,q.s⟩,q.b⟩,by have:=q.l; omega⟩
theorem k9{b:Jb}{m:MG}{w:Wo}{bs:List Nat}(h1:zfa bs w m.lO b.locals)(h2:zjp bs w m.dO b.dry)(hl:b.locals.length<=maxLen):PX bs Om #[.agg (QT b m).toArray] w (.bool (Jr (Vz b))):=
 zal b.quota b.pool b.spent m.lO b.locals.length m.lC m.dO b.dry.length m.dC fun wr hx=>by
  have h1:=(h1.ext hx).less (cs:=[]) (by simp);have h2:=(h2.ext hx).less (cs:=[]) (by simp);intro _ _;refine⟨_,QH,_,fun _=>QH,fun g=>MU fun p=>?_,fun g=>⟨_,QH,_,fun _=>QH,fun g'=>MU fun p=>?_,fun g'=>?_⟩⟩
  ·rw[Qo.2 ⟨p.q1,p.q2⟩,Qo.2 (by have:=p.l1; have:=p.l2; omega),p.dl] at g;simp at g
  ·rw[Qo.2 ⟨p.p1,p.p2⟩,Qo.2 ⟨p.s1,p.s2⟩] at g'
   cases g'
  ·simp only[Bool.or_eq_false_iff,Bool.not_eq_false',bne_eq_false_iff_eq,Qo] at g g';obtain⟨⟨g1,g2⟩,g3⟩:=g;obtain⟨g4,g5⟩:=g';have hdl:b.dry.length=b.locals.length:=by omega
   have all:∀{k:Nat},k<=b.locals.length->(∀c:Int,0<=c->c<(k:Int)->0<=gi b.locals c/\gi b.locals c<=b.quota/\(gi b.dry c=true->gi b.locals c=0/\b.pool=0))->0<=Ub b.locals k/\Ub b.locals k<=40000:=fun {k} hk h=>by
    have key:∀j:Nat,j<=k->0<=Ub b.locals j/\Ub b.locals j<=(j:Int)*10000:=fun j=>by
     induction j with
     | zero=>intro _; simp[Ub]
     | succ j ih=>
      intro hj;have:=ih (by omega);have:=h (j:Int) (by omega) (by omega);simp only[Ub]; omega
    have:=key k (Nat.le_refl _);omega
   refine⟨⟨by omega,by omega⟩,?_⟩;refine Tx b.locals.length 0 rfl (fun x k=>k<=b.locals.length/\x=b.pool+b.spent+Ub b.locals k/\∀c:Int,0<=c->c<(k:Int)->0<=gi b.locals c/\gi b.locals c<=b.quota/\(gi b.dry c=true->gi b.locals c=0/\b.pool=0)) ⟨Nat.zero_le _,by simp[Ub],fun c h0 h1=>by omega⟩ fun x k ⟨hk,hx2,hI⟩=>⟨fun hlt=>?_,fun hge=>?_⟩
   ·have hlt:=Ot hlt;have hlt2:(k:Int)<(b.dry.length:Int):=by omega
    have hsr:=all hk hI;refine⟨h1.ix Uv (by omega) hlt,_,h1 k (by omega) hlt,_,QH,fun _=>h2.ix Gc (by omega) hlt2,_,fun _=>h2 k (by omega) hlt2,fun g=>MU fun p=>?_,fun g=>?_⟩
    ·have pe:=p.each (k:Int) (by omega) hlt;rw[Qo.2 ⟨pe.1,pe.2.1⟩] at g;simp only[Bool.not_true,Bool.false_or,Bool.and_eq_true,Bool.or_eq_true,bne_iff_ne] at g;have:=pe.2.2 g.1;rcases g.2 with h | h
     ·exact h this.1
     ·exact h this.2
    ·simp only[Bool.or_eq_false_iff,Bool.not_eq_false',Qo] at g;obtain⟨ga,gb⟩:=g;refine⟨⟨by omega,by omega⟩,⟨by omega,by omega⟩,QA (by omega) ⟨by omega,by simp only[Ub]; omega,fun c hc0 hc=>?_⟩⟩
     by_cases hck:c<(k:Int)
     ·exact hI c hc0 hck
     ·have:c=(k:Int):=by omega
      subst this;refine⟨ga.1,ga.2,fun hd=>?_⟩;rw[hd] at gb;simp only[Bool.true_and,Bool.or_eq_false_iff,bne_eq_false_iff_eq] at gb;exact gb
   ·have hge:=Ou hge;have:k=b.locals.length:=by omega
    subst this;refine O0 ?_;rw[beq_iff_eq,hx2];constructor
    ·intro hs;exact⟨g1.1,g1.2,by omega,by omega,hdl,g4.1,g4.2,g5.1,g5.2,hI,hs⟩
    ·exact fun p=>p.sum
def zp4(v f k:Int):Bool:=decide (v>=f)&&decide (v-f<=Zq k)
theorem zsx{a b:Int}(ha:Zz a=true)(hb:Zz b=true):IntKind.i64.wrap (a-b)=a-b:=(DT ha hb).wrap
theorem zp5{v f k:Int}(hv:Zz v=true)(hf:Zz f=true):PA v f k=zp4 v f k:=by unfold PA zp4; rw[zsx hv hf]
theorem Kk{v f k:Int}{w:Wo}{bs:List Nat}(h:Zz v=true)(hf:Zz f=true):PX bs V6 #[.int .i64 v,.int .i64 f,.int .i64 k] w (.bool (PA v f k)):=by
 rw[zp5 h hf];exact zap v f k fun wr hx=>⟨fun _=>DT h hf,_,fun _=>A3,rfl⟩
theorem z7{n:Int}{w:Wo}{bs:List Nat}:PX bs Oq #[.int .i64 n] w (.bool (Yo n 0 8000000)):=zan n fun wr hx=>⟨_,QH,rfl⟩
structure PD (bs:List Nat) (w:Wo) (p:OA) (W:Q7) (m:MW):Prop where
 cs:Q2 bs w p 0 (Qa W m)
 rd:YZ bs w W m
theorem zn0{bs:List Nat}{w:Wo}{o:OA}{n:Nat}{vs:List Va}(h:Q2 bs w o n vs){j:Nat}{v:Va}(hj:vs[j]? = some v):Q2 bs w (o.map (·.add n)) (0+j) [v]:=by
 obtain⟨a,ha,hb,hc⟩:=h.get j v hj;refine Ut ⟨a.add n,by rw[ha]; rfl,by rw[Zl]; exact hb,?_⟩;rw[Xt,Nat.zero_add]; exact hc
theorem zg5{bs:List Nat}{w:Wo}{o:OA}{n k:Nat}{v:Va}{r:List Va}(h:Q2 bs w o k (v::r)):(o.map (·.add n)).isSome=true:=by
 have:=h.some
 cases o with
 | none=>cases this
 | some a=>rfl
section
variable {W:Q7}{m:MW}{w w':Wo}{bs cs:List Nat}{p:OA}
theorem PD.ext(h:PD bs w p W m)(hx:Q0 bs w w'):PD bs w' p W m:=⟨h.cs.ext hx,h.rd.ext hx⟩
theorem PD.less(h:PD bs w p W m)(hs:∀x∈cs,x∈bs):PD cs w p W m:=⟨h.cs.less hs,h.rd.less hs⟩
theorem PD.some(h:PD bs w p W m):p.isSome=true:=by
 have h1:=h.cs.get 0 _ (rfl:(Qa W m)[0]? = Option.some (.int .i64 W.now));obtain⟨a,rfl,_⟩:=h1;rfl
theorem PD.c(h:PD bs w p W m){j:Nat}{v:Va}(hj:(Qa W m)[j]? = Option.some v):Q2 bs w p (0+j) [v]:=Ut (h.cs.get j v hj)
theorem PD.now(h:PD bs w p W m):Q2 bs w p (0+0) [.int .i64 W.now]:=h.c rfl
theorem PD.cpus(h:PD bs w p W m):Q2 bs w p (0+1) [.slice m.cO W.cpus.length m.cC]:=h.c rfl
theorem PD.tasks(h:PD bs w p W m):Q2 bs w p (0+2) [.slice m.tO W.tasks.length m.tC]:=h.c rfl
theorem PD.groups(h:PD bs w p W m):Q2 bs w p (0+3) [.slice m.gO W.groups.length m.gC]:=h.c rfl
def zv5(m:MW)(g c:Int):OA:=(m.ms g.toNat).sO.map (·.add (Int.toNat c*5))
theorem PD.sh(h:PD bs w p W m){g c:Int}(g0:0<=g)(g1:g<(W.groups.length:Int))(c0:0<=c)(c1:c<((gi W.groups g).shelves.length:Int)):(zv5 m g c).isSome=true/\∀{j:Nat} {v:Va},(P1 (Qc W g c))[j]? = Option.some v->Q2 bs w (zv5 m g c) (0+j) [v]:=
 ⟨zg5 (h.rd.g.shelves g g0 g1 c c0 c1),fun {j v} hj=>zn0 (h.rd.g.shelves g g0 g1 c c0 c1) hj⟩
theorem P9{c:Int}:PX bs Ye #[.pointer p,.int .i64 c] w (.agg #[.pointer p,.int .i64 c]):=HL p c fun wr hx=>fun _ _=>rfl
theorem YO{g c:Int}(h:PD bs w p W m)(g0:0<=g)(g1:g<(W.groups.length:Int))(c0:0<=c)(c1:c<((gi W.groups g).shelves.length:Int)):PX bs QZ #[.agg #[.pointer p,.int .i64 c],.int .i64 g] w (.pointer (zv5 m g c)):=
 HP p c g fun wr hx=>by
  have h:=(h.ext hx).less (cs:=[]) (by simp);exact fun _ _=>⟨h.some,_,_,_,h.groups,h.rd.g.ix g0 g1,_,_,_,h.rd.g.shelf g0 g1,(h.rd.g.shelves g g0 g1).ix ZD c0 c1,rfl⟩
theorem A6{c:Int}(h:PD bs w p W m)(c0:0<=c)(c1:c<(W.cpus.length:Int)):PX bs JK #[.agg #[.pointer p,.int .i64 c]] w (.pointer (m.cO.map (·.add (Int.toNat c*5)))):=
 Bl p c fun wr hx=>by
  have h:=(h.ext hx).less (cs:=[]) (by simp);exact fun _ _=>⟨h.some,_,_,_,h.cpus,h.rd.c.ix Zh c0 c1,rfl⟩
theorem B1{c:Int}(h:PD bs w p W m)(hl:W.cpus.length<=maxLen):PX bs XM #[.pointer p,.int .i64 c] w (.bool (Yo c 0 ((W.cpus.length:Int)-1))):=
 MV p c fun wr hx=>by
  have h:=(h.ext hx).less (cs:=[]) (by simp);have:=Xa;exact⟨h.some,_,_,_,h.cpus,⟨by omega,by omega⟩,_,QH,rfl⟩
theorem DY{t:Int}(h:PD bs w p W m)(hl:W.tasks.length<=maxLen):PX bs Xw #[.pointer p,.int .i64 t] w (.bool (Yo t 0 ((W.tasks.length:Int)-1)&&((Q8 W t).state != 0))):=
 Mo p t fun wr hx=>by
  have h:=(h.ext hx).less (cs:=[]) (by simp);have:=Xa;have hr:Yo t 0 ((W.tasks.length:Int)-1)=true->0<=t/\t<(W.tasks.length:Int):=fun g=>by have:=Qo.1 g; omega
  exact⟨h.some,_,_,_,h.tasks,⟨by omega,by omega⟩,_,QH,fun _=>h.some,_,_,_,fun _=>h.tasks,fun g=>h.rd.t.ix QI (hr g).1 (hr g).2,_,fun g=>h.rd.t.f (hr g).1 (hr g).2 (j:=0) rfl,rfl⟩
theorem Pu(h:PD bs w p W m)(h4:W.cpus.length<=4):PX bs Yu #[.pointer p] w (.int .i64 (J2 W.cpus)):=
 Lr p fun wr hx=>by
  have h:=(h.ext hx).less (cs:=[]) (by simp);refine⟨h.some,_,_,_,h.cpus,?_⟩;refine Tx W.cpus.length 0 rfl (fun x k=>k<=W.cpus.length/\x=Uc W.cpus k) ⟨Nat.zero_le _,rfl⟩ fun x k ⟨hk,hx2⟩=>⟨fun hlt=>?_,fun hge=>?_⟩
  ·have hlt:=Ot hlt;have hb:=DD (k:=k) (by omega);have hl:=L8 W.cpus k (by omega);have hbd:(1*2 ^ (min (Int.toNat (k:Int)) 64):Int)=Jq k:=rfl;refine⟨h.rd.c.ix Zh (by omega) hlt,_,_,_,_,_,h.rd.c k (by omega) hlt,fun _ _=>⟨fun hu=>?_,fun hu=>?_⟩⟩
   ·rw[hbd,hx2,zul (by omega) hl.1 hl.2];refine⟨⟨by omega,by omega,by omega⟩,⟨by omega,by omega⟩,QA (by omega) ⟨by omega,?_⟩⟩;simp only[Uc]; rw[if_pos hu]
   ·refine⟨⟨by omega,by omega⟩,QA (by omega) ⟨by omega,?_⟩⟩;rw[hx2]; simp only[Uc]; rw[if_neg (by rw[hu]; decide)]
  ·have hge:=Ou hge;have:k=W.cpus.length:=by omega
   subst this;rw[hx2]; rfl
theorem zf7{g:Int}(h:PD bs w p W m)(h4:W.cpus.length<=4)(ht:ZU W.groups)(hu:Q6 W.groups g=true):PX bs Ux #[.pointer p,.int .i64 g] w (.int .i64 (UW W.groups g (J2 W.cpus))):=
 HM p g fun wr hx=>by
  have h:=(h.ext hx).less (cs:=[]) (by simp);have hr:Q6 W.groups 0=true:=Q5.2 ⟨by decide,by have:=ht.len; omega,ht.ru⟩;obtain⟨r1,r2,_⟩:=Q5.1 hr;refine⟨_,Pu h h4,fun vs=>∃(x s:Int),vs=[.int .i64 x,.int .i64 s]/\Q6 W.groups x=true/\UW W.groups x s=UW W.groups g (J2 W.cpus),fun vs=>(dep 3 W.groups (Y5 0 vs)).toNat,⟨g,_,rfl,hu,rfl⟩,?_⟩;rintro x s ⟨x',s',he,hux,hI⟩;simp only[List.cons.injEq,Value.int.injEq,true_and,and_true] at he;obtain⟨rfl,rfl⟩:=he;refine⟨fun hz=>?_,fun hz=>?_⟩
  ·have hz:x≠0:=by simpa using hz
   obtain⟨hp,a,b,d,e,e2,hd⟩:=ZZ ht hux hz;unfold UW at hI;rw[Yi ht hux hz,List.cons_append,List.foldl_cons] at hI
   exact⟨h.some,_,_,_,h.groups,h.rd.g.ix a b,_,h.rd.g.cpus a b,_,OH,h.some,_,_,_,h.groups,h.rd.g.ix a b,_,h.rd.g.parent a b,⟨_,_,rfl,hp,hI⟩,by
    show (dep 3 W.groups (gi W.groups x).parent).toNat<(dep 3 W.groups x).toNat;omega⟩
  ·have hz:x=0:=by simpa using hz
   subst hz;unfold UW at hI;rw[show QX W.groups 0=[] from Zc _ _] at hI;refine⟨h.some,_,_,_,h.groups,h.rd.g.ix r1 r2,_,h.rd.g.cpus r1 r2,_,OH,?_⟩;unfold UW;rw[<-hI]; rfl
theorem DU{g mask:Int}(h:PD bs w p W m)(h4:W.cpus.length<=4)(ht:ZU W.groups)(hu:Q6 W.groups g=true):PX bs Xv #[.pointer p,.int .i64 mask,.int .i64 g] w (.int .i64 (Qs W g mask)):=
 Ml p mask g fun wr hx=>by
  have h:=(h.ext hx).less (cs:=[]) (by simp);refine⟨_,zf7 h h4 ht hu,_,OH,fun g1=>?_,fun g1=>⟨fun g2=>?_,fun g2=>⟨_,Pu h h4,?_⟩⟩⟩
  ·unfold Qs; rw[if_pos (by simpa using g1)]
  ·unfold Qs; rw[if_neg (by simpa using g1),if_pos (by simpa using g2)]
  ·unfold Qs; rw[if_neg (by simpa using g1),if_neg (by simpa using g2)]
theorem A5{t:Int}(h:PD bs w p W m)(h4:W.cpus.length<=4)(ht:ZU W.groups)(t0:0<=t)(t1:t<(W.tasks.length:Int))(hu:Q6 W.groups (Q8 W t).group=true):PX bs Jc #[.pointer p,.int .i64 t] w (.int .i64 (Qs W (Q8 W t).group (Q8 W t).mask)):=
 Kz p t fun wr hx=>by
  have h:=(h.ext hx).less (cs:=[]) (by simp);exact⟨h.some,_,_,_,h.tasks,h.rd.t.ix QI t0 t1,_,h.rd.t.f t0 t1 (j:=4) rfl,h.some,_,_,_,h.tasks,h.rd.t.ix QI t0 t1,_,h.rd.t.f t0 t1 (j:=1) rfl,_,DU h h4 ht hu,rfl⟩
theorem z8{t c g:Int}(h:PD bs w p W m)(t0:0<=t)(t1:t<(W.tasks.length:Int)):PX bs JY #[.agg #[.pointer p,.int .i64 c],.int .i64 t,.int .i64 g] w (.bool (TH W g c t.toNat)):=
 Gu p c t g fun wr hx=>by
  have h:=(h.ext hx).less (cs:=[]) (by simp);refine fun _ _=>⟨h.some,_,_,_,h.tasks,h.rd.t.ix QI t0 t1,_,_,_,_,_,_,_,_,_,h.rd.t t t0 t1,fun _ _=>?_⟩
  unfold TH;rw[show ((t.toNat:Nat):Int)=t by omega]
theorem zd4{k c g:Int}(h:PD bs w p W m)(ha:WA W)(k0:0<=k)(k1:k<(W.groups.length:Int))(c0:0<=c)(c1:c<(W.cpus.length:Int)):PX bs Uz #[.agg #[.pointer p,.int .i64 c],.int .i64 k,.int .i64 g] w (.bool (XV W g c k.toNat)):=
 HO p c k g fun wr hx=>by
  have h:=(h.ext hx).less (cs:=[]) (by simp)
  have hc:(((k != 0)&&(gi W.groups k).used)&&((gi W.groups k).parent==g))=true->c<((gi W.groups k).shelves.length:Int):=fun q=>by
   simp only[Bool.and_eq_true] at q;rw[ha.sl (Q5.2 ⟨k0,k1,q.1.2⟩)]; exact c1
  refine fun _ _=>⟨fun _=>h.some,_,_,_,fun _=>h.groups,fun _=>h.rd.g.ix k0 k1,_,fun _=>h.rd.g.used k0 k1,fun _=>h.some,_,_,_,fun _=>h.groups,fun _=>h.rd.g.ix k0 k1,_,fun _=>h.rd.g.parent k0 k1,zv5 m k c,fun q=>YO h k0 k1 c0 (hc q),fun q=>(h.sh k0 k1 c0 (hc q)).1,(Qc W k c).on,fun q=>(h.sh k0 k1 c0 (hc q)).2 (j:=1) rfl,?_⟩
  unfold XV;rw[show ((k.toNat:Nat):Int)=k by omega]
  have e:decide (1<=k.toNat)=(k != 0):=by
   by_cases hk:k=0
   ·subst hk; rfl
   ·rw[decide_eq_true (by omega),bne_iff_ne.2 hk]
  rw[e,Bool.and_assoc,Bool.and_assoc,Bool.and_assoc,Bool.and_assoc]
theorem y9{g c:Int}(h:PD bs w p W m)(ha:WA W)(c0:0<=c)(c1:c<(W.cpus.length:Int)):PX bs JW #[.agg #[.pointer p,.int .i64 c],.int .i64 g] w (.bool (QP W g c)):=
 Gs p c g fun wr hx=>by
  have h:=(h.ext hx).less (cs:=[]) (by simp);have hgl:=ha.gl;have ht:=ha.t;refine fun _ _=>⟨h.some,_,_,_,h.tasks,?_⟩
  refine YE W.tasks.length 0 rfl (fun k=>k<=W.tasks.length/\∀j:Nat,j<k->TH W g c j=false) ⟨Nat.zero_le _,fun j hj=>absurd hj (Nat.not_lt_zero j)⟩ fun k ⟨hk,hI⟩=>⟨fun hlt=>?_,fun hge=>?_⟩
  ·have hlt:=Ot hlt;refine⟨_,z8 h (by omega) hlt,fun hy=>?_,fun hn=>⟨⟨by omega,by omega⟩,Qr (by omega) ⟨by omega,fun j hj=>?_⟩⟩⟩
   ·rw[Int.toNat_natCast] at hy;unfold QP;rw[G2.2 ⟨k,by omega,hy⟩]; rfl
   ·by_cases hjk:j<k
    ·exact hI j hjk
    ·have:j=k:=by omega
     subst this
     rwa[Int.toNat_natCast] at hn
  ·have hge:=Ou hge;have hno:VC (TH W g c) W.tasks.length=false:=zc5 fun j hj=>hI j (by omega)
   refine⟨h.some,_,_,_,h.groups,?_⟩;refine YE W.groups.length 0 rfl (fun k=>k<=W.groups.length/\∀j:Nat,j<k->XV W g c j=false) ⟨Nat.zero_le _,fun j hj=>absurd hj (Nat.not_lt_zero j)⟩ fun k ⟨hk,hI⟩=>⟨fun hlt=>?_,fun hge=>?_⟩
   ·have hlt:=Ot hlt;refine⟨_,zd4 h ha (by omega) hlt c0 c1,fun hy=>?_,fun hn=>⟨⟨by omega,by omega⟩,Qr (by omega) ⟨by omega,fun j hj=>?_⟩⟩⟩
    ·rw[Int.toNat_natCast] at hy;unfold QP;rw[G2.2 ⟨k,by omega,hy⟩,Bool.or_true]
    ·by_cases hjk:j<k
     ·exact hI j hjk
     ·have:j=k:=by omega
      subst this
      rwa[Int.toNat_natCast] at hn
   ·have hge:=Ou hge;have:VC (XV W g c) W.groups.length=false:=zc5 fun j hj=>hI j (by omega)
    unfold QP;rw[hno,this]; rfl
theorem zig{g c:Int}(h:PD bs w p W m)(ha:WA W)(hu:Q6 W.groups g=true)(c0:0<=c)(c1:c<(W.cpus.length:Int)):PX bs VP #[.agg #[.pointer p,.int .i64 c],.int .i64 g] w (.bool (UU W g c)):=
 Bm p c g fun wr hx=>by
  have h:=(h.ext hx).less (cs:=[]) (by simp);obtain⟨u1,u2,_⟩:=Q5.1 hu
  have hd:(decide ((gi W.groups g).band.quota>0))=true->c<((gi W.groups g).band.dry.length:Int):=fun g1=>by
   have:=Ot g1;rw[(ha.dl hu (by omega)).1]; exact c1
  exact fun _ _=>⟨h.some,_,_,_,h.groups,h.rd.g.ix u1 u2,_,_,_,_,_,_,_,_,_,h.rd.g.band u1 u2,fun _ _=>⟨fun g1=>(h.rd.g.dry g u1 u2).ix Gc c0 (hd g1),_,fun g1=>(h.rd.g.dry g u1 u2) c c0 (hd g1),rfl⟩⟩
theorem z6{t c:Int}(h:PD bs w p W m)(ha:WA W)(t0:0<=t)(t1:t<(W.tasks.length:Int))(c0:0<=c)(c1:c<(W.cpus.length:Int))(hu:(Q8 W t).state=1->Q6 W.groups (Q8 W t).group=true) :
  PX bs JX #[.agg #[.pointer p,.int .i64 c],.int .i64 t] w (.bool (((Q8 W t).cpu==c)&&Zy W t)):=
 Gt p c t fun wr hx=>by
  have h:=(h.ext hx).less (cs:=[]) (by simp);refine fun _ _=>⟨h.some,_,_,_,h.tasks,h.rd.t.ix QI t0 t1,_,_,_,_,_,_,_,_,_,h.rd.t t t0 t1,fun _ _=>⟨fun g=>?_,fun g=>?_⟩⟩
  ·have g':(((Q8 W t).state != 1)||((Q8 W t).cpu != c))=true:=g
   have:(((Q8 W t).cpu==c)&&Zy W t)=false:=by
    unfold Zy;simp only[Bool.or_eq_true,bne_iff_ne] at g';rcases g' with e | e
    ·rw[beq_eq_false_iff_ne.2 e,Bool.false_and,Bool.and_false]
    ·rw[beq_eq_false_iff_ne.2 e,Bool.false_and]
   rw[this]
  ·have g':(((Q8 W t).state != 1)||((Q8 W t).cpu != c))=false:=g;simp only[Bool.or_eq_false_iff,bne_eq_false_iff_eq] at g';obtain⟨hs,hc⟩:=g';have hug:=hu hs
   have hL:(((Q8 W t).cpu==c)&&Zy W t)=U8 W (Q8 W t).group c:=by
    unfold Zy; rw[beq_iff_eq.2 hs,beq_iff_eq.2 hc,Bool.true_and,Bool.true_and,hc]
   rw[hL];refine⟨fun vs=>∃x:Int,vs=[.int .i64 x]/\Q6 W.groups x=true/\U8 W x c=U8 W (Q8 W t).group c,fun vs=>(dep 3 W.groups (Y5 0 vs)).toNat,⟨_,rfl,hug,rfl⟩,?_⟩;rintro x ⟨x',he,hux,hI⟩;simp only[List.cons.injEq,Value.int.injEq,true_and,and_true] at he;subst he;refine⟨fun hz=>?_,fun hz=>?_⟩
   ·have hz:x≠0:=by simpa using hz
    obtain⟨hp,a,b,d,e,e2,hd⟩:=ZZ ha.tree hux hz;have hc1:c<((gi W.groups x).shelves.length:Int):=by rw[ha.sl hux]; exact c1
    unfold U8 at hI;rw[Yi ha.tree hux hz,List.all_cons] at hI
    refine⟨_,YO h a b c0 hc1,(h.sh a b c0 hc1).1,_,(h.sh a b c0 hc1).2 (j:=1) rfl,fun g2=>?_,fun g2=>⟨h.some,_,_,_,h.groups,h.rd.g.ix a b,_,h.rd.g.parent a b,⟨_,rfl,hp,?_⟩,by
     show (dep 3 W.groups (gi W.groups x).parent).toNat<(dep 3 W.groups x).toNat;omega⟩⟩
    ·have g2:(Qc W x c).on=false:=by simpa using g2
     rw[g2,Bool.false_and] at hI;unfold U8;rw[<-hI]
    ·have g2:(Qc W x c).on=true:=by simpa using g2
     rw[g2,Bool.true_and] at hI;exact hI
   ·have hz:x=0:=by simpa using hz
    subst hz;unfold U8 at hI;rw[show QX W.groups 0=[] from Zc _ _,List.all_nil] at hI;unfold U8;rw[<-hI]
end
end Go.Proofs.YtnclplgaicdapaaGreatDoor
