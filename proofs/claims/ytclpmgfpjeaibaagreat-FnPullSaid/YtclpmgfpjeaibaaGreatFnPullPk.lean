/- Part 11 of what the law FnPull needs: the engine, the functions' propositions, the contracts. -/
import Derived.Test.YtclpmgfpjeaibaaGreatFnPullPj
import Derived.Laws.StructEq
namespace Go.Proofs.YtclpmgfpjeaibaaGreat
open Go.RowKit
set_option linter.unusedVariables false
set_option linter.unusedSimpArgs false
set_option maxRecDepth 10000
set_option maxHeartbeats 8000000
def CO (P:Program):List Field->Nat->List Va->List Va->Option Bool
 | [],_,[],[]=>some true
 | f :: r, k, x :: xs, y :: ys => bif decide (f.name ≠ "_") && Nat.beq f.offset k then
   (match CO P r (k+1) xs ys with
   | some q=>(match P.underlying f.type,x,y with
    | some (.int _),.int a n,.int b m=>bif decide (a=b) then some ((n==m)&&q) else none
    | some .bool,.bool n,.bool m=>some ((n==m)&&q)
    | some .string,.string n,.string m=>some (Zp n m&&q)
    | _,_,_=>none)
   | none=>none) else none
 | _,_,_,_=>none
theorem EE {P:Program} (d:Nat) (w:Wo) (xs ys:List Va):∀(fs:List Field) (k:Nat) (b:Bool),CO P fs k (xs.drop k) (ys.drop k)=some b->(Op.eqFields (d+1) xs.toArray ys.toArray fs).run P w=.ok b w
 | [],k,b,h=>by
  have hb:some true=some b:=by
   cases ex:xs.drop k with
   | nil=>
    cases ey:ys.drop k with
    | nil=>rw[ex,ey] at h; exact h
    | cons y ys'=>rw[ex,ey] at h; cases h
   | cons x xs'=>rw[ex] at h; cases h
  simp only[Option.some.injEq] at hb
  subst hb
  simp[Op.eqFields]
 | f::r,k,b,h=>by
  have hx:∀{l:List Va} {x:Va} {q:List Va},l.drop k=x::q->l[k]? = some x/\l.drop (k+1)=q:=fun {l x q} e=>by
   have h1:l[k]? = (l.drop k)[0]? := by simp
   have h2:l.drop (k+1)=(l.drop k).drop 1:=by simp
   rw[h1,h2,e]; simp
  cases exx:xs.drop k with
  | nil=>rw[exx] at h; cases h
  | cons x xs'=>
  cases eyy:ys.drop k with
  | nil=>rw[exx,eyy] at h; cases h
  | cons y ys'=>
   rw[exx,eyy] at h
   simp only[CO] at h
   obtain⟨gx,dx⟩:=hx exx
   obtain⟨gy,dy⟩:=hx eyy
   cases hc : (decide (f.name ≠ "_") && Nat.beq f.offset k) with
   | false=>rw[hc] at h; cases h
   | true=>
    rw[hc] at h
    simp only[cond_true] at h
    simp only[Bool.and_eq_true,decide_eq_true_eq] at hc
    have hof:=Nat.eq_of_beq_eq_true hc.2
    split at h
    ·rename_i q hq
     have ih:=EE d w xs ys r (k+1) q (by rw[dx,dy]; exact hq)
     have hpart:∀{D:TypeDesc},P.underlying f.type=some D->Ml D=false->(part f.type xs.toArray f.offset).run P w=.ok x w/\(part f.type ys.toArray f.offset).run P w=.ok y w:=fun {D} hu hD=>by
      rw[hof]
      simp[part,Vl hu,hD,gx,gy]
     split at h
     ·rename_i K a n b' m hu
      cases hab:decide (a=b') with
      | false=>rw[hab] at h; cases h
      | true=>
       have:=Ot hab
       subst this
       rw[hab] at h
       simp only[cond_true,Option.some.injEq] at h
       subst h
       obtain⟨p1,p2⟩:=hpart hu rfl
       simp only[Op.eqFields,if_pos hc.1,Sem.run_bind,p1,p2,Result.andThen_ok,run_equalIn_int w d f.type a K n m hu,Sem.run_ite]
       cases n==m <;> simp[ih]
     ·rename_i n m hu
      simp only[Option.some.injEq] at h
      subst h
      obtain⟨p1,p2⟩:=hpart hu rfl
      simp only[Op.eqFields,if_pos hc.1,Sem.run_bind,p1,p2,Result.andThen_ok,run_equalIn_bool' w d f.type n m hu,Sem.run_ite]
      cases n==m <;> simp[ih]
     ·rename_i n m hu
      simp only[Option.some.injEq] at h
      subst h
      obtain⟨p1,p2⟩:=hpart hu rfl
      simp only[Op.eqFields,if_pos hc.1,Sem.run_bind,p1,p2,Result.andThen_ok,run_equalIn_string w d f.type n m hu,Sem.run_ite]
      unfold Zp
      cases n.toList==m.toList <;> simp[ih]
     ·cases h
    ·cases h
structure zmq (P:Program) (t:TypeId):Prop where
 u:P.underlying t=some (.struct (P.fieldsOf t))
 s:P.stoodInHeld t=false
 g:P.eqGuardType P.depth t=false
theorem EF{P:Program}{t:TypeId}(F:zmq P t){xs ys:List Va}{b:Bool}(h:CO P (P.fieldsOf t).toList 0 xs ys=some b)(w:Wo):(Op.equal t (.agg xs.toArray) (.agg ys.toArray)).run P w=.ok b w:=by
 have:=run_equalIn_struct (P:=P) w 9999 t xs.toArray ys.toArray F.u F.s;rw[EE 9998 w xs ys _ 0 b (by simpa using h)] at this;exact this
theorem zbf{P:Program}{t:TypeId}(F:zmq P t){xs ys:List Va}{b:Bool}(h:CO P (P.fieldsOf t).toList 0 xs ys=some b)(x y:Operand)(w:Wo):((do eqGuard .eql t x y (.agg xs.toArray) (.agg ys.toArray); binOp .eql t (.agg xs.toArray) (.agg ys.toArray)):Sem Va).run P w=.ok (.bool b) w:=by
 have:=EF F h w;simp only[Op.equal,Op.maxDepth] at this;simp only[Sem.run_bind,run_eqGuard_agg w .eql t x y _ _ F.g,Result.andThen_ok,run_eql_struct,this]
theorem OY:zmq Tryz.prog QC:=⟨by kernel_rfl,by kernel_rfl,by kernel_rfl⟩
def JV(p:Int)(n:ByteArray):Va:=.agg #[.int .i64 p,.string n]
theorem zk7(p q:Int)(n m:ByteArray):CO Tryz.prog (Tryz.prog.fieldsOf QC).toList 0 [.int .i64 p,.string n] [.int .i64 q,.string m]=some ((p==q)&&(Zp n m&&true)):=by kernel_rfl
theorem zfi(p q:Int)(n m:ByteArray)(w:Wo):(Op.equal QC (JV p n) (JV q m)).run Tryz.prog w=.ok (decide (p=q/\n=m)) w:=by
 have:=EF OY (zk7 p q n m) w
 have e:((p==q)&&(Zp n m&&true))=decide (p=q/\n=m):=by
  rw[EH,Bool.and_true]
  by_cases h1:p=q <;> by_cases h2:n=m <;> simp[h1,h2]
 rw[e] at this;exact this
theorem zj4(p:Int)(n:ByteArray)(w:Wo):∀(es:List MapEntry) (i:Nat),(∀e∈es,∃q m v,e.key=JV q m/\e.val=.int .i64 v)->
  (∃(j:Nat) (v:Int),(Instr.findAsking QC (JV p n) es i).run Tryz.prog w=.ok (some (j,.int .i64 v)) w/\∃e∈es,e.key=JV p n) \/
  ((Instr.findAsking QC (JV p n) es i).run Tryz.prog w=.ok none w/\∀e∈es,e.key≠JV p n)
 | [],i,_=>.inr ⟨by simp[Instr.findAsking],fun e he=>by cases he⟩
 | e::r,i,h=>by
  obtain⟨q,m,v,hk,hv⟩:=h e (List.mem_cons_self ..)
  by_cases hq:p=q/\n=m
  ·refine .inl ⟨i,v,?_,e,List.mem_cons_self ..,by rw[hk,hq.1,hq.2]⟩;simp only[Instr.findAsking,hk,Sem.run_bind,zfi,decide_eq_true hq,Result.andThen_ok,if_true,Sem.run_pure,hv]
  ·have hstep:(Instr.findAsking QC (JV p n) (e::r) i).run Tryz.prog w=(Instr.findAsking QC (JV p n) r (i+1)).run Tryz.prog w:=by
    simp only[Instr.findAsking,hk,Sem.run_bind,zfi,decide_eq_false hq,Result.andThen_ok,Bool.false_eq_true,if_false]
   have hne:e.key≠JV p n:=fun e'=>by
    rw[hk] at e';simp only[JV,Value.agg.injEq,List.toArray_inj,Array.mk.injEq,List.cons.injEq,Value.int.injEq,true_and,Value.string.injEq,and_true] at e';exact hq ⟨e'.1.symm,e'.2.symm⟩
   rcases zj4 p n w r (i+1) (fun x hx=>h x (List.mem_cons_of_mem _ hx)) with ⟨j,v',h1,x,hx,h2⟩ | ⟨h1,h2⟩
   ·exact .inl ⟨j,v',by rw[hstep]; exact h1,x,List.mem_cons_of_mem _ hx,h2⟩
   ·exact .inr ⟨by rw[hstep]; exact h1,fun x hx=>by
     rcases List.mem_cons.1 hx with rfl | hx
     ·exact hne
     ·exact h2 x hx⟩
theorem BR(p:Int)(n:ByteArray)(w:Wo)(es:List MapEntry)(h:∀e∈es,∃q m v,e.key=JV q m/\e.val=.int .i64 v) :
  (∃(j:Nat) (v:Int),(Instr.findKey QC (JV p n) es).run Tryz.prog w=.ok (some (j,.int .i64 v)) w/\∃e∈es,e.key=JV p n) \/
  ((Instr.findKey QC (JV p n) es).run Tryz.prog w=.ok none w/\∀e∈es,e.key≠JV p n):=by
 cases es with
 | nil=>exact .inr ⟨by simp[Instr.findKey,run_underlying OY.u,Instr.findNow],fun e he=>by cases he⟩
 | cons e r=>
  have hs:(Instr.findKey QC (JV p n) (e::r)).run Tryz.prog w=(Instr.findAsking QC (JV p n) (e::r) 0).run Tryz.prog w:=by
   simp[Instr.findKey,run_underlying OY.u,Instr.findNow,Instr.sameNow]
  rw[hs];exact zj4 p n w (e::r) 0 h
theorem CL:∃a b:Field,(Tryz.prog.fieldsOf QC).toList=[a,b]/\a.type=Qd/\a.offset=0/\b.type=Zt/\b.offset=1:=⟨(Tryz.prog.fieldsOf QC)[0]!,(Tryz.prog.fieldsOf QC)[1]!,by kernel_rfl,by kernel_rfl,by kernel_rfl,by kernel_rfl,by kernel_rfl⟩
theorem Kk (em:Bool) (p:Int) (n:ByteArray) (w:Wo):(Instr.checkKey em 10000 QC (JV p n)).run Tryz.prog w=.ok () w:=by
 obtain⟨a,b,hl,a1,a2,b1,b2⟩:=CL
 have p1:(part Qd #[.int .i64 p,.string n] 0).run Tryz.prog w=.ok (.int .i64 p) w:=by simp[part,Vl zv6,Ml]
 have p2:(part Zt #[.int .i64 p,.string n] 1).run Tryz.prog w=.ok (.string n) w:=by simp[part,Vl zbs,Ml]
 have c1:∀d:Nat,(Instr.checkKey em (d+1) Qd (.int .i64 p)).run Tryz.prog w=.ok () w:=fun d=>by simp[Instr.checkKey,run_underlying zv6]
 have c2:∀d:Nat,(Instr.checkKey em (d+1) Zt (.string n)).run Tryz.prog w=.ok () w:=fun d=>by simp[Instr.checkKey,run_underlying zbs]
 have key:∀d:Nat,(Instr.checkKey em (d+1+1) QC (JV p n)).run Tryz.prog w=.ok () w:=fun d=>by
  rw[Instr.checkKey]
  simp only[JV,Sem.run_bind,run_underlying OY.u,Result.andThen_ok]
  rw[<-Array.forIn_toList,hl]
  by_cases ha : a.name ≠ "_" <;> by_cases hb : b.name ≠ "_" <;> simp [ha, hb, a1, a2, b1, b2, p1, p2, c1, c2]
 exact key 9998
theorem BC:Tryz.prog.underlying Zr=some (.map QC Qd):=by kernel_rfl
theorem zyt(w:Wo):(zeroValue Qd).run Tryz.prog w=.ok (.int .i64 0) w:=by
 have h:(match Tryz.prog.info? Qd with | some i=>i.zero | none=>none)=some (.int .i64 0):=by kernel_rfl
 cases hi:Tryz.prog.info? Qd with
 | none=>rw[hi] at h; cases h
 | some i=>
  rw[hi] at h;simp only at h;simp[zeroValue,Ju hi,h]
def Dh(w:Wo)(b:Nat)(es:Array MapEntry):Prop:=(∃c,w.heap[b]? = some (.map es c))/\∀e∈es.toList,∃q m v,e.key=JV q m/\e.val=.int .i64 v
theorem zsm{w:Wo}{b:Nat}{es:Array MapEntry}(h:Dh w b es)(p:Int)(n:ByteArray) :
  ∃(v:Int) (ok:Bool),(Instr.lookup Zr (.map (some b)) (JV p n) true).run Tryz.prog w=.ok (.tuple #[.int .i64 v,.bool ok]) w/\(ok=true↔∃e∈es.toList,e.key=JV p n):=by
 obtain⟨⟨c,hc⟩,hes⟩:=h;have hg:(getObj b).run Tryz.prog w=.ok (.map es c) w:=by simp[getObj,Sem.run,hc]
 rcases BR p n w es.toList hes with ⟨j,v,h1,h2⟩ | ⟨h1,h2⟩
 ·exact⟨v,true,by simp[Instr.lookup,run_underlying BC,hg,Kk,h1],by simpa using h2⟩
 ·exact⟨0,false,by simp[Instr.lookup,run_underlying BC,hg,Kk,h1,zyt],⟨fun h=>(by cases h),fun ⟨e,he,hk⟩=>absurd hk (h2 e he)⟩⟩
theorem zvf{w:Wo}{b:Nat}{es:Array MapEntry}(h:Dh w b es){p:Int}{n:ByteArray}(hno:∀e∈es.toList,e.key≠JV p n)(v:Int) :
  ∃w' c,((do Instr.mapUpdate Zr (.map (some b)) (JV p n) (.int .i64 v); pure undef):Sem Va).run Tryz.prog w=.ok undef w'/\Q0 [b] w w'/\Dh w' b (es.push { key:=JV p n,val:=.int .i64 v,born:=c }):=by
 obtain⟨⟨c,hc⟩,hes⟩:=h;have hg:(getObj b).run Tryz.prog w=.ok (.map es c) w:=by simp[getObj,Sem.run,hc]
 have hfk:(Instr.findKey QC (JV p n) es.toList).run Tryz.prog w=.ok none w:=by
  rcases BR p n w es.toList hes with ⟨j,v,_,e,he,hk⟩ | ⟨h1,_⟩
  ·exact absurd hk (hno e he)
  ·exact h1
 have hs:(setObj b (.map (es.push { key:=JV p n,val:=.int .i64 v,born:=c }) (c+1))).run Tryz.prog w=.ok () { w with heap:=w.heap.setIfInBounds b (.map (es.push { key:=JV p n,val:=.int .i64 v,born:=c }) (c+1)) }:=by
  simp[setObj,Sem.run,hc]
 have hlt:=Ur hc;refine⟨{ w with heap:=w.heap.setIfInBounds b (.map (es.push { key:=JV p n,val:=.int .i64 v,born:=c }) (c+1)) },c,by simp[Instr.mapUpdate,run_underlying BC,hg,Kk,hfk,hs],⟨rfl,rfl,rfl,by simp,fun k _ hk=>?_⟩,⟨c+1,by simp[hlt]⟩,fun e he=>?_⟩
 ·have:b≠k:=fun e=>hk (by simp[e])
  show (w.heap.setIfInBounds b _)[k]? = _;rw[Array.getElem?_setIfInBounds_ne this]
 ·rw[Array.toList_push,List.mem_append] at he;rcases he with he | he
  ·exact hes e he
  ·rw[List.mem_singleton] at he;subst he;exact⟨p,n,v,rfl,rfl⟩
theorem Dh.ext{w w':Wo}{b:Nat}{es:Array MapEntry}{bs:List Nat}(h:Dh w b es)(hx:Q0 bs w w')(hb:b∉bs):Dh w' b es:=by
 obtain⟨⟨c,hc⟩,hes⟩:=h;exact⟨⟨c,Zd hc hx hb⟩,hes⟩
def CF(p:OA):List Va:=[.pointer p]
theorem Pc:zqa Tryz.prog CF 1 Yd 8 none:=HJ (by kernel_rfl) fun _=>rfl
theorem zp7:Tryz.prog.underlying M9=some (.slice Yd):=by kernel_rfl
def V0(w:Wo)(b:Nat)(g:Int)(n:ByteArray)(up:OA):Prop:=w.heap[b]? = some (.cells ([.int .i64 g,.string n,.pointer up]:List Va).toArray EL (0,0))
theorem V0.ext{w w':Wo}{b:Nat}{g:Int}{n:ByteArray}{up:OA}{bs:List Nat}(h:V0 w b g n up)(hx:Q0 bs w w')(hb:b∉bs):V0 w' b g n up:=Zd h hx hb
theorem V0.cells{w:Wo}{b:Nat}{g:Int}{n:ByteArray}{up:OA}(h:V0 w b g n up){bs:List Nat}(hb:b∉bs):Q2 bs w (some ⟨b,0,none⟩) 0 [.int .i64 g,.string n,.pointer up]:=
 Pa h hb fun j v hj=>by rw[Nat.zero_add,Nat.zero_add]; exact hj
def zmk(gs:List ZF)(nb:Int->Nat)(x:Int):OA:=if x=0 then none else some ⟨nb (gi gs x).parent,0,none⟩
structure Ns (bs:List Nat) (w:Wo) (gs:List ZF) (nb:Int->Nat):Prop where
 node:∀x:Int,Q6 gs x=true->Q2 bs w (some ⟨nb x,0,none⟩) 0 [.int .i64 x,.string (gi gs x).name,.pointer (zmk gs nb x)]
 par:∀x:Int,x≠0->Q6 gs x=true->Q6 gs (gi gs x).parent=true
theorem Ns.ext{bs:List Nat}{w w':Wo}{gs:List ZF}{nb:Int->Nat}(h:Ns bs w gs nb)(hx:Q0 bs w w'):Ns bs w' gs nb:=⟨fun x hu=>(h.node x hu).ext hx,h.par⟩
theorem Ns.less{bs cs:List Nat}{w:Wo}{gs:List ZF}{nb:Int->Nat}(h:Ns bs w gs nb)(hs:∀x∈cs,x∈bs):Ns cs w gs nb:=⟨fun x hu=>(h.node x hu).less hs,h.par⟩
def zal(gs:List ZF)(f:Nat)(x:Int)(s:Int):Int:=if dep f gs x<0 then -1 else s+dep f gs x
theorem zuk{gs:List ZF}{nb:Int->Nat}{w:Wo}{bs:List Nat}(h:Ns bs w gs nb){x:Int}(hu:Q6 gs x=true):PX bs V7 #[.pointer (some ⟨nb x,0,none⟩)] w (.int .i64 (zal gs 3 x 0)):=
 Et (some ⟨nb x,0,none⟩) fun wr hx=>by
  have h:=(h.ext hx).less (cs:=[]) (by simp);refine⟨fun vs=>(∃(y:Int) (s:Nat),Q6 gs y=true/\s<=4/\vs=[.pointer (some ⟨nb y,0,none⟩),.int .i64 (s:Int)]/\(s<=3->zal gs (3-s) y s=zal gs 3 x 0)/\(s=4->zal gs 3 x 0 = -1))\/∃s:Nat,s<=4/\vs=[.pointer none,.int .i64 (s:Int)]/\zal gs 3 x 0 = -1,fun vs=>(5-ZZ 1 vs).toNat,.inl ⟨x,0,hu,by omega,rfl,fun _=>rfl,fun h=>by omega⟩,?_⟩;rintro n1 st (⟨y,s,hy,hs,he,h1,h2⟩ | ⟨s,hs,he,h1⟩)
  ·simp only[List.cons.injEq,Value.int.injEq,Value.pointer.injEq,true_and,and_true] at he;obtain⟨rfl,rfl⟩:=he;refine⟨fun hc=>?_,fun hc=>?_⟩
   ·have hs3:s<=3:=by
     simp only[Option.isNone_some,Bool.not_false,Bool.true_and,decide_eq_true_eq] at hc;omega
    have hn:=h.node y hy;refine⟨rfl,y,hn.get 0 _ rfl,fun hz=>?_,fun hz=>?_⟩
    ·have hz:y=0:=by simpa using hz
     rw[<-h1 hs3];subst hz;unfold zal;rw[Yk,if_neg (by omega),Int.add_zero]
    ·have hz:y≠0:=by simpa using hz
     have hm:zmk gs nb y=some ⟨nb (gi gs y).parent,0,none⟩:=by unfold zmk; rw[if_neg hz]
     refine⟨⟨by omega,by omega⟩,rfl,_,by have:=hn.get 2 _ rfl; exact this,.inl ⟨(gi gs y).parent,s+1,h.par y hz hy,by omega,by rw[hm]; simp,fun hs'=>?_,fun hs'=>?_⟩,?_⟩
     ·rw[<-h1 hs3];have e:3-s=(3-(s+1))+1:=by omega
      rw[e];unfold zal;simp only[dep,if_neg hz]
      by_cases hd:dep (3-(s+1)) gs (gi gs y).parent<0
      ·rw[if_pos hd,if_pos hd,if_pos (by omega)]
      ·rw[if_neg hd,if_neg hd,if_neg (by omega)]; omega
     ·rw[<-h1 hs3];have e:3-s=0:=by omega
      rw[e];unfold zal;simp only[dep,if_neg hz];rfl
     ·show (5-((s:Int)+1)).toNat<(5-(s:Int)).toNat;omega
   ·have hs4:s=4:=by
     simp only[Option.isNone_some,Bool.not_false,Bool.true_and,decide_eq_false_iff_not] at hc;omega
    rw[h2 hs4]
  ·simp only[List.cons.injEq,Value.int.injEq,Value.pointer.injEq,true_and,and_true] at he;obtain⟨rfl,rfl⟩:=he;refine⟨fun hc=>by simp at hc,fun _=>by rw[h1]⟩
section
variable {gs:List ZF}{ms:Nat->MG}{o:OA}{c:Nat}{w:Wo}{bs:List Nat}
theorem MJ{g:Int}(h:KD bs w o gs ms)(hl:gs.length<=maxLen):PX bs Jz #[.slice o gs.length c,.int .i64 g] w (.bool (Q6 gs g)):=
 B9 o gs.length c g fun wr hx=>by
  have h:=(h.ext hx).less (cs:=[]) (by simp);have:=Xb
  have e:Yh g 0 ((gs.length:Int)-1)=(decide (g>=0)&&decide (g<(gs.length:Int))):=by
   unfold Yh
   congr 1
   exact decide_eq_decide.2 (by omega)
  refine⟨⟨by omega,by omega⟩,_,Qu,fun q=>?_,(gi gs g).used,fun q=>?_,by rw[e]; rfl⟩
  ·have q:=Qm.1 q;exact h.ix (by omega) (by omega)
  ·have q:=Qm.1 q;exact h.used (by omega) (by omega)
theorem zul(h:KD [] w o gs ms)(hl:gs.length<=maxLen) :
  Cz Mh #[.slice o gs.length c] w fun e w'=>∃(o':OA) (L C:Nat) (ok:Bool),e=.returned (.tuple #[.slice o' L C,.bool ok])/\ok=M8 gs/\Q0 [] w w'/\
   (ok=false->L=0)/\(ok=true->L=8/\∃(pl:List (OA)) (nb:Int->Nat),pl.length=8/\Rd CF 1 [] w' o' pl/\(∀g:Int,0<=g->g<8->gi pl g=if (gi gs g).used then some ⟨nb g,0,none⟩ else none)/\Ns [] w' gs nb):=by
 refine(zgp o gs.length c (R:=fun v w'=>∃(o':OA) (L C:Nat) (ok:Bool),v=.tuple #[.slice o' L C,.bool ok]/\ok=M8 gs/\Q0 [] w w'/\
   (ok=false->L=0)/\(ok=true->L=8/\∃(pl:List (OA)) (nb:Int->Nat),pl.length=8/\Rd CF 1 [] w' o' pl/\(∀g:Int,0<=g->g<8->gi pl g=if (gi gs g).used then some ⟨nb g,0,none⟩ else none)/\Ns [] w' gs nb)) ?_).mono fun e w' ⟨v,he,o',L,C,ok,hv,hr⟩=>⟨o',L,C,ok,by rw[he,hv],hr⟩
 have bad:∀w',Q0 [] w w'->¬ZX gs->∃(o':OA) (L C:Nat) (ok:Bool),Value.tuple #[.slice none 0 0,.bool false]=.tuple #[.slice o' L C,.bool ok]/\ok=M8 gs/\Q0 [] w w'/\
   (ok=false->L=0)/\(ok=true->L=8/\∃(pl:List (OA)) (nb:Int->Nat),pl.length=8/\Rd CF 1 [] w' o' pl/\(∀g:Int,0<=g->g<8->gi pl g=if (gi gs g).used then some ⟨nb g,0,none⟩ else none)/\Ns [] w' gs nb):=fun w' hx hno=>
  ⟨none,0,0,false,rfl,(EK hno).symm,hx,fun _=>rfl,fun h=>by cases h⟩
 have l8:((((gs.length:Nat):Int) != 8)=false)->gs.length=8:=fun q=>by have:=(bne_eq_false_iff_eq).1 q; omega
 have i0:∀q:(((gs.length:Nat):Int) != 8)=false,(0:Int)<(gs.length:Int):=fun q=>by have:=l8 q; omega
 refine⟨fun q=>h.ix (Int.le_refl _) (i0 q),(gi gs 0).used,fun q=>h.used (Int.le_refl _) (i0 q),fun q=>?_,(gi gs 0).parent,fun q=>?_,fun q=>?_,(gi gs 0).name,fun q=>?_,fun q=>?_,fun q=>?_⟩
 ·simp only[Bool.or_eq_false_iff] at q; exact h.ix (Int.le_refl _) (i0 q.1)
 ·simp only[Bool.or_eq_false_iff] at q; exact h.parent (Int.le_refl _) (i0 q.1)
 ·simp only[Bool.or_eq_false_iff] at q; exact h.ix (Int.le_refl _) (i0 q.1.1)
 ·simp only[Bool.or_eq_false_iff] at q; exact h.name (Int.le_refl _) (i0 q.1.1)
 ·intro w1 hx1;refine bad w1 hx1 fun ht=>?_
  have e:((gs.length:Nat):Int)=8:=by have:=ht.len; omega
  rw[e,ht.ru,ht.rp,ht.rn,EH] at q;simp at q
 simp only[Bool.or_eq_false_iff,Bool.not_eq_false',bne_eq_false_iff_eq,Ue] at q;obtain⟨⟨⟨q1,ru⟩,rp⟩,rn⟩:=q;have hl8:gs.length=8:=by omega
 intro wr hx _;refine⟨some ⟨wr.heap.size,0,none⟩,8,8,wr.alloc (.cells ((List.replicate 8 none).flatMap CF).toArray Yd),LP Pc zp7 8 (by decide) (by simp[maxLen]) wr,Jq,?_⟩;have hO0:=Oh (enc:=CF) Pc.len Yd 8 none wr;have hX0:Q0 [] wr (wr.alloc (.cells ((List.replicate 8 none).flatMap CF).toArray Yd)):=Zc wr _;generalize wr.alloc (.cells ((List.replicate 8 (none:OA)).flatMap CF).toArray Yd)=wv at hO0 hX0
 refine TM 8 0 rfl (fun k w1=>k<=8/\Q0 [] wr w1/\∃(pl:List (OA)) (nb:Int->Nat),pl.length=8/\U4 CF 1 Yd wr.heap.size w1 (some ⟨wr.heap.size,0,none⟩) 8 pl/\
   (∀g:Int,0<=g->g<8->gi pl g=if g<(k:Int)/\(gi gs g).used=true then some ⟨nb g,0,none⟩ else none)/\
   (∀g:Int,0<=g->g<(k:Int)->(gi gs g).used=true->wr.heap.size<=nb g/\V0 w1 (nb g) g (gi gs g).name none)/\
   (∀g g':Int,0<=g->g<(k:Int)->0<=g'->g'<(k:Int)->(gi gs g).used=true->(gi gs g').used=true->nb g=nb g'->g=g')) (fun w1 hx1 _=>⟨Nat.zero_le _,hX0.trans hx1,List.replicate 8 none,fun _=>0,rfl,hO0.ext0 hx1,fun g h0 h1=>?_,fun g h0 h1=>by omega,fun g g' h0 h1=>by omega⟩) fun k w1 _ ⟨hk,hX,pl,nb,hpl,hO,hP,hN,hinj⟩=>⟨fun hlt=>?_,fun hge=>?_⟩
 ·rw[if_neg (fun hc=>by omega)];exact List.eq_of_mem_replicate (FB h0 (by simpa using h1))
 ·have hlt:=Ot hlt;have hr:=(h.ext hx).ext hX;have hk0:(0:Int)<=(k:Int):=by omega
  refine⟨hr.ix hk0 hlt,_,hr.used hk0 hlt,fun hu=>⟨hr.ix hk0 hlt,_,hr.name hk0 hlt,fun b wb hxb hb hhb _=>?_⟩,fun hu=>⟨⟨by omega,by omega⟩,fun w2 hx2 _=>QM (by omega) ⟨by omega,hX.trans hx2,pl,nb,hpl,hO.ext0 hx2,fun g h0 h1=>?_,fun g h0 h1 hg=>?_,fun g g' h0 h1 h0' h1' hg hg'=>?_⟩⟩⟩
  ·have hOb:=hO.ext0 hxb;have hkl:(k:Int)<(pl.length:Int):=by rw[hpl]; omega
   have hix:=hOb.ix hk0 hkl;rw[hpl] at hix;refine⟨hix,hOb.wr Pc.len (by simp) hk0 hkl (j:=0) (n:=1) (by omega),⟨by omega,by omega⟩,fun w2 hx2 _=>QM (by omega) ⟨by omega,?_,pl.set k (some ⟨b,0,none⟩),fun g=>if g=(k:Int) then b else nb g,by rw[List.length_set]; exact hpl,?_,fun g h0 h1=>?_,fun g h0 h1 hg=>?_,fun g g' h0 h1 h0' h1' hg hg' he=>?_⟩⟩
   ·exact(hOb.stoB _ _ (hX.trans hxb) (Nat.le_refl _)).trans hx2
   ·exact(hOb.sto Pc.len (i:=(k:Int)) hk0 hkl (j:=0) (vs:=[.pointer (some ⟨b,0,none⟩)]) (x:=some ⟨b,0,none⟩) rfl (by simp)).ext0 hx2
   ·have:=QA pl (some ⟨b,0,none⟩) (i:=(k:Int)) (j:=g) hk0 hkl h0;rw[Int.toNat_natCast] at this;rw[this]
    by_cases hgk:(k:Int)=g
    ·subst hgk;rw[if_pos rfl,if_pos ⟨by omega,hu⟩]
     dsimp only
     rw[if_pos rfl]
    ·rw[if_neg hgk,hP g h0 h1]
     dsimp only
     rw[show (if g=(k:Int) then b else nb g)=nb g from if_neg (fun e=>hgk e.symm)]
     by_cases hlt2:g<(k:Int)
     ·by_cases hgu:(gi gs g).used=true
      ·rw[if_pos ⟨hlt2,hgu⟩,if_pos ⟨by omega,hgu⟩]
      ·rw[if_neg (fun hc=>hgu hc.2),if_neg (fun hc=>hgu hc.2)]
     ·rw[if_neg (fun hc=>hlt2 hc.1),if_neg (fun hc=>by omega)]
   ·have hsz:Q0 (QB (some ⟨wr.heap.size,0,none⟩)) wb (sto wb (some ⟨wr.heap.size,0,none⟩) (Int.toNat (k:Int)*1) [.pointer (some ⟨b,0,none⟩)]):=hOb.stoX _ _
    have hne:∀q,V0 wb q g (gi gs g).name none->q∉QB (some (⟨wr.heap.size,0,none⟩:Addr)):=fun q hq hm=>by
     simp only[QB,List.mem_singleton] at hm;subst hm;rcases hOb with ⟨hc,_⟩ | ⟨b',sp,he,_,h2,_⟩
     ·cases hc
     ·simp only[Option.some.injEq,Addr.mk.injEq,and_true] at he;subst he;unfold V0 at hq;rw[h2] at hq;simp only[Option.some.injEq,Obj.cells.injEq] at hq;exact absurd hq.2.1 (by decide)
    dsimp only
    by_cases hgk:g=(k:Int)
    ·subst hgk;rw[if_pos rfl];have hq:V0 wb b (k:Int) (gi gs (k:Int)).name none:=hhb;exact⟨Nat.le_trans hX.size hb,((hq.ext hsz (hne b hq)).ext hx2 (by simp))⟩
    ·rw[if_neg hgk];obtain⟨n1,n2⟩:=hN g h0 (by omega) hg;have n3:=n2.ext hxb (by simp);exact⟨n1,(n3.ext hsz (hne _ n3)).ext hx2 (by simp)⟩
   ·have fresh:∀q:Int,0<=q->q<(k:Int)->(gi gs q).used=true->nb q≠b:=fun q a1 a2 a3 e=>by
     have:=Ur (hN q a1 a2 a3).2;omega
    dsimp only at he
    by_cases hgk:g=(k:Int)
    ·by_cases hgk':g'=(k:Int)
     ·rw[hgk,hgk']
     ·rw[if_pos hgk,if_neg hgk'] at he;exact absurd he.symm (fresh g' h0' (by omega) hg')
    ·by_cases hgk':g'=(k:Int)
     ·rw[if_neg hgk,if_pos hgk'] at he;exact absurd he (fresh g h0 (by omega) hg)
     ·rw[if_neg hgk,if_neg hgk'] at he;exact hinj g g' h0 (by omega) h0' (by omega) hg hg' he
  ·rw[hP g h0 h1]
   by_cases hgk:g=(k:Int)
   ·subst hgk;rw[if_neg (fun hc=>by omega),if_neg (fun hc=>by rw[hu] at hc; exact absurd hc.2 (by decide))]
   ·by_cases hlt2:g<(k:Int)
    ·by_cases hgu:(gi gs g).used=true
     ·rw[if_pos ⟨hlt2,hgu⟩,if_pos ⟨by omega,hgu⟩]
     ·rw[if_neg (fun hc=>hgu hc.2),if_neg (fun hc=>hgu hc.2)]
    ·rw[if_neg (fun hc=>hlt2 hc.1),if_neg (fun hc=>by omega)]
  ·by_cases hgk:g=(k:Int)
   ·subst hgk; rw[hu] at hg; cases hg
   ·obtain⟨n1,n2⟩:=hN g h0 (by omega) hg;exact⟨n1,n2.ext hx2 (by simp)⟩
  ·have e1:g≠(k:Int):=fun e=>by subst e; rw[hu] at hg; cases hg
   have e2:g'≠(k:Int):=fun e=>by subst e; rw[hu] at hg'; cases hg'
   exact hinj g g' h0 (by omega) h0' (by omega) hg hg'
 ·have hge:=Ou hge;have hk8:k=8:=by omega
  subst hk8;intro w2 hx2 _;refine⟨.map (some w2.heap.size),w2.alloc (.map #[] 0),by simp[Instr.makeMap],Jq,?_⟩;have hM0:Dh (w2.alloc (.map #[] 0)) w2.heap.size #[]:=⟨⟨0,Array.getElem?_push_size ..⟩,fun e he=>by cases he⟩;have hX2:Q0 [] wr (w2.alloc (.map #[] 0)):=(hX.trans hx2).trans (Zc w2 _);have hO2:=(hO.ext0 hx2).ext0 (Zc w2 (.map #[] 0))
  have hN2:∀g:Int,0<=g->g<8->(gi gs g).used=true->wr.heap.size<=nb g/\V0 (w2.alloc (.map #[] 0)) (nb g) g (gi gs g).name none:=fun g h0 h1 hg=>
   ⟨(hN g h0 (by omega) hg).1,((hN g h0 (by omega) hg).2.ext hx2 (by simp)).ext (Zc w2 _) (by simp)⟩
  have hP2:∀g:Int,0<=g->g<8->gi pl g=if (gi gs g).used=true then some ⟨nb g,0,none⟩ else none:=fun g h0 h1=>by
   rw[hP g h0 h1]
   by_cases hgu:(gi gs g).used=true
   ·rw[if_pos ⟨by omega,hgu⟩,if_pos hgu]
   ·rw[if_neg (fun hc=>hgu hc.2),if_neg hgu]
  have hinj2:∀g g':Int,0<=g->g<8->0<=g'->g'<8->(gi gs g).used=true->(gi gs g').used=true->nb g=nb g'->g=g':=fun g g' a b c d=>hinj g g' a (by omega) c (by omega)
  have hmb:wr.heap.size<=w2.heap.size:=(hX.trans hx2).size;generalize w2.heap.size=mb at hM0 hmb;generalize w2.alloc (.map #[] 0)=w3 at hM0 hX2 hO2 hN2;clear hX hO hN hP hinj
  refine TM 8 1 rfl (fun k w1=>1<=k/\k<=8/\Q0 [] wr w1/\U4 CF 1 Yd wr.heap.size w1 (some ⟨wr.heap.size,0,none⟩) 8 pl/\
    (∀g:Int,0<=g->g<8->(gi gs g).used=true->V0 w1 (nb g) g (gi gs g).name (if g<(k:Int) then zmk gs nb g else none))/\
    (∃es,Dh w1 mb es/\(∀e∈es.toList,∃g:Int,1<=g/\g<(k:Int)/\(gi gs g).used=true/\e.key=JV (gi gs g).parent (gi gs g).name)/\∀g:Int,1<=g->g<(k:Int)->(gi gs g).used=true->∃e∈es.toList,e.key=JV (gi gs g).parent (gi gs g).name)/\
    (∀g:Int,1<=g->g<(k:Int)->(gi gs g).used=true->JY (gi gs g).name=true/\Q6 gs (gi gs g).parent=true/\∀h:Int,1<=h->h<g->(gi gs h).used=true->¬((gi gs h).parent=(gi gs g).parent/\(gi gs h).name=(gi gs g).name)))
   (fun w4 hx4 _=>⟨Nat.le_refl _,by omega,hX2.trans hx4,hO2.ext0 hx4,fun g h0 h1 hg=>?_,⟨#[],hM0.ext hx4 (by simp),(fun e he=>by cases he),fun g h1 h2=>by omega⟩,fun g h1 h2=>by omega⟩) fun k w4 _ ⟨hk1,hk,hX,hO,hN,⟨es,hM,hE1,hE2⟩,hT⟩=>⟨fun hlt=>?_,fun hge=>?_⟩
  ·have:=(hN2 g h0 h1 hg).2.ext hx4 (by simp)
   by_cases hg1:g<((1:Nat):Int)
   ·rw[if_pos hg1];have:g=0:=by omega
    subst this;exact this
   ·rw[if_neg hg1]; exact this
  ·have hlt:=Ot hlt;have hr:=(h.ext hx).ext hX;have hk0:(0:Int)<=(k:Int):=by omega
   have hkl:(k:Int)<(pl.length:Int):=by omega
   have hgl:(k:Int)<(gs.length:Int):=by omega
   have hPl:=hO.rd Pc.len (bs:=[]) (by simp);have hix:=hO.ix hk0 hkl;rw[hpl] at hix;have hXw:Q0 [] w w4:=hx.trans hX;refine⟨hix,gi pl (k:Int),hPl k hk0 hkl,fun hno=>?_,fun hyes=>?_⟩
   ·have hu:¬(gi gs (k:Int)).used=true:=fun hu=>by rw[hP2 k hk0 hlt,if_pos hu] at hno; cases hno
    refine⟨⟨by omega,by omega⟩,fun w5 hx5 _=>QM (by omega) ⟨by omega,by omega,hX.trans hx5,hO.ext0 hx5,fun g h0 h1 hg=>?_,⟨es,hM.ext hx5 (by simp),fun e he=>?_,fun g h1 h2 hg=>?_⟩,fun g h1 h2 hg=>?_⟩⟩
    ·have:=(hN g h0 h1 hg).ext hx5 (by simp);have hgk:g≠(k:Int):=fun e=>hu (e▸hg)
     by_cases hg1:g<(k:Int)
     ·rw[if_pos hg1] at this; rw[if_pos (by omega)]; exact this
     ·rw[if_neg hg1] at this; rw[if_neg (by omega)]; exact this
    ·obtain⟨g,a1,a2,a3⟩:=hE1 e he;exact⟨g,a1,by omega,a3⟩
    ·have hgk:g≠(k:Int):=fun e=>hu (e▸hg)
     exact hE2 g h1 (by omega) hg
    ·have hgk:g≠(k:Int):=fun e=>hu (e▸hg)
     exact hT g h1 (by omega) hg
   ·have hu:(gi gs (k:Int)).used=true:=by
     cases hq:(gi gs (k:Int)).used with
     | true=>rfl
     | false=>rw[hP2 k hk0 hlt,hq] at hyes; cases hyes
    have hpk:gi pl (k:Int)=some ⟨nb (k:Int),0,none⟩:=by rw[hP2 k hk0 hlt,if_pos hu]
    refine⟨hr.ix hk0 hgl,_,hr.name hk0 hgl,_,zc8,fun _=>hr.ix hk0 hgl,(gi gs (k:Int)).parent,fun _=>hr.parent hk0 hgl,Q6 gs (gi gs (k:Int)).parent,fun _=>MJ hr hl,fun q=>?_,fun q=>?_⟩
    ·intro w5 hx5;refine bad w5 (hXw.trans hx5) fun ht=>?_
     rw[ht.nm k (by omega) hlt hu,ht.par k (by omega) hlt hu] at q;cases q
    ·simp only[Bool.or_eq_false_iff,Bool.not_eq_false'] at q;obtain⟨qn,qp⟩:=q;obtain⟨p0,p1,pu⟩:=Q5.1 qp;have p8:(gi gs (k:Int)).parent<8:=by omega
     have hixp:=hO.ix p0 (by omega);rw[hpl] at hixp;have hnk:=hN k hk0 hlt hu;rw[if_neg (by omega)] at hnk;have hpp:gi pl (gi gs (k:Int)).parent=some ⟨nb (gi gs (k:Int)).parent,0,none⟩:=by rw[hP2 _ p0 p8,if_pos pu]
     have hnb:nb (k:Int)∉QB (some (⟨wr.heap.size,0,none⟩:Addr)):=fun hm=>by
      simp only[QB,List.mem_singleton] at hm;rcases hO with ⟨hc,_⟩ | ⟨b',sp,he,_,h2,_⟩
      ·cases hc
      ·simp only[Option.some.injEq,Addr.mk.injEq,and_true] at he;subst he;unfold V0 at hnk;rw[hm,h2] at hnk;simp only[Option.some.injEq,Obj.cells.injEq] at hnk;exact absurd hnk.2.1 (by decide)
     have hWr:Xr [] w4 (some ⟨nb (k:Int),0,none⟩) (0+2) 1:=Ma hnk (by simp) (by show 0+(0+2+1)<=3; omega);have hsx:Q0 [nb (k:Int)] w4 (sto w4 (some ⟨nb (k:Int),0,none⟩) (0+2) [.pointer (some ⟨nb (gi gs (k:Int)).parent,0,none⟩)]):=UZ fun a ha=>by cases ha; simp
     have hbk:wr.heap.size<=nb (k:Int):=(hN2 k hk0 hlt hu).1;have hXs:Q0 [] wr (sto w4 (some ⟨nb (k:Int),0,none⟩) (0+2) [.pointer (some ⟨nb (gi gs (k:Int)).parent,0,none⟩)]):=hX.fresh hsx fun x hm=>.inl (by rw[List.mem_singleton.1 hm]; exact hbk)
     have hrs:=(h.ext hx).ext hXs;have hup:zmk gs nb (k:Int)=some ⟨nb (gi gs (k:Int)).parent,0,none⟩:=by unfold zmk; rw[if_neg (by omega)]
     have hNs:∀g:Int,0<=g->g<8->(gi gs g).used=true->V0 (sto w4 (some ⟨nb (k:Int),0,none⟩) (0+2) [.pointer (some ⟨nb (gi gs (k:Int)).parent,0,none⟩)]) (nb g) g (gi gs g).name (if g<((k+1:Nat):Int) then zmk gs nb g else none):=fun g h0 h1 hg=>by
      by_cases hgk:g=(k:Int)
      ·subst hgk;rw[if_pos (by omega),hup];exact Km hnk
      ·have hne:nb g≠nb (k:Int):=fun e=>hgk (hinj2 g k h0 h1 hk0 hlt hg hu e)
       have:=(hN g h0 h1 hg).ext hsx (by simpa using hne)
       by_cases hg1:g<(k:Int)
       ·rw[if_pos hg1] at this; rw[if_pos (by omega)]; exact this
       ·rw[if_neg hg1] at this; rw[if_neg (by omega)]; exact this
     have hOs:U4 CF 1 Yd wr.heap.size (sto w4 (some ⟨nb (k:Int),0,none⟩) (0+2) [.pointer (some ⟨nb (gi gs (k:Int)).parent,0,none⟩)]) (some ⟨wr.heap.size,0,none⟩) 8 pl:=hO.ext hsx fun b hm hm'=>hnb (by rw[List.mem_singleton.1 hm'] at hm; exact hm)
     have hMs:Dh (sto w4 (some ⟨nb (k:Int),0,none⟩) (0+2) [.pointer (some ⟨nb (gi gs (k:Int)).parent,0,none⟩)]) mb es:=hM.ext hsx fun hm=>by
      rw[List.mem_singleton] at hm;obtain⟨⟨cc,hc⟩,_⟩:=hM;unfold V0 at hnk;rw[<-hm,hc] at hnk;cases hnk
     refine⟨hix,some ⟨nb (k:Int),0,none⟩,by rw[<-hpk]; exact hPl k hk0 hkl,hr.ix hk0 hgl,_,hr.parent hk0 hgl,hixp,some ⟨nb (gi gs (k:Int)).parent,0,none⟩,by rw[<-hpp]; exact hPl _ p0 (by omega),rfl,hWr,?_⟩;generalize sto w4 (some ⟨nb (k:Int),0,none⟩) (0+2) [.pointer (some ⟨nb (gi gs (k:Int)).parent,0,none⟩)]=w5 at hXs hrs hNs hOs hMs;refine⟨hrs.ix hk0 hgl,_,hrs.parent hk0 hgl,hrs.ix hk0 hgl,_,hrs.name hk0 hgl,fun b1 hb1=>⟨hrs.name hk0 hgl,hrs.parent hk0 hgl,fun w6 hx6 hs6=>?_⟩⟩;have hM6:=hMs.ext hx6 (by simp);obtain⟨v,okk,hlook,hok⟩:=zsm hM6 (gi gs (k:Int)).parent (gi gs (k:Int)).name;have hb1':∀x∈[b1],wr.heap.size<=x\/x∈([]:List Nat):=fun x hm=>.inl (by rw[List.mem_singleton.1 hm]; exact Nat.le_trans hXs.size hb1)
     refine⟨v,okk,w6,hlook,fun _ _=>rfl,fun hdup=>?_,fun hnew w7 hx7 hs7=>?_⟩
     ·intro w7 hx7;refine bad w7 (hx.trans (((hXs.trans hx6).fresh hx7 hb1'))) fun ht=>?_
      obtain⟨e,he,hk⟩:=hok.1 hdup;obtain⟨g,a1,a2,a3,a4⟩:=hE1 e he;rw[a4] at hk;simp only[JV,Value.agg.injEq,List.toArray_inj,Array.mk.injEq,List.cons.injEq,Value.int.injEq,true_and,Value.string.injEq,and_true] at hk;exact ht.uniq k g a1 a2 hlt hu a3 hk
     ·have hM7:=hM6.ext hx7 (fun hm=>by
       rw[List.mem_singleton] at hm;obtain⟨⟨cc,hc⟩,_⟩:=hMs;have:=Ur hc;omega)
      have hnok:¬∃e∈es.toList,e.key=JV (gi gs (k:Int)).parent (gi gs (k:Int)).name:=fun hc=>by
       have:=hok.2 hc;rw[hnew] at this; cases this
      obtain⟨w8,cc,hupd,hx8,hM8⟩:=zvf hM7 (fun e he hk=>hnok ⟨e,he,hk⟩) (k:Int);have hmx:∀x∈[mb],wr.heap.size<=x\/x∈([]:List Nat):=fun x hm=>.inl (by rw[List.mem_singleton.1 hm]; exact hmb)
      have hX7:Q0 [] wr w7:=(hXs.trans hx6).fresh hx7 hb1';have hX8:Q0 [] wr w8:=hX7.fresh hx8 hmx;refine⟨w8,hupd,fun x hm=>hx8.block x (hs7 x hm) (fun hm'=>?_),⟨by omega,by omega⟩,fun w9 hx9 hs9=>QM (by omega) ⟨by omega,by omega,hX8.fresh hx9 hb1',?_,fun g h0 h1 hg=>?_,⟨_,hM8.ext hx9 ?_,fun e he=>?_,fun g h1 h2 hg=>?_⟩,fun g h1 h2 hg=>?_⟩⟩
      ·rw[List.mem_singleton] at hm hm';subst hm';obtain⟨⟨c2,hc⟩,_⟩:=hMs;have:=Ur hc;omega
      ·have hnm:∀b∈QB (some (⟨wr.heap.size,0,none⟩:Addr)),b∉[mb]:=fun b hm hm'=>by
        simp only[QB,List.mem_singleton] at hm hm';rcases hOs with ⟨hc,_⟩ | ⟨b',sp,he,_,h2,_⟩
        ·cases hc
        ·simp only[Option.some.injEq,Addr.mk.injEq,and_true] at he;subst he;obtain⟨⟨c2,hc⟩,_⟩:=hMs;rw[<-hm',hm,h2] at hc;cases hc
       have hn1:∀b∈QB (some (⟨wr.heap.size,0,none⟩:Addr)),b∉[b1]:=fun b hm hm'=>by
        have:=(hOs.lt b hm).2;rw[List.mem_singleton] at hm';omega
       exact(((hOs.ext0 hx6).ext hx7 hn1).ext hx8 hnm).ext hx9 hn1
      ·have hq:=hNs g h0 h1 hg;have hql:=Ur hq;have n1:nb g∉[b1]:=fun hm=>by rw[List.mem_singleton] at hm; omega
       have n2:nb g∉[mb]:=fun hm=>by
        rw[List.mem_singleton] at hm;obtain⟨⟨c2,hc⟩,_⟩:=hMs;unfold V0 at hq;rw[hm,hc] at hq;cases hq
       exact(((hq.ext hx6 (by simp)).ext hx7 n1).ext hx8 n2).ext hx9 n1
      ·intro hm;rw[List.mem_singleton] at hm;obtain⟨⟨c2,hc⟩,_⟩:=hMs;have:=Ur hc;omega
      ·rw[Array.toList_push,List.mem_append] at he;rcases he with he | he
       ·obtain⟨g,a1,a2,a3⟩:=hE1 e he;exact⟨g,a1,by omega,a3⟩
       ·rw[List.mem_singleton] at he;subst he;exact⟨k,by omega,by omega,hu,rfl⟩
      ·rw[Array.toList_push]
       by_cases hgk:g=(k:Int)
       ·subst hgk;exact⟨_,List.mem_append_right _ (List.mem_singleton.2 rfl),rfl⟩
       ·obtain⟨e,he,hk⟩:=hE2 g h1 (by omega) hg;exact⟨e,List.mem_append_left _ he,hk⟩
      ·by_cases hgk:g=(k:Int)
       ·subst hgk;refine⟨qn,qp,fun q a1 a2 a3 a4=>hnok ?_⟩;obtain⟨e,he,hk⟩:=hE2 q a1 a2 a3;exact⟨e,he,by rw[hk,a4.1,a4.2]⟩
       ·exact hT g h1 (by omega) hg
  ·have hge:=Ou hge;have hk8:k=8:=by omega
   subst hk8;have hXw:Q0 [] w w4:=hx.trans hX
   have hNs:Ns [] w4 gs nb:=⟨fun x hu=>by
     obtain⟨a1,a2,a3⟩:=Q5.1 hu;have:=hN x a1 (by omega) a3;rw[if_pos (by omega)] at this;exact this.cells (by simp),fun x hz hu=>by
     obtain⟨a1,a2,a3⟩:=Q5.1 hu;exact(hT x (by omega) (by omega) a3).2.1⟩
   refine TM 8 0 rfl (fun j w5=>j<=8/\Q0 [] w4 w5/\∀g:Int,0<=g->g<(j:Int)->(gi gs g).used=true->0<=dep 3 gs g) (fun w5 hx5 _=>⟨Nat.zero_le _,hx5,fun g h0 h1=>by omega⟩) fun j w5 _ ⟨hj,hX5,hD⟩=>⟨fun hlt=>?_,fun hge=>?_⟩
   ·have hlt:=Ot hlt;have hj0:(0:Int)<=(j:Int):=by omega
    have hjl:(j:Int)<(pl.length:Int):=by omega
    have hO5:=hO.ext0 hX5;have hix:=hO5.ix hj0 hjl;rw[hpl] at hix;refine⟨hix,gi pl (j:Int),hO5.rd Pc.len (by simp) j hj0 hjl,zal gs 3 (j:Int) 0,fun hs=>?_,fun hb=>?_,fun hb=>⟨⟨by omega,by omega⟩,fun w6 hx6 _=>QM (by omega) ⟨by omega,hX5.trans hx6,fun g h0 h1 hg=>?_⟩⟩⟩
    ·have hu:(gi gs (j:Int)).used=true:=by
      cases hq:(gi gs (j:Int)).used with
      | true=>rfl
      | false=>rw[hP2 j hj0 hlt,hq] at hs; cases hs
     rw[hP2 j hj0 hlt,if_pos hu];exact zuk (hNs.ext hX5) (Q5.2 ⟨hj0,by omega,hu⟩)
    ·intro w6 hx6;refine bad w6 ((hXw.trans hX5).trans hx6) fun ht=>?_
     simp only[Bool.and_eq_true,decide_eq_true_eq] at hb
     have hu:(gi gs (j:Int)).used=true:=by
      cases hq:(gi gs (j:Int)).used with
      | true=>rfl
      | false=>rw[hP2 j hj0 hlt,hq] at hb; cases hb.1
     have hd:0<=dep 3 gs (j:Int):=by
      by_cases hj0':(j:Int)=0
      ·rw[hj0',Yk]; omega
      ·exact ht.dp j (by omega) hlt hu
     have:=hb.2;unfold zal at this;rw[if_neg (by omega)] at this;omega
    ·by_cases hgj:g=(j:Int)
     ·subst hgj;have hpj:gi pl (j:Int)=some ⟨nb (j:Int),0,none⟩:=by rw[hP2 j hj0 hlt,if_pos hg]
      rw[hpj] at hb;simp only[Option.isNone_some,Bool.not_false,Bool.true_and,decide_eq_false_iff_not] at hb;unfold zal at hb;have:=Tq gs 3 (j:Int)
      split at hb <;> omega
     ·exact hD g h0 (by omega) hg
   ·have hge:=Ou hge;have hj8:j=8:=by omega
    subst hj8;have ht:ZX gs:=⟨hl8,ru,rp,rn,fun g h1 h2 hg=>(hT g h1 h2 hg).1,fun g h1 h2 hg=>(hT g h1 h2 hg).2.1,fun g h1 h2 hg=>hD g (by omega) h2 hg,fun g q a1 a2 a3 a4 a5=>(hT g (by omega) a3 a4).2.2 q a1 a2 a5⟩;intro w6 hx6;refine⟨some ⟨wr.heap.size,0,none⟩,8,8,true,rfl,(Vy.2 ht).symm,(hXw.trans hX5).trans hx6,fun h=>(by cases h),fun _=>⟨rfl,pl,nb,hpl,?_,hP2,(hNs.ext hX5).ext hx6⟩⟩;exact((hO.ext0 hX5).ext0 hx6).rd Pc.len (by simp)
theorem zc9{bs:List Nat}(h:KD bs w o gs ms)(hl:gs.length<=maxLen):PX bs Pi #[.slice o gs.length c] w (.bool (M8 gs)):=by
 refine Oi fun wr hx=>zcz o gs.length c (R:=fun v w'=>v=.bool (M8 gs)/\Q0 [] wr w') ?_
 have h:=(h.ext hx).less (cs:=[]) (by simp);intro w1 hx1 _;refine(zul (h.ext hx1) hl).mono fun e w2 ⟨o',L,C,ok,he,hok,hx2,_⟩=>⟨_,_,_,_,he,Jq,fun w3 hx3=>⟨by rw[hok],(hx1.trans hx2).trans hx3⟩⟩
end
theorem Xf{n k:Int}{w:Wo}{bs:List Nat}:PX bs ZI #[.int .i64 n,.int .i64 k] w (.int .i64 (Z3 n k)):=
 D2 n k fun wr hx=>by
  refine⟨_,Jp,_,fun _=>Qi,fun h=>?_,fun h=>?_⟩
  ·congr 1; unfold Z3; rw[if_neg]; intro h2; simp only[Bool.and_eq_true] at h2; simp[h2] at h
  ·have h2:Yh k 1 20=true/\Yh n 0 100000000=true:=by simpa using h
   rw[Qm,Qm] at h2;have hm:=zhi h2.2.1 h2.2.2 h2.1.1 h2.1.2;have hs:=zbn h2.1.1 h2.1.2;unfold zfq at hm hs;refine⟨⟨by omega,JE (by omega) (by omega)⟩,JE (by omega) (by omega),?_⟩;rw[Ok h2.2.1 h2.2.2 h2.1.1 h2.1.2]; rfl
theorem Px{k:Int}{w:Wo}{bs:List Nat}:PX bs Jl #[.int .i64 k] w (.int .i64 (Zo k)):=
 zau k fun wr hx=>⟨_,Xf,rfl⟩
def Y2(a b:Int):Int:=if a<b then a else b
def zhb(a b:Int):Int:=if a>b then a else b
theorem Je{a b:Int}{w:Wo}{bs:List Nat}:PX bs Yz #[.int .i64 a,.int .i64 b] w (.int .i64 (Y2 a b)):=
 zhn a b fun wr hx=>⟨fun h=>by rw[Y2,if_pos (Ot h)],fun h=>by rw[Y2,if_neg (Ou h)]⟩
theorem T2{a b:Int}{w:Wo}{bs:List Nat}:PX bs Yy #[.int .i64 a,.int .i64 b] w (.int .i64 (zhb a b)):=
 zhm a b fun wr hx=>⟨fun h=>by rw[zhb,if_pos (Ot h)],fun h=>by rw[zhb,if_neg (Ou h)]⟩
def Xh(l k:Int):Int:=if (if Zo k<l then Zo k else l)>0 then (if Zo k<l then Zo k else l) else 0
theorem ZT(k:Int):0<=Zo k/\Zo k<=34686091440:=by
 unfold Zo
 by_cases h:1<=k/\k<=20
 ·rw[Ok (by decide) (by decide) h.1 h.2];have:=zbn h.1 h.2;omega
 ·rw[Gu (by omega)]; omega
theorem ZW(l k:Int):0<=Xh l k/\Xh l k<=Zo k:=by
 have:=ZT k;unfold Xh; by_cases h1:Zo k<l <;> simp only[h1,if_true,if_false] <;> split <;> omega
theorem Mq{l k:Int}{w:Wo}{bs:List Nat}:PX bs JR #[.int .i64 l,.int .i64 k] w (.int .i64 (Xh l k)):=
 zdw l k fun wr hx=>by
  have hr:=ZT k;refine⟨_,Jp,fun h=>?_,fun h=>⟨_,T2,_,Px,_,Je,?_⟩⟩
  ·have h:Yh k 1 20=false:=by simpa using h
   rw[zv0] at h;have h0:Zo k=0:=Gu (by omega)
   congr 1; unfold Xh; rw[h0]; by_cases h1:0<l <;> simp only[h1,if_true,if_false] <;> (repeat' split) <;> omega
  ·congr 1; unfold Xh Y2 zhb; by_cases h1:Zo k<l <;> simp only[h1,if_true,if_false] <;> by_cases h2:l>0 <;> simp only[h2,if_true,if_false] <;> (repeat' split) <;> omega
def Qc(n:Int):Int:=if Yh n (-10) 9 then 10-n else 0
theorem OD{k:Int}{w:Wo}{bs:List Nat}:PX bs XR #[.int .i64 k] w (.int .i64 (Qc k)):=
 A4 k fun wr hx=>by
  refine⟨_,Hb,fun h=>?_,fun h=>?_⟩
  ·have h:Yh k (-10) 9=false:=by simpa using h
   rw[Qc,h]; rfl
  ·have h:Yh k (-10) 9=true:=by simpa using h
   have h2:=Qm.1 h;refine⟨JE (by omega) (by omega),?_⟩;rw[Qc,h]; rfl
structure JI (b:Nat) (c:OA) (L N:Nat) (w:Wo):Prop where
 hd:∃(C:Nat) (p:Int),w.heap[b]? = some (.cells [.slice c L C,.int .i64 p].toArray O1 (0,0))/\0<=p/\p<=N
 bytes:∀i<L,∃(a:Addr) (x:Int),c=some a/\a.block≠b/\0<=x/\x<=255/\w.cell? (a.add i)=some (.int .u8 x)
theorem JI.ext{b:Nat}{c:OA}{L N:Nat}{w w':Wo}{bs:List Nat}(h:JI b c L N w)(hx:Q0 bs w w')(hb:b∉bs)(hc:∀a,c=some a->a.block∉bs\/L=0):JI b c L N w':=by
 obtain⟨⟨C,p,h1,h2,h3⟩,hby⟩:=h;refine⟨⟨C,p,Zd h1 hx hb,h2,h3⟩,fun i hi=>?_⟩;obtain⟨a,x,ha,hne,hx1,hx2,hx3⟩:=hby i hi;refine⟨a,x,ha,hne,hx1,hx2,?_⟩
 have hbk:a.block∉bs:=by
  rcases hc a ha with h | h
  ·exact h
  ·omega
 obtain⟨a',e,_,h''⟩:=(show Uz bs w c i (.int .u8 x) from ⟨a,ha,hbk,hx3⟩).ext hx;rw[ha] at e; cases e; exact h''
theorem JI.ext0{b:Nat}{c:OA}{L N:Nat}{w w':Wo}(h:JI b c L N w)(hx:Q0 [] w w'):JI b c L N w':=h.ext hx (by simp) (fun _ _=>.inl (by simp))
theorem JI.mono{b:Nat}{c:OA}{L N M:Nat}{w:Wo}(h:JI b c L N w)(hm:N<=M):JI b c L M w:=by
 obtain⟨⟨C,p,h1,h2,h3⟩,hby⟩:=h;exact⟨⟨C,p,h1,h2,by omega⟩,hby⟩
theorem JI.lt{b:Nat}{c:OA}{L N:Nat}{w:Wo}(h:JI b c L N w):b<w.heap.size:=by
 obtain⟨⟨C,p,h1,h2,h3⟩,hby⟩:=h;exact Ur h1
theorem JI.ltc{b:Nat}{c:OA}{L N:Nat}{w:Wo}(h:JI b c L N w)(a:Addr)(ha:c=some a):a.block<w.heap.size\/L=0:=by
 rcases Nat.eq_zero_or_pos L with h0 | h0
 ·exact .inr h0
 ·obtain⟨a',x,ha',hne,hx1,hx2,hx3⟩:=h.bytes 0 h0;rw[ha] at ha'; cases ha';have:=World.block_lt_of_cell? w _ hx3;rw[Zq] at this;exact .inl this
theorem JI.extN{b:Nat}{c:OA}{L N M:Nat}{w0 w w':Wo}{bs:List Nat}(h0:JI b c L M w0)(h:JI b c L N w)(hx:Q0 bs w w')(hb:∀x∈bs,w0.heap.size<=x):JI b c L N w':=
 h.ext hx (fun hm=>by have:=hb _ hm; have:=h0.lt; omega) fun a ha=>by
  rcases h0.ltc a ha with hl | hl
  ·exact .inl fun hm=>by have:=hb _ hm; omega
  ·exact .inr hl
def Di(n v:Int):Prop:=0<=v/\(n<1->v=0)/\(1<=n->v<n)
theorem zfc{x n:Int}(hx:0<=x)(hn:1<=n):Di n (Int.tmod x n):=by
 refine⟨Int.tmod_nonneg _ hx,by omega,fun _=>Int.tmod_lt_of_pos _ (by omega)⟩
theorem zmo{x y:Int}(h1:0<=x)(h2:x<=9223372036854775807)(h3:0<=y)(h4:y<=9223372036854775807):0<=Vz .xor .i64 x y:=by
 have hlt:(BitVec.ofInt 64 x ^^^ BitVec.ofInt 64 y).toNat<2 ^ 63:=by
  rw[BitVec.toNat_xor];refine Nat.xor_lt_two_pow ?_ ?_
  ·rw[BitVec.toNat_ofInt]; omega
  ·rw[BitVec.toNat_ofInt]; omega
 have h:=Qj.wrap (k:=.i64) (z:=((BitVec.ofInt 64 x ^^^ BitVec.ofInt 64 y).toNat:Int)) (JE (by omega) (by omega));show 0<=IntKind.i64.wrap ((BitVec.ofInt 64 x ^^^ BitVec.ofInt 64 y).toNat:Int);rw[h]; omega
theorem Mp{b:Nat}{c:OA}{L N:Nat}{w:Wo}{n:Int}(h:JI b c L N w)(hN:N<=1000000000000) :
  Cz Q1 #[.pointer (some ⟨b,0,none⟩),.int .i64 n] w fun e w'=>∃v,e=.returned (.int .i64 v)/\Di n v/\JI b c L (N+1) w'/\Q0 [b] w w':=by
 refine(DX (some ⟨b,0,none⟩) n (R:=fun v w'=>∃x,v=.int .i64 x/\Di n x/\JI b c L (N+1) w'/\Q0 [b] w w') ?_).mono fun e w' ⟨v,he,x,hv,h1,h2,h3⟩=>⟨x,by rw[he,hv],h1,h2,h3⟩
 obtain⟨C,p,hh,hp0,hpN⟩:=h.hd;have hs:=Km (k:=0) (n:=1) (vs:=[.int .i64 (p+1)]) hh;have hxt:Q0 [b] w (sto w (some ⟨b,0,none⟩) 1 [.int .i64 (p+1)]):=UZ fun a ha=>by cases ha; exact List.mem_singleton.2 rfl
 generalize hw1:sto w (some ⟨b,0,none⟩) 1 [.int .i64 (p+1)]=w1 at hs hxt;have hs:w1.heap[b]? = some (.cells [.slice c L C,.int .i64 (p+1)].toArray O1 (0,0)):=hs;have hc:Q2 [] w1 (some ⟨b,0,none⟩) (0+0) [.slice c L C]:=MA hs (by simp) rfl;have hpp:Q2 [] w1 (some ⟨b,0,none⟩) (0+1) [.int .i64 (p+1)]:=MA hs (by simp) rfl
 have hby:∀i:Int,0<=i->i<L->∃x:Int,0<=x/\x<=255/\c.isSome=true/\Q2 [] w1 c (Int.toNat i*1) [.int .u8 x]:=fun i h0 hi=>by
  obtain⟨a,x,ha,hne,hx1,hx2,hx3⟩:=h.bytes i.toNat (by omega);refine⟨x,hx1,hx2,by rw[ha]; rfl,?_⟩;have:=(show Uz [b] w c i.toNat (.int .u8 x) from ⟨a,ha,by simpa using hne,hx3⟩).ext hxt;rw[Nat.mul_one];exact XJ (this.less (by simp))
 have fin:∀(v:Int),Di n v->∀wr,Q0 [] w1 wr->∃x,Value.int .i64 v=.int .i64 x/\Di n x/\JI b c L (N+1) wr/\Q0 [b] w wr:=fun v hv wr hr=>
  ⟨v,rfl,hv,JI.ext0 ⟨⟨C,p+1,hs,by omega,by omega⟩,fun i hi=>by
   obtain⟨a,x,ha,hne,hx1,hx2,hx3⟩:=h.bytes i hi;have:=(show Uz [b] w c i (.int .u8 x) from ⟨a,ha,by simpa using hne,hx3⟩).ext hxt;obtain⟨a',ha',_,hc'⟩:=this;rw[ha] at ha'; cases ha';exact⟨a,x,ha,hne,hx1,hx2,hc'⟩⟩ hr,hxt.trans hr.of_nil⟩
 refine⟨rfl,p,MA hh (by simp) rfl,JE (by omega) (by omega),rfl,Ma hh (by simp) (by simp),?_⟩;rw[show (0+1:Nat)=1 from rfl,hw1];refine⟨fun _=>rfl,c,L,C,fun _=>hc,fun h=>?_,fun h=>?_⟩
 ·simp only[Bool.or_eq_true,decide_eq_true_eq,beq_iff_eq] at h;refine fin 0 ⟨by omega,by omega,fun hn=>by omega⟩
 ·have h:1<=n/\L≠0:=by simpa using h
  refine⟨rfl,p+1,hpp,JE (by omega) (by omega),rfl,c,L,C,hc,fun hlt=>?_,fun hlt=>?_⟩
  ·have hlt:=Ot hlt;obtain⟨x,hx1,hx2,hx3,hx4⟩:=hby (p+1-1) (by omega) hlt;exact⟨rfl,c,L,C,hc,⟨by omega,hlt,hx3⟩,x,hx4,JE (by omega) (by omega),by omega,fin _ (zfc hx1 h.1)⟩
  ·have hLp:(0:Int)<(L:Int):=by omega
   have hm1:=Int.tmod_nonneg (L:Int) (show 0<=p+1-1 by omega);have hm2:=Int.tmod_lt_of_pos (p+1-1) hLp;have hm3:=Int.tmod_nonneg (L:Int) (show 0<=(p+1-1)*7+3 by omega);have hm4:=Int.tmod_lt_of_pos ((p+1-1)*7+3) hLp;have hd1:0<=Int.tdiv (p+1-1) (L:Int):=Int.tdiv_nonneg (by omega) (by omega)
   have hd2:Int.tdiv (p+1-1) (L:Int)<=p+1-1:=by
    rw[Int.tdiv_eq_ediv_of_nonneg (by omega)]; exact Int.ediv_le_self _ (by omega)
   obtain⟨x1,hx1,hx2,hx3,hx4⟩:=hby _ hm1 hm2;obtain⟨x2,hy1,hy2,hy3,hy4⟩:=hby _ hm3 hm4;have hX0:0<=(x1*131+x2*1117+(p+1-1)*29)+Int.tdiv (p+1-1) (L:Int)*53:=by omega
   have hX1:(x1*131+x2*1117+(p+1-1)*29)+Int.tdiv (p+1-1) (L:Int)*53<=1000000000000000:=by omega
   have hq0:=Int.tdiv_nonneg hX0 (show (0:Int)<=64 by decide)
   have hq1:Int.tdiv ((x1*131+x2*1117+(p+1-1)*29)+Int.tdiv (p+1-1) (L:Int)*53) 64<=(x1*131+x2*1117+(p+1-1)*29)+Int.tdiv (p+1-1) (L:Int)*53:=by
    rw[Int.tdiv_eq_ediv_of_nonneg hX0]; exact Int.ediv_le_self _ hX0
   refine⟨rfl,c,L,C,hc,rfl,c,L,C,hc,by omega,⟨hm1,hm2,hx3⟩,x1,hx4,JE (by omega) (by omega),JE (by omega) (by omega),rfl,c,L,C,hc,JE (by omega) (by omega),JE (by omega) (by omega),rfl,c,L,C,hc,by omega,⟨hm3,hm4,hy3⟩,x2,hy4,
    JE (by omega) (by omega),JE (by omega) (by omega),JE (by omega) (by omega),JE (by omega) (by omega),JE (by omega) (by omega),rfl,c,L,C,hc,⟨by omega,JE (by omega) (by omega)⟩,JE (by omega) (by omega),JE (by omega) (by omega),⟨by decide,JE (by omega) (by omega)⟩,by omega,?_⟩
   exact fin _ (zfc (zmo hX0 (by omega) hq0 (by omega)) h.1)
end Go.Proofs.YtclpmgfpjeaibaaGreat
namespace Go.Proofs.YtclpmgfpjeaibaaGreat
open Go.RowKit Go.ChangeShapes
set_option linter.unusedVariables false
set_option linter.unusedSimpArgs false
set_option maxHeartbeats 8000000
section
variable {H:Type}{en:TypeId×Va->H}{w:Wo}{base:Nat}{spare:Nat->Bool}{held:Bool}{fuel:Nat}{cs:List Va}{x:DataW H×List MemPlace}
structure MW where
 cO:OA
 cC:Nat
 tO:OA
 tC:Nat
 gO:OA
 gC:Nat
 ms:Nat->MG
def Qa(W:Q8)(m:MW):List Va:=[.int .i64 W.now,.slice m.cO W.cpus.length m.cC,.slice m.tO W.tasks.length m.tC,.slice m.gO W.groups.length m.gC]
structure Xt (bs:List Nat) (w:Wo) (W:Q8) (m:MW):Prop where
 c:zx3 bs w m.cO W.cpus
 t:ztd bs w m.tO W.tasks
 g:KD bs w m.gO W.groups m.ms
theorem Xt.ext{bs:List Nat}{w w':Wo}{W:Q8}{m:MW}(h:Xt bs w W m)(hx:Q0 bs w w'):Xt bs w' W m:=⟨h.c.ext hx,h.t.ext hx,h.g.ext hx⟩
theorem Xt.less{bs cs:List Nat}{w:Wo}{W:Q8}{m:MW}(h:Xt bs w W m)(hs:∀x∈cs,x∈bs):Xt cs w W m:=⟨h.c.less hs,h.t.less hs,h.g.less hs⟩
theorem Xt.wide{bs cs:List Nat}{w:Wo}{W:Q8}{m:MW}(h:Xt bs w W m)(hs:∀x∈cs,x∈bs\/w.heap.size<=x):Xt cs w W m:=⟨h.c.wide hs,h.t.wide hs,h.g.wide hs⟩
end
end Go.Proofs.YtclpmgfpjeaibaaGreat
namespace Go.Proofs.YtclpmgfpjeaibaaGreat
open Go.RowKit
set_option linter.unusedVariables false
set_option linter.unusedSimpArgs false
set_option maxRecDepth 10000
set_option maxHeartbeats 8000000
def Xs(k:Nat):Int:=1*2 ^ (min (Int.toNat (k:Int)) 64)
def P0(m:Int):Bool:=Yh m 0 15
def QP(m c:Int):Bool:=(P0 m&&Yh c 0 3)&&(Int.tmod (Int.fdiv m (2 ^ (min (Int.toNat c) 64))) 2==1)
def T4(a b:Int):Int:=if P0 a=true/\P0 b=true then Vz .and .i64 a b else 0
def Ch(a b:Int):Nat->Int
 | 0=>0
 | k+1=>if (QP a (k:Int)&&QP b (k:Int))=true then Ch a b k+Xs k else Ch a b k
theorem M5{m:Int}(h:P0 m=true):∃f:Fin 16,m=(f.val:Int):=by
 have:=Qm.1 h;exact⟨⟨m.toNat,by omega⟩,by show m=((m.toNat:Nat):Int); omega⟩
theorem zqr:∀a b:Fin 16,Ch (a.val:Int) (b.val:Int) 4=Vz .and .i64 (a.val:Int) (b.val:Int):=by decide +kernel
theorem zqs:∀a b:Fin 16,0<=Vz .and .i64 (a.val:Int) (b.val:Int)/\Vz .and .i64 (a.val:Int) (b.val:Int)<=15:=by decide +kernel
theorem zqp:∀a b:Fin 16,Vz .and .i64 (a.val:Int) (b.val:Int)=Vz .and .i64 (b.val:Int) (a.val:Int):=by decide +kernel
theorem zqo:∀a b c:Fin 16,Vz .and .i64 (Vz .and .i64 (a.val:Int) (b.val:Int)) (c.val:Int)=Vz .and .i64 (a.val:Int) (Vz .and .i64 (b.val:Int) (c.val:Int)):=by decide +kernel
theorem zqq:∀(a b:Fin 16) (c:Fin 4),QP (Vz .and .i64 (a.val:Int) (b.val:Int)) (c.val:Int)=(QP (a.val:Int) (c.val:Int)&&QP (b.val:Int) (c.val:Int)):=by decide +kernel
theorem zqn:∀a:Fin 16,Vz .and .i64 (a.val:Int) 0=0:=by decide +kernel
theorem AB(a b:Int):P0 (T4 a b)=true:=by
 unfold T4;split
 ·rename_i h;obtain⟨x,rfl⟩:=M5 h.1;obtain⟨y,rfl⟩:=M5 h.2;exact Qm.2 (zqs x y)
 ·exact Qm.2 (by decide)
theorem TZ{a b:Int}(ha:P0 a=true)(hb:P0 b=true):T4 a b=Vz .and .i64 a b:=by unfold T4; rw[if_pos ⟨ha,hb⟩]
theorem Xj{a b:Int}(h:P0 a=false\/P0 b=false):T4 a b=0:=by
 unfold T4;rw[if_neg];rintro⟨h1,h2⟩;rcases h with h | h
 ·rw[h1] at h; cases h
 ·rw[h2] at h; cases h
theorem FW(a b:Int):T4 a b=T4 b a:=by
 cases ha:P0 a with
 | false=>rw[Xj (.inl ha),Xj (.inr ha)]
 | true=>
  cases hb:P0 b with
  | false=>rw[Xj (.inr hb),Xj (.inl hb)]
  | true=>
   rw[TZ ha hb,TZ hb ha];obtain⟨x,rfl⟩:=M5 ha;obtain⟨y,rfl⟩:=M5 hb;exact zqp x y
theorem Gg(a:Int):T4 a 0=0:=by
 cases ha:P0 a with
 | false=>exact Xj (.inl ha)
 | true=>
  rw[TZ ha (by decide)];obtain⟨x,rfl⟩:=M5 ha;exact zqn x
theorem zln(a b c:Int):T4 (T4 a b) c=T4 a (T4 b c):=by
 cases hb:P0 b with
 | false=>rw[Xj (a:=a) (.inr hb),Xj (b:=c) (.inl hb),FW 0 c,Gg,Gg]
 | true=>
  cases ha:P0 a with
  | false=>rw[Xj (b:=b) (.inl ha),Xj (b:=T4 b c) (.inl ha),FW,Gg]
  | true=>
   cases hc:P0 c with
   | false=>rw[Xj (a:=T4 a b) (.inr hc),Xj (a:=b) (.inr hc),Gg]
   | true=>
    have h1:=AB a b;have h2:=AB b c;rw[TZ h1 hc,TZ ha h2,TZ ha hb,TZ hb hc];obtain⟨x,rfl⟩:=M5 ha;obtain⟨y,rfl⟩:=M5 hb;obtain⟨z,rfl⟩:=M5 hc;exact zqo x y z
theorem PB{m c:Int}(h:QP m c=true):P0 m=true/\0<=c/\c<=3:=by
 unfold QP at h;simp only[Bool.and_eq_true] at h;exact⟨h.1.1,Qm.1 h.1.2⟩
theorem zjm{a b c:Int}(h:QP (T4 a b) c=true):QP a c=true/\QP b c=true:=by
 have hr:=PB h
 have hz:QP 0 c=false:=by
  have:c=0\/c=1\/c=2\/c=3:=by omega
  rcases this with rfl | rfl | rfl | rfl <;> decide
 cases ha:P0 a with
 | false=>rw[Xj (.inl ha),hz] at h; cases h
 | true=>
  cases hb:P0 b with
  | false=>rw[Xj (.inr hb),hz] at h; cases h
  | true=>
   rw[TZ ha hb] at h;obtain⟨x,rfl⟩:=M5 ha;obtain⟨y,rfl⟩:=M5 hb;have:=zqq x y ⟨c.toNat,by omega⟩;rw[show ((⟨c.toNat,by omega⟩:Fin 4).val:Int)=c by show ((c.toNat:Nat):Int)=c; omega] at this;rw[this] at h
   simpa using h
def UJ(cs:List M0):Nat->Int
 | 0=>0
 | k+1=>if (gi cs (k:Int)).up=true then UJ cs k+Xs k else UJ cs k
def Jr(cs:List M0):Int:=UJ cs cs.length
theorem Gs(cs:List M0):∀k:Nat,k<=4->0<=UJ cs k/\UJ cs k<Xs k
 | 0,_=>by simp[UJ,Xs]
 | k+1,h=>by
  have ih:=Gs cs k (by omega)
  have hb:Xs (k+1)=2*Xs k/\0<=Xs k:=by
   have:k=0\/k=1\/k=2\/k=3:=by omega
   rcases this with rfl | rfl | rfl | rfl <;> decide
  simp only[UJ]
  split <;> omega
theorem Mg{k:Nat}(h:k<=4):1<=Xs k/\Xs k<=16:=by
 have:k=0\/k=1\/k=2\/k=3\/k=4:=by omega
 rcases this with rfl | rfl | rfl | rfl | rfl <;> decide
theorem zvm{cs:List M0}(h:cs.length<=4):P0 (Jr cs)=true:=by
 have:=Gs cs cs.length h;have:=Mg h;exact Qm.2 (by unfold Jr; omega)
theorem zxf:∀(k:Fin 4) (s:Fin 8),(s.val:Int)<Xs k.val->Vz .or .i64 (s.val:Int) (Xs k.val)=(s.val:Int)+Xs k.val:=by decide +kernel
theorem zr9{k:Nat}{s:Int}(hk:k<4)(h0:0<=s)(h1:s<Xs k):Vz .or .i64 s (Xs k)=s+Xs k:=by
 have hb:Xs k<=8:=by
  have:k=0\/k=1\/k=2\/k=3:=by omega
  rcases this with rfl | rfl | rfl | rfl <;> decide
 have:=zxf ⟨k,hk⟩ ⟨s.toNat,by omega⟩;rw[show ((⟨s.toNat,by omega⟩:Fin 8).val:Int)=s by show ((s.toNat:Nat):Int)=s; omega] at this;exact this h1
theorem zi7:∀(k:Fin 4) (s:Fin 8) (c:Fin 4),(s.val:Int)<Xs k.val->QP ((s.val:Int)+Xs k.val) (c.val:Int)=(decide (c.val=k.val)||QP (s.val:Int) (c.val:Int)):=by decide +kernel
theorem zh8(cs:List M0){c:Int}:∀k:Nat,k<=4->QP (UJ cs k) c=true->c<(k:Int)/\(gi cs c).up=true
 | 0,_,h=>by
  have hr:=PB h;have:c=0\/c=1\/c=2\/c=3:=by omega
  rcases this with rfl | rfl | rfl | rfl <;> exact absurd h (by simp only[UJ]; decide)
 | k+1,hk,h=>by
  have hr:=PB h;have ih:=zh8 cs (c:=c) k (by omega);have hl:=Gs cs k (by omega)
  have hb:Xs k<=8:=by
   have:k=0\/k=1\/k=2\/k=3:=by omega
   rcases this with rfl | rfl | rfl | rfl <;> decide
  simp only[UJ] at h
  split at h
  ·rename_i hu;have:=zi7 ⟨k,by omega⟩ ⟨(UJ cs k).toNat,by omega⟩ ⟨c.toNat,by omega⟩;rw[show ((⟨(UJ cs k).toNat,by omega⟩:Fin 8).val:Int)=UJ cs k by show (((UJ cs k).toNat:Nat):Int)=UJ cs k; omega,show ((⟨c.toNat,by omega⟩:Fin 4).val:Int)=c by show ((c.toNat:Nat):Int)=c; omega] at this;rw[this hl.2] at h;simp only[Bool.or_eq_true,decide_eq_true_eq] at h;rcases h with h | h
   ·have:c=(k:Int):=by omega
    subst this;exact⟨by omega,hu⟩
   ·have:=ih h;exact⟨by omega,this.2⟩
  ·have:=ih h;exact⟨by omega,this.2⟩
def Um:Nat->List ZF->Int->List Int
 | 0,_,_=>[]
 | f+1,gs,g=>if g=0 then [] else g::Um f gs (gi gs g).parent
abbrev QX(gs:List ZF)(g:Int):List Int:=Um 3 gs g
theorem Za(gs:List ZF)(f:Nat):Um f gs 0=[]:=by cases f <;> simp[Um]
theorem zpq{gs:List ZF}(ht:ZX gs):∀(f f':Nat) (h:Int),Q6 gs h=true->dep 3 gs h<=f->dep 3 gs h<=f'->Um f gs h=Um f' gs h:=by
 intro f
 induction f with
 | zero=>
  intro f' h hu h1 h2
  have hz:h=0:=Decidable.byContradiction fun hz=>by
   obtain⟨_,_,_,d,e,_⟩:=ZY ht hu hz;omega
  subst hz;rw[Za,Za]
 | succ f ih=>
  intro f' h hu h1 h2
  by_cases hz:h=0
  ·subst hz;rw[Za,Za]
  ·obtain⟨hp,_,_,d,e,e2,_⟩:=ZY ht hu hz
   cases f' with
   | zero=>omega
   | succ f'=>
    simp only[Um];rw[if_neg hz,if_neg hz,ih f' (gi gs h).parent hp (by omega) (by omega)]
theorem Ys{gs:List ZF}(ht:ZX gs){h:Int}(hu:Q6 gs h=true)(hz:h≠0):QX gs h=h::QX gs (gi gs h).parent:=by
 obtain⟨hp,_,_,d,e,e2,hd⟩:=ZY ht hu hz;show Um 3 gs h=_;rw[show Um 3 gs h=if h=0 then [] else h::Um 2 gs (gi gs h).parent from rfl,if_neg hz,zpq ht 2 3 _ hp (by omega) (by omega)]
theorem PD{gs:List ZF}(ht:ZX gs){Q:Int->Prop}(h0:Q 0)(hs:∀h:Int,Q6 gs h=true->h≠0->Q (gi gs h).parent->Q h):∀h:Int,Q6 gs h=true->Q h:=by
 have key:∀(n:Nat) (h:Int),Q6 gs h=true->dep 3 gs h<=n->Q h:=by
  intro n
  induction n with
  | zero=>
   intro h hu hd
   by_cases hz:h=0
   ·subst hz; exact h0
   ·obtain⟨_,_,_,d,e,_⟩:=ZY ht hu hz;omega
  | succ n ih=>
   intro h hu hd
   by_cases hz:h=0
   ·subst hz; exact h0
   ·obtain⟨hp,_,_,d,e,e2,_⟩:=ZY ht hu hz;exact hs h hu hz (ih _ hp (by omega))
 intro h hu;have:=Tq gs 3 h;exact key 3 h hu (by omega)
theorem zsd{gs:List ZF}(ht:ZX gs){h:Int}(hu:Q6 gs h=true):QX gs h++[0]=h::(QX gs h).map fun x=>(gi gs x).parent:=by
 refine PD ht (Q:=fun h=>QX gs h++[0]=h::(QX gs h).map fun x=>(gi gs x).parent) (by simp[QX,Za]) (fun h hu hz ih=>?_) h hu;rw[Ys ht hu hz,List.cons_append,ih,List.map_cons]
def VB(gs:List ZF)(g u:Int):Int:=(QX gs g++[0]).foldl (fun s x=>T4 s (gi gs x).cpus) u
def zka(gs:List ZF)(g:Int):Int:=(QX gs g).foldl (fun s x=>T4 s (gi gs (gi gs x).parent).cpus) (gi gs g).cpus
theorem zi0(f:Int->Int):∀(l:List Int) (m u:Int),T4 (l.foldl (fun s x=>T4 s (f x)) m) u=l.foldl (fun s x=>T4 s (f x)) (T4 u m)
 | [],m,u=>FW m u
 | x::l,m,u=>by
  simp only[List.foldl_cons];rw[zi0 f l,zln]
theorem zsq{gs:List ZF}(ht:ZX gs){g u:Int}(hu:Q6 gs g=true):T4 (zka gs g) u=VB gs g u:=by
 unfold zka VB;rw[zsd ht hu,List.foldl_cons,List.foldl_map,zi0 (fun x=>(gi gs (gi gs x).parent).cpus)]
theorem znx{gs:List ZF}{g u c:Int}(h:QP (VB gs g u) c=true):QP u c=true:=by
 unfold VB at h
 revert h
 generalize QX gs g++[0]=l
 induction l generalizing u with
 | nil=>exact fun h=>h
 | cons x l ih=>
  intro h;rw[List.foldl_cons] at h;exact(zjm (ih h)).1
def Qp(W:Q8)(g mask:Int):Int:=
 if T4 mask (VB W.groups g (Jr W.cpus))≠0 then T4 mask (VB W.groups g (Jr W.cpus)) else if VB W.groups g (Jr W.cpus)≠0 then VB W.groups g (Jr W.cpus) else Jr W.cpus
theorem zp9{W:Q8}{g mask c:Int}(h:QP (Qp W g mask) c=true):QP (Jr W.cpus) c=true:=by
 unfold Qp at h
 split at h
 ·exact znx (zjm h).2
 ·split at h
  ·exact znx h
  ·exact h
def Xl(l:List Int):Nat->Int
 | 0=>0
 | k+1=>Xl l k+gi l (k:Int)
def Tg(p:Nat->Bool):Nat->Bool
 | 0=>false
 | k+1=>Tg p k||p k
theorem L5{p:Nat->Bool}:∀{n:Nat},Tg p n=true↔∃j,j<n/\p j=true
 | 0=>by simp[Tg]
 | n+1=>by
  simp only[Tg,Bool.or_eq_true,L5 (n:=n)];constructor
  ·rintro (⟨j,hj,h⟩ | h)
   ·exact⟨j,by omega,h⟩
   ·exact⟨n,by omega,h⟩
  ·rintro⟨j,hj,h⟩
   by_cases hjn:j=n
   ·subst hjn; exact .inr h
   ·exact .inl ⟨j,by omega,h⟩
theorem Ci{p:Nat->Bool}{n:Nat}(h:∀j,j<n->p j=false):Tg p n=false:=by
 cases ha:Tg p n with
 | false=>rfl
 | true=>
  obtain⟨j,hj,hp⟩:=L5.1 ha;rw[h j hj] at hp; cases hp
noncomputable def JJ(P:Prop):Bool:=@decide P (Classical.propDecidable P)
theorem Qh{P:Prop}:JJ P=true↔P:=@decide_eq_true_iff P (Classical.propDecidable P)
theorem HC{P:Prop}:JJ P=false↔¬P:=by
 constructor
 ·intro h hp;rw[Qh.2 hp] at h; cases h
 ·intro h
  cases hb:JJ P with
  | false=>rfl
  | true=>exact absurd (Qh.1 hb) h
theorem OM{b:Bool}{P:Prop}(h:b=true↔P):Value.bool b=.bool (JJ P):=by
 have:b=JJ P:=by
  cases hb:JJ P with
  | true=>exact h.2 (Qh.1 hb)
  | false=>
   cases hc:b with
   | false=>rfl
   | true=>exact absurd (h.1 hc) (HC.1 hb)
 rw[this]
theorem KQ{P:Prop}(h:¬P):Value.bool false=.bool (JJ P):=by rw[HC.2 h]
theorem zkl{P:Prop}(h:P):Value.bool true=.bool (JJ P):=by rw[Qh.2 h]
def Q7(W:Q8)(t:Int):Mw:=gi W.tasks t
def Qb(W:Q8)(g c:Int):KE:=gi (gi W.groups g).shelves c
def ZA(v:Int):Bool:=Yh v 0 100000000000000000
theorem Y3{v:Int}:ZA v=true↔0<=v/\v<=100000000000000000:=Qm
def TN(b:JH):Bool:=((((b.quota==0)&&(b.pool==0))&&(b.spent==0))&&(((b.locals.length:Nat):Int)==0))&&(((b.dry.length:Nat):Int)==0)
structure Tc (b:JH):Prop where
 q1:1<=b.quota
 q2:b.quota<=10000
 l1:1<=b.locals.length
 l2:b.locals.length<=4
 dl:b.dry.length=b.locals.length
 p1:0<=b.pool
 p2:b.pool<=b.quota
 s1:0<=b.spent
 s2:b.spent<=b.quota
 each:∀c:Int,0<=c->c<(b.locals.length:Int)->0<=gi b.locals c/\gi b.locals c<=b.quota/\(gi b.dry c=true->gi b.locals c=0/\b.pool=0)
 sum:b.pool+b.spent+Xl b.locals b.locals.length=b.quota
structure zkp (W:Q8) (k:Int) (g:ZF):Prop where
 w1:1<=g.weight
 w2:g.weight<=20
 m:P0 g.cpus=true
 m0:g.cpus≠0
 s:ZA g.sum=true
 len:g.shelves.length=W.cpus.length
 root:k=0->g.weight=10/\g.cpus=15/\g.band.quota=0
 none:g.band.quota=0->TN g.band=true/\g.period=0/\g.next=0
 band:g.band.quota≠0->Tc g.band/\g.band.locals.length=W.cpus.length/\1<=g.period/\g.period<=1000/\W.now<g.next/\g.next-W.now<=g.period
structure zqh (g:ZF):Prop where
 p:g.parent=0
 n:g.name=⟨[].toArray⟩
 w:g.weight=0
 c:g.cpus=0
 pe:g.period=0
 ne:g.next=0
 s:g.sum=0
 l:g.shelves.length=0
 b:TN g.band=true
def Md(W:Q8)(k:Int):Prop:=((gi W.groups k).used=false->zqh (gi W.groups k))/\((gi W.groups k).used=true->zkp W k (gi W.groups k))
structure WA (W:Q8):Prop where
 n1:0<=W.now
 n2:W.now<=100000000000000000
 c1:1<=W.cpus.length
 c2:W.cpus.length<=4
 t:W.tasks.length=12
 tree:ZX W.groups
 ups:Jr W.cpus≠0
 grp:∀k:Int,0<=k->k<8->Md W k
def UB(W:Q8)(g c:Int):Bool:=decide ((gi W.groups g).band.quota>0)&&gi (gi W.groups g).band.dry c
def On(W:Q8)(g c:Int)(j:Nat):Bool:=(((gi W.tasks (j:Int)).state==1)&&((gi W.tasks (j:Int)).group==g))&&((gi W.tasks (j:Int)).cpu==c)
def Jg(W:Q8)(g c:Int)(j:Nat):Bool:=(decide (1<=j)&&((gi W.groups (j:Int)).used&&((gi W.groups (j:Int)).parent==g)))&&(Qb W (j:Int) c).on
def QO(W:Q8)(g c:Int):Bool:=Tg (On W g c) W.tasks.length||Tg (Jg W g c) W.groups.length
def UF(W:Q8)(g c:Int):Bool:=(QX W.groups g).all fun x=>(Qb W x c).on
def Z9(W:Q8)(t:Int):Bool:=((Q7 W t).state==1)&&UF W (Q7 W t).group (Q7 W t).cpu
def Mu(v f k:Int):Bool:=decide (v>=f)&&decide (IntKind.i64.wrap (v-f)<=Zo k)
def Tl(W:Q8)(g c ran:Int):Bool:=(QX W.groups g).all fun x=>decide ((Qb W x c).v-(Qb W (gi W.groups x).parent c).floor<=Z3 ran (Qb W x c).w)
def PJ(W:Q8)(c:Int):Bool:=
 decide ((Q7 W (gi W.cpus c).cur).v-(Qb W (Q7 W (gi W.cpus c).cur).group c).floor<=Z3 (gi W.cpus c).ran (Qc (Q7 W (gi W.cpus c).cur).nice))&&Tl W (Q7 W (gi W.cpus c).cur).group c (gi W.cpus c).ran
def Tm:Mw:=⟨0,0,0,0,0,0,0,0,0⟩
structure ztm (W:Q8) (x:Mw):Prop where
 st:x.state=1\/x.state=2
 g:Q6 W.groups x.group=true
 n:Qc x.nice≠0
 m:P0 x.mask=true
 m0:x.mask≠0
 v:ZA x.v=true
 s:ZA x.sum=true
 u:ZA x.used=true
 l1:0<=x.load
 l2:x.load<=8000000
 c:QP (Qp W x.group x.mask) x.cpu=true
 f:x.state=1->Mu x.v (Qb W x.group x.cpu).floor (Qc x.nice)=true
def BV(W:Q8)(t:Int):Prop:=(Q7 W t).state=0/\Q7 W t=Tm\/(Q7 W t).state≠0/\ztm W (Q7 W t)
structure Me (W:Q8) (k c:Int):Prop where
 f:ZA (Qb W k c).floor=true
 v:ZA (Qb W k c).v=true
 s:ZA (Qb W k c).sum=true
 w1:1<=(Qb W k c).w
 w2:(Qb W k c).w<=20
 root:k=0->(Qb W k c).on=false/\(Qb W k c).v=0/\(Qb W k c).w=10
 on:k≠0->(Qb W k c).on=(QO W k c && !UB W k c)
 st:k≠0->(Qb W k c).on=true->Mu (Qb W k c).v (Qb W (gi W.groups k).parent c).floor (Qb W k c).w=true
structure ER (W:Q8) (c:Int):Prop where
 b:ZA (gi W.cpus c).busy=true
 i:ZA (gi W.cpus c).idle=true
 c1 : -1<=(gi W.cpus c).cur
 c2:(gi W.cpus c).cur<(W.tasks.length:Int)
 no:(gi W.cpus c).cur<0->(gi W.cpus c).ran=0
 yes:0<=(gi W.cpus c).cur->(gi W.cpus c).up=true/\1<=(gi W.cpus c).ran/\(gi W.cpus c).ran<=149/\(Q7 W (gi W.cpus c).cur).cpu=c/\Z9 W (gi W.cpus c).cur=true/\PJ W c=true
structure YW (W:Q8):Prop where
 a:WA W
 t:∀t:Int,0<=t->t<12->BV W t
 s:∀k c:Int,0<=k->k<8->0<=c->c<((gi W.groups k).shelves.length:Int)->Me W k c
 c:∀c:Int,0<=c->c<(W.cpus.length:Int)->ER W c
noncomputable def Qv(W:Q8):Bool:=JJ (YW W)
section
variable {W:Q8}
theorem WA.gl(h:WA W):W.groups.length=8:=h.tree.len
theorem WA.u(h:WA W){g:Int}(hu:Q6 W.groups g=true):0<=g/\g<8/\zkp W g (gi W.groups g):=by
 obtain⟨a,b,c⟩:=Q5.1 hu;have:=h.gl;exact⟨a,by omega,(h.grp g a (by omega)).2 c⟩
theorem WA.root(h:WA W):Q6 W.groups 0=true:=Q5.2 ⟨by decide,by have:=h.gl; omega,h.tree.ru⟩
theorem WA.sl(h:WA W){g:Int}(hu:Q6 W.groups g=true):(gi W.groups g).shelves.length=W.cpus.length:=(h.u hu).2.2.len
theorem WA.up(h:WA W){g:Int}(hu:Q6 W.groups g=true)(hz:g≠0):Q6 W.groups (gi W.groups g).parent=true:=(ZY h.tree hu hz).1
theorem WA.dl(h:WA W){g:Int}(hu:Q6 W.groups g=true)(hq:(gi W.groups g).band.quota≠0):(gi W.groups g).band.dry.length=W.cpus.length/\(gi W.groups g).band.locals.length=W.cpus.length:=by
 have hb:=(h.u hu).2.2.band hq;exact⟨by rw[hb.1.dl,hb.2.1],hb.2.1⟩
end
theorem YA{v:Int}{w:Wo}{bs:List Nat}:PX bs Zx #[.int .i64 v] w (.bool (ZA v)):=zd1 v fun wr hx=>⟨_,Qi,rfl⟩
theorem Zh{n:Int}{w:Wo}{bs:List Nat}:PX bs QV #[.int .i64 n] w (.int .i64 (Qc n)):=
 Aa n fun wr hx=>⟨_,Qi,fun g=>by
  unfold Qc; rw[if_neg (by simpa using g)],fun g=>by
  have g':Yh n (-10) 9=true:=by simpa using g
  have:=Qm.1 g';refine⟨⟨by omega,by omega⟩,?_⟩;unfold Qc; rw[if_pos g']⟩
theorem X3{m:Int}{w:Wo}{bs:List Nat}:PX bs ZR #[.int .i64 m] w (.bool (P0 m)):=zdx m fun wr hx=>⟨_,Qi,rfl⟩
theorem Zy{m c:Int}{w:Wo}{bs:List Nat}:PX bs Z4 #[.int .i64 m,.int .i64 c] w (.bool (QP m c)):=
 zaw m c fun wr hx=>by
  have hr:(P0 m&&Yh c 0 3)=true->0<=c/\c<=3:=fun g=>by
   simp only[Bool.and_eq_true] at g;exact Qm.1 g.2
  exact⟨_,X3,_,fun _=>Qi,fun g=>by have:=hr g; exact⟨by omega,by show c<=18446744073709551615; omega⟩,fun g=>(hr g).1,fun _=>by decide,rfl⟩
theorem zmw(a b:Int):∀k:Nat,k<=4->0<=Ch a b k/\Ch a b k<Xs k
 | 0,_=>by simp[Ch,Xs]
 | k+1,h=>by
  have ih:=zmw a b k (by omega)
  have hb:Xs (k+1)=2*Xs k/\0<=Xs k:=by
   have:k=0\/k=1\/k=2\/k=3:=by omega
   rcases this with rfl | rfl | rfl | rfl <;> decide
  simp only[Ch]
  split <;> omega
theorem zv1{k:Nat}(h:k<=64):Qj .u64 (k:Int):=⟨by show (0:Int)<=(k:Int); omega,by show (k:Int)<=18446744073709551615; omega⟩
theorem Py{a b:Int}{w:Wo}{bs:List Nat}:PX bs Jm #[.int .i64 a,.int .i64 b] w (.int .i64 (T4 a b)):=
 zav a b fun wr hx=>by
  refine⟨_,X3,_,fun _=>X3,fun g=>?_,fun g=>?_⟩
  ·rw[Xj]
   simpa using g
  ·simp only[Bool.or_eq_false_iff,Bool.not_eq_false'] at g
   have he:T4 a b=Ch a b 4:=by
    rw[TZ g.1 g.2];obtain⟨x,rfl⟩:=M5 g.1;obtain⟨y,rfl⟩:=M5 g.2;exact(zqr x y).symm
   rw[he];refine T3 4 0 rfl (fun x k=>k<=4/\x=Ch a b k) ⟨by omega,rfl⟩ fun x k ⟨hk,hx⟩=>⟨fun hlt=>?_,fun hge=>?_⟩
   ·have hlt:=Ot hlt;have hb:=Mg (k:=k) (by omega);have hl:=zmw a b k hk;have hbd:(1*2 ^ (min (Int.toNat (k:Int)) 64):Int)=Xs k:=rfl;refine⟨_,Zy,_,fun _=>Zy,fun h=>?_,fun h=>?_⟩
    ·rw[hbd];refine⟨zv1 (by omega),⟨by omega,by omega,by omega⟩,⟨by omega,by omega⟩,⟨by omega,by omega⟩,Qw (by omega) ⟨by omega,?_⟩⟩;rw[hx]; simp only[Ch]; rw[if_pos h]
    ·refine⟨⟨by omega,by omega⟩,Qw (by omega) ⟨by omega,?_⟩⟩;rw[hx]; simp only[Ch]; rw[if_neg (by rw[h]; decide)]
   ·have hge:=Ou hge;have:k=4:=by omega
    subst this;rw[hx]
theorem zan{b:JH}(h:TN b=true):b.quota=0/\b.pool=0/\b.spent=0/\b.locals.length=0/\b.dry.length=0:=by
 unfold TN at h;simp only[Bool.and_eq_true,beq_iff_eq] at h;omega
theorem Ky{b:JH}{m:MG}{w:Wo}{bs:List Nat}:PX bs Uc #[.agg (Z6 b m).toArray] w (.bool (TN b)):=
 Aj b.quota b.pool b.spent m.lO b.locals.length m.lC m.dO b.dry.length m.dC fun wr hx=>fun _ _=>rfl
theorem zbo{l:List Int}{q:Int}(h:∀c:Int,0<=c->c<(l.length:Int)->0<=gi l c/\gi l c<=q)(hq:0<=q):∀k:Nat,k<=l.length->0<=Xl l k/\Xl l k<=(k:Int)*q
 | 0,_=>by simp[Xl]
 | k+1,hk=>by
  have ih:=zbo h hq k (by omega);have hg:=h (k:Int) (by omega) (by omega);simp only[Xl];rw[show ((k+1:Nat):Int)*q=(k:Int)*q+q by rw[show ((k+1:Nat):Int)=(k:Int)+1 by omega,Int.add_mul,Int.one_mul]];omega
theorem Hd{b:JH}{m:MG}{w:Wo}{bs:List Nat}(h1:zok bs w m.lO b.locals)(h2:ztl bs w m.dO b.dry)(hl:b.locals.length<=maxLen):PX bs VO #[.agg (Z6 b m).toArray] w (.bool (JJ (Tc b))):=
 zdv b.quota b.pool b.spent m.lO b.locals.length m.lC m.dO b.dry.length m.dC fun wr hx=>by
  have h1:=(h1.ext hx).less (cs:=[]) (by simp);have h2:=(h2.ext hx).less (cs:=[]) (by simp);intro _ _;refine⟨_,Qi,_,fun _=>Qi,_,fun _=>Qi,_,fun _=>Qi,fun g=>KQ fun p=>?_,fun g=>?_⟩
  ·rw[Qm.2 ⟨p.q1,p.q2⟩,Qm.2 (by have:=p.l1; have:=p.l2; omega),Qm.2 ⟨p.p1,p.p2⟩,Qm.2 ⟨p.s1,p.s2⟩,p.dl] at g;simp at g
  ·simp only[Bool.or_eq_false_iff,Bool.not_eq_false',bne_eq_false_iff_eq,Qm] at g;obtain⟨⟨⟨⟨g1,g2⟩,g3⟩,g4⟩,g5⟩:=g;have hdl:b.dry.length=b.locals.length:=by omega
   have all:∀{k:Nat},k<=b.locals.length->(∀c:Int,0<=c->c<(k:Int)->0<=gi b.locals c/\gi b.locals c<=b.quota/\(gi b.dry c=true->gi b.locals c=0/\b.pool=0))->0<=Xl b.locals k/\Xl b.locals k<=40000:=fun {k} hk h=>by
    have key:∀j:Nat,j<=k->0<=Xl b.locals j/\Xl b.locals j<=(j:Int)*10000:=fun j=>by
     induction j with
     | zero=>intro _; simp[Xl]
     | succ j ih=>
      intro hj;have:=ih (by omega);have:=h (j:Int) (by omega) (by omega);simp only[Xl]; omega
    have:=key k (Nat.le_refl _);omega
   refine⟨⟨by omega,by omega⟩,?_⟩;refine T3 b.locals.length 0 rfl (fun x k=>k<=b.locals.length/\x=b.pool+b.spent+Xl b.locals k/\∀c:Int,0<=c->c<(k:Int)->0<=gi b.locals c/\gi b.locals c<=b.quota/\(gi b.dry c=true->gi b.locals c=0/\b.pool=0)) ⟨Nat.zero_le _,by simp[Xl],fun c h0 h1=>by omega⟩ fun x k ⟨hk,hx2,hI⟩=>⟨fun hlt=>?_,fun hge=>?_⟩
   ·have hlt:=Ot hlt;have hlt2:(k:Int)<(b.dry.length:Int):=by omega
    have hsr:=all hk hI;refine⟨h1.ix VI (by omega) hlt,_,h1 k (by omega) hlt,_,Qi,fun _=>h2.ix CE (by omega) hlt2,_,fun _=>h2 k (by omega) hlt2,fun _ _=>h1.ix VI (by omega) hlt,_,fun _ _=>h1 k (by omega) hlt,fun g=>KQ fun p=>?_,fun g=>⟨h1.ix VI (by omega) hlt,_,h1 k (by omega) hlt,?_⟩⟩
    ·have pe:=p.each (k:Int) (by omega) hlt;rw[Qm.2 ⟨pe.1,pe.2.1⟩] at g;simp only[Bool.not_true,Bool.false_or,Bool.and_eq_true,Bool.or_eq_true,decide_eq_true_eq] at g;have:=pe.2.2 g.1;omega
    ·simp only[Bool.or_eq_false_iff,Bool.not_eq_false',Qm] at g;obtain⟨ga,gb⟩:=g;refine⟨⟨by omega,by omega⟩,⟨by omega,by omega⟩,Qw (by omega) ⟨by omega,by simp only[Xl]; omega,fun c hc0 hc=>?_⟩⟩
     by_cases hck:c<(k:Int)
     ·exact hI c hc0 hck
     ·have:c=(k:Int):=by omega
      subst this;refine⟨ga.1,ga.2,fun hd=>?_⟩;rw[hd] at gb;simp only[Bool.true_and,Bool.or_eq_false_iff,decide_eq_false_iff_not] at gb;omega
   ·have hge:=Ou hge;have:k=b.locals.length:=by omega
    subst this;refine OM ?_;rw[beq_iff_eq,hx2];constructor
    ·intro hs;exact⟨g1.1,g1.2,by omega,by omega,hdl,g4.1,g4.2,g5.1,g5.2,hI,hs⟩
    ·exact fun p=>p.sum
section
variable {W:Q8}{m:MW}{w:Wo}{bs:List Nat}
theorem KD.shelf{gs:List ZF}{ms:Nat->MG}{o:OA}(h:KD bs w o gs ms){i:Int}(h0:0<=i)(h1:i<(gs.length:Int)):Q2 bs w o (Int.toNat i*14+13) [.slice (ms i.toNat).sO (gi gs i).shelves.length (ms i.toNat).sC]:=(h.cells i h0 h1).get 13 _ rfl
theorem KD.cpus{gs:List ZF}{ms:Nat->MG}{o:OA}(h:KD bs w o gs ms){i:Int}(h0:0<=i)(h1:i<(gs.length:Int)):Q2 bs w o (Int.toNat i*14+4) [.int .i64 (gi gs i).cpus]:=(h.cells i h0 h1).get 4 _ rfl
theorem KD.band{gs:List ZF}{ms:Nat->MG}{o:OA}(h:KD bs w o gs ms){i:Int}(h0:0<=i)(h1:i<(gs.length:Int)):Q2 bs w o (Int.toNat i*14+8) (Z6 (gi gs i).band (ms i.toNat)):=Vs fun j v hj=>by
 have e:YF (gi gs i) (ms i.toNat)=((YF (gi gs i) (ms i.toNat)).take 8++Z6 (gi gs i).band (ms i.toNat))++[.slice (ms i.toNat).sO (gi gs i).shelves.length (ms i.toNat).sC]:=rfl
 have hj':j<5:=by
  have:=(List.getElem?_eq_some_iff.1 hj).1
  simpa[Z6] using this
 have:=(h.cells i h0 h1).get (8+j) v (by
  rw[e,List.getElem?_append_left (by simp[YF,Z6]; omega),List.getElem?_append_right (by simp[YF])]
  simpa[YF] using hj)
 rwa[<-Nat.add_assoc] at this
theorem ztd.f{ts:List Mw}{o:OA}(h:ztd bs w o ts){i:Int}(h0:0<=i)(h1:i<(ts.length:Int)){j:Nat}{v:Va}(hj:(X7 (gi ts i))[j]? = some v):Q2 bs w o (Int.toNat i*9+j) [v]:=XJ ((h i h0 h1).get j v hj)
theorem zx3.f{cs:List M0}{o:OA}(h:zx3 bs w o cs){i:Int}(h0:0<=i)(h1:i<(cs.length:Int)){j:Nat}{v:Va}(hj:(KN (gi cs i))[j]? = some v):Q2 bs w o (Int.toNat i*5+j) [v]:=XJ ((h i h0 h1).get j v hj)
theorem zkn.f{ss:List KE}{o:OA}(h:zkn bs w o ss){i:Int}(h0:0<=i)(h1:i<(ss.length:Int)){j:Nat}{v:Va}(hj:(MD (gi ss i))[j]? = some v):Q2 bs w o (Int.toNat i*5+j) [v]:=XJ ((h i h0 h1).get j v hj)
theorem Kd(h:Xt bs w W m)(h4:W.cpus.length<=4):PX bs UD #[.agg (Qa W m).toArray] w (.int .i64 (Jr W.cpus)):=
 zhp W.now m.cO W.cpus.length m.cC m.tO W.tasks.length m.tC m.gO W.groups.length m.gC fun wr hx=>by
  have h:=(h.ext hx).less (cs:=[]) (by simp);intro _ _;refine T3 W.cpus.length 0 rfl (fun x k=>k<=W.cpus.length/\x=UJ W.cpus k) ⟨Nat.zero_le _,rfl⟩ fun x k ⟨hk,hx2⟩=>⟨fun hlt=>?_,fun hge=>?_⟩
  ·have hlt:=Ot hlt;have hb:=Mg (k:=k) (by omega);have hl:=Gs W.cpus k (by omega);have hbd:(1*2 ^ (min (Int.toNat (k:Int)) 64):Int)=Xs k:=rfl;refine⟨h.c.ix ZH (by omega) hlt,_,h.c.f (by omega) hlt (j:=0) rfl,fun hu=>?_,fun hu=>?_⟩
   ·rw[hbd];refine⟨zv1 (by omega),⟨by omega,by omega,by omega⟩,⟨by omega,by omega⟩,⟨by omega,by omega⟩,Qw (by omega) ⟨by omega,?_⟩⟩;rw[hx2]; simp only[UJ]; rw[if_pos hu]
   ·refine⟨⟨by omega,by omega⟩,Qw (by omega) ⟨by omega,?_⟩⟩;rw[hx2]; simp only[UJ]; rw[if_neg (by rw[hu]; decide)]
  ·have hge:=Ou hge;have:k=W.cpus.length:=by omega
   subst this;rw[hx2]; rfl
theorem zdi{g:Int}(h:Xt bs w W m)(ht:ZX W.groups)(hu:Q6 W.groups g=true):PX bs Pn #[.agg (Qa W m).toArray,.int .i64 g] w (.int .i64 (zka W.groups g)):=
 zd5 W.now m.cO W.cpus.length m.cC m.tO W.tasks.length m.tC m.gO W.groups.length m.gC g fun wr hx=>by
  have h:=(h.ext hx).less (cs:=[]) (by simp);intro _ _;obtain⟨u1,u2,_⟩:=Q5.1 hu;refine⟨h.g.ix u1 u2,_,h.g.cpus u1 u2,fun vs=>∃(x s:Int),vs=[.int .i64 x,.int .i64 s]/\Q6 W.groups x=true/\(QX W.groups x).foldl (fun s x=>T4 s (gi W.groups (gi W.groups x).parent).cpus) s=zka W.groups g,fun vs=>(dep 3 W.groups (ZZ 0 vs)).toNat,⟨g,_,rfl,hu,rfl⟩,?_⟩;rintro x s ⟨x',s',he,hux,hI⟩;simp only[List.cons.injEq,Value.int.injEq,true_and,and_true] at he;obtain⟨rfl,rfl⟩:=he;refine⟨fun hz=>?_,fun hz=>?_⟩
  ·have hz:x≠0:=by simpa using hz
   obtain⟨hp,a,b,d,e,e2,hd⟩:=ZY ht hux hz;obtain⟨v1,v2,_⟩:=Q5.1 hp;rw[Ys ht hux hz,List.foldl_cons] at hI
   exact⟨h.g.ix a b,_,h.g.parent a b,h.g.ix v1 v2,_,h.g.cpus v1 v2,_,Py,⟨_,_,rfl,hp,hI⟩,by
    show (dep 3 W.groups (gi W.groups x).parent).toNat<(dep 3 W.groups x).toNat;omega⟩
  ·have hz:x=0:=by simpa using hz
   subst hz;rw[show QX W.groups 0=[] from Za _ _,List.foldl_nil] at hI;rw[hI]
theorem Xg{g mask:Int}(h:Xt bs w W m)(h4:W.cpus.length<=4)(ht:ZX W.groups)(hu:Q6 W.groups g=true):PX bs ZV #[.agg (Qa W m).toArray,.int .i64 g,.int .i64 mask] w (.int .i64 (Qp W g mask)):=
 za5 W.now m.cO W.cpus.length m.cC m.tO W.tasks.length m.tC m.gO W.groups.length m.gC g mask fun wr hx=>by
  have h:=(h.ext hx).less (cs:=[]) (by simp);intro _ _;have hk:=Py (a:=zka W.groups g) (b:=Jr W.cpus) (w:=wr) (bs:=[]);rw[zsq ht hu] at hk;refine⟨_,Kd h h4,_,zdi h ht hu,_,hk,_,Py,fun g1=>?_,fun g1=>⟨fun g2=>?_,fun g2=>?_⟩⟩
  ·unfold Qp; rw[if_pos (by simpa using g1)]
  ·unfold Qp; rw[if_neg (by simpa using g1),if_pos (by simpa using g2)]
  ·unfold Qp; rw[if_neg (by simpa using g1),if_neg (by simpa using g2)]
theorem Kc{g c:Int}(h:Xt bs w W m)(ha:WA W)(hu:Q6 W.groups g=true)(c0:0<=c)(c1:c<(W.cpus.length:Int)):PX bs UC #[.agg (Qa W m).toArray,.int .i64 g,.int .i64 c] w (.bool (UB W g c)):=
 zho W.now m.cO W.cpus.length m.cC m.tO W.tasks.length m.tC m.gO W.groups.length m.gC g c fun wr hx=>by
  have h:=(h.ext hx).less (cs:=[]) (by simp);intro _ _;obtain⟨u1,u2,_⟩:=Q5.1 hu
  have hd:(decide ((gi W.groups g).band.quota>0))=true->c<((gi W.groups g).band.dry.length:Int):=fun g1=>by
   have:=Ot g1;rw[(ha.dl hu (by omega)).1]; exact c1
  exact⟨h.g.ix u1 u2,_,_,_,_,_,_,_,_,_,h.g.band u1 u2,fun _ _=>⟨fun g1=>(h.g.dry g u1 u2).ix CE c0 (hd g1),_,fun g1=>(h.g.dry g u1 u2) c c0 (hd g1),rfl⟩⟩
theorem UX{g c:Int}(h:Xt bs w W m)(ha:WA W)(hu:Q6 W.groups g=true)(c0:0<=c)(c1:c<(W.cpus.length:Int)):PX bs Xa #[.agg (Qa W m).toArray,.int .i64 g,.int .i64 c] w (.bool (Qb W g c).on):=
 Ak W.now m.cO W.cpus.length m.cC m.tO W.tasks.length m.tC m.gO W.groups.length m.gC g c fun wr hx=>by
  have h:=(h.ext hx).less (cs:=[]) (by simp);intro _ _;obtain⟨u1,u2,_⟩:=Q5.1 hu;have hs:=ha.sl hu;have c2:c<((gi W.groups g).shelves.length:Int):=by omega
  exact⟨h.g.ix u1 u2,_,_,_,h.g.shelf u1 u2,(h.g.shelves g u1 u2).ix ZQ c0 c2,_,zkn.f (h.g.shelves g u1 u2) c0 c2 (j:=1) rfl,rfl⟩
theorem zia{gs:List ZF}{k:Nat}(hk:(k:Int)<(gs.length:Int))(hu:(gi gs (k:Int)).used=true):Q6 gs (k:Int)=true:=Q5.2 ⟨by omega,hk,hu⟩
theorem OH{g c:Int}(h:Xt bs w W m)(ha:WA W)(c0:0<=c)(c1:c<(W.cpus.length:Int)):PX bs XW #[.agg (Qa W m).toArray,.int .i64 g,.int .i64 c] w (.bool (QO W g c)):=
 Ah W.now m.cO W.cpus.length m.cC m.tO W.tasks.length m.tC m.gO W.groups.length m.gC g c fun wr hx=>by
  have h:=(h.ext hx).less (cs:=[]) (by simp);intro _ _;have hgl:=ha.gl;have hm9:=Zl;refine Xi W.tasks.length 0 rfl (fun k=>k<=W.tasks.length/\∀j:Nat,j<k->On W g c j=false) ⟨Nat.zero_le _,fun j hj=>absurd hj (Nat.not_lt_zero j)⟩ fun k ⟨hk,hI⟩=>⟨fun hlt=>?_,fun hge=>?_⟩
  ·have hlt:=Ot hlt;have ht:=ha.t;refine⟨h.t.ix Qy (by omega) hlt,_,h.t.f (by omega) hlt (j:=0) rfl,fun _=>h.t.ix Qy (by omega) hlt,_,fun _=>h.t.f (by omega) hlt (j:=1) rfl,fun _=>h.t.ix Qy (by omega) hlt,_,fun _=>h.t.f (by omega) hlt (j:=2) rfl,fun hy=>?_,fun hn=>⟨⟨by omega,by omega⟩,Qs (by omega) ⟨by omega,fun j hj=>?_⟩⟩⟩
   ·unfold QO;rw[L5.2 ⟨k,by omega,hy⟩]; rfl
   ·by_cases hjk:j<k
    ·exact hI j hjk
    ·have:j=k:=by omega
     subst this; exact hn
  ·have hge:=Ou hge;have hno:Tg (On W g c) W.tasks.length=false:=Ci fun j hj=>hI j (by omega)
   refine Xi W.groups.length 1 rfl (fun k=>1<=k/\k<=W.groups.length/\∀j:Nat,j<k->Jg W g c j=false) ⟨Nat.le_refl _,by omega,fun j hj=>by
    have:j=0:=by omega
    subst this; simp[Jg]⟩ fun k ⟨hk1,hk,hI⟩=>⟨fun hlt=>?_,fun hge=>?_⟩
   ·have hlt:=Ot hlt;refine⟨h.g.ix (by omega) hlt,_,h.g.used (by omega) hlt,fun _=>h.g.ix (by omega) hlt,_,fun _=>h.g.parent (by omega) hlt,(Qb W (k:Int) c).on,fun hu=>UX h ha (zia hlt (by simp only[Bool.and_eq_true] at hu; exact hu.1)) c0 c1,fun hy=>?_,fun hn=>⟨⟨by omega,by omega⟩,Qs (by omega) ⟨by omega,by omega,fun j hj=>?_⟩⟩⟩
    ·unfold QO
     have:Tg (Jg W g c) W.groups.length=true:=L5.2 ⟨k,by omega,by
      unfold Jg;rw[decide_eq_true hk1,Bool.true_and]; exact hy⟩
     rw[this,Bool.or_true]
    ·by_cases hjk:j<k
     ·exact hI j hjk
     ·have:j=k:=by omega
      subst this;unfold Jg;rw[decide_eq_true hk1,Bool.true_and]; exact hn
   ·have hge:=Ou hge;have:Tg (Jg W g c) W.groups.length=false:=Ci fun j hj=>hI j (by omega)
    unfold QO;rw[hno,this]; rfl
theorem UW{t:Int}(h:Xt bs w W m)(ha:WA W)(t0:0<=t)(t1:t<(W.tasks.length:Int))(hu:(Q7 W t).state=1->Q6 W.groups (Q7 W t).group=true/\0<=(Q7 W t).cpu/\(Q7 W t).cpu<(W.cpus.length:Int)) :
  PX bs Yr #[.agg (Qa W m).toArray,.int .i64 t] w (.bool (Z9 W t)):=
 Ai W.now m.cO W.cpus.length m.cC m.tO W.tasks.length m.tC m.gO W.groups.length m.gC t fun wr hx=>by
  have h:=(h.ext hx).less (cs:=[]) (by simp);intro _ _;refine⟨h.t.ix Qy t0 t1,_,_,_,_,_,_,_,_,_,h.t t t0 t1,fun _ _=>⟨fun g=>?_,fun g=>?_⟩⟩
  ·have:((Q7 W t).state==1)=false:=by simpa[Q7] using g
   unfold Z9; rw[this]; rfl
  ·have hs:(Q7 W t).state=1:=by simpa[Q7] using g
   obtain⟨hug,hc0,hc1⟩:=hu hs;have hL:Z9 W t=UF W (Q7 W t).group (Q7 W t).cpu:=by unfold Z9; rw[beq_iff_eq.2 hs,Bool.true_and]
   rw[hL];refine⟨fun vs=>∃x:Int,vs=[.int .i64 x]/\Q6 W.groups x=true/\UF W x (Q7 W t).cpu=UF W (Q7 W t).group (Q7 W t).cpu,fun vs=>(dep 3 W.groups (ZZ 0 vs)).toNat,⟨_,rfl,hug,rfl⟩,?_⟩;rintro x ⟨x',he,hux,hI⟩;simp only[List.cons.injEq,Value.int.injEq,true_and,and_true] at he;subst he;refine⟨fun hz=>?_,fun hz=>?_⟩
   ·have hz:x≠0:=by simpa using hz
    obtain⟨hp,a,b,d,e,e2,hd⟩:=ZY ha.tree hux hz;unfold UF at hI;rw[Ys ha.tree hux hz,List.all_cons] at hI
    refine⟨_,UX h ha hux hc0 hc1,fun g2=>?_,fun g2=>⟨h.g.ix a b,_,h.g.parent a b,⟨_,rfl,hp,?_⟩,by
     show (dep 3 W.groups (gi W.groups x).parent).toNat<(dep 3 W.groups x).toNat;omega⟩⟩
    ·have g2:(Qb W x (Q7 W t).cpu).on=false:=by simpa[Q7] using g2
     rw[g2,Bool.false_and] at hI;unfold UF;rw[<-hI]
    ·have g2:(Qb W x (Q7 W t).cpu).on=true:=by simpa[Q7] using g2
     rw[g2,Bool.true_and] at hI;exact hI
   ·have hz:x=0:=by simpa using hz
    subst hz;unfold UF at hI;rw[show QX W.groups 0=[] from Za _ _,List.all_nil] at hI;unfold UF;rw[<-hI]
end
theorem Lz{v f k:Int}{w:Wo}{bs:List Nat}:PX bs UT #[.int .i64 v,.int .i64 f,.int .i64 k] w (.bool (Mu v f k)):=
 za4 v f k fun wr hx=>⟨IntKind.i64.wrap (v-f),fun _ wq=>by simp[eqGuard,binOp,Op.intArith],_,fun _=>Px,rfl⟩
theorem zet:zmq Tryz.prog QK:=⟨by kernel_rfl,by kernel_rfl,by kernel_rfl⟩
theorem zm6(a b:Mw):CO Tryz.prog (Tryz.prog.fieldsOf QK).toList 0 (X7 a) (X7 b)=some ((a.state==b.state)&&((a.group==b.group)&&((a.cpu==b.cpu)&&((a.nice==b.nice)&&((a.mask==b.mask)&&((a.v==b.v)&&((a.sum==b.sum)&&((a.used==b.used)&&((a.load==b.load)&&true))))))))):=by kernel_rfl
theorem zh5{a b:Mw}:((a.state==b.state)&&((a.group==b.group)&&((a.cpu==b.cpu)&&((a.nice==b.nice)&&((a.mask==b.mask)&&((a.v==b.v)&&((a.sum==b.sum)&&((a.used==b.used)&&((a.load==b.load)&&true)))))))))=decide (a=b):=by
 cases a; cases b
 simp only[Mw.mk.injEq,Bool.and_true];rw[Bool.eq_iff_iff];simp only[Bool.and_eq_true,beq_iff_eq,decide_eq_true_eq]
section
variable {W:Q8}{m:MW}{w:Wo}{bs:List Nat}
theorem FO{k:Int}(h:Xt bs w W m)(hn:0<=W.now)(k0:0<=k)(k1:k<(W.groups.length:Int))(hf:zfy (gi W.groups k)):PX bs VY #[.agg (Qa W m).toArray,.int .i64 k] w (.bool (JJ (Md W k))):=
 Bk W.now m.cO W.cpus.length m.cC m.tO W.tasks.length m.tC m.gO W.groups.length m.gC k fun wr hx=>by
  have h:=(h.ext hx).less (cs:=[]) (by simp);intro _ _;refine⟨h.g.ix k0 k1,_,_,_,_,_,_,_,_,_,_,_,_,_,_,_,_,_,_,_,_,h.g.cells k k0 k1,fun _ _=>⟨fun g=>?_,fun g=>?_⟩⟩
  ·have hu:(gi W.groups k).used=false:=by simpa using g
   refine⟨_,fun _=>Ky (b:=(gi W.groups k).band) (m:=m.ms k.toNat),OM ?_⟩;simp only[Bool.and_eq_true,beq_iff_eq,Ue];constructor
   ·rintro⟨⟨⟨⟨⟨⟨⟨⟨e1,e2⟩,e3⟩,e4⟩,e5⟩,e6⟩,e7⟩,e8⟩,e9⟩;exact⟨fun _=>⟨e1,e2,e3,e4,e5,e6,e7,by omega,e9⟩,fun hu'=>by rw[hu'] at hu; cases hu⟩
   ·intro p;have q:=p.1 hu;exact⟨⟨⟨⟨⟨⟨⟨⟨q.p,q.n⟩,q.w⟩,q.c⟩,q.pe⟩,q.ne⟩,q.s⟩,by have:=q.l; omega⟩,q.b⟩
  ·have hu:(gi W.groups k).used=true:=by simpa using g
   have mk:zkp W k (gi W.groups k)->Md W k:=fun q=>⟨fun hu'=>(by rw[hu'] at hu; cases hu),fun _=>q⟩
   refine⟨_,Jp,_,fun _=>X3,_,fun _=>YA,fun g2=>KQ fun p=>?_,fun g2=>⟨fun g3=>KQ fun p=>?_,fun g3=>⟨fun g4=>⟨_,Ky (b:=(gi W.groups k).band) (m:=m.ms k.toNat),OM ?_⟩,fun g4=>⟨_,Hd (b:=(gi W.groups k).band) (m:=m.ms k.toNat) (h.g.locals k k0 k1) (h.g.dry k k0 k1) hf.lo,_,fun _=>Qi,fun g5=>?_,OM ?_⟩⟩⟩⟩
   ·have q:=p.2 hu;have e1:Yh (gi W.groups k).weight 1 20=true:=Qm.2 ⟨q.w1,q.w2⟩;have e3:((gi W.groups k).cpus==0)=false:=by simpa using q.m0
    have e5:(((gi W.groups k).shelves.length:Nat):Int)=((W.cpus.length:Nat):Int):=by have:=q.len; omega
    rw[e1,q.m,e3,q.s,e5] at g2;simp at g2
   ·have q:=p.2 hu;simp only[Bool.and_eq_true,beq_iff_eq] at g3;have r:=q.root g3.1;rw[r.1,r.2.1,r.2.2] at g3;simp at g3
   all_goals
    simp only[Bool.or_eq_false_iff,Bool.not_eq_false',bne_eq_false_iff_eq,Qm,beq_eq_false_iff_ne] at g2;obtain⟨⟨⟨⟨a1,a2⟩,a3⟩,a4⟩,a5⟩:=g2;have hlen:(gi W.groups k).shelves.length=W.cpus.length:=by omega
    have hroot:k=0->(gi W.groups k).weight=10/\(gi W.groups k).cpus=15/\(gi W.groups k).band.quota=0:=fun hk=>by
     rw[beq_iff_eq.2 hk,Bool.true_and] at g3;simp only[Bool.or_eq_false_iff,bne_eq_false_iff_eq] at g3;exact⟨g3.1.1,g3.1.2,g3.2⟩
   ·have q0:(gi W.groups k).band.quota=0:=by simpa using g4
    simp only[Bool.and_eq_true,beq_iff_eq];constructor
    ·rintro⟨⟨e1,e2⟩,e3⟩;exact mk ⟨a1.1,a1.2,a2,a3,a4,hlen,hroot,fun _=>⟨e1,e2,e3⟩,fun hne=>absurd q0 hne⟩
    ·intro p;have q:=(p.2 hu).none q0;exact⟨⟨q.1,q.2.1⟩,q.2.2⟩
   ·simp only[Bool.and_eq_true,beq_iff_eq,decide_eq_true_eq] at g5;have:=hf.nx;exact⟨by have:=this.1; omega,by have:=this.2; omega⟩
   ·have q0:(gi W.groups k).band.quota≠0:=by simpa using g4
    simp only[Bool.and_eq_true,beq_iff_eq,decide_eq_true_eq,Qh,Qm];constructor
    ·rintro⟨⟨⟨⟨e1,e2⟩,e3⟩,e4⟩,e5⟩;exact mk ⟨a1.1,a1.2,a2,a3,a4,hlen,hroot,fun hne=>absurd hne q0,fun _=>⟨e1,by omega,e3.1,e3.2,e4,e5⟩⟩
    ·intro p;have q:=(p.2 hu).band q0;exact⟨⟨⟨⟨q.1,by have:=q.2.1; omega⟩,q.2.2.1,q.2.2.2.1⟩,q.2.2.2.2.1⟩,q.2.2.2.2.2⟩
theorem L9{W:Q8}(ha:WA W){g mask c:Int}(hc:QP (Qp W g mask) c=true):0<=c/\c<(W.cpus.length:Int):=by
 have h1:=zp9 hc;exact⟨(PB h1).2.1,(zh8 W.cpus _ ha.c2 h1).1⟩
theorem A1{t:Int}(h:Xt bs w W m)(ha:WA W)(t0:0<=t)(t1:t<(W.tasks.length:Int)):PX bs TG #[.agg (Qa W m).toArray,.int .i64 t] w (.bool (JJ (BV W t))):=
 Am W.now m.cO W.cpus.length m.cC m.tO W.tasks.length m.tC m.gO W.groups.length m.gC t fun wr hx=>by
  have h:=(h.ext hx).less (cs:=[]) (by simp);intro _ _;have hgl:=ha.gl;have hm9:=Zl;refine⟨h.t.ix Qy t0 t1,_,_,_,_,_,_,_,_,_,h.t t t0 t1,fun _ _=>⟨fun g=>?_,fun g=>?_⟩⟩
  ·have hs:(gi W.tasks t).state=0:=by simpa using g
   refine⟨_,fun wq=>zbf zet (zm6 (gi W.tasks t) Tm) _ _ wq,OM ?_⟩;rw[zh5,decide_eq_true_eq];constructor
   ·exact fun e=>.inl ⟨hs,e⟩
   ·rintro (⟨_,e⟩ | ⟨e,_⟩)
    ·exact e
    ·exact absurd hs e
  ·have hs:(gi W.tasks t).state≠0:=by simpa using g
   have no:∀{q:BV W t},ztm W (gi W.tasks t):=fun {q}=>by
    rcases q with ⟨e,_⟩ | ⟨_,q⟩
    ·exact absurd e hs
    ·exact q
   refine⟨_,fun _=>X4 (c:=m.gC) h.g,_,fun _=>Zh,_,fun _=>X3,fun g2=>KQ fun p=>?_,fun g2=>?_⟩
   ·have q:=no (q:=p);have e3:(Qc (gi W.tasks t).nice==0)=false:=by simpa using q.n
    have e4:((gi W.tasks t).mask==0)=false:=by simpa using q.m0
    rw[q.g,e3,q.m,e4] at g2;simp only[Bool.not_true,Bool.or_false,Bool.and_eq_true,bne_iff_ne] at g2;have:=q.st;omega
   ·simp only[Bool.or_eq_false_iff,Bool.not_eq_false',beq_eq_false_iff_ne] at g2;obtain⟨⟨⟨⟨a1,a2⟩,a3⟩,a4⟩,a5⟩:=g2
    have st:(gi W.tasks t).state=1\/(gi W.tasks t).state=2:=by
     by_cases h1:(gi W.tasks t).state=1
     ·exact .inl h1
     ·refine .inr ?_;have:((gi W.tasks t).state != 1)=true:=by simpa using h1
      rw[this,Bool.true_and] at a1
      simpa using a1
    refine⟨_,YA,_,fun _=>YA,_,fun _=>YA,_,fun _=>Qi,Qp W (gi W.tasks t).group (gi W.tasks t).mask,fun _=>Xg h ha.c2 ha.tree a2,_,fun _=>Zy,fun g3=>KQ fun p=>?_,fun g3=>?_⟩
    ·have q:=no (q:=p);have e4:Yh (gi W.tasks t).load 0 8000000=true:=Qm.2 ⟨q.l1,q.l2⟩;rw[q.v,q.s,q.u,e4,q.c] at g3;simp at g3
    ·simp only[Bool.or_eq_false_iff,Bool.not_eq_false',Qm] at g3;obtain⟨⟨⟨⟨b1,b2⟩,b3⟩,b4⟩,b5⟩:=g3;obtain⟨u1,u2,_⟩:=Q5.1 a2;obtain⟨c0,c1⟩:=L9 ha b5;have hsl:=ha.sl a2;have c2:(gi W.tasks t).cpu<((gi W.groups (gi W.tasks t).group).shelves.length:Int):=by omega
     refine⟨fun _=>h.g.ix u1 u2,_,_,_,fun _=>h.g.shelf u1 u2,fun _=>(h.g.shelves _ u1 u2).ix ZQ c0 c2,_,fun _=>zkn.f (h.g.shelves _ u1 u2) c0 c2 (j:=0) rfl,_,fun _=>Zh,_,fun _=>Lz,OM ?_⟩;simp only[Bool.or_eq_true,beq_iff_eq];constructor
     ·intro e
      exact .inr ⟨hs,⟨st,a2,a3,a4,a5,b1,b2,b3,b4.1,b4.2,b5,fun e1=>by
       rcases e with e | e
       ·have e:(gi W.tasks t).state=2:=e;have e1:(gi W.tasks t).state=1:=e1;omega
       ·exact e⟩⟩
     ·intro p;have q:=no (q:=p);rcases st with e | e
      ·exact .inr (q.f e)
      ·exact .inl e
theorem FP{k c:Int}(h:Xt bs w W m)(ha:WA W)(k0:0<=k)(k1:k<(W.groups.length:Int))(c0:0<=c)(c2:c<((gi W.groups k).shelves.length:Int)):PX bs VZ #[.agg (Qa W m).toArray,.int .i64 k,.int .i64 c] w (.bool (JJ (Me W k c))):=
 Bl W.now m.cO W.cpus.length m.cC m.tO W.tasks.length m.tC m.gO W.groups.length m.gC k c fun wr hx=>by
  have h:=(h.ext hx).less (cs:=[]) (by simp);intro _ _;have hgl:=ha.gl
  have hus:(gi W.groups k).used=true:=by
   cases hu:(gi W.groups k).used with
   | true=>rfl
   | false=>
    have:=((ha.grp k k0 (by omega)).1 hu).l;omega
  have hu:Q6 W.groups k=true:=Q5.2 ⟨k0,k1,hus⟩;have hsl:=ha.sl hu;have c1:c<(W.cpus.length:Int):=by omega
  refine⟨h.g.ix k0 k1,_,_,_,_,_,_,_,_,_,_,_,_,_,_,_,_,_,_,_,_,h.g.cells k k0 k1,fun _ _=>⟨(h.g.shelves k k0 k1).ix ZQ c0 c2,_,_,_,_,_,(h.g.shelves k k0 k1) c c0 c2,fun _ _=>⟨_,YA,_,fun _=>YA,_,fun _=>YA,_,fun _=>Jp,fun g=>KQ fun p=>?_,fun g=>⟨fun g2=>OM ?_,fun g2=>⟨_,OH h ha c0 c1,_,fun _=>Kc h ha hu c0 c1,fun g3=>KQ fun p=>?_,fun g3=>?_⟩⟩⟩⟩⟩
  ·have e1:=p.f;have e2:=p.v;have e3:=p.s;have e4:Yh (Qb W k c).w 1 20=true:=Qm.2 ⟨p.w1,p.w2⟩;have g':(((!ZA (Qb W k c).floor || !ZA (Qb W k c).v) || !ZA (Qb W k c).sum) || !Yh (Qb W k c).w 1 20)=true:=g;rw[e1,e2,e3,e4] at g'
   cases g'
  ·have g':(((!ZA (Qb W k c).floor || !ZA (Qb W k c).v) || !ZA (Qb W k c).sum) || !Yh (Qb W k c).w 1 20)=false:=g;simp only[Bool.or_eq_false_iff,Bool.not_eq_false',Qm] at g';obtain⟨⟨⟨a1,a2⟩,a3⟩,a4⟩:=g';have hk:k=0:=by simpa using g2
   show ((!(Qb W k c).on&&((Qb W k c).v==0))&&((Qb W k c).w==10))=true↔_;simp only[Bool.and_eq_true,Bool.not_eq_true',beq_iff_eq];constructor
   ·rintro⟨⟨e1,e2⟩,e3⟩;exact⟨a1,a2,a3,a4.1,a4.2,fun _=>⟨e1,e2,e3⟩,fun hne=>absurd hk hne,fun hne=>absurd hk hne⟩
   ·intro p;have q:=p.root hk;exact⟨⟨q.1,q.2.1⟩,q.2.2⟩
  ·have hk:k≠0:=by simpa using g2
   have g3':(!((Qb W k c).on==(QO W k c && !UB W k c)))=true:=g3;rw[p.on hk] at g3';simp at g3'
  ·have g':(((!ZA (Qb W k c).floor || !ZA (Qb W k c).v) || !ZA (Qb W k c).sum) || !Yh (Qb W k c).w 1 20)=false:=g;simp only[Bool.or_eq_false_iff,Bool.not_eq_false',Qm] at g';obtain⟨⟨⟨a1,a2⟩,a3⟩,a4⟩:=g';have hk:k≠0:=by simpa using g2
   have hon:(Qb W k c).on=(QO W k c && !UB W k c):=by
    have g3':(!((Qb W k c).on==(QO W k c && !UB W k c)))=false:=g3
    simpa using g3'
   have hp:=ha.up hu hk;obtain⟨v1,v2,_⟩:=Q5.1 hp;have hpl:=ha.sl hp;have c3:c<((gi W.groups (gi W.groups k).parent).shelves.length:Int):=by omega
   refine⟨fun _=>h.g.ix v1 v2,_,_,_,fun _=>h.g.shelf v1 v2,fun _=>(h.g.shelves _ v1 v2).ix ZQ c0 c3,_,fun _=>zkn.f (h.g.shelves _ v1 v2) c0 c3 (j:=0) rfl,_,fun _=>Lz,OM ?_⟩;show (!(Qb W k c).on||Mu (Qb W k c).v (Qb W (gi W.groups k).parent c).floor (Qb W k c).w)=true↔_;simp only[Bool.or_eq_true,Bool.not_eq_true'];constructor
   ·intro e
    exact⟨a1,a2,a3,a4.1,a4.2,fun e0=>absurd e0 hk,fun _=>hon,fun _ ho=>by
     rcases e with e | e
     ·rw[ho] at e; cases e
     ·exact e⟩
   ·intro p
    cases ho:(Qb W k c).on with
    | false=>exact .inl rfl
    | true=>exact .inr (p.st hk ho)
theorem zha{t:Int}(ht:BV W t)(hl:Z9 W t=true):ztm W (Q7 W t)/\(Q7 W t).state=1:=by
 have hs:(Q7 W t).state=1:=by
  unfold Z9 at hl;simp only[Bool.and_eq_true,beq_iff_eq] at hl;exact hl.1
 rcases ht with ⟨e,_⟩ | ⟨_,q⟩
 ·omega
 ·exact⟨q,hs⟩
theorem FD{a b:Int}(ha:ZA a=true)(hb:ZA b=true):Qj .i64 (a-b):=by
 have:=Y3.1 ha;have:=Y3.1 hb;exact⟨by omega,by omega⟩
theorem A0{c:Int}(h:Xt bs w W m)(ha:WA W)(hts:∀t:Int,0<=t->t<12->BV W t)(hss:∀k c:Int,0<=k->k<8->0<=c->c<((gi W.groups k).shelves.length:Int)->Me W k c)(c0:0<=c)(c1:c<(W.cpus.length:Int))(t0:0<=(gi W.cpus c).cur)(t1:(gi W.cpus c).cur<(W.tasks.length:Int))(hl:Z9 W (gi W.cpus c).cur=true) :
  PX bs TF #[.agg (Qa W m).toArray,.int .i64 c] w (.bool (PJ W c)):=
 Al W.now m.cO W.cpus.length m.cC m.tO W.tasks.length m.tC m.gO W.groups.length m.gC c fun wr hx=>by
  have h:=(h.ext hx).less (cs:=[]) (by simp);intro _ _;have htl:=ha.t;have hgl:=ha.gl;obtain⟨q,_⟩:=zha (hts _ t0 (by omega)) hl;have a2:=q.g;obtain⟨u1,u2,_⟩:=Q5.1 a2
  have sl:∀{x:Int},Q6 W.groups x=true->0<=x/\x<(W.groups.length:Int)/\c<((gi W.groups x).shelves.length:Int)/\Me W x c:=fun {x} hx=>by
   obtain⟨v1,v2,_⟩:=Q5.1 hx;have e:=ha.sl hx;have c3:c<((gi W.groups x).shelves.length:Int):=by omega
   exact⟨v1,v2,c3,hss x c v1 (by omega) c0 c3⟩
  obtain⟨_,_,c2,sp⟩:=sl a2;refine⟨h.c.ix ZH c0 c1,_,_,_,_,_,h.c c c0 c1,fun _ _=>⟨h.t.ix Qy t0 t1,_,_,_,_,_,_,_,_,_,h.t _ t0 t1,fun _ _=>⟨h.g.ix u1 u2,_,_,_,h.g.shelf u1 u2,(h.g.shelves _ u1 u2).ix ZQ c0 c2,_,zkn.f (h.g.shelves _ u1 u2) c0 c2 (j:=0) rfl,FD q.v sp.f,_,Zh,_,Xf,fun g=>?_,fun g=>?_⟩⟩⟩
  ·have g:=Ot g;have hd:¬((Q7 W (gi W.cpus c).cur).v-(Qb W (Q7 W (gi W.cpus c).cur).group c).floor<=Z3 (gi W.cpus c).ran (Qc (Q7 W (gi W.cpus c).cur).nice)):=Int.not_le.2 g;unfold PJ;rw[decide_eq_false hd];rfl
  ·have g:=Ou g
   have hS:PJ W c=Tl W (Q7 W (gi W.cpus c).cur).group c (gi W.cpus c).ran:=by
    have hd:(Q7 W (gi W.cpus c).cur).v-(Qb W (Q7 W (gi W.cpus c).cur).group c).floor<=Z3 (gi W.cpus c).ran (Qc (Q7 W (gi W.cpus c).cur).nice):=Int.not_lt.1 g;unfold PJ;rw[decide_eq_true hd,Bool.true_and]
   rw[hS];refine⟨fun vs=>∃x:Int,vs=[.int .i64 x]/\Q6 W.groups x=true/\Tl W x c (gi W.cpus c).ran=Tl W (Q7 W (gi W.cpus c).cur).group c (gi W.cpus c).ran,fun vs=>(dep 3 W.groups (ZZ 0 vs)).toNat,⟨_,rfl,a2,rfl⟩,?_⟩;rintro x ⟨x',he,hux,hI⟩;simp only[List.cons.injEq,Value.int.injEq,true_and,and_true] at he;subst he;refine⟨fun hz=>?_,fun hz=>?_⟩
   ·have hz:x≠0:=by simpa using hz
    obtain⟨hp,a,b,d,e,e2,hd⟩:=ZY ha.tree hux hz;obtain⟨x1,x2,x3,xs⟩:=sl hux;obtain⟨p1,p2,p3,ps⟩:=sl hp;unfold Tl at hI;rw[Ys ha.tree hux hz,List.all_cons] at hI
    refine⟨h.g.ix x1 x2,_,_,_,h.g.shelf x1 x2,(h.g.shelves _ x1 x2).ix ZQ c0 x3,_,_,_,_,_,(h.g.shelves _ x1 x2) c c0 x3,fun _ _=>⟨h.g.ix x1 x2,_,h.g.parent x1 x2,h.g.ix p1 p2,_,_,_,h.g.shelf p1 p2,(h.g.shelves _ p1 p2).ix ZQ c0 p3,_,zkn.f (h.g.shelves _ p1 p2) c0 p3 (j:=0) rfl,FD xs.v ps.f,_,Xf,fun g2=>?_,fun g2=>⟨h.g.ix x1 x2,_,h.g.parent x1 x2,⟨_,rfl,hp,?_⟩,by
     show (dep 3 W.groups (gi W.groups x).parent).toNat<(dep 3 W.groups x).toNat;omega⟩⟩⟩
    ·have g2:=Ot g2;have hd:¬((Qb W x c).v-(Qb W (gi W.groups x).parent c).floor<=Z3 (gi W.cpus c).ran (Qb W x c).w):=Int.not_le.2 g2;rw[decide_eq_false hd,Bool.false_and] at hI;unfold Tl;rw[<-hI]
    ·have g2:=Ou g2;have hd:(Qb W x c).v-(Qb W (gi W.groups x).parent c).floor<=Z3 (gi W.cpus c).ran (Qb W x c).w:=Int.not_lt.1 g2;rw[decide_eq_true hd,Bool.true_and] at hI;exact hI
   ·have hz:x=0:=by simpa using hz
    subst hz;unfold Tl at hI;rw[show QX W.groups 0=[] from Za _ _,List.all_nil] at hI;unfold Tl;rw[<-hI]
theorem Eh{t:Int}(ha:WA W)(ht:BV W t)(hs:(Q7 W t).state=1):Q6 W.groups (Q7 W t).group=true/\0<=(Q7 W t).cpu/\(Q7 W t).cpu<(W.cpus.length:Int):=by
 rcases ht with ⟨e,_⟩ | ⟨_,q⟩
 ·omega
 ·exact⟨q.g,L9 ha q.c⟩
theorem zaa{c:Int}(h:Xt bs w W m)(ha:WA W)(hts:∀t:Int,0<=t->t<12->BV W t)(hss:∀k c:Int,0<=k->k<8->0<=c->c<((gi W.groups k).shelves.length:Int)->Me W k c)(c0:0<=c)(c1:c<(W.cpus.length:Int)) :
  PX bs OB #[.agg (Qa W m).toArray,.int .i64 c] w (.bool (JJ (ER W c))):=
 za2 W.now m.cO W.cpus.length m.cC m.tO W.tasks.length m.tC m.gO W.groups.length m.gC c fun wr hx=>by
  have h:=(h.ext hx).less (cs:=[]) (by simp);intro _ _;have htl:=ha.t;refine⟨h.c.ix ZH c0 c1,_,_,_,_,_,h.c c c0 c1,fun _ _=>⟨_,YA,_,fun _=>YA,fun _=>⟨by omega,by omega⟩,_,fun _=>Qi,fun g=>KQ fun p=>?_,fun g=>⟨fun g2=>OM ?_,fun g2=>?_⟩⟩⟩
  ·have e3:Yh (gi W.cpus c).cur (-1) (((W.tasks.length:Nat):Int)-1)=true:=Qm.2 (by have:=p.c1; have:=p.c2; omega);rw[p.b,p.i,e3] at g;cases g
  ·simp only[Bool.or_eq_false_iff,Bool.not_eq_false',Qm] at g;obtain⟨⟨a1,a2⟩,a3⟩:=g;have g2:=Ot g2;rw[beq_iff_eq];exact⟨fun e=>⟨a1,a2,a3.1,by omega,fun _=>e,fun hc=>by omega⟩,fun p=>p.no g2⟩
  ·simp only[Bool.or_eq_false_iff,Bool.not_eq_false',Qm] at g;obtain⟨⟨a1,a2⟩,a3⟩:=g;have g2:=Ou g2;have t0:0<=(gi W.cpus c).cur:=by omega
   have t1:(gi W.cpus c).cur<(W.tasks.length:Int):=by omega
   refine⟨_,fun _=>Qi,fun _=>h.t.ix Qy t0 t1,_,fun _=>h.t.f t0 t1 (j:=2) rfl,Z9 W (gi W.cpus c).cur,fun _=>UW h ha t0 t1 fun hs=>Eh ha (hts _ t0 (by omega)) hs,PJ W c,fun g3=>A0 h ha hts hss c0 c1 t0 t1 (by simp only[Bool.and_eq_true] at g3; exact g3.2),OM ?_⟩;simp only[Bool.and_eq_true,beq_iff_eq,Qm];constructor
   ·rintro⟨⟨⟨⟨e1,e2⟩,e3⟩,e4⟩,e5⟩;exact⟨a1,a2,a3.1,by omega,fun hc=>by omega,fun _=>⟨e1,e2.1,e2.2,e3,e4,e5⟩⟩
   ·intro p;have q:=p.yes t0;exact⟨⟨⟨⟨q.1,q.2.1,q.2.2.1⟩,q.2.2.2.1⟩,q.2.2.2.2.1⟩,q.2.2.2.2.2⟩
theorem YJ(h:Xt bs w W m)(lc:W.cpus.length<=maxLen)(lt:W.tasks.length<=maxLen)(lg:W.groups.length<=maxLen)(hf:∀i:Int,0<=i->i<(W.groups.length:Int)->zfy (gi W.groups i)) :
  PX bs ZC #[.agg (Qa W m).toArray] w (.bool (Qv W)):=
 zax W.now m.cO W.cpus.length m.cC m.tO W.tasks.length m.tC m.gO W.groups.length m.gC fun wr hx=>by
  have h:=(h.ext hx).less (cs:=[]) (by simp);intro _ _;have hm9:=Xb;refine⟨_,Qi,_,fun _=>Qi,M8 W.groups,fun _=>Hf h.g lg,Jr W.cpus,fun g=>Kd h ?_,fun g=>KQ fun p=>?_,fun g=>?_⟩
  ·simp only[Bool.or_eq_false_iff,Bool.not_eq_false',Qm] at g;omega
  ·have a:=p.a;have e1:Yh W.now 0 100000000000000000=true:=Qm.2 ⟨a.n1,a.n2⟩;have e2:Yh ((W.cpus.length:Nat):Int) 1 4=true:=Qm.2 (by have:=a.c1; have:=a.c2; omega);have e3:((W.tasks.length:Nat):Int)=12:=by have:=a.t; omega
   have e5:(Jr W.cpus==0)=false:=by simpa using a.ups
   rw[e1,e2,e3,Vy.2 a.tree,e5] at g;simp at g
  simp only[Bool.or_eq_false_iff,Bool.not_eq_false',Qm,bne_eq_false_iff_eq,beq_eq_false_iff_ne] at g;obtain⟨⟨⟨⟨g1,g2⟩,g3⟩,g4⟩,g5⟩:=g;have ht:=Vy.1 g4;have hgl:=ht.len;refine Xi W.groups.length 0 rfl (fun k=>k<=W.groups.length/\∀j:Int,0<=j->j<(k:Int)->Md W j) ⟨Nat.zero_le _,fun j h0 h1=>by omega⟩ fun k ⟨hk,hI⟩=>⟨fun hlt=>?_,fun hge=>?_⟩
  ·have hlt:=Ot hlt;refine⟨_,FO h g1.1 (by omega) hlt (hf _ (by omega) hlt),fun g6=>KQ fun p=>?_,fun g6=>⟨⟨by omega,by omega⟩,Qs (by omega) ⟨by omega,fun j h0 h1=>?_⟩⟩⟩
   ·have g6:JJ (Md W (k:Int))=false:=by simpa using g6
    exact HC.1 g6 (p.a.grp _ (by omega) (by omega))
   ·by_cases hjk:j<(k:Int)
    ·exact hI j h0 hjk
    ·have:j=(k:Int):=by omega
     subst this;exact Qh.1 (by simpa using g6)
  have hge:=Ou hge;have ha:WA W:=⟨g1.1,g1.2,by omega,by omega,by omega,ht,g5,fun j h0 h1=>hI j h0 (by omega)⟩;refine Xi W.tasks.length 0 rfl (fun k=>k<=W.tasks.length/\∀j:Int,0<=j->j<(k:Int)->BV W j) ⟨Nat.zero_le _,fun j h0 h1=>by omega⟩ fun k2 ⟨hk2,hI2⟩=>⟨fun hlt=>?_,fun hge2=>?_⟩
  ·have hlt:=Ot hlt;refine⟨_,A1 h ha (by omega) hlt,fun g6=>KQ fun p=>?_,fun g6=>⟨⟨by omega,by omega⟩,Qs (by omega) ⟨by omega,fun j h0 h1=>?_⟩⟩⟩
   ·have g6:JJ (BV W (k2:Int))=false:=by simpa using g6
    exact HC.1 g6 (p.t _ (by omega) (by omega))
   ·by_cases hjk:j<(k2:Int)
    ·exact hI2 j h0 hjk
    ·have:j=(k2:Int):=by omega
     subst this;exact Qh.1 (by simpa using g6)
  have hge2:=Ou hge2;have hts:∀t:Int,0<=t->t<12->BV W t:=fun t h0 h1=>hI2 t h0 (by omega)
  refine Xi W.groups.length 0 rfl (fun k=>k<=W.groups.length/\∀j c:Int,0<=j->j<(k:Int)->0<=c->c<((gi W.groups j).shelves.length:Int)->Me W j c) ⟨Nat.zero_le _,fun j c h0 h1=>by omega⟩ fun k3 ⟨hk3,hI3⟩=>⟨fun hlt=>?_,fun hge3=>?_⟩
  ·have hlt:=Ot hlt;have k30:(0:Int)<=(k3:Int):=by omega
   refine Xi (gi W.groups (k3:Int)).shelves.length 0 rfl (fun c=>c<=(gi W.groups (k3:Int)).shelves.length/\∀d:Int,0<=d->d<(c:Int)->Me W (k3:Int) d) ⟨Nat.zero_le _,fun j h0 h1=>by omega⟩ fun c ⟨hc,hJ⟩=>⟨h.g.ix k30 hlt,_,_,_,h.g.shelf k30 hlt,fun hltc=>?_,fun hgec=>?_⟩
   ·have hltc:=Ot hltc;have hsm:(gi W.groups (k3:Int)).shelves.length<=maxLen:=(hf _ k30 hlt).sh;refine⟨_,FP h ha k30 hlt (by omega) hltc,fun g6=>KQ fun p=>?_,fun g6=>⟨⟨by omega,by omega⟩,Qs (by omega) ⟨by omega,fun d h0 h1=>?_⟩⟩⟩
    ·have g6:JJ (Me W (k3:Int) (c:Int))=false:=by simpa using g6
     exact HC.1 g6 (p.s _ _ (by omega) (by omega) (by omega) hltc)
    ·by_cases hjk:d<(c:Int)
     ·exact hJ d h0 hjk
     ·have:d=(c:Int):=by omega
      subst this;exact Qh.1 (by simpa using g6)
   ·have hgec:=Ou hgec;refine⟨⟨by omega,by omega⟩,Qs (by omega) ⟨by omega,fun j d h0 h1 h2 h3=>?_⟩⟩
    by_cases hjk:j<(k3:Int)
    ·exact hI3 j d h0 hjk h2 h3
    ·have:j=(k3:Int):=by omega
     subst this;exact hJ d h2 (by omega)
  have hge3:=Ou hge3;have hss:∀k c:Int,0<=k->k<8->0<=c->c<((gi W.groups k).shelves.length:Int)->Me W k c:=fun k c h0 h1 h2 h3=>hI3 k c h0 (by omega) h2 h3
  refine Xi W.cpus.length 0 rfl (fun k=>k<=W.cpus.length/\∀j:Int,0<=j->j<(k:Int)->ER W j) ⟨Nat.zero_le _,fun j h0 h1=>by omega⟩ fun k4 ⟨hk4,hI4⟩=>⟨fun hlt=>?_,fun hge4=>?_⟩
  ·have hlt:=Ot hlt;refine⟨_,zaa h ha hts hss (by omega) hlt,fun g6=>KQ fun p=>?_,fun g6=>⟨⟨by omega,by omega⟩,Qs (by omega) ⟨by omega,fun j h0 h1=>?_⟩⟩⟩
   ·have g6:JJ (ER W (k4:Int))=false:=by simpa using g6
    exact HC.1 g6 (p.c _ (by omega) hlt)
   ·by_cases hjk:j<(k4:Int)
    ·exact hI4 j h0 hjk
    ·have:j=(k4:Int):=by omega
     subst this;exact Qh.1 (by simpa using g6)
  ·have hge4:=Ou hge4;exact zkl ⟨ha,hts,hss,fun c h0 h1=>hI4 c h0 (by omega)⟩
end
theorem QS{n p:Nat}{vs us:List Va}{k:Nat}(h1:ZZ p vs=(k:Int)+1)(h2:ZZ p us=(k:Int))(hk:k<n):Jh n p vs<Jh n p us:=by
 unfold Jh;rw[h1,h2];omega
theorem zmv{α:Type}[Inhabited α]{l:List α}{p:α->Bool}:l.all p=true↔∀k:Nat,k<l.length->p (gi l (k:Int))=true:=by
 rw[List.all_eq_true];constructor
 ·intro h k hk; exact h _ (FB (by omega) (by omega))
 ·intro h x hx;obtain⟨k,hk,rfl⟩:=List.getElem_of_mem hx;rw[<-J2 hk]; exact h k hk
theorem zbc{bs:List Nat}{w:Wo}{b:Nat}{l:List Int}{t:TypeId}{fz:Nat×Nat}(h:w.heap[b]? = some (.cells (l.flatMap Ji).toArray t fz))(hb:b∉bs):zok bs w (some ⟨b,0,none⟩) l:=fun i h0 hi=>by
 have hlt:i.toNat<l.length:=by omega
 refine MA h hb (k0:=0) ?_;have:=CP (enc:=Ji) (z:=1) (fun _=>rfl) l i.toNat 0 hlt (by decide);rw[Nat.add_zero] at this;rw[Nat.zero_add,this]
 have e:gi l i=l[i.toNat]:=by
  have:=J2 hlt
  rwa[show ((i.toNat:Nat):Int)=i by omega] at this
 rw[e]; rfl
theorem FQ{l:List Int}{o:OA}{c:Nat}{w:Wo}{bs:List Nat}(h:zok bs w o l)(hl:l.length<=maxLen):PX bs Zv #[.slice o l.length c] w (.bool (l.all ZA)):=
 zdu o l.length c fun wr hx=>by
  have h:=(h.ext hx).less (cs:=[]) (by simp);refine Xi l.length 0 rfl (fun k=>k<=l.length/\∀j:Nat,j<k->ZA (gi l (j:Int))=true) ⟨Nat.zero_le _,fun j hj=>absurd hj (Nat.not_lt_zero j)⟩ fun k ⟨hk,hI⟩=>⟨fun hlt=>?_,fun hge=>?_⟩
  ·have hlt:=Ot hlt;refine⟨h.ix VI (by omega) hlt,_,h k (by omega) hlt,_,Qu,fun g=>?_,fun g=>⟨zne hlt hl,Qs (by omega) ⟨by omega,fun j hj=>?_⟩⟩⟩
   ·have:l.all ZA=false:=by
     cases hb:l.all ZA with
     | false=>rfl
     | true=>
      have:=zmv.1 hb k (by omega);unfold ZA at this;rw[this] at g;cases g
    rw[this]
   ·by_cases hjk:j<k
    ·exact hI j hjk
    ·have:j=k:=by omega
     subst this;unfold ZA
     simpa using g
  ·have hge:=Ou hge;have hk:k=l.length:=by omega
   subst hk;rw[zmv.2 hI]
theorem zy9{a:Int}{w:Wo}{b:Nat}{t:TypeId}{fz:Nat×Nat}(h:w.heap[b]? = some (.cells ([.int .i64 a]:List Va).toArray t fz)):PX [] Zv #[.slice (some ⟨b,0,none⟩) 1 1] w (.bool (ZA a)):=by
 have:=FQ (l:=[a]) (c:=1) (bs:=[]) (zbc h (by simp)) (by simp[maxLen])
 simpa using this
theorem zzq{a b2:Int}{w:Wo}{b:Nat}{t:TypeId}{fz:Nat×Nat}(h:w.heap[b]? = some (.cells ([.int .i64 a,.int .i64 b2]:List Va).toArray t fz)):PX [] Zv #[.slice (some ⟨b,0,none⟩) 2 2] w (.bool (ZA a&&ZA b2)):=by
 have:=FQ (l:=[a,b2]) (c:=2) (bs:=[]) (zbc h (by simp)) (by simp[maxLen])
 simpa using this
theorem zzi{a b2 b3:Int}{w:Wo}{b:Nat}{t:TypeId}{fz:Nat×Nat}(h:w.heap[b]? = some (.cells ([.int .i64 a,.int .i64 b2,.int .i64 b3]:List Va).toArray t fz)):PX [] Zv #[.slice (some ⟨b,0,none⟩) 3 3] w (.bool (ZA a&&(ZA b2&&ZA b3))):=by
 have:=FQ (l:=[a,b2,b3]) (c:=3) (bs:=[]) (zbc h (by simp)) (by simp[maxLen])
 simpa using this
theorem z4{m:Int}{w:Wo}{bs:List Nat}:PX bs Jy #[.int .i64 m] w (.bool (P0 m)):=B8 m fun wr hx=>rfl
theorem Mm{m:Int}{w:Wo}{bs:List Nat}:PX bs JP #[.int .i64 m] w (.bool (P0 m)):=zdq m fun wr hx=>⟨_,z4,rfl⟩
theorem Ku{m:Int}{w:Wo}{bs:List Nat}:PX bs U8 #[.int .i64 m] w (.bool ((m != 0)&&P0 m)):=A8 m fun wr hx=>⟨_,fun _=>Mm,rfl⟩
theorem zt7:∀(m:Fin 16) (c:Fin 4),(Vz .and .i64 (Int.fdiv (m.val:Int) (2 ^ (min (Int.toNat (c.val:Int)) 64))) 1==1)=(Int.tmod (Int.fdiv (m.val:Int) (2 ^ (min (Int.toNat (c.val:Int)) 64))) 2==1):=by decide +kernel
theorem z3{m c:Int}{w:Wo}{bs:List Nat}:PX bs J9 #[.int .i64 m,.int .i64 c] w (.bool (QP m c)):=
 Ep m c fun wr hx=>by
  refine⟨_,z4,_,fun _=>Qu,fun g=>?_,?_⟩
  ·simp only[Bool.and_eq_true] at g;exact(Qm.1 g.2).1
  ·unfold QP
   cases h1:P0 m with
   | false=>rfl
   | true=>
    cases h2:Yh c 0 3 with
    | false=>rfl
    | true=>
     obtain⟨x,rfl⟩:=M5 h1;have:=Qm.1 h2;have e:=zt7 x ⟨c.toNat,by omega⟩;rw[show ((⟨c.toNat,by omega⟩:Fin 4).val:Int)=c by show ((c.toNat:Nat):Int)=c; omega] at e;rw[e]
theorem Lo{m c:Int}{w:Wo}{bs:List Nat}:PX bs UL #[.int .i64 m,.int .i64 c] w (.bool (QP m c)):=zar m c fun wr hx=>⟨_,z3,rfl⟩
theorem Pw{a b:Int}{w:Wo}{bs:List Nat}:PX bs Jk #[.int .i64 a,.int .i64 b] w (.int .i64 (T4 a b)):=
 zaq a b fun wr hx=>by
  refine⟨_,Mm,_,fun _=>Mm,fun g=>?_,fun g=>?_⟩
  ·rw[Xj]; simpa using g
  ·simp only[Bool.or_eq_false_iff,Bool.not_eq_false'] at g;rw[TZ g.1 g.2]
theorem Kr{b:JH}{m:MG}{w:Wo}{bs:List Nat}:PX bs U6 #[.agg (Z6 b m).toArray] w (.bool (TN b)):=
 A5 b.quota b.pool b.spent m.lO b.locals.length m.lC m.dO b.dry.length m.dC fun wr hx=>fun _ _=>rfl
theorem FF{g:ZF}{m:MG}{w:Wo}{bs:List Nat}(hu:g.used=false):PX bs VJ #[.agg (YF g m).toArray] w (.bool (JJ (zqh g))):=
 Ba g.used g.parent g.name g.weight g.cpus g.period g.next g.sum g.band.quota g.band.pool g.band.spent m.lO g.band.locals.length m.lC m.dO g.band.dry.length m.dC m.sO g.shelves.length m.sC fun wr hx=>by
  intro _ _;refine⟨_,fun _=>Kr (b:=g.band) (m:=m),OM ?_⟩;simp only[hu,Bool.not_false,Bool.true_and,Bool.and_eq_true,beq_iff_eq,Ue];constructor
  ·rintro⟨⟨⟨⟨⟨⟨⟨⟨e1,e2⟩,e3⟩,e4⟩,e5⟩,e6⟩,e7⟩,e9⟩,e8⟩;exact⟨e1,e2,e3,e4,e5,e6,e7,by omega,e9⟩
  ·intro q;exact⟨⟨⟨⟨⟨⟨⟨⟨q.p,q.n⟩,q.w⟩,q.c⟩,q.pe⟩,q.ne⟩,q.s⟩,q.b⟩,by have:=q.l; omega⟩
theorem zc7{b:JH}{m:MG}{w:Wo}{bs:List Nat}(h1:zok bs w m.lO b.locals)(h2:ztl bs w m.dO b.dry)(hl:b.locals.length<=maxLen):PX bs Pg #[.agg (Z6 b m).toArray] w (.bool (JJ (Tc b))):=
 zdp b.quota b.pool b.spent m.lO b.locals.length m.lC m.dO b.dry.length m.dC fun wr hx=>by
  have h1:=(h1.ext hx).less (cs:=[]) (by simp);have h2:=(h2.ext hx).less (cs:=[]) (by simp);intro _ _;refine⟨_,Qu,_,fun _=>Qu,fun g=>KQ fun p=>?_,fun g=>⟨_,Qu,_,fun _=>Qu,fun g'=>KQ fun p=>?_,fun g'=>?_⟩⟩
  ·rw[Qm.2 ⟨p.q1,p.q2⟩,Qm.2 (by have:=p.l1; have:=p.l2; omega),p.dl] at g;simp at g
  ·rw[Qm.2 ⟨p.p1,p.p2⟩,Qm.2 ⟨p.s1,p.s2⟩] at g'
   cases g'
  ·simp only[Bool.or_eq_false_iff,Bool.not_eq_false',bne_eq_false_iff_eq,Qm] at g g';obtain⟨⟨g1,g2⟩,g3⟩:=g;obtain⟨g4,g5⟩:=g';have hdl:b.dry.length=b.locals.length:=by omega
   have all:∀{k:Nat},k<=b.locals.length->(∀c:Int,0<=c->c<(k:Int)->0<=gi b.locals c/\gi b.locals c<=b.quota/\(gi b.dry c=true->gi b.locals c=0/\b.pool=0))->0<=Xl b.locals k/\Xl b.locals k<=40000:=fun {k} hk h=>by
    have key:∀j:Nat,j<=k->0<=Xl b.locals j/\Xl b.locals j<=(j:Int)*10000:=fun j=>by
     induction j with
     | zero=>intro _; simp[Xl]
     | succ j ih=>
      intro hj;have:=ih (by omega);have:=h (j:Int) (by omega) (by omega);simp only[Xl]; omega
    have:=key k (Nat.le_refl _);omega
   refine⟨⟨by omega,by omega⟩,?_⟩;refine T3 b.locals.length 0 rfl (fun x k=>k<=b.locals.length/\x=b.pool+b.spent+Xl b.locals k/\∀c:Int,0<=c->c<(k:Int)->0<=gi b.locals c/\gi b.locals c<=b.quota/\(gi b.dry c=true->gi b.locals c=0/\b.pool=0)) ⟨Nat.zero_le _,by simp[Xl],fun c h0 h1=>by omega⟩ fun x k ⟨hk,hx2,hI⟩=>⟨fun hlt=>?_,fun hge=>?_⟩
   ·have hlt:=Ot hlt;have hlt2:(k:Int)<(b.dry.length:Int):=by omega
    have hsr:=all hk hI;refine⟨h1.ix VI (by omega) hlt,_,h1 k (by omega) hlt,_,Qu,fun _=>h2.ix CE (by omega) hlt2,_,fun _=>h2 k (by omega) hlt2,fun g=>KQ fun p=>?_,fun g=>?_⟩
    ·have pe:=p.each (k:Int) (by omega) hlt;rw[Qm.2 ⟨pe.1,pe.2.1⟩] at g;simp only[Bool.not_true,Bool.false_or,Bool.and_eq_true,Bool.or_eq_true,bne_iff_ne] at g;have:=pe.2.2 g.1;rcases g.2 with h | h
     ·exact h this.1
     ·exact h this.2
    ·simp only[Bool.or_eq_false_iff,Bool.not_eq_false',Qm] at g;obtain⟨ga,gb⟩:=g;refine⟨⟨by omega,by omega⟩,⟨by omega,by omega⟩,Qw (by omega) ⟨by omega,by simp only[Xl]; omega,fun c hc0 hc=>?_⟩⟩
     by_cases hck:c<(k:Int)
     ·exact hI c hc0 hck
     ·have:c=(k:Int):=by omega
      subst this;refine⟨ga.1,ga.2,fun hd=>?_⟩;rw[hd] at gb;simp only[Bool.true_and,Bool.or_eq_false_iff,bne_eq_false_iff_eq] at gb;exact gb
   ·have hge:=Ou hge;have:k=b.locals.length:=by omega
    subst this;refine OM ?_;rw[beq_iff_eq,hx2];constructor
    ·intro hs;exact⟨g1.1,g1.2,by omega,by omega,hdl,g4.1,g4.2,g5.1,g5.2,hI,hs⟩
    ·exact fun p=>p.sum
def zss(v f k:Int):Bool:=decide (v>=f)&&decide (v-f<=Zo k)
theorem zvr{a b:Int}(ha:ZA a=true)(hb:ZA b=true):IntKind.i64.wrap (a-b)=a-b:=(FD ha hb).wrap
theorem zst{v f k:Int}(hv:ZA v=true)(hf:ZA f=true):Mu v f k=zss v f k:=by unfold Mu zss; rw[zvr hv hf]
theorem Lr{v f k:Int}{w:Wo}{bs:List Nat}(h:ZA v=true)(hf:ZA f=true):PX bs VN #[.int .i64 v,.int .i64 f,.int .i64 k] w (.bool (Mu v f k)):=by
 rw[zst h hf];exact zdt v f k fun wr hx=>⟨fun _=>FD h hf,_,fun _=>y7,rfl⟩
theorem zdc{n:Int}{w:Wo}{bs:List Nat}:PX bs Pj #[.int .i64 n] w (.bool (Yh n 0 8000000)):=zdr n fun wr hx=>⟨_,Qu,rfl⟩
structure TW (bs:List Nat) (w:Wo) (p:OA) (W:Q8) (m:MW):Prop where
 cs:Q2 bs w p 0 (Qa W m)
 rd:Xt bs w W m
theorem zin{bs:List Nat}{w:Wo}{o:OA}{n:Nat}{vs:List Va}(h:Q2 bs w o n vs){j:Nat}{v:Va}(hj:vs[j]? = some v):Q2 bs w (o.map (·.add n)) (0+j) [v]:=by
 obtain⟨a,ha,hb,hc⟩:=h.get j v hj;refine XJ ⟨a.add n,by rw[ha]; rfl,by rw[Zq]; exact hb,?_⟩;rw[UA,Nat.zero_add]; exact hc
theorem zso{bs:List Nat}{w:Wo}{o:OA}{n k:Nat}{v:Va}{r:List Va}(h:Q2 bs w o k (v::r)):(o.map (·.add n)).isSome=true:=by
 have:=h.some
 cases o with
 | none=>cases this
 | some a=>rfl
section
variable {W:Q8}{m:MW}{w w':Wo}{bs cs:List Nat}{p:OA}
theorem TW.ext(h:TW bs w p W m)(hx:Q0 bs w w'):TW bs w' p W m:=⟨h.cs.ext hx,h.rd.ext hx⟩
theorem TW.less(h:TW bs w p W m)(hs:∀x∈cs,x∈bs):TW cs w p W m:=⟨h.cs.less hs,h.rd.less hs⟩
theorem TW.wide(h:TW bs w p W m)(hs:∀x∈cs,x∈bs\/w.heap.size<=x):TW cs w p W m:=⟨h.cs.wide hs,h.rd.wide hs⟩
theorem TW.some(h:TW bs w p W m):p.isSome=true:=by
 have h1:=h.cs.get 0 _ (rfl:(Qa W m)[0]? = Option.some (.int .i64 W.now));obtain⟨a,rfl,_⟩:=h1;rfl
theorem TW.c(h:TW bs w p W m){j:Nat}{v:Va}(hj:(Qa W m)[j]? = Option.some v):Q2 bs w p (0+j) [v]:=XJ (h.cs.get j v hj)
theorem TW.now(h:TW bs w p W m):Q2 bs w p (0+0) [.int .i64 W.now]:=h.c rfl
theorem TW.cpus(h:TW bs w p W m):Q2 bs w p (0+1) [.slice m.cO W.cpus.length m.cC]:=h.c rfl
theorem TW.tasks(h:TW bs w p W m):Q2 bs w p (0+2) [.slice m.tO W.tasks.length m.tC]:=h.c rfl
theorem TW.groups(h:TW bs w p W m):Q2 bs w p (0+3) [.slice m.gO W.groups.length m.gC]:=h.c rfl
def zyy(m:MW)(g c:Int):OA:=(m.ms g.toNat).sO.map (·.add (Int.toNat c*5))
theorem TW.sh(h:TW bs w p W m){g c:Int}(g0:0<=g)(g1:g<(W.groups.length:Int))(c0:0<=c)(c1:c<((gi W.groups g).shelves.length:Int)):(zyy m g c).isSome=true/\∀{j:Nat} {v:Va},(MD (Qb W g c))[j]? = Option.some v->Q2 bs w (zyy m g c) (0+j) [v]:=
 ⟨zso (h.rd.g.shelves g g0 g1 c c0 c1),fun {j v} hj=>zin (h.rd.g.shelves g g0 g1 c c0 c1) hj⟩
theorem XD{c:Int}:PX bs Z0 #[.pointer p,.int .i64 c] w (.agg #[.pointer p,.int .i64 c]):=En p c fun wr hx=>fun _ _=>rfl
theorem YZ{g c:Int}(h:TW bs w p W m)(g0:0<=g)(g1:g<(W.groups.length:Int))(c0:0<=c)(c1:c<((gi W.groups g).shelves.length:Int)):PX bs Z1 #[.agg #[.pointer p,.int .i64 c],.int .i64 g] w (.pointer (zyy m g c)):=
 Es p c g fun wr hx=>by
  have h:=(h.ext hx).less (cs:=[]) (by simp);exact fun _ _=>⟨h.some,_,_,_,h.groups,h.rd.g.ix g0 g1,_,_,_,h.rd.g.shelf g0 g1,(h.rd.g.shelves g g0 g1).ix ZQ c0 c1,rfl⟩
theorem zlg{c:Int}(h:TW bs w p W m)(c0:0<=c)(c1:c<(W.cpus.length:Int)):PX bs Ts #[.agg #[.pointer p,.int .i64 c]] w (.pointer (m.cO.map (·.add (Int.toNat c*5)))):=
 A6 p c fun wr hx=>by
  have h:=(h.ext hx).less (cs:=[]) (by simp);exact fun _ _=>⟨h.some,_,_,_,h.cpus,h.rd.c.ix ZH c0 c1,rfl⟩
theorem Kt{c:Int}(h:TW bs w p W m)(hl:W.cpus.length<=maxLen):PX bs YX #[.pointer p,.int .i64 c] w (.bool (Yh c 0 ((W.cpus.length:Int)-1))):=
 KR p c fun wr hx=>by
  have h:=(h.ext hx).less (cs:=[]) (by simp);have:=Xb;exact⟨h.some,_,_,_,h.cpus,⟨by omega,by omega⟩,_,Qu,rfl⟩
theorem FI{t:Int}(h:TW bs w p W m)(hl:W.tasks.length<=maxLen):PX bs XT #[.pointer p,.int .i64 t] w (.bool (Yh t 0 ((W.tasks.length:Int)-1)&&((Q7 W t).state != 0))):=
 Ki p t fun wr hx=>by
  have h:=(h.ext hx).less (cs:=[]) (by simp);have:=Xb;have hr:Yh t 0 ((W.tasks.length:Int)-1)=true->0<=t/\t<(W.tasks.length:Int):=fun g=>by have:=Qm.1 g; omega
  exact⟨h.some,_,_,_,h.tasks,⟨by omega,by omega⟩,_,Qu,fun _=>h.some,_,_,_,fun _=>h.tasks,fun g=>h.rd.t.ix Qy (hr g).1 (hr g).2,_,fun g=>h.rd.t.f (hr g).1 (hr g).2 (j:=0) rfl,rfl⟩
theorem Mo(h:TW bs w p W m)(h4:W.cpus.length<=4):PX bs YG #[.pointer p] w (.int .i64 (Jr W.cpus)):=
 GQ p fun wr hx=>by
  have h:=(h.ext hx).less (cs:=[]) (by simp);refine⟨h.some,_,_,_,h.cpus,?_⟩;refine T3 W.cpus.length 0 rfl (fun x k=>k<=W.cpus.length/\x=UJ W.cpus k) ⟨Nat.zero_le _,rfl⟩ fun x k ⟨hk,hx2⟩=>⟨fun hlt=>?_,fun hge=>?_⟩
  ·have hlt:=Ot hlt;have hb:=Mg (k:=k) (by omega);have hl:=Gs W.cpus k (by omega);have hbd:(1*2 ^ (min (Int.toNat (k:Int)) 64):Int)=Xs k:=rfl;refine⟨h.rd.c.ix ZH (by omega) hlt,_,_,_,_,_,h.rd.c k (by omega) hlt,fun _ _=>⟨fun hu=>?_,fun hu=>?_⟩⟩
   ·rw[hbd,hx2,zr9 (by omega) hl.1 hl.2];refine⟨⟨by omega,by omega,by omega⟩,⟨by omega,by omega⟩,Qw (by omega) ⟨by omega,?_⟩⟩;simp only[UJ]; rw[if_pos hu]
   ·refine⟨⟨by omega,by omega⟩,Qw (by omega) ⟨by omega,?_⟩⟩;rw[hx2]; simp only[UJ]; rw[if_neg (by rw[hu]; decide)]
  ·have hge:=Ou hge;have:k=W.cpus.length:=by omega
   subst this;rw[hx2]; rfl
theorem zjd{g:Int}(h:TW bs w p W m)(h4:W.cpus.length<=4)(ht:ZX W.groups)(hu:Q6 W.groups g=true):PX bs V4 #[.pointer p,.int .i64 g] w (.int .i64 (VB W.groups g (Jr W.cpus))):=
 Eo p g fun wr hx=>by
  have h:=(h.ext hx).less (cs:=[]) (by simp);have hr:Q6 W.groups 0=true:=Q5.2 ⟨by decide,by have:=ht.len; omega,ht.ru⟩;obtain⟨r1,r2,_⟩:=Q5.1 hr;refine⟨_,Mo h h4,fun vs=>∃(x s:Int),vs=[.int .i64 x,.int .i64 s]/\Q6 W.groups x=true/\VB W.groups x s=VB W.groups g (Jr W.cpus),fun vs=>(dep 3 W.groups (ZZ 0 vs)).toNat,⟨g,_,rfl,hu,rfl⟩,?_⟩;rintro x s ⟨x',s',he,hux,hI⟩;simp only[List.cons.injEq,Value.int.injEq,true_and,and_true] at he;obtain⟨rfl,rfl⟩:=he;refine⟨fun hz=>?_,fun hz=>?_⟩
  ·have hz:x≠0:=by simpa using hz
   obtain⟨hp,a,b,d,e,e2,hd⟩:=ZY ht hux hz;unfold VB at hI;rw[Ys ht hux hz,List.cons_append,List.foldl_cons] at hI
   exact⟨h.some,_,_,_,h.groups,h.rd.g.ix a b,_,h.rd.g.cpus a b,_,Pw,h.some,_,_,_,h.groups,h.rd.g.ix a b,_,h.rd.g.parent a b,⟨_,_,rfl,hp,hI⟩,by
    show (dep 3 W.groups (gi W.groups x).parent).toNat<(dep 3 W.groups x).toNat;omega⟩
  ·have hz:x=0:=by simpa using hz
   subst hz;unfold VB at hI;rw[show QX W.groups 0=[] from Za _ _] at hI;refine⟨h.some,_,_,_,h.groups,h.rd.g.ix r1 r2,_,h.rd.g.cpus r1 r2,_,Pw,?_⟩;unfold VB;rw[<-hI]; rfl
theorem FE{g mask:Int}(h:TW bs w p W m)(h4:W.cpus.length<=4)(ht:ZX W.groups)(hu:Q6 W.groups g=true):PX bs XS #[.pointer p,.int .i64 mask,.int .i64 g] w (.int .i64 (Qp W g mask)):=
 Kg p mask g fun wr hx=>by
  have h:=(h.ext hx).less (cs:=[]) (by simp);refine⟨_,zjd h h4 ht hu,_,Pw,fun g1=>?_,fun g1=>⟨fun g2=>?_,fun g2=>⟨_,Mo h h4,?_⟩⟩⟩
  ·unfold Qp; rw[if_pos (by simpa using g1)]
  ·unfold Qp; rw[if_neg (by simpa using g1),if_pos (by simpa using g2)]
  ·unfold Qp; rw[if_neg (by simpa using g1),if_neg (by simpa using g2)]
theorem Lq{t:Int}(h:TW bs w p W m)(h4:W.cpus.length<=4)(ht:ZX W.groups)(t0:0<=t)(t1:t<(W.tasks.length:Int))(hu:Q6 W.groups (Q7 W t).group=true):PX bs Xm #[.pointer p,.int .i64 t] w (.int .i64 (Qp W (Q7 W t).group (Q7 W t).mask)):=
 LJ p t fun wr hx=>by
  have h:=(h.ext hx).less (cs:=[]) (by simp);exact⟨h.some,_,_,_,h.tasks,h.rd.t.ix Qy t0 t1,_,h.rd.t.f t0 t1 (j:=4) rfl,h.some,_,_,_,h.tasks,h.rd.t.ix Qy t0 t1,_,h.rd.t.f t0 t1 (j:=1) rfl,_,FE h h4 ht hu,rfl⟩
theorem zdd{t c g:Int}(h:TW bs w p W m)(t0:0<=t)(t1:t<(W.tasks.length:Int)):PX bs Ut #[.agg #[.pointer p,.int .i64 c],.int .i64 t,.int .i64 g] w (.bool (On W g c t.toNat)):=
 D0 p c t g fun wr hx=>by
  have h:=(h.ext hx).less (cs:=[]) (by simp);refine fun _ _=>⟨h.some,_,_,_,h.tasks,h.rd.t.ix Qy t0 t1,_,_,_,_,_,_,_,_,_,h.rd.t t t0 t1,fun _ _=>?_⟩
  unfold On;rw[show ((t.toNat:Nat):Int)=t by omega]
theorem zg3{k c g:Int}(h:TW bs w p W m)(ha:WA W)(k0:0<=k)(k1:k<(W.groups.length:Int))(c0:0<=c)(c1:c<(W.cpus.length:Int)):PX bs V6 #[.agg #[.pointer p,.int .i64 c],.int .i64 k,.int .i64 g] w (.bool (Jg W g c k.toNat)):=
 Er p c k g fun wr hx=>by
  have h:=(h.ext hx).less (cs:=[]) (by simp)
  have hc:(((k != 0)&&(gi W.groups k).used)&&((gi W.groups k).parent==g))=true->c<((gi W.groups k).shelves.length:Int):=fun q=>by
   simp only[Bool.and_eq_true] at q;rw[ha.sl (Q5.2 ⟨k0,k1,q.1.2⟩)]; exact c1
  refine fun _ _=>⟨fun _=>h.some,_,_,_,fun _=>h.groups,fun _=>h.rd.g.ix k0 k1,_,fun _=>h.rd.g.used k0 k1,fun _=>h.some,_,_,_,fun _=>h.groups,fun _=>h.rd.g.ix k0 k1,_,fun _=>h.rd.g.parent k0 k1,zyy m k c,fun q=>YZ h k0 k1 c0 (hc q),fun q=>(h.sh k0 k1 c0 (hc q)).1,(Qb W k c).on,fun q=>(h.sh k0 k1 c0 (hc q)).2 (j:=1) rfl,?_⟩
  unfold Jg;rw[show ((k.toNat:Nat):Int)=k by omega]
  have e:decide (1<=k.toNat)=(k != 0):=by
   by_cases hk:k=0
   ·subst hk; rfl
   ·rw[decide_eq_true (by omega),bne_iff_ne.2 hk]
  rw[e,Bool.and_assoc,Bool.and_assoc,Bool.and_assoc,Bool.and_assoc]
theorem zda{g c:Int}(h:TW bs w p W m)(ha:WA W)(c0:0<=c)(c1:c<(W.cpus.length:Int)):PX bs Us #[.agg #[.pointer p,.int .i64 c],.int .i64 g] w (.bool (QO W g c)):=
 HY p c g fun wr hx=>by
  have h:=(h.ext hx).less (cs:=[]) (by simp);have hgl:=ha.gl;have ht:=ha.t;refine fun _ _=>⟨h.some,_,_,_,h.tasks,?_⟩
  refine Xi W.tasks.length 0 rfl (fun k=>k<=W.tasks.length/\∀j:Nat,j<k->On W g c j=false) ⟨Nat.zero_le _,fun j hj=>absurd hj (Nat.not_lt_zero j)⟩ fun k ⟨hk,hI⟩=>⟨fun hlt=>?_,fun hge=>?_⟩
  ·have hlt:=Ot hlt;refine⟨_,zdd h (by omega) hlt,fun hy=>?_,fun hn=>⟨⟨by omega,by omega⟩,Qs (by omega) ⟨by omega,fun j hj=>?_⟩⟩⟩
   ·rw[Int.toNat_natCast] at hy;unfold QO;rw[L5.2 ⟨k,by omega,hy⟩]; rfl
   ·by_cases hjk:j<k
    ·exact hI j hjk
    ·have:j=k:=by omega
     subst this
     rwa[Int.toNat_natCast] at hn
  ·have hge:=Ou hge;have hno:Tg (On W g c) W.tasks.length=false:=Ci fun j hj=>hI j (by omega)
   refine⟨h.some,_,_,_,h.groups,?_⟩;refine Xi W.groups.length 0 rfl (fun k=>k<=W.groups.length/\∀j:Nat,j<k->Jg W g c j=false) ⟨Nat.zero_le _,fun j hj=>absurd hj (Nat.not_lt_zero j)⟩ fun k ⟨hk,hI⟩=>⟨fun hlt=>?_,fun hge=>?_⟩
   ·have hlt:=Ot hlt;refine⟨_,zg3 h ha (by omega) hlt c0 c1,fun hy=>?_,fun hn=>⟨⟨by omega,by omega⟩,Qs (by omega) ⟨by omega,fun j hj=>?_⟩⟩⟩
    ·rw[Int.toNat_natCast] at hy;unfold QO;rw[L5.2 ⟨k,by omega,hy⟩,Bool.or_true]
    ·by_cases hjk:j<k
     ·exact hI j hjk
     ·have:j=k:=by omega
      subst this
      rwa[Int.toNat_natCast] at hn
   ·have hge:=Ou hge;have:Tg (Jg W g c) W.groups.length=false:=Ci fun j hj=>hI j (by omega)
    unfold QO;rw[hno,this]; rfl
theorem y9{g c:Int}(h:TW bs w p W m)(ha:WA W)(hu:Q6 W.groups g=true)(c0:0<=c)(c1:c<(W.cpus.length:Int)):PX bs U7 #[.agg #[.pointer p,.int .i64 c],.int .i64 g] w (.bool (UB W g c)):=
 A7 p c g fun wr hx=>by
  have h:=(h.ext hx).less (cs:=[]) (by simp);obtain⟨u1,u2,_⟩:=Q5.1 hu
  have hd:(decide ((gi W.groups g).band.quota>0))=true->c<((gi W.groups g).band.dry.length:Int):=fun g1=>by
   have:=Ot g1;rw[(ha.dl hu (by omega)).1]; exact c1
  exact fun _ _=>⟨h.some,_,_,_,h.groups,h.rd.g.ix u1 u2,_,_,_,_,_,_,_,_,_,h.rd.g.band u1 u2,fun _ _=>⟨fun g1=>(h.rd.g.dry g u1 u2).ix CE c0 (hd g1),_,fun g1=>(h.rd.g.dry g u1 u2) c c0 (hd g1),rfl⟩⟩
theorem Mn{t c:Int}(h:TW bs w p W m)(ha:WA W)(t0:0<=t)(t1:t<(W.tasks.length:Int))(c0:0<=c)(c1:c<(W.cpus.length:Int))(hu:(Q7 W t).state=1->Q6 W.groups (Q7 W t).group=true) :
  PX bs YT #[.agg #[.pointer p,.int .i64 c],.int .i64 t] w (.bool (((Q7 W t).cpu==c)&&Z9 W t)):=
 HZ p c t fun wr hx=>by
  have h:=(h.ext hx).less (cs:=[]) (by simp);refine fun _ _=>⟨h.some,_,_,_,h.tasks,h.rd.t.ix Qy t0 t1,_,_,_,_,_,_,_,_,_,h.rd.t t t0 t1,fun _ _=>⟨fun g=>?_,fun g=>?_⟩⟩
  ·have g':(((Q7 W t).state != 1)||((Q7 W t).cpu != c))=true:=g
   have:(((Q7 W t).cpu==c)&&Z9 W t)=false:=by
    unfold Z9;simp only[Bool.or_eq_true,bne_iff_ne] at g';rcases g' with e | e
    ·rw[beq_eq_false_iff_ne.2 e,Bool.false_and,Bool.and_false]
    ·rw[beq_eq_false_iff_ne.2 e,Bool.false_and]
   rw[this]
  ·have g':(((Q7 W t).state != 1)||((Q7 W t).cpu != c))=false:=g;simp only[Bool.or_eq_false_iff,bne_eq_false_iff_eq] at g';obtain⟨hs,hc⟩:=g';have hug:=hu hs
   have hL:(((Q7 W t).cpu==c)&&Z9 W t)=UF W (Q7 W t).group c:=by
    unfold Z9; rw[beq_iff_eq.2 hs,beq_iff_eq.2 hc,Bool.true_and,Bool.true_and,hc]
   rw[hL];refine⟨fun vs=>∃x:Int,vs=[.int .i64 x]/\Q6 W.groups x=true/\UF W x c=UF W (Q7 W t).group c,fun vs=>(dep 3 W.groups (ZZ 0 vs)).toNat,⟨_,rfl,hug,rfl⟩,?_⟩;rintro x ⟨x',he,hux,hI⟩;simp only[List.cons.injEq,Value.int.injEq,true_and,and_true] at he;subst he;refine⟨fun hz=>?_,fun hz=>?_⟩
   ·have hz:x≠0:=by simpa using hz
    obtain⟨hp,a,b,d,e,e2,hd⟩:=ZY ha.tree hux hz;have hc1:c<((gi W.groups x).shelves.length:Int):=by rw[ha.sl hux]; exact c1
    unfold UF at hI;rw[Ys ha.tree hux hz,List.all_cons] at hI
    refine⟨_,YZ h a b c0 hc1,(h.sh a b c0 hc1).1,_,(h.sh a b c0 hc1).2 (j:=1) rfl,fun g2=>?_,fun g2=>⟨h.some,_,_,_,h.groups,h.rd.g.ix a b,_,h.rd.g.parent a b,⟨_,rfl,hp,?_⟩,by
     show (dep 3 W.groups (gi W.groups x).parent).toNat<(dep 3 W.groups x).toNat;omega⟩⟩
    ·have g2:(Qb W x c).on=false:=by simpa using g2
     rw[g2,Bool.false_and] at hI;unfold UF;rw[<-hI]
    ·have g2:(Qb W x c).on=true:=by simpa using g2
     rw[g2,Bool.true_and] at hI;exact hI
   ·have hz:x=0:=by simpa using hz
    subst hz;unfold UF at hI;rw[show QX W.groups 0=[] from Za _ _,List.all_nil] at hI;unfold UF;rw[<-hI]
end
end Go.Proofs.YtclpmgfpjeaibaaGreat
