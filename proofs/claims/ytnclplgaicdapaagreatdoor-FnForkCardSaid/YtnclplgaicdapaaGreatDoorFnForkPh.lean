/- Part 8 of what the law FnFork needs. -/
import Derived.Test.YtnclplgaicdapaaGreatDoorFnForkPg
import Derived.Laws.StructEq
set_option linter.unusedVariables false
set_option linter.unusedSimpArgs false
set_option maxRecDepth 100000
set_option maxHeartbeats 8000000
namespace Go.Proofs.YtnclplgaicdapaaGreatDoor
open Go.RowKit
def NV (P:Program):List Field->Nat->List Va->List Va->Option Bool
 | [],_,[],[]=>some true
 | f :: r, k, x :: xs, y :: ys => bif decide (f.name ≠ "_") && Nat.beq f.offset k then
   (match NV P r (k+1) xs ys with
   | some q=>(match P.underlying f.type,x,y with
    | some (.int _),.int a n,.int b m=>bif decide (a=b) then some ((n==m)&&q) else none
    | some .bool,.bool n,.bool m=>some ((n==m)&&q)
    | some .string,.string n,.string m=>some (ZI n m&&q)
    | _,_,_=>none)
   | none=>none) else none
 | _,_,_,_=>none
theorem FY {P:Program} (d:Nat) (w:Wo) (xs ys:List Va):∀(fs:List Field) (k:Nat) (b:Bool),NV P fs k (xs.drop k) (ys.drop k)=some b->(Op.eqFields (d+1) xs.toArray ys.toArray fs).run P w=.ok b w
 | [],k,b,h=>by
  have hb:some true=some b:=by
   cases ex:xs.drop k with
   | nil=>
    cases ey:ys.drop k with
    | nil=>rw[ex,ey] at h; exact h
    | cons y ys'=>rw[ex,ey] at h; cases h
   | cons x xs'=>rw[ex] at h; cases h
  simp only[I1] at hb
  subst hb
  simp[Op.eqFields]
 | f::r,k,b,h=>by
  have hx:∀{l:List Va} {x:Va} {q:List Va},l.drop k=x::q->l[k]? = some x/\l.drop (k+1)=q:=λ{l x q} e=>by
   have h1:l[k]? = (l.drop k)[0]? := by simp
   have h2:l.drop (k+1)=(l.drop k).drop 1:=Qs
   rw[h1,h2,e]; simp
  cases exx:xs.drop k with
  | nil=>rw[exx] at h; cases h
  | cons x xs'=>
  cases eyy:ys.drop k with
  | nil=>rw[exx,eyy] at h; cases h
  | cons y ys'=>
   rw[exx,eyy] at h
   simp only[NV] at h
   obtain⟨gx,dx⟩:=hx exx
   obtain⟨gy,dy⟩:=hx eyy
   cases hc : (decide (f.name ≠ "_") && Nat.beq f.offset k) with
   | false=>rw[hc] at h; cases h
   | true=>
    rw[hc] at h
    simp only[cond_true] at h
    simp only[A',Ik] at hc
    have hof:=Ic hc.2
    split at h
    ·rename_i q hq
     have ih:=FY d w xs ys r (k+1) q (by rw[dx,dy]; exact hq)
     have B03:∀{D:TypeDesc},P.underlying f.type=some D->K3 D=false->(part f.type xs.toArray f.offset).run P w=.ok x w/\(part f.type ys.toArray f.offset).run P w=.ok y w:=λ{D} hu hD=>by
      rw[hof]
      simp[part,VX hu,hD,gx,gy]
     split at h
     ·rename_i K a n b' m hu
      cases hab:decide (a=b') with
      | false=>rw[hab] at h; cases h
      | true=>
       have:=Ot hab
       subst this
       rw[hab] at h
       simp only[cond_true,I1] at h
       subst h
       obtain⟨p1,p2⟩:=B03 hu rfl
       simp only[Op.eqFields,E' hc.1,Sem.run_bind,p1,p2,Result.andThen_ok,run_equalIn_int w d f.type a K n m hu,Sem.run_ite]
       cases n==m <;> simp[ih]
     ·rename_i n m hu
      simp only[I1] at h
      subst h
      obtain⟨p1,p2⟩:=B03 hu rfl
      simp only[Op.eqFields,E' hc.1,Sem.run_bind,p1,p2,Result.andThen_ok,run_equalIn_bool' w d f.type n m hu,Sem.run_ite]
      cases n==m <;> simp[ih]
     ·rename_i n m hu
      simp only[I1] at h
      subst h
      obtain⟨p1,p2⟩:=B03 hu rfl
      simp only[Op.eqFields,E' hc.1,Sem.run_bind,p1,p2,Result.andThen_ok,run_equalIn_string w d f.type n m hu,Sem.run_ite]
      unfold ZI
      cases n.toList==m.toList <;> simp[ih]
     ·cases h
    ·cases h
structure zk6 (P:Program) (t:TypeId):Prop where
 u:P.underlying t=some (.struct (P.fieldsOf t))
 s:P.stoodInHeld t=false
 g:P.eqGuardType P.depth t=false
theorem Lf{P:Program}{t:TypeId}(F:zk6 P t){xs ys:List Va}{b:Bool}(h:NV P (P.fieldsOf t).toList 0 xs ys=some b)(w:Wo):(Op.equal t (.agg xs.toArray) (.agg ys.toArray)).run P w=.ok b w:=by
 have:=run_equalIn_struct (P:=P) w 9999 t xs.toArray ys.toArray F.u F.s;rw[FY 9998 w xs ys _ 0 b (by simpa using h)] at this;exact this
theorem zdv{P:Program}{t:TypeId}(F:zk6 P t){xs ys:List Va}{b:Bool}(h:NV P (P.fieldsOf t).toList 0 xs ys=some b)(x y:Operand)(w:Wo):((do eqGuard .eql t x y (.agg xs.toArray) (.agg ys.toArray); binOp .eql t (.agg xs.toArray) (.agg ys.toArray)):Sem Va).run P w=.ok (.bool b) w:=by
 have:=Lf F h w;simp only[Op.equal,Op.maxDepth] at this;simp only[Sem.run_bind,run_eqGuard_agg w .eql t x y _ _ F.g,Result.andThen_ok,run_eql_struct,this]
theorem zdw{P:Program}{t:TypeId}(F:zk6 P t){xs ys:List Va}{b:Bool}(h:NV P (P.fieldsOf t).toList 0 xs ys=some b)(x y:Operand)(w:Wo):((do eqGuard .neq t x y (.agg xs.toArray) (.agg ys.toArray); binOp .neq t (.agg xs.toArray) (.agg ys.toArray)):Sem Va).run P w=.ok (.bool (!b)) w:=by
 have:=Lf F h w;simp only[Op.equal,Op.maxDepth] at this;simp only[Sem.run_bind,run_eqGuard_agg w .neq t x y _ _ F.g,Result.andThen_ok,run_neq_struct,this]
theorem PL:zk6 Tryz.prog QS:=⟨Qk,Qk,Qk⟩
def UE(p:Int)(n:ByteArray):Va:=.agg #[I p,.string n]
theorem zob(p q:Int)(n m:ByteArray):NV Tryz.prog (Tryz.prog.fieldsOf QS).toList 0 [I p,.string n] [I q,.string m]=some ((p==q)&&(ZI n m&&true)):=Qk
theorem zh4(p q:Int)(n m:ByteArray)(w:Wo):(Op.equal QS (UE p n) (UE q m)).run Tryz.prog w=.ok (decide (p=q/\n=m)) w:=by
 have:=Lf PL (zob p q n m) w
 have e:((p==q)&&(ZI n m&&true))=decide (p=q/\n=m):=by
  rw[B0,Bool.and_true]
  by_cases h1:p=q <;> by_cases h2:n=m <;> simp[h1,h2]
 rw[e] at this;exact this
theorem zm2(p:Int)(n:ByteArray)(w:Wo):∀(es:List MapEntry) (i:Nat),(∀e∈es,∃q m v,e.key=UE q m/\e.val=I v)->
  (∃(j:Nat) (v:Int),(Instr.findAsking QS (UE p n) es i).run Tryz.prog w=.ok (some (j,I v)) w/\∃e∈es,e.key=UE p n) \/
  ((Instr.findAsking QS (UE p n) es i).run Tryz.prog w=.ok none w/\∀e∈es,e.key≠UE p n)
 | [],i,_=>.inr ⟨by simp[Instr.findAsking],λe he=>by cases he⟩
 | e::r,i,h=>by
  obtain⟨q,m,v,hk,hv⟩:=h e (Ia ..)
  by_cases hq:p=q/\n=m
  ·refine .inl ⟨i,v,?_,e,Ia ..,by rw[hk,hq.1,hq.2]⟩;simp only[Instr.findAsking,hk,Sem.run_bind,zh4,Ii hq,Result.andThen_ok,if_true,Sem.run_pure,hv]
  ·have dF:(Instr.findAsking QS (UE p n) (e::r) i).run Tryz.prog w=(Instr.findAsking QS (UE p n) r (i+1)).run Tryz.prog w:=by
    simp only[Instr.findAsking,hk,Sem.run_bind,zh4,decide_eq_false hq,Result.andThen_ok,Bool.false_eq_true,if_false]
   have gE:e.key≠UE p n:=λe'=>by
    rw[hk] at e';simp only[UE,Value.agg.injEq,List.toArray_inj,Array.mk.injEq,I5,I6,true_and,Value.string.injEq,and_true] at e';exact hq ⟨e'.1.symm,e'.2.symm⟩
   rcases zm2 p n w r (i+1) (λx hx=>h x (I2 _ hx)) with ⟨j,v',h1,x,hx,h2⟩ | ⟨h1,h2⟩
   ·exact .inl ⟨j,v',by rw[dF]; exact h1,x,I2 _ hx,h2⟩
   ·exact .inr ⟨by rw[dF]; exact h1,λx hx=>by
     rcases Ij.1 hx with rfl | hx
     ·exact gE
     ·exact h2 x hx⟩
theorem A2(p:Int)(n:ByteArray)(w:Wo)(es:List MapEntry)(h:∀e∈es,∃q m v,e.key=UE q m/\e.val=I v) :
  (∃(j:Nat) (v:Int),(Instr.findKey QS (UE p n) es).run Tryz.prog w=.ok (some (j,I v)) w/\∃e∈es,e.key=UE p n) \/
  ((Instr.findKey QS (UE p n) es).run Tryz.prog w=.ok none w/\∀e∈es,e.key≠UE p n):=by
 cases es with
 | nil=>exact .inr ⟨by simp[Instr.findKey,run_underlying PL.u,Instr.findNow],λe he=>by cases he⟩
 | cons e r=>
  have hs:(Instr.findKey QS (UE p n) (e::r)).run Tryz.prog w=(Instr.findAsking QS (UE p n) (e::r) 0).run Tryz.prog w:=by
   simp[Instr.findKey,run_underlying PL.u,Instr.findNow,Instr.sameNow]
  rw[hs];exact zm2 p n w (e::r) 0 h
theorem zbw:∃a b:Field,(Tryz.prog.fieldsOf QS).toList=[a,b]/\a.type=Qc/\a.offset=0/\b.type=ZO/\b.offset=1:=⟨(Tryz.prog.fieldsOf QS)[0]!,(Tryz.prog.fieldsOf QS)[1]!,Qk,Qk,Qk,Qk,Qk⟩
theorem Le (em:Bool) (p:Int) (n:ByteArray) (w:Wo):(Instr.checkKey em 10000 QS (UE p n)).run Tryz.prog w=.ok () w:=by
 obtain⟨a,b,hl,a1,a2,b1,b2⟩:=zbw
 have p1:(part Qc #[.int .i64 p,.string n] 0).run Tryz.prog w=.ok (.int .i64 p) w:=by simp[part,VX z0i,K3]
 have p2:(part ZO #[.int .i64 p,.string n] 1).run Tryz.prog w=.ok (.string n) w:=by simp[part,VX zea,K3]
 have c1:∀d:Nat,(Instr.checkKey em (d+1) Qc (.int .i64 p)).run Tryz.prog w=.ok () w:=λd=>by simp[Instr.checkKey,run_underlying z0i]
 have c2:∀d:Nat,(Instr.checkKey em (d+1) ZO (.string n)).run Tryz.prog w=.ok () w:=λd=>by simp[Instr.checkKey,run_underlying zea]
 have key:∀d:Nat,(Instr.checkKey em (d+1+1) QS (UE p n)).run Tryz.prog w=.ok () w:=λd=>by
  rw[Instr.checkKey]
  simp only[UE,Sem.run_bind,run_underlying PL.u,Result.andThen_ok]
  rw[<-Array.forIn_toList,hl]
  by_cases ha : a.name ≠ "_" <;> by_cases hb : b.name ≠ "_" <;> simp [ha, hb, a1, a2, b1, b2, p1, p2, c1, c2]
 exact key 9998
theorem NM:Tryz.prog.underlying ZN=some (.map QS Qc):=Qk
theorem z25(w:Wo):(zeroValue Qc).run Tryz.prog w=.ok (I 0) w:=by
 have h:(match Tryz.prog.info? Qc with | some i=>i.zero | none=>none)=some (I 0):=Qk
 cases hi:Tryz.prog.info? Qc with
 | none=>rw[hi] at h; cases h
 | some i=>
  rw[hi] at h;simp only at h;simp[zeroValue,U4 hi,h]
def Eo(w:Wo)(b:Nat)(es:Array MapEntry):Prop:=(∃c,w.heap[b]? = some (.map es c))/\∀e∈es.toList,∃q m v,e.key=UE q m/\e.val=I v
theorem zwi{w:Wo}{b:Nat}{es:Array MapEntry}(h:Eo w b es)(p:Int)(n:ByteArray) :
  ∃(v:Int) (ok:Bool),(Instr.lookup ZN (.map (some b)) (UE p n) true).run Tryz.prog w=.ok (.tuple #[I v,.bool ok]) w/\(ok=true↔∃e∈es.toList,e.key=UE p n):=by
 obtain⟨⟨c,hc⟩,hes⟩:=h;have hg:(getObj b).run Tryz.prog w=.ok (.map es c) w:=by simp[getObj,Sem.run,hc]
 rcases A2 p n w es.toList hes with ⟨j,v,h1,h2⟩ | ⟨h1,h2⟩
 ·exact⟨v,true,by simp[Instr.lookup,run_underlying NM,hg,Le,h1],by simpa using h2⟩
 ·exact⟨0,false,by simp[Instr.lookup,run_underlying NM,hg,Le,h1,z25],⟨λh=>(by cases h),λ⟨e,he,hk⟩=>Is hk (h2 e he)⟩⟩
theorem zzj{w:Wo}{b:Nat}{es:Array MapEntry}(h:Eo w b es){p:Int}{n:ByteArray}(jH:∀e∈es.toList,e.key≠UE p n)(v:Int) :
  ∃w' c,((do Instr.mapUpdate ZN (.map (some b)) (UE p n) (I v); pure undef):Sem Va).run Tryz.prog w=.ok undef w'/\Q0 [b] w w'/\Eo w' b (es.push { key:=UE p n,val:=I v,born:=c }):=by
 obtain⟨⟨c,hc⟩,hes⟩:=h;have hg:(getObj b).run Tryz.prog w=.ok (.map es c) w:=by simp[getObj,Sem.run,hc]
 have hfk:(Instr.findKey QS (UE p n) es.toList).run Tryz.prog w=.ok none w:=by
  rcases A2 p n w es.toList hes with ⟨j,v,_,e,he,hk⟩ | ⟨h1,_⟩
  ·exact Is hk (jH e he)
  ·exact h1
 have hs:(setObj b (.map (es.push { key:=UE p n,val:=I v,born:=c }) (c+1))).run Tryz.prog w=.ok () { w with heap:=w.heap.setIfInBounds b (.map (es.push { key:=UE p n,val:=I v,born:=c }) (c+1)) }:=by
  simp[setObj,Sem.run,hc]
 have IU:=YY hc;refine⟨{ w with heap:=w.heap.setIfInBounds b (.map (es.push { key:=UE p n,val:=I v,born:=c }) (c+1)) },c,by simp[Instr.mapUpdate,run_underlying NM,hg,Le,hfk,hs],⟨rfl,rfl,rfl,Qs,λk _ hk=>?_⟩,⟨c+1,by simp[IU]⟩,λe he=>?_⟩
 ·have:b≠k:=λe=>hk (by simp[e])
  show (w.heap.setIfInBounds b _)[k]? = _;rw[Array.getElem?_setIfInBounds_ne this]
 ·rw[Array.toList_push,Io] at he;rcases he with he | he
  ·exact hes e he
  ·rw[IA] at he;subst he;exact⟨p,n,v,rfl,rfl⟩
theorem Eo.ext{w w':Wo}{b:Nat}{es:Array MapEntry}{bs:List Nat}(h:Eo w b es)(hx:Q0 bs w w')(hb:b∉bs):Eo w' b es:=by
 obtain⟨⟨c,hc⟩,hes⟩:=h;exact⟨⟨c,Qq hc hx hb⟩,hes⟩
def zbt(p:OA):List Va:=[.pointer p]
theorem PZ:zpr Tryz.prog zbt 1 YB 8 none:=DN Qk λ_=>rfl
theorem ztj:Tryz.prog.underlying MM=some (.slice YB):=Qk
def VH(w:Wo)(b:Nat)(g:Int)(n:ByteArray)(up:OA):Prop:=w.heap[b]? = some (.cells ([I g,.string n,.pointer up]:List Va).toArray B7 (0,0))
theorem VH.ext{w w':Wo}{b:Nat}{g:Int}{n:ByteArray}{up:OA}{bs:List Nat}(h:VH w b g n up)(hx:Q0 bs w w')(hb:b∉bs):VH w' b g n up:=Qq h hx hb
theorem VH.cells{w:Wo}{b:Nat}{g:Int}{n:ByteArray}{up:OA}(h:VH w b g n up){bs:List Nat}(hb:b∉bs):Q1 bs w (some ⟨b,0,none⟩) 0 [I g,.string n,.pointer up]:=
 PV h hb λj v hj=>by rw[Nat.zero_add,Nat.zero_add]; exact hj
def zpm(gs:List ZV)(nb:Int->Nat)(x:Int):OA:=if x=0 then none else some ⟨nb (gi gs x).parent,0,none⟩
structure Ns (bs:List Nat) (w:Wo) (gs:List ZV) (nb:Int->Nat):Prop where
 node:∀x:Int,Q6 gs x=true->Q1 bs w (some ⟨nb x,0,none⟩) 0 [I x,.string (gi gs x).name,.pointer (zpm gs nb x)]
 par:∀x:Int,x≠0->Q6 gs x=true->Q6 gs (gi gs x).parent=true
theorem Ns.ext{bs:List Nat}{w w':Wo}{gs:List ZV}{nb:Int->Nat}(h:Ns bs w gs nb)(hx:Q0 bs w w'):Ns bs w' gs nb:=⟨λx hu=>(h.node x hu).ext hx,h.par⟩
theorem Ns.less{bs cs:List Nat}{w:Wo}{gs:List ZV}{nb:Int->Nat}(h:Ns bs w gs nb)(hs:∀x∈cs,x∈bs):Ns cs w gs nb:=⟨λx hu=>(h.node x hu).less hs,h.par⟩
def zc4(gs:List ZV)(f:Nat)(x:Int)(s:Int):Int:=if dep f gs x<0 then -1 else s+dep f gs x
theorem zyp{gs:List ZV}{nb:Int->Nat}{w:Wo}{bs:List Nat}(h:Ns bs w gs nb){x:Int}(hu:Q6 gs x=true):PX bs VM #[.pointer (some ⟨nb x,0,none⟩)] w (I (zc4 gs 3 x 0)):=
 FM (some ⟨nb x,0,none⟩) λwr hx=>by
  have h:=(h.ext hx).less (cs:=[]) Qs;refine⟨λvs=>(∃(y:Int) (s:Nat),Q6 gs y=true/\s<=4/\vs=[.pointer (some ⟨nb y,0,none⟩),I (s:Int)]/\(s<=3->zc4 gs (3-s) y s=zc4 gs 3 x 0)/\(s=4->zc4 gs 3 x 0 = -1))\/∃s:Nat,s<=4/\vs=[.pointer none,I (s:Int)]/\zc4 gs 3 x 0 = -1,λvs=>(5-ZQ 1 vs).toNat,.inl ⟨x,0,hu,Qo,rfl,λ_=>rfl,λh=>by omega⟩,?_⟩;rintro n1 st (⟨y,s,hy,hs,he,h1,h2⟩ | ⟨s,hs,he,h1⟩)
  ·simp only[I5,I6,Value.pointer.injEq,true_and,and_true] at he;obtain⟨rfl,rfl⟩:=he;refine⟨λhc=>?_,λhc=>?_⟩
   ·have iB:s<=3:=by
     simp only[Option.isNone_some,Bool.not_false,Bool.true_and,Ik] at hc;omega
    have hn:=h.node y hy;refine⟨rfl,y,hn.get 0 _ rfl,λhz=>?_,λhz=>?_⟩
    ·have hz:y=0:=by simpa using hz
     rw[<-h1 iB];subst hz;unfold zc4;rw[Y4,C' Qo,Int.add_zero]
    ·have hz:y≠0:=by simpa using hz
     have hm:zpm gs nb y=some ⟨nb (gi gs y).parent,0,none⟩:=by unfold zpm; rw[C' hz]
     refine⟨⟨Qo,Qo⟩,rfl,_,by have:=hn.get 2 _ rfl; exact this,.inl ⟨(gi gs y).parent,s+1,h.par y hz hy,Qo,by rw[hm]; simp,λhs'=>?_,λhs'=>?_⟩,?_⟩
     ·rw[<-h1 iB];have e:3-s=(3-(s+1))+1:=Qo;rw[e];unfold zc4;simp only[dep,C' hz]
      by_cases hd:dep (3-(s+1)) gs (gi gs y).parent<0
      ·rw[E' hd,E' hd,E' Qo]
      ·rw[C' hd,C' hd,C' Qo]; omega
     ·rw[<-h1 iB];have e:3-s=0:=Qo;rw[e];unfold zc4;simp only[dep,C' hz];rfl
     ·show (5-((s:Int)+1)).toNat<(5-(s:Int)).toNat;omega
   ·have gY:s=4:=by
     simp only[Option.isNone_some,Bool.not_false,Bool.true_and,decide_eq_false_iff_not] at hc;omega
    rw[h2 gY]
  ·simp only[I5,I6,Value.pointer.injEq,true_and,and_true] at he;obtain⟨rfl,rfl⟩:=he;refine⟨λhc=>by simp at hc,λ_=>by rw[h1]⟩
section
variable {gs:List ZV}{ms:Nat->MG}{o:OA}{c:Nat}{w:Wo}{bs:List Nat}
theorem On{g:Int}(h:Li bs w o gs ms)(hl:gs.length<=maxLen):PX bs XV #[.slice o gs.length c,I g] w (.bool (Q6 gs g)):=
 Nl o gs.length c g λwr hx=>by
  have h:=(h.ext hx).less (cs:=[]) Qs;have:=Js
  have e:YQ g 0 ((gs.length:Int)-1)=(decide (g>=0)&&decide (g<(gs.length:Int))):=by
   unfold YQ
   congr 1
   exact decide_eq_decide.2 Qo
  refine⟨⟨Qo,Qo⟩,_,QW,λq=>?_,(gi gs g).used,λq=>?_,by rw[e]; rfl⟩
  ·have q:=Qu.1 q;exact h.ix Qo Qo
  ·have q:=Qu.1 q;exact h.used Qo Qo
theorem zyr(h:Li [] w o gs ms)(hl:gs.length<=maxLen) :
  Cz MY #[.slice o gs.length c] w λe w'=>∃(o':OA) (L C:Nat) (ok:Bool),e=.returned (.tuple #[.slice o' L C,.bool ok])/\ok=ML gs/\Q0 [] w w'/\
   (ok=false->L=0)/\(ok=true->L=8/\∃(pl:List (OA)) (nb:Int->Nat),pl.length=8/\Rd zbt 1 [] w' o' pl/\(∀g:Int,0<=g->g<8->gi pl g=if (gi gs g).used then some ⟨nb g,0,none⟩ else none)/\Ns [] w' gs nb):=by
 refine(zji o gs.length c (R:=λv w'=>∃(o':OA) (L C:Nat) (ok:Bool),v=.tuple #[.slice o' L C,.bool ok]/\ok=ML gs/\Q0 [] w w'/\
   (ok=false->L=0)/\(ok=true->L=8/\∃(pl:List (OA)) (nb:Int->Nat),pl.length=8/\Rd zbt 1 [] w' o' pl/\(∀g:Int,0<=g->g<8->gi pl g=if (gi gs g).used then some ⟨nb g,0,none⟩ else none)/\Ns [] w' gs nb)) ?_).mono λe w' ⟨v,he,o',L,C,ok,hv,hr⟩=>⟨o',L,C,ok,by rw[he,hv],hr⟩
 have bad:∀w',Q0 [] w w'->¬Yk gs->∃(o':OA) (L C:Nat) (ok:Bool),Value.tuple #[.slice none 0 0,.bool false]=.tuple #[.slice o' L C,.bool ok]/\ok=ML gs/\Q0 [] w w'/\
   (ok=false->L=0)/\(ok=true->L=8/\∃(pl:List (OA)) (nb:Int->Nat),pl.length=8/\Rd zbt 1 [] w' o' pl/\(∀g:Int,0<=g->g<8->gi pl g=if (gi gs g).used then some ⟨nb g,0,none⟩ else none)/\Ns [] w' gs nb):=λw' hx jH=>
  ⟨none,0,0,false,rfl,(B5 jH).symm,hx,λ_=>rfl,λh=>by cases h⟩
 have l8:((((gs.length:Nat):Int) != 8)=false)->gs.length=8:=λq=>by have:=(bne_eq_false_iff_eq).1 q; omega
 have i0:∀q:(((gs.length:Nat):Int) != 8)=false,(0:Int)<(gs.length:Int):=λq=>by have:=l8 q; omega
 refine⟨λq=>h.ix (I3 _) (i0 q),(gi gs 0).used,λq=>h.used (I3 _) (i0 q),λq=>?_,(gi gs 0).parent,λq=>?_,λq=>?_,(gi gs 0).name,λq=>?_,λq=>?_,λq=>?_⟩
 ·simp only[I0] at q; exact h.ix (I3 _) (i0 q.1)
 ·simp only[I0] at q; exact h.parent (I3 _) (i0 q.1)
 ·simp only[I0] at q; exact h.ix (I3 _) (i0 q.1.1)
 ·simp only[I0] at q; exact h.name (I3 _) (i0 q.1.1)
 ·intro w1 RZ;refine bad w1 RZ λht=>?_
  have e:((gs.length:Nat):Int)=8:=by have:=ht.len; omega
  rw[e,ht.ru,ht.rp,ht.rn,B0] at q;simp at q
 simp only[I0,I7,bne_eq_false_iff_eq,UY] at q;obtain⟨⟨⟨q1,ru⟩,rp⟩,rn⟩:=q;have hl8:gs.length=8:=Qo;intro wr hx _;refine⟨some ⟨wr.heap.size,0,none⟩,8,8,wr.alloc (.cells ((List.replicate 8 none).flatMap zbt).toArray YB),Kc PZ ztj 8 Qd (by simp[maxLen]) wr,Y6,?_⟩;have hO0:=Vq (enc:=zbt) PZ.len YB 8 none wr;have hX0:Q0 [] wr (wr.alloc (.cells ((List.replicate 8 none).flatMap zbt).toArray YB)):=Z9 wr _;generalize wr.alloc (.cells ((List.replicate 8 (none:OA)).flatMap zbt).toArray YB)=wv at hO0 hX0
 refine XN 8 0 rfl (λk w1=>k<=8/\Q0 [] wr w1/\∃(pl:List (OA)) (nb:Int->Nat),pl.length=8/\Uo zbt 1 YB wr.heap.size w1 (some ⟨wr.heap.size,0,none⟩) 8 pl/\
   (∀g:Int,0<=g->g<8->gi pl g=if g<(k:Int)/\(gi gs g).used=true then some ⟨nb g,0,none⟩ else none)/\
   (∀g:Int,0<=g->g<(k:Int)->(gi gs g).used=true->wr.heap.size<=nb g/\VH w1 (nb g) g (gi gs g).name none)/\
   (∀g g':Int,0<=g->g<(k:Int)->0<=g'->g'<(k:Int)->(gi gs g).used=true->(gi gs g').used=true->nb g=nb g'->g=g')) (λw1 RZ _=>⟨Ie _,hX0.trans RZ,List.replicate 8 none,λ_=>0,rfl,hO0.WQ RZ,λg h0 h1=>?_,λg h0 h1=>by omega,λg g' h0 h1=>by omega⟩) λk w1 _ ⟨hk,hX,pl,nb,hpl,hO,hP,hN,CA4⟩=>⟨λIU=>?_,λRN=>?_⟩
 ·rw[C' (λhc=>by omega)];exact List.eq_of_mem_replicate (zoj h0 (by simpa using h1))
 ·have IU:=Ot IU;have hr:=(h.ext hx).ext hX;have gD:(0:Int)<=(k:Int):=Qo;refine⟨hr.ix gD IU,_,hr.used gD IU,λhu=>⟨hr.ix gD IU,_,hr.name gD IU,λb wb hxb hb hhb _=>?_⟩,λhu=>⟨⟨Qo,Qo⟩,λw2 R2 _=>Qt Qo ⟨Qo,hX.trans R2,pl,nb,hpl,hO.WQ R2,λg h0 h1=>?_,λg h0 h1 hg=>?_,λg g' h0 h1 h0' h1' hg hg'=>?_⟩⟩⟩
  ·have hOb:=hO.WQ hxb;have uG:(k:Int)<(pl.length:Int):=by rw[hpl]; omega
   have Wl:=hOb.ix gD uG;rw[hpl] at Wl;refine⟨Wl,hOb.wr PZ.len Qs gD uG (j:=0) (n:=1) Qo,⟨Qo,Qo⟩,λw2 R2 _=>Qt Qo ⟨Qo,?_,pl.set k (some ⟨b,0,none⟩),λg=>if g=(k:Int) then b else nb g,by rw[H']; exact hpl,?_,λg h0 h1=>?_,λg h0 h1 hg=>?_,λg g' h0 h1 h0' h1' hg hg' he=>?_⟩⟩
   ·exact(hOb.Cn2 _ _ (hX.trans hxb) (I8 _)).trans R2
   ·exact(hOb.R9 PZ.len (i:=(k:Int)) gD uG (j:=0) (vs:=[.pointer (some ⟨b,0,none⟩)]) (x:=some ⟨b,0,none⟩) rfl Qs).WQ R2
   ·have:=QG pl (some ⟨b,0,none⟩) (i:=(k:Int)) (j:=g) gD uG h0;rw[Ih] at this;rw[this]
    by_cases uF:(k:Int)=g
    ·subst uF;rw[E' rfl,E' ⟨Qo,hu⟩]
     dsimp only
     rw[E' rfl]
    ·rw[C' uF,hP g h0 h1]
     dsimp only
     rw[show (if g=(k:Int) then b else nb g)=nb g from C' (λe=>uF e.symm)]
     by_cases RM:g<(k:Int)
     ·by_cases mB:(gi gs g).used=true
      ·rw[E' ⟨RM,mB⟩,E' ⟨Qo,mB⟩]
      ·rw[C' (λhc=>mB hc.2),C' (λhc=>mB hc.2)]
     ·rw[C' (λhc=>RM hc.1),C' (λhc=>by omega)]
   ·have nT:Q0 (QE (some ⟨wr.heap.size,0,none⟩)) wb (R9 wb (some ⟨wr.heap.size,0,none⟩) (Int.toNat (k:Int)*1) [.pointer (some ⟨b,0,none⟩)]):=hOb.rD _ _
    have gE:∀q,VH wb q g (gi gs g).name none->q∉QE (some (⟨wr.heap.size,0,none⟩:Addr)):=λq hq hm=>by
     simp only[QE,IA] at hm;subst hm;rcases hOb with ⟨hc,_⟩ | ⟨b',sp,he,_,h2,_⟩
     ·cases hc
     ·simp only[I1,Addr.mk.injEq,and_true] at he;subst he;unfold VH at hq;rw[h2] at hq;simp only[I1,Obj.cells.injEq] at hq;exact Is hq.2.1 Qd
    dsimp only
    by_cases uF:g=(k:Int)
    ·subst uF;rw[E' rfl];have hq:VH wb b (k:Int) (gi gs (k:Int)).name none:=hhb;exact⟨IB hX.size hb,((hq.ext nT (gE b hq)).ext R2 Qs)⟩
    ·rw[C' uF];obtain⟨n1,n2⟩:=hN g h0 Qo hg;have n3:=n2.ext hxb Qs;exact⟨n1,(n3.ext nT (gE _ n3)).ext R2 Qs⟩
   ·have fresh:∀q:Int,0<=q->q<(k:Int)->(gi gs q).used=true->nb q≠b:=λq a1 a2 a3 e=>by
     have:=YY (hN q a1 a2 a3).2;omega
    dsimp only at he
    by_cases uF:g=(k:Int)
    ·by_cases hgk':g'=(k:Int)
     ·rw[uF,hgk']
     ·rw[E' uF,C' hgk'] at he;exact Is he.symm (fresh g' h0' Qo hg')
    ·by_cases hgk':g'=(k:Int)
     ·rw[C' uF,E' hgk'] at he;exact Is he (fresh g h0 Qo hg)
     ·rw[C' uF,C' hgk'] at he;exact CA4 g g' h0 Qo h0' Qo hg hg' he
  ·rw[hP g h0 h1]
   by_cases uF:g=(k:Int)
   ·subst uF;rw[C' (λhc=>by omega),C' (λhc=>by rw[hu] at hc; exact Is hc.2 Qd)]
   ·by_cases RM:g<(k:Int)
    ·by_cases mB:(gi gs g).used=true
     ·rw[E' ⟨RM,mB⟩,E' ⟨Qo,mB⟩]
     ·rw[C' (λhc=>mB hc.2),C' (λhc=>mB hc.2)]
    ·rw[C' (λhc=>RM hc.1),C' (λhc=>by omega)]
  ·by_cases uF:g=(k:Int)
   ·subst uF; rw[hu] at hg; cases hg
   ·obtain⟨n1,n2⟩:=hN g h0 Qo hg;exact⟨n1,n2.ext R2 Qs⟩
  ·have e1:g≠(k:Int):=λe=>by subst e; rw[hu] at hg; cases hg
   have e2:g'≠(k:Int):=λe=>by subst e; rw[hu] at hg'; cases hg'
   exact CA4 g g' h0 Qo h0' Qo hg hg'
 ·have RN:=Ou RN;have hk8:k=8:=Qo;subst hk8;intro w2 R2 _;refine⟨.map (some w2.heap.size),w2.alloc (.map #[] 0),by simp[Instr.makeMap],Y6,?_⟩;have hM0:Eo (w2.alloc (.map #[] 0)) w2.heap.size #[]:=⟨⟨0,Array.getElem?_push_size ..⟩,λe he=>by cases he⟩;have hX2:Q0 [] wr (w2.alloc (.map #[] 0)):=(hX.trans R2).trans (Z9 w2 _);have oZ:=(hO.WQ R2).WQ (Z9 w2 (.map #[] 0))
  have hN2:∀g:Int,0<=g->g<8->(gi gs g).used=true->wr.heap.size<=nb g/\VH (w2.alloc (.map #[] 0)) (nb g) g (gi gs g).name none:=λg h0 h1 hg=>
   ⟨(hN g h0 Qo hg).1,((hN g h0 Qo hg).2.ext R2 Qs).ext (Z9 w2 _) Qs⟩
  have hP2:∀g:Int,0<=g->g<8->gi pl g=if (gi gs g).used=true then some ⟨nb g,0,none⟩ else none:=λg h0 h1=>by
   rw[hP g h0 h1]
   by_cases mB:(gi gs g).used=true
   ·rw[E' ⟨Qo,mB⟩,E' mB]
   ·rw[C' (λhc=>mB hc.2),C' mB]
  have Ce8:∀g g':Int,0<=g->g<8->0<=g'->g'<8->(gi gs g).used=true->(gi gs g').used=true->nb g=nb g'->g=g':=λg g' a b c d=>CA4 g g' a Qo c Qo
  have hmb:wr.heap.size<=w2.heap.size:=(hX.trans R2).size;generalize w2.heap.size=mb at hM0 hmb;generalize w2.alloc (.map #[] 0)=w3 at hM0 hX2 oZ hN2;clear hX hO hN hP CA4
  refine XN 8 1 rfl (λk w1=>1<=k/\k<=8/\Q0 [] wr w1/\Uo zbt 1 YB wr.heap.size w1 (some ⟨wr.heap.size,0,none⟩) 8 pl/\
    (∀g:Int,0<=g->g<8->(gi gs g).used=true->VH w1 (nb g) g (gi gs g).name (if g<(k:Int) then zpm gs nb g else none))/\
    (∃es,Eo w1 mb es/\(∀e∈es.toList,∃g:Int,1<=g/\g<(k:Int)/\(gi gs g).used=true/\e.key=UE (gi gs g).parent (gi gs g).name)/\∀g:Int,1<=g->g<(k:Int)->(gi gs g).used=true->∃e∈es.toList,e.key=UE (gi gs g).parent (gi gs g).name)/\
    (∀g:Int,1<=g->g<(k:Int)->(gi gs g).used=true->UG (gi gs g).name=true/\Q6 gs (gi gs g).parent=true/\∀h:Int,1<=h->h<g->(gi gs h).used=true->¬((gi gs h).parent=(gi gs g).parent/\(gi gs h).name=(gi gs g).name)))
   (λw4 SZ _=>⟨I8 _,Qo,hX2.trans SZ,oZ.WQ SZ,λg h0 h1 hg=>?_,⟨#[],hM0.ext SZ Qs,(λe he=>by cases he),λg h1 h2=>by omega⟩,λg h1 h2=>by omega⟩) λk w4 _ ⟨hk1,hk,hX,hO,hN,⟨es,hM,hE1,hE2⟩,hT⟩=>⟨λIU=>?_,λRN=>?_⟩
  ·have:=(hN2 g h0 h1 hg).2.ext SZ Qs
   by_cases hg1:g<((1:Nat):Int)
   ·rw[E' hg1];have:g=0:=Qo;subst this;exact this
   ·rw[C' hg1]; exact this
  ·have IU:=Ot IU;have hr:=(h.ext hx).ext hX;have gD:(0:Int)<=(k:Int):=Qo;have uG:(k:Int)<(pl.length:Int):=Qo;have cP:(k:Int)<(gs.length:Int):=Qo;have hPl:=hO.rd PZ.len (bs:=[]) Qs;have Wl:=hO.ix gD uG;rw[hpl] at Wl;have hXw:Q0 [] w w4:=hx.trans hX;refine⟨Wl,gi pl (k:Int),hPl k gD uG,λjH=>?_,λAQ9=>?_⟩
   ·have hu:¬(gi gs (k:Int)).used=true:=λhu=>by rw[hP2 k gD IU,E' hu] at jH; cases jH
    refine⟨⟨Qo,Qo⟩,λw5 Sy _=>Qt Qo ⟨Qo,Qo,hX.trans Sy,hO.WQ Sy,λg h0 h1 hg=>?_,⟨es,hM.ext Sy Qs,λe he=>?_,λg h1 h2 hg=>?_⟩,λg h1 h2 hg=>?_⟩⟩
    ·have:=(hN g h0 h1 hg).ext Sy Qs;have uF:g≠(k:Int):=λe=>hu (e▸hg)
     by_cases hg1:g<(k:Int)
     ·rw[E' hg1] at this; rw[E' Qo]; exact this
     ·rw[C' hg1] at this; rw[C' Qo]; exact this
    ·obtain⟨g,a1,a2,a3⟩:=hE1 e he;exact⟨g,a1,Qo,a3⟩
    ·have uF:g≠(k:Int):=λe=>hu (e▸hg)
     exact hE2 g h1 Qo hg
    ·have uF:g≠(k:Int):=λe=>hu (e▸hg)
     exact hT g h1 Qo hg
   ·have hu:(gi gs (k:Int)).used=true:=by
     cases hq:(gi gs (k:Int)).used with
     | true=>rfl
     | false=>rw[hP2 k gD IU,hq] at AQ9; cases AQ9
    have hpk:gi pl (k:Int)=some ⟨nb (k:Int),0,none⟩:=by rw[hP2 k gD IU,E' hu]
    refine⟨hr.ix gD cP,_,hr.name gD cP,_,zft,λ_=>hr.ix gD cP,(gi gs (k:Int)).parent,λ_=>hr.parent gD cP,Q6 gs (gi gs (k:Int)).parent,λ_=>On hr hl,λq=>?_,λq=>?_⟩
    ·intro w5 Sy;refine bad w5 (hXw.trans Sy) λht=>?_
     rw[ht.nm k Qo IU hu,ht.par k Qo IU hu] at q;cases q
    ·simp only[I0,I7] at q;obtain⟨qn,qp⟩:=q;obtain⟨p0,p1,pu⟩:=Q5.1 qp;have p8:(gi gs (k:Int)).parent<8:=Qo;have Cf0:=hO.ix p0 Qo;rw[hpl] at Cf0;have hnk:=hN k gD IU hu;rw[C' Qo] at hnk;have hpp:gi pl (gi gs (k:Int)).parent=some ⟨nb (gi gs (k:Int)).parent,0,none⟩:=by rw[hP2 _ p0 p8,E' pu]
     have hnb:nb (k:Int)∉QE (some (⟨wr.heap.size,0,none⟩:Addr)):=λhm=>by
      simp only[QE,IA] at hm;rcases hO with ⟨hc,_⟩ | ⟨b',sp,he,_,h2,_⟩
      ·cases hc
      ·simp only[I1,Addr.mk.injEq,and_true] at he;subst he;unfold VH at hnk;rw[hm,h2] at hnk;simp only[I1,Obj.cells.injEq] at hnk;exact Is hnk.2.1 Qd
     have hWr:Yo [] w4 (some ⟨nb (k:Int),0,none⟩) (0+2) 1:=V0 hnk Qs (by show 0+(0+2+1)<=3; omega);have hsx:Q0 [nb (k:Int)] w4 (R9 w4 (some ⟨nb (k:Int),0,none⟩) (0+2) [.pointer (some ⟨nb (gi gs (k:Int)).parent,0,none⟩)]):=Xp λa ha=>by cases ha; simp
     have hbk:wr.heap.size<=nb (k:Int):=(hN2 k gD IU hu).1;have hXs:Q0 [] wr (R9 w4 (some ⟨nb (k:Int),0,none⟩) (0+2) [.pointer (some ⟨nb (gi gs (k:Int)).parent,0,none⟩)]):=hX.fresh hsx λx hm=>.inl (by rw[IA.1 hm]; exact hbk)
     have xK:=(h.ext hx).ext hXs;have hup:zpm gs nb (k:Int)=some ⟨nb (gi gs (k:Int)).parent,0,none⟩:=by unfold zpm; rw[C' Qo]
     have hNs:∀g:Int,0<=g->g<8->(gi gs g).used=true->VH (R9 w4 (some ⟨nb (k:Int),0,none⟩) (0+2) [.pointer (some ⟨nb (gi gs (k:Int)).parent,0,none⟩)]) (nb g) g (gi gs g).name (if g<((k+1:Nat):Int) then zpm gs nb g else none):=λg h0 h1 hg=>by
      by_cases uF:g=(k:Int)
      ·subst uF;rw[E' Qo,hup];exact UX hnk
      ·have gE:nb g≠nb (k:Int):=λe=>uF (Ce8 g k h0 h1 gD IU hg hu e)
       have:=(hN g h0 h1 hg).ext hsx (by simpa using gE)
       by_cases hg1:g<(k:Int)
       ·rw[E' hg1] at this; rw[E' Qo]; exact this
       ·rw[C' hg1] at this; rw[C' Qo]; exact this
     have hOs:Uo zbt 1 YB wr.heap.size (R9 w4 (some ⟨nb (k:Int),0,none⟩) (0+2) [.pointer (some ⟨nb (gi gs (k:Int)).parent,0,none⟩)]) (some ⟨wr.heap.size,0,none⟩) 8 pl:=hO.ext hsx λb hm gX=>hnb (by rw[IA.1 gX] at hm; exact hm)
     have hMs:Eo (R9 w4 (some ⟨nb (k:Int),0,none⟩) (0+2) [.pointer (some ⟨nb (gi gs (k:Int)).parent,0,none⟩)]) mb es:=hM.ext hsx λhm=>by
      rw[IA] at hm;obtain⟨⟨cc,hc⟩,_⟩:=hM;unfold VH at hnk;rw[<-hm,hc] at hnk;cases hnk
     refine⟨Wl,some ⟨nb (k:Int),0,none⟩,by rw[<-hpk]; exact hPl k gD uG,hr.ix gD cP,_,hr.parent gD cP,Cf0,some ⟨nb (gi gs (k:Int)).parent,0,none⟩,by rw[<-hpp]; exact hPl _ p0 Qo,rfl,hWr,?_⟩;generalize R9 w4 (some ⟨nb (k:Int),0,none⟩) (0+2) [.pointer (some ⟨nb (gi gs (k:Int)).parent,0,none⟩)]=w5 at hXs xK hNs hOs hMs;refine⟨xK.ix gD cP,_,xK.parent gD cP,xK.ix gD cP,_,xK.name gD cP,λb1 gH=>⟨xK.name gD cP,xK.parent gD cP,λw6 aS hs6=>?_⟩⟩;have hM6:=hMs.ext aS Qs;obtain⟨v,okk,Cf8,hok⟩:=zwi hM6 (gi gs (k:Int)).parent (gi gs (k:Int)).name;have CO2:∀x∈[b1],wr.heap.size<=x\/x∈([]:List Nat):=λx hm=>.inl (by rw[IA.1 hm]; exact IB hXs.size gH)
     refine⟨v,okk,w6,Cf8,λ_ _=>rfl,λC24=>?_,λqD w7 kR hs7=>?_⟩
     ·intro w7 kR;refine bad w7 (hx.trans (((hXs.trans aS).fresh kR CO2))) λht=>?_
      obtain⟨e,he,hk⟩:=hok.1 C24;obtain⟨g,a1,a2,a3,a4⟩:=hE1 e he;rw[a4] at hk;simp only[UE,Value.agg.injEq,List.toArray_inj,Array.mk.injEq,I5,I6,true_and,Value.string.injEq,and_true] at hk;exact ht.uniq k g a1 a2 IU hu a3 hk
     ·have uV:=hM6.ext kR (λhm=>by
       rw[IA] at hm;obtain⟨⟨cc,hc⟩,_⟩:=hMs;have:=YY hc;omega)
      have Cg6:¬∃e∈es.toList,e.key=UE (gi gs (k:Int)).parent (gi gs (k:Int)).name:=λhc=>by
       have:=hok.2 hc;rw[qD] at this; cases this
      obtain⟨w8,cc,C76,oH,hM8⟩:=zzj uV (λe he hk=>Cg6 ⟨e,he,hk⟩) (k:Int);have hmx:∀x∈[mb],wr.heap.size<=x\/x∈([]:List Nat):=λx hm=>.inl (by rw[IA.1 hm]; exact hmb)
      have hX7:Q0 [] wr w7:=(hXs.trans aS).fresh kR CO2;have hX8:Q0 [] wr w8:=hX7.fresh oH hmx;refine⟨w8,C76,λx hm=>oH.block x (hs7 x hm) (λgX=>?_),⟨Qo,Qo⟩,λw9 lQ hs9=>Qt Qo ⟨Qo,Qo,hX8.fresh lQ CO2,?_,λg h0 h1 hg=>?_,⟨_,hM8.ext lQ ?_,λe he=>?_,λg h1 h2 hg=>?_⟩,λg h1 h2 hg=>?_⟩⟩
      ·rw[IA] at hm gX;subst gX;obtain⟨⟨c2,hc⟩,_⟩:=hMs;have:=YY hc;omega
      ·have hnm:∀b∈QE (some (⟨wr.heap.size,0,none⟩:Addr)),b∉[mb]:=λb hm gX=>by
        simp only[QE,IA] at hm gX;rcases hOs with ⟨hc,_⟩ | ⟨b',sp,he,_,h2,_⟩
        ·cases hc
        ·simp only[I1,Addr.mk.injEq,and_true] at he;subst he;obtain⟨⟨c2,hc⟩,_⟩:=hMs;rw[<-gX,hm,h2] at hc;cases hc
       have hn1:∀b∈QE (some (⟨wr.heap.size,0,none⟩:Addr)),b∉[b1]:=λb hm gX=>by
        have:=(hOs.lt b hm).2;rw[IA] at gX;omega
       exact(((hOs.WQ aS).ext kR hn1).ext oH hnm).ext lQ hn1
      ·have hq:=hNs g h0 h1 hg;have hql:=YY hq;have n1:nb g∉[b1]:=λhm=>by rw[IA] at hm; omega
       have n2:nb g∉[mb]:=λhm=>by
        rw[IA] at hm;obtain⟨⟨c2,hc⟩,_⟩:=hMs;unfold VH at hq;rw[hm,hc] at hq;cases hq
       exact(((hq.ext aS Qs).ext kR n1).ext oH n2).ext lQ n1
      ·intro hm;rw[IA] at hm;obtain⟨⟨c2,hc⟩,_⟩:=hMs;have:=YY hc;omega
      ·rw[Array.toList_push,Io] at he;rcases he with he | he
       ·obtain⟨g,a1,a2,a3⟩:=hE1 e he;exact⟨g,a1,Qo,a3⟩
       ·rw[IA] at he;subst he;exact⟨k,Qo,Qo,hu,rfl⟩
      ·rw[Array.toList_push]
       by_cases uF:g=(k:Int)
       ·subst uF;exact⟨_,Iy _ (IA.2 rfl),rfl⟩
       ·obtain⟨e,he,hk⟩:=hE2 g h1 Qo hg;exact⟨e,Ib _ he,hk⟩
      ·by_cases uF:g=(k:Int)
       ·subst uF;refine⟨qn,qp,λq a1 a2 a3 a4=>Cg6 ?_⟩;obtain⟨e,he,hk⟩:=hE2 q a1 a2 a3;exact⟨e,he,by rw[hk,a4.1,a4.2]⟩
       ·exact hT g h1 Qo hg
  ·have RN:=Ou RN;have hk8:k=8:=Qo;subst hk8;have hXw:Q0 [] w w4:=hx.trans hX
   have hNs:Ns [] w4 gs nb:=⟨λx hu=>by
     obtain⟨a1,a2,a3⟩:=Q5.1 hu;have:=hN x a1 Qo a3;rw[E' Qo] at this;exact this.cells Qs,λx hz hu=>by
     obtain⟨a1,a2,a3⟩:=Q5.1 hu;exact(hT x Qo Qo a3).2.1⟩
   refine XN 8 0 rfl (λj w5=>j<=8/\Q0 [] w4 w5/\∀g:Int,0<=g->g<(j:Int)->(gi gs g).used=true->0<=dep 3 gs g) (λw5 Sy _=>⟨Ie _,Sy,λg h0 h1=>by omega⟩) λj w5 _ ⟨hj,hX5,hD⟩=>⟨λIU=>?_,λRN=>?_⟩
   ·have IU:=Ot IU;have hj0:(0:Int)<=(j:Int):=Qo;have hjl:(j:Int)<(pl.length:Int):=Qo;have hO5:=hO.WQ hX5;have Wl:=hO5.ix hj0 hjl;rw[hpl] at Wl;refine⟨Wl,gi pl (j:Int),hO5.rd PZ.len Qs j hj0 hjl,zc4 gs 3 (j:Int) 0,λhs=>?_,λhb=>?_,λhb=>⟨⟨Qo,Qo⟩,λw6 aS _=>Qt Qo ⟨Qo,hX5.trans aS,λg h0 h1 hg=>?_⟩⟩⟩
    ·have hu:(gi gs (j:Int)).used=true:=by
      cases hq:(gi gs (j:Int)).used with
      | true=>rfl
      | false=>rw[hP2 j hj0 IU,hq] at hs; cases hs
     rw[hP2 j hj0 IU,E' hu];exact zyp (hNs.ext hX5) (Q5.2 ⟨hj0,Qo,hu⟩)
    ·intro w6 aS;refine bad w6 ((hXw.trans hX5).trans aS) λht=>?_
     simp only[A',Ik] at hb
     have hu:(gi gs (j:Int)).used=true:=by
      cases hq:(gi gs (j:Int)).used with
      | true=>rfl
      | false=>rw[hP2 j hj0 IU,hq] at hb; cases hb.1
     have hd:0<=dep 3 gs (j:Int):=by
      by_cases hj0':(j:Int)=0
      ·rw[hj0',Y4]; omega
      ·exact ht.dp j Qo IU hu
     have:=hb.2;unfold zc4 at this;rw[C' Qo] at this;omega
    ·by_cases hgj:g=(j:Int)
     ·subst hgj;have hpj:gi pl (j:Int)=some ⟨nb (j:Int),0,none⟩:=by rw[hP2 j hj0 IU,E' hg]
      rw[hpj] at hb;simp only[Option.isNone_some,Bool.not_false,Bool.true_and,decide_eq_false_iff_not] at hb;unfold zc4 at hb;have:=O2 gs 3 (j:Int)
      split at hb <;> omega
     ·exact hD g h0 Qo hg
   ·have RN:=Ou RN;have hj8:j=8:=Qo;subst hj8;have ht:Yk gs:=⟨hl8,ru,rp,rn,λg h1 h2 hg=>(hT g h1 h2 hg).1,λg h1 h2 hg=>(hT g h1 h2 hg).2.1,λg h1 h2 hg=>hD g Qo h2 hg,λg q a1 a2 a3 a4 a5=>(hT g Qo a3 a4).2.2 q a1 a2 a5⟩;intro w6 aS;refine⟨some ⟨wr.heap.size,0,none⟩,8,8,true,rfl,(T5.2 ht).symm,(hXw.trans hX5).trans aS,λh=>(by cases h),λ_=>⟨rfl,pl,nb,hpl,?_,hP2,(hNs.ext hX5).ext aS⟩⟩;exact((hO.WQ hX5).WQ aS).rd PZ.len Qs
theorem zfu{bs:List Nat}(h:Li bs w o gs ms)(hl:gs.length<=maxLen):PX bs M5 #[.slice o gs.length c] w (.bool (ML gs)):=by
 refine FSx λwr hx=>zfi o gs.length c (R:=λv w'=>v=.bool (ML gs)/\Q0 [] wr w') ?_
 have h:=(h.ext hx).less (cs:=[]) Qs;intro w1 RZ _;refine(zyr (h.ext RZ) hl).mono λe w2 ⟨o',L,C,ok,he,hok,R2,_⟩=>⟨_,_,_,_,he,Y6,λw3 Rb=>⟨by rw[hok],(RZ.trans R2).trans Rb⟩⟩
end
theorem Xz{n k:Int}{w:Wo}{bs:List Nat}:PX bs Y8 #[I n,I k] w (I (Zf n k)):=
 E9 n k λwr hx=>by
  refine⟨_,JY,_,λ_=>Qr,λh=>?_,λh=>?_⟩
  ·congr 1; unfold Zf; rw[C']; intro h2; simp only[A'] at h2; simp[h2] at h
  ·have h2:YQ k 1 20=true/\YQ n 0 100000000=true:=by simpa using h
   rw[Qu,Qu] at h2;have hm:=zkb h2.2.1 h2.2.2 h2.1.1 h2.1.2;have hs:=zd5 h2.1.1 h2.1.2;unfold zic at hm hs;refine⟨⟨Qo,Uj Qo Qo⟩,Uj Qo Qo,?_⟩;rw[P7 h2.2.1 h2.2.2 h2.1.1 h2.1.2]; rfl
theorem Mi{k:Int}{w:Wo}{bs:List Nat}:PX bs JV #[I k] w (I (ZB k)):=
 zdb k λwr hx=>⟨_,Xz,rfl⟩
def ZH(a b:Int):Int:=if a<b then a else b
def zj7(a b:Int):Int:=if a>b then a else b
theorem JQ{a b:Int}{w:Wo}{bs:List Nat}:PX bs YT #[I a,I b] w (I (ZH a b)):=
 zkh a b λwr hx=>⟨λh=>by rw[ZH,E' (Ot h)],λh=>by rw[ZH,C' (Ou h)]⟩
theorem TA{a b:Int}{w:Wo}{bs:List Nat}:PX bs YR #[I a,I b] w (I (zj7 a b)):=
 zkg a b λwr hx=>⟨λh=>by rw[zj7,E' (Ot h)],λh=>by rw[zj7,C' (Ou h)]⟩
def Y1(l k:Int):Int:=if (if ZB k<l then ZB k else l)>0 then (if ZB k<l then ZB k else l) else 0
theorem ZC(k:Int):0<=ZB k/\ZB k<=34686091440:=by
 unfold ZB
 by_cases h:1<=k/\k<=20
 ·rw[P7 Qd Qd h.1 h.2];have:=zd5 h.1 h.2;omega
 ·rw[Hq Qo]; omega
theorem ZG(l k:Int):0<=Y1 l k/\Y1 l k<=ZB k:=by
 have:=ZC k;unfold Y1; by_cases h1:ZB k<l <;> simp only[h1,if_true,if_false] <;> split <;> omega
theorem zfs{l k:Int}{w:Wo}{bs:List Nat}:PX bs M3 #[I l,I k] w (I (Y1 l k)):=
 zgb l k λwr hx=>⟨_,Gn,rfl⟩
theorem K8{l k:Int}{w:Wo}{bs:List Nat}:PX bs UA #[I l,I k] w (I (Y1 l k)):=
 zgi l k λwr hx=>by
  have hr:=ZC k;refine⟨_,JY,λh=>?_,λh=>⟨_,TA,_,Mi,_,JQ,?_⟩⟩
  ·have h:YQ k 1 20=false:=by simpa using h
   rw[zz3] at h;have h0:ZB k=0:=Hq Qo
   congr 1; unfold Y1; rw[h0]; by_cases h1:0<l <;> simp only[h1,if_true,if_false] <;> (repeat' split) <;> omega
  ·congr 1; unfold Y1 ZH zj7; by_cases h1:ZB k<l <;> simp only[h1,if_true,if_false] <;> by_cases h2:l>0 <;> simp only[h2,if_true,if_false] <;> (repeat' split) <;> omega
def Qf(n:Int):Int:=if YQ n (-10) 9 then 10-n else 0
theorem Lo{k:Int}{w:Wo}{bs:List Nat}:PX bs UP #[I k] w (I (Qf k)):=
 Cu k λwr hx=>by
  refine⟨_,K6,λh=>?_,λh=>?_⟩
  ·have h:YQ k (-10) 9=false:=by simpa using h
   rw[Qf,h]; rfl
  ·have h:YQ k (-10) 9=true:=by simpa using h
   have h2:=Qu.1 h;refine⟨Uj Qo Qo,?_⟩;rw[Qf,h]; rfl
structure UK (b:Nat) (c:OA) (L N:Nat) (w:Wo):Prop where
 hd:∃(C:Nat) (p:Int),w.heap[b]? = some (.cells [.slice c L C,I p].toArray OJ (0,0))/\0<=p/\p<=N
 bytes:∀i<L,∃(a:Addr) (x:Int),c=some a/\a.block≠b/\0<=x/\x<=255/\w.cell? (a.add i)=some (.int .u8 x)
theorem UK.ext{b:Nat}{c:OA}{L N:Nat}{w w':Wo}{bs:List Nat}(h:UK b c L N w)(hx:Q0 bs w w')(hb:b∉bs)(hc:∀a,c=some a->a.block∉bs\/L=0):UK b c L N w':=by
 obtain⟨⟨C,p,h1,h2,h3⟩,hby⟩:=h;refine⟨⟨C,p,Qq h1 hx hb,h2,h3⟩,λi hi=>?_⟩;obtain⟨a,x,ha,gE,RZ,R2,Rb⟩:=hby i hi;refine⟨a,x,ha,gE,RZ,R2,?_⟩
 have hbk:a.block∉bs:=by
  rcases hc a ha with h | h
  ·exact h
  ·omega
 obtain⟨a',e,_,h''⟩:=(show Ub bs w c i (.int .u8 x) from ⟨a,ha,hbk,Rb⟩).ext hx;rw[ha] at e; cases e; exact h''
theorem UK.WQ{b:Nat}{c:OA}{L N:Nat}{w w':Wo}(h:UK b c L N w)(hx:Q0 [] w w'):UK b c L N w':=h.ext hx Qs (λ_ _=>.inl Qs)
theorem UK.mono{b:Nat}{c:OA}{L N M:Nat}{w:Wo}(h:UK b c L N w)(hm:N<=M):UK b c L M w:=by
 obtain⟨⟨C,p,h1,h2,h3⟩,hby⟩:=h;exact⟨⟨C,p,h1,h2,Qo⟩,hby⟩
theorem UK.lt{b:Nat}{c:OA}{L N:Nat}{w:Wo}(h:UK b c L N w):b<w.heap.size:=by
 obtain⟨⟨C,p,h1,h2,h3⟩,hby⟩:=h;exact YY h1
theorem UK.ltc{b:Nat}{c:OA}{L N:Nat}{w:Wo}(h:UK b c L N w)(a:Addr)(ha:c=some a):a.block<w.heap.size\/L=0:=by
 rcases Nat.eq_zero_or_pos L with h0 | h0
 ·exact .inr h0
 ·obtain⟨a',x,ha',gE,RZ,R2,Rb⟩:=h.bytes 0 h0;rw[ha] at ha'; cases ha';have:=World.block_lt_of_cell? w _ Rb;rw[Zv] at this;exact .inl this
theorem UK.Cy5{b:Nat}{c:OA}{L N M:Nat}{w0 w w':Wo}{bs:List Nat}(h0:UK b c L M w0)(h:UK b c L N w)(hx:Q0 bs w w')(hb:∀x∈bs,w0.heap.size<=x):UK b c L N w':=
 h.ext hx (λhm=>by have:=hb _ hm; have:=h0.lt; omega) λa ha=>by
  rcases h0.ltc a ha with hl | hl
  ·exact .inl λhm=>by have:=hb _ hm; omega
  ·exact .inr hl
def Ep(n v:Int):Prop:=0<=v/\(n<1->v=0)/\(1<=n->v<n)
theorem zhw{x n:Int}(hx:0<=x)(hn:1<=n):Ep n (Int.tmod x n):=by
 refine⟨Int.tmod_nonneg _ hx,Qo,λ_=>Int.tmod_lt_of_pos _ Qo⟩
theorem zpp{x y:Int}(h1:0<=x)(h2:x<=9223372036854775807)(h3:0<=y)(h4:y<=9223372036854775807):0<=TK .xor .i64 x y:=by
 have IU:(BitVec.ofInt 64 x ^^^ BitVec.ofInt 64 y).toNat<2 ^ 63:=by
  rw[BitVec.toNat_xor];refine Nat.xor_lt_two_pow ?_ ?_
  ·rw[BitVec.toNat_ofInt]; omega
  ·rw[BitVec.toNat_ofInt]; omega
 have h:=Qm.wrap (k:=.i64) (z:=((BitVec.ofInt 64 x ^^^ BitVec.ofInt 64 y).toNat:Int)) (Uj Qo Qo);show 0<=IntKind.i64.wrap ((BitVec.ofInt 64 x ^^^ BitVec.ofInt 64 y).toNat:Int);rw[h]; omega
theorem Gq{b:Nat}{c:OA}{L N:Nat}{w:Wo}{n:Int}(h:UK b c L N w)(hN:N<=1000000000000) :
  Cz Q2 #[.pointer (some ⟨b,0,none⟩),I n] w λe w'=>∃v,e=.returned (I v)/\Ep n v/\UK b c L (N+1) w'/\Q0 [b] w w':=by
 refine(F8 (some ⟨b,0,none⟩) n (R:=λv w'=>∃x,v=I x/\Ep n x/\UK b c L (N+1) w'/\Q0 [b] w w') ?_).mono λe w' ⟨v,he,x,hv,h1,h2,h3⟩=>⟨x,by rw[he,hv],h1,h2,h3⟩
 obtain⟨C,p,hh,hp0,hpN⟩:=h.hd;have hs:=UX (k:=0) (n:=1) (vs:=[I (p+1)]) hh;have hxt:Q0 [b] w (R9 w (some ⟨b,0,none⟩) 1 [I (p+1)]):=Xp λa ha=>by cases ha; exact IA.2 rfl
 generalize xM:R9 w (some ⟨b,0,none⟩) 1 [I (p+1)]=w1 at hs hxt;have hs:w1.heap[b]? = some (.cells [.slice c L C,I (p+1)].toArray OJ (0,0)):=hs;have hc:Q1 [] w1 (some ⟨b,0,none⟩) (0+0) [.slice c L C]:=XP hs Qs rfl;have hpp:Q1 [] w1 (some ⟨b,0,none⟩) (0+1) [I (p+1)]:=XP hs Qs rfl
 have hby:∀i:Int,0<=i->i<L->∃x:Int,0<=x/\x<=255/\c.isSome=true/\Q1 [] w1 c (Int.toNat i*1) [.int .u8 x]:=λi h0 hi=>by
  obtain⟨a,x,ha,gE,RZ,R2,Rb⟩:=h.bytes i.toNat Qo;refine⟨x,RZ,R2,by rw[ha]; rfl,?_⟩;have:=(show Ub [b] w c i.toNat (.int .u8 x) from ⟨a,ha,by simpa using gE,Rb⟩).ext hxt;rw[Nat.mul_one];exact J8 (this.less Qs)
 have fin:∀(v:Int),Ep n v->∀wr,Q0 [] w1 wr->∃x,I v=I x/\Ep n x/\UK b c L (N+1) wr/\Q0 [b] w wr:=λv hv wr hr=>
  ⟨v,rfl,hv,UK.WQ ⟨⟨C,p+1,hs,Qo,Qo⟩,λi hi=>by
   obtain⟨a,x,ha,gE,RZ,R2,Rb⟩:=h.bytes i hi;have:=(show Ub [b] w c i (.int .u8 x) from ⟨a,ha,by simpa using gE,Rb⟩).ext hxt;obtain⟨a',ha',_,hc'⟩:=this;rw[ha] at ha'; cases ha';exact⟨a,x,ha,gE,RZ,R2,hc'⟩⟩ hr,hxt.trans hr.of_nil⟩
 refine⟨rfl,p,XP hh Qs rfl,Uj Qo Qo,rfl,V0 hh Qs Qs,?_⟩;rw[show (0+1:Nat)=1 from rfl,xM];refine⟨λ_=>rfl,c,L,C,λ_=>hc,λh=>?_,λh=>?_⟩
 ·simp only[Iv,Ik,It] at h;refine fin 0 ⟨Qo,Qo,λhn=>by omega⟩
 ·have h:1<=n/\L≠0:=by simpa using h
  refine⟨rfl,p+1,hpp,Uj Qo Qo,rfl,c,L,C,hc,λIU=>?_,λIU=>?_⟩
  ·have IU:=Ot IU;obtain⟨x,RZ,R2,Rb,SZ⟩:=hby (p+1-1) Qo IU;exact⟨rfl,c,L,C,hc,⟨Qo,IU,Rb⟩,x,SZ,Uj Qo Qo,Qo,fin _ (zhw RZ h.1)⟩
  ·have hLp:(0:Int)<(L:Int):=Qo;have hm1:=Int.tmod_nonneg (L:Int) (show 0<=p+1-1 by omega);have hm2:=Int.tmod_lt_of_pos (p+1-1) hLp;have hm3:=Int.tmod_nonneg (L:Int) (show 0<=(p+1-1)*7+3 by omega);have hm4:=Int.tmod_lt_of_pos ((p+1-1)*7+3) hLp;have hd1:0<=Int.tdiv (p+1-1) (L:Int):=Int.tdiv_nonneg Qo Qo
   have hd2:Int.tdiv (p+1-1) (L:Int)<=p+1-1:=by
    rw[Int.tdiv_eq_ediv_of_nonneg Qo]; exact Int.ediv_le_self _ Qo
   obtain⟨x1,RZ,R2,Rb,SZ⟩:=hby _ hm1 hm2;obtain⟨x2,dG,SE,jL,kJ⟩:=hby _ hm3 hm4;have hX0:0<=(x1*131+x2*1117+(p+1-1)*29)+Int.tdiv (p+1-1) (L:Int)*53:=Qo;have hX1:(x1*131+x2*1117+(p+1-1)*29)+Int.tdiv (p+1-1) (L:Int)*53<=1000000000000000:=Qo;have hq0:=Int.tdiv_nonneg hX0 (show (0:Int)<=64 by decide)
   have hq1:Int.tdiv ((x1*131+x2*1117+(p+1-1)*29)+Int.tdiv (p+1-1) (L:Int)*53) 64<=(x1*131+x2*1117+(p+1-1)*29)+Int.tdiv (p+1-1) (L:Int)*53:=by
    rw[Int.tdiv_eq_ediv_of_nonneg hX0]; exact Int.ediv_le_self _ hX0
   refine⟨rfl,c,L,C,hc,rfl,c,L,C,hc,Qo,⟨hm1,hm2,Rb⟩,x1,SZ,Uj Qo Qo,Uj Qo Qo,rfl,c,L,C,hc,Uj Qo Qo,Uj Qo Qo,rfl,c,L,C,hc,Qo,⟨hm3,hm4,jL⟩,x2,kJ,
    Uj Qo Qo,Uj Qo Qo,Uj Qo Qo,Uj Qo Qo,Uj Qo Qo,rfl,c,L,C,hc,⟨Qo,Uj Qo Qo⟩,Uj Qo Qo,Uj Qo Qo,⟨Qd,Uj Qo Qo⟩,Qo,?_⟩
   exact fin _ (zhw (zpp hX0 Qo hq0 Qo) h.1)
section
open Go.RowKit Go.ChangeShapes
section
variable {H:Type}{en:TypeId×Va->H}{w:Wo}{base:Nat}{spare:Nat->Bool}{held:Bool}{fuel:Nat}{cs:List Va}{x:DataW H×List MemPlace}
structure MW where
 cO:OA
 cC:Nat
 tO:OA
 tC:Nat
 gO:OA
 gC:Nat
 ms:Nat->MG
def Qa(W:Q7)(m:MW):List Va:=[.int .i64 W.now,.slice m.cO W.IF.length m.cC,.slice m.tO W.tasks.length m.tC,.slice m.gO W.IE.length m.gC]
structure Xg (bs:List Nat) (w:Wo) (W:Q7) (m:MW):Prop where
 c:z2e bs w m.cO W.IF
 t:zxd bs w m.tO W.tasks
 g:Li bs w m.gO W.IE m.ms
theorem Xg.ext{bs:List Nat}{w w':Wo}{W:Q7}{m:MW}(h:Xg bs w W m)(hx:Q0 bs w w'):Xg bs w' W m:=⟨h.c.ext hx,h.t.ext hx,h.g.ext hx⟩
theorem Xg.less{bs cs:List Nat}{w:Wo}{W:Q7}{m:MW}(h:Xg bs w W m)(hs:∀x∈cs,x∈bs):Xg cs w W m:=⟨h.c.less hs,h.t.less hs,h.g.less hs⟩
theorem Xg.wide{bs cs:List Nat}{w:Wo}{W:Q7}{m:MW}(h:Xg bs w W m)(hs:∀x∈cs,x∈bs\/w.heap.size<=x):Xg cs w W m:=⟨h.c.wide hs,h.t.wide hs,h.g.wide hs⟩
end
end
def Up(k:Nat):Int:=1*2 ^ (min (Int.toNat (k:Int)) 64)
def OH(m:Int):Bool:=YQ m 0 15
def Z7(m c:Int):Bool:=(OH m&&YQ c 0 3)&&(Int.tmod (Int.fdiv m (2 ^ (min (Int.toNat c) 64))) 2==1)
def TC(a b:Int):Int:=if OH a=true/\OH b=true then TK .and .i64 a b else 0
def za8(a b:Int):Nat->Int
 | 0=>0
 | k+1=>if (Z7 a (k:Int)&&Z7 b (k:Int))=true then za8 a b k+Up k else za8 a b k
theorem MH{m:Int}(h:OH m=true):∃f:Fin 16,m=(f.val:Int):=by
 have:=Qu.1 h;exact⟨⟨m.toNat,Qo⟩,by show m=((m.toNat:Nat):Int); omega⟩
theorem zt3:∀a b:Fin 16,za8 (a.val:Int) (b.val:Int) 4=TK .and .i64 (a.val:Int) (b.val:Int):=by decide +kernel
theorem zt4:∀a b:Fin 16,0<=TK .and .i64 (a.val:Int) (b.val:Int)/\TK .and .i64 (a.val:Int) (b.val:Int)<=15:=by decide +kernel
theorem zt1:∀a b:Fin 16,TK .and .i64 (a.val:Int) (b.val:Int)=TK .and .i64 (b.val:Int) (a.val:Int):=by decide +kernel
theorem zt0:∀a b c:Fin 16,TK .and .i64 (TK .and .i64 (a.val:Int) (b.val:Int)) (c.val:Int)=TK .and .i64 (a.val:Int) (TK .and .i64 (b.val:Int) (c.val:Int)):=by decide +kernel
theorem zt2:∀(a b:Fin 16) (c:Fin 4),Z7 (TK .and .i64 (a.val:Int) (b.val:Int)) (c.val:Int)=(Z7 (a.val:Int) (c.val:Int)&&Z7 (b.val:Int) (c.val:Int)):=by decide +kernel
theorem ztz:∀a:Fin 16,TK .and .i64 (a.val:Int) 0=0:=by decide +kernel
theorem z7(a b:Int):OH (TC a b)=true:=by
 unfold TC;split
 ·rename_i h;obtain⟨x,rfl⟩:=MH h.1;obtain⟨y,rfl⟩:=MH h.2;exact Qu.2 (zt4 x y)
 ·exact Qu.2 Qd
theorem OG{a b:Int}(ha:OH a=true)(hb:OH b=true):TC a b=TK .and .i64 a b:=by unfold TC; rw[E' ⟨ha,hb⟩]
theorem XA{a b:Int}(h:OH a=false\/OH b=false):TC a b=0:=by
 unfold TC;rw[C'];rintro⟨h1,h2⟩;rcases h with h | h
 ·rw[h1] at h; cases h
 ·rw[h2] at h; cases h
theorem Na(a b:Int):TC a b=TC b a:=by
 cases ha:OH a with
 | false=>rw[XA (.inl ha),XA (.inr ha)]
 | true=>
  cases hb:OH b with
  | false=>rw[XA (.inr hb),XA (.inl hb)]
  | true=>
   rw[OG ha hb,OG hb ha];obtain⟨x,rfl⟩:=MH ha;obtain⟨y,rfl⟩:=MH hb;exact zt1 x y
theorem Hd(a:Int):TC a 0=0:=by
 cases ha:OH a with
 | false=>exact XA (.inl ha)
 | true=>
  rw[OG ha Qd];obtain⟨x,rfl⟩:=MH ha;exact ztz x
theorem zot(a b c:Int):TC (TC a b) c=TC a (TC b c):=by
 cases hb:OH b with
 | false=>rw[XA (a:=a) (.inr hb),XA (b:=c) (.inl hb),Na 0 c,Hd,Hd]
 | true=>
  cases ha:OH a with
  | false=>rw[XA (b:=b) (.inl ha),XA (b:=TC b c) (.inl ha),Na,Hd]
  | true=>
   cases hc:OH c with
   | false=>rw[XA (a:=TC a b) (.inr hc),XA (a:=b) (.inr hc),Hd]
   | true=>
    have h1:=z7 a b;have h2:=z7 b c;rw[OG h1 hc,OG ha h2,OG ha hb,OG hb hc];obtain⟨x,rfl⟩:=MH ha;obtain⟨y,rfl⟩:=MH hb;obtain⟨z,rfl⟩:=MH hc;exact zt0 x y z
theorem Mm{m c:Int}(h:Z7 m c=true):OH m=true/\0<=c/\c<=3:=by
 unfold Z7 at h;simp only[A'] at h;exact⟨h.1.1,Qu.1 h.1.2⟩
theorem zmh{a b c:Int}(h:Z7 (TC a b) c=true):Z7 a c=true/\Z7 b c=true:=by
 have hr:=Mm h
 have hz:Z7 0 c=false:=by
  have:c=0\/c=1\/c=2\/c=3:=Qo;rcases this with rfl | rfl | rfl | rfl <;> decide
 cases ha:OH a with
 | false=>rw[XA (.inl ha),hz] at h; cases h
 | true=>
  cases hb:OH b with
  | false=>rw[XA (.inr hb),hz] at h; cases h
  | true=>
   rw[OG ha hb] at h;obtain⟨x,rfl⟩:=MH ha;obtain⟨y,rfl⟩:=MH hb;have:=zt2 x y ⟨c.toNat,Qo⟩;rw[show ((⟨c.toNat,Qo⟩:Fin 4).val:Int)=c by show ((c.toNat:Nat):Int)=c; omega] at this;rw[this] at h
   simpa using h
def Vt(cs:List MB):Nat->Int
 | 0=>0
 | k+1=>if (gi cs (k:Int)).up=true then Vt cs k+Up k else Vt cs k
def JZ(cs:List MB):Int:=Vt cs cs.length
theorem Ho(cs:List MB):∀k:Nat,k<=4->0<=Vt cs k/\Vt cs k<Up k
 | 0,_=>by simp[Vt,Up]
 | k+1,h=>by
  have ih:=Ho cs k Qo
  have hb:Up (k+1)=2*Up k/\0<=Up k:=by
   have:k=0\/k=1\/k=2\/k=3:=Qo;rcases this with rfl | rfl | rfl | rfl <;> decide
  simp only[Vt]
  split <;> omega
theorem BG{k:Nat}(h:k<=4):1<=Up k/\Up k<=16:=by
 have:k=0\/k=1\/k=2\/k=3\/k=4:=Qo;rcases this with rfl | rfl | rfl | rfl | rfl <;> decide
theorem zzq{cs:List MB}(h:cs.length<=4):OH (JZ cs)=true:=by
 have:=Ho cs cs.length h;have:=BG h;exact Qu.2 (by unfold JZ; omega)
theorem z1t:∀(k:Fin 4) (s:Fin 8),(s.val:Int)<Up k.val->TK .or .i64 (s.val:Int) (Up k.val)=(s.val:Int)+Up k.val:=by decide +kernel
theorem z1s{k:Nat}{s:Int}(hk:k<4)(h0:0<=s)(h1:s<Up k):TK .or .i64 s (Up k)=s+Up k:=by
 have hb:Up k<=8:=by
  have:k=0\/k=1\/k=2\/k=3:=Qo;rcases this with rfl | rfl | rfl | rfl <;> decide
 have:=z1t ⟨k,hk⟩ ⟨s.toNat,Qo⟩;rw[show ((⟨s.toNat,Qo⟩:Fin 8).val:Int)=s by show ((s.toNat:Nat):Int)=s; omega] at this;exact this h1
theorem zl0:∀(k:Fin 4) (s:Fin 8) (c:Fin 4),(s.val:Int)<Up k.val->Z7 ((s.val:Int)+Up k.val) (c.val:Int)=(decide (c.val=k.val)||Z7 (s.val:Int) (c.val:Int)):=by decide +kernel
theorem zky(cs:List MB){c:Int}:∀k:Nat,k<=4->Z7 (Vt cs k) c=true->c<(k:Int)/\(gi cs c).up=true
 | 0,_,h=>by
  have hr:=Mm h;have:c=0\/c=1\/c=2\/c=3:=Qo;rcases this with rfl | rfl | rfl | rfl <;> exact Is h (by simp only[Vt]; decide)
 | k+1,hk,h=>by
  have hr:=Mm h;have ih:=zky cs (c:=c) k Qo;have hl:=Ho cs k Qo
  have hb:Up k<=8:=by
   have:k=0\/k=1\/k=2\/k=3:=Qo;rcases this with rfl | rfl | rfl | rfl <;> decide
  simp only[Vt] at h
  split at h
  ·rename_i hu;have:=zl0 ⟨k,Qo⟩ ⟨(Vt cs k).toNat,Qo⟩ ⟨c.toNat,Qo⟩;rw[show ((⟨(Vt cs k).toNat,Qo⟩:Fin 8).val:Int)=Vt cs k by show (((Vt cs k).toNat:Nat):Int)=Vt cs k; omega,show ((⟨c.toNat,Qo⟩:Fin 4).val:Int)=c by show ((c.toNat:Nat):Int)=c; omega] at this;rw[this hl.2] at h;simp only[Iv,Ik] at h;rcases h with h | h
   ·have:c=(k:Int):=Qo;subst this;exact⟨Qo,hu⟩
   ·have:=ih h;exact⟨Qo,this.2⟩
  ·have:=ih h;exact⟨Qo,this.2⟩
def V2:Nat->List ZV->Int->List Int
 | 0,_,_=>[]
 | f+1,gs,g=>if g=0 then [] else g::V2 f gs (gi gs g).parent
abbrev Zc(gs:List ZV)(g:Int):List Int:=V2 3 gs g
theorem Zr(gs:List ZV)(f:Nat):V2 f gs 0=[]:=by cases f <;> simp[V2]
theorem zsx{gs:List ZV}(ht:Yk gs):∀(f f':Nat) (h:Int),Q6 gs h=true->dep 3 gs h<=f->dep 3 gs h<=f'->V2 f gs h=V2 f' gs h:=by
 intro f
 induction f with
 | zero=>
  intro f' h hu h1 h2
  have hz:h=0:=Ir λhz=>by
   obtain⟨_,_,_,d,e,_⟩:=Yl ht hu hz;omega
  subst hz;rw[Zr,Zr]
 | succ f ih=>
  intro f' h hu h1 h2
  by_cases hz:h=0
  ·subst hz;rw[Zr,Zr]
  ·obtain⟨hp,_,_,d,e,e2,_⟩:=Yl ht hu hz
   cases f' with
   | zero=>omega
   | succ f'=>
    simp only[V2];rw[C' hz,C' hz,ih f' (gi gs h).parent hp Qo Qo]
theorem YP{gs:List ZV}(ht:Yk gs){h:Int}(hu:Q6 gs h=true)(hz:h≠0):Zc gs h=h::Zc gs (gi gs h).parent:=by
 obtain⟨hp,_,_,d,e,e2,hd⟩:=Yl ht hu hz;show V2 3 gs h=_;rw[show V2 3 gs h=if h=0 then [] else h::V2 2 gs (gi gs h).parent from rfl,C' hz,zsx ht 2 3 _ hp Qo Qo]
theorem Mo{gs:List ZV}(ht:Yk gs){Q:Int->Prop}(h0:Q 0)(hs:∀h:Int,Q6 gs h=true->h≠0->Q (gi gs h).parent->Q h):∀h:Int,Q6 gs h=true->Q h:=by
 have key:∀(n:Nat) (h:Int),Q6 gs h=true->dep 3 gs h<=n->Q h:=by
  intro n
  induction n with
  | zero=>
   intro h hu hd
   by_cases hz:h=0
   ·subst hz; exact h0
   ·obtain⟨_,_,_,d,e,_⟩:=Yl ht hu hz;omega
  | succ n ih=>
   intro h hu hd
   by_cases hz:h=0
   ·subst hz; exact h0
   ·obtain⟨hp,_,_,d,e,e2,_⟩:=Yl ht hu hz;exact hs h hu hz (ih _ hp Qo)
 intro h hu;have:=O2 gs 3 h;exact key 3 h hu Qo
theorem zv4{gs:List ZV}(ht:Yk gs){h:Int}(hu:Q6 gs h=true):Zc gs h++[0]=h::(Zc gs h).map λx=>(gi gs x).parent:=by
 refine Mo ht (Q:=λh=>Zc gs h++[0]=h::(Zc gs h).map λx=>(gi gs x).parent) (by simp[Zc,Zr]) (λh hu hz ih=>?_) h hu;rw[YP ht hu hz,List.cons_append,ih,List.map_cons]
def T9(gs:List ZV)(g u:Int):Int:=(Zc gs g++[0]).foldl (λs x=>TC s (gi gs x).IF) u
def zm7(gs:List ZV)(g:Int):Int:=(Zc gs g).foldl (λs x=>TC s (gi gs (gi gs x).parent).IF) (gi gs g).IF
theorem zlr(f:Int->Int):∀(l:List Int) (m u:Int),TC (l.foldl (λs x=>TC s (f x)) m) u=l.foldl (λs x=>TC s (f x)) (TC u m)
 | [],m,u=>Na m u
 | x::l,m,u=>by
  simp only[List.foldl_cons];rw[zlr f l,zot]
theorem zwp{gs:List ZV}(ht:Yk gs){g u:Int}(hu:Q6 gs g=true):TC (zm7 gs g) u=T9 gs g u:=by
 unfold zm7 T9;rw[zv4 ht hu,List.foldl_cons,List.foldl_map,zlr (λx=>(gi gs (gi gs x).parent).IF)]
theorem zqv{gs:List ZV}{g u c:Int}(h:Z7 (T9 gs g u) c=true):Z7 u c=true:=by
 unfold T9 at h
 revert h
 generalize Zc gs g++[0]=l
 induction l generalizing u with
 | nil=>exact λh=>h
 | cons x l ih=>
  intro h;rw[List.foldl_cons] at h;exact(zmh (ih h)).1
def Qy(W:Q7)(g mask:Int):Int:=
 if TC mask (T9 W.IE g (JZ W.IF))≠0 then TC mask (T9 W.IE g (JZ W.IF)) else if T9 W.IE g (JZ W.IF)≠0 then T9 W.IE g (JZ W.IF) else JZ W.IF
theorem ztl{W:Q7}{g mask c:Int}(h:Z7 (Qy W g mask) c=true):Z7 (JZ W.IF) c=true:=by
 unfold Qy at h
 split at h
 ·exact zqv (zmh h).2
 ·split at h
  ·exact zqv h
  ·exact h
def Vs(l:List Int):Nat->Int
 | 0=>0
 | k+1=>Vs l k+gi l (k:Int)
def TN(p:Nat->Bool):Nat->Bool
 | 0=>false
 | k+1=>TN p k||p k
theorem DB{p:Nat->Bool}:∀{n:Nat},TN p n=true↔∃j,j<n/\p j=true
 | 0=>by simp[TN]
 | n+1=>by
  simp only[TN,Iv,DB (n:=n)];constructor
  ·rintro (⟨j,hj,h⟩ | h)
   ·exact⟨j,Qo,h⟩
   ·exact⟨n,Qo,h⟩
  ·rintro⟨j,hj,h⟩
   by_cases hjn:j=n
   ·subst hjn; exact .inr h
   ·exact .inl ⟨j,Qo,h⟩
theorem zi2{p:Nat->Bool}{n:Nat}(h:∀j,j<n->p j=false):TN p n=false:=by
 cases ha:TN p n with
 | false=>rfl
 | true=>
  obtain⟨j,hj,hp⟩:=DB.1 ha;rw[h j hj] at hp; cases hp
noncomputable def U6(P:Prop):Bool:=@decide P (Classical.propDecidable P)
theorem Qh{P:Prop}:U6 P=true↔P:=@decide_eq_true_iff P (Classical.propDecidable P)
theorem G7{P:Prop}:U6 P=false↔¬P:=by
 constructor
 ·intro h hp;rw[Qh.2 hp] at h; cases h
 ·intro h
  cases hb:U6 P with
  | false=>rfl
  | true=>exact Is (Qh.1 hb) h
theorem Pz{b:Bool}{P:Prop}(h:b=true↔P):Value.bool b=.bool (U6 P):=by
 have:b=U6 P:=by
  cases hb:U6 P with
  | true=>exact h.2 (Qh.1 hb)
  | false=>
   cases hc:b with
   | false=>rfl
   | true=>exact Is (h.1 hc) (G7.1 hb)
 rw[this]
theorem LI{P:Prop}(h:¬P):Value.bool false=.bool (U6 P):=by rw[G7.2 h]
theorem znm{P:Prop}(h:P):Value.bool true=.bool (U6 P):=by rw[Qh.2 h]
def Q9(W:Q7)(t:Int):Kf:=gi W.tasks t
def Qb(W:Q7)(g c:Int):KN:=gi (gi W.IE g).IG c
def ZU(v:Int):Bool:=YQ v 0 100000000000000000
theorem Ys{v:Int}:ZU v=true↔0<=v/\v<=100000000000000000:=Qu
def Ow(b:JB):Bool:=((((b.IZ==0)&&(b.RJ==0))&&(b.SB==0))&&(((b.locals.length:Nat):Int)==0))&&(((b.Rz.length:Nat):Int)==0)
structure V4 (b:JB):Prop where
 q1:1<=b.IZ
 q2:b.IZ<=10000
 l1:1<=b.locals.length
 l2:b.locals.length<=4
 dl:b.Rz.length=b.locals.length
 p1:0<=b.RJ
 p2:b.RJ<=b.IZ
 s1:0<=b.SB
 s2:b.SB<=b.IZ
 each:∀c:Int,0<=c->c<(b.locals.length:Int)->0<=gi b.locals c/\gi b.locals c<=b.IZ/\(gi b.Rz c=true->gi b.locals c=0/\b.RJ=0)
 sum:b.RJ+b.SB+Vs b.locals b.locals.length=b.IZ
structure znq (W:Q7) (k:Int) (g:ZV):Prop where
 w1:1<=g.weight
 w2:g.weight<=20
 m:OH g.IF=true
 m0:g.IF≠0
 s:ZU g.sum=true
 len:g.IG.length=W.IF.length
 root:k=0->g.weight=10/\g.IF=15/\g.IQ.IZ=0
 none:g.IQ.IZ=0->Ow g.IQ=true/\g.period=0/\g.next=0
 IQ:g.IQ.IZ≠0->V4 g.IQ/\g.IQ.locals.length=W.IF.length/\1<=g.period/\g.period<=1000/\W.now<g.next/\g.next-W.now<=g.period
structure ztr (g:ZV):Prop where
 p:g.parent=0
 n:g.name=⟨[].toArray⟩
 w:g.weight=0
 c:g.IF=0
 pe:g.period=0
 ne:g.next=0
 s:g.sum=0
 l:g.IG.length=0
 b:Ow g.IQ=true
def MR(W:Q7)(k:Int):Prop:=((gi W.IE k).used=false->ztr (gi W.IE k))/\((gi W.IE k).used=true->znq W k (gi W.IE k))
structure WA (W:Q7):Prop where
 n1:0<=W.now
 n2:W.now<=100000000000000000
 c1:1<=W.IF.length
 c2:W.IF.length<=4
 t:W.tasks.length=12
 tree:Yk W.IE
 ups:JZ W.IF≠0
 grp:∀k:Int,0<=k->k<8->MR W k
def Uq(W:Q7)(g c:Int):Bool:=decide ((gi W.IE g).IQ.IZ>0)&&gi (gi W.IE g).IQ.Rz c
def OQ(W:Q7)(g c:Int)(j:Nat):Bool:=(((gi W.tasks (j:Int)).state==1)&&((gi W.tasks (j:Int)).group==g))&&((gi W.tasks (j:Int)).R3==c)
def Jf(W:Q7)(g c:Int)(j:Nat):Bool:=(decide (1<=j)&&((gi W.IE (j:Int)).used&&((gi W.IE (j:Int)).parent==g)))&&(Qb W (j:Int) c).on
def QV(W:Q7)(g c:Int):Bool:=TN (OQ W g c) W.tasks.length||TN (Jf W g c) W.IE.length
def Vp(W:Q7)(g c:Int):Bool:=(Zc W.IE g).all λx=>(Qb W x c).on
def ZL(W:Q7)(t:Int):Bool:=((Q9 W t).state==1)&&Vp W (Q9 W t).group (Q9 W t).R3
def Kd(v f k:Int):Bool:=decide (v>=f)&&decide (IntKind.i64.wrap (v-f)<=ZB k)
def TZ(W:Q7)(g c aC:Int):Bool:=(Zc W.IE g).all λx=>decide ((Qb W x c).v-(Qb W (gi W.IE x).parent c).floor<=Zf aC (Qb W x c).w)
def Mt(W:Q7)(c:Int):Bool:=
 decide ((Q9 W (gi W.IF c).cur).v-(Qb W (Q9 W (gi W.IF c).cur).group c).floor<=Zf (gi W.IF c).aC (Qf (Q9 W (gi W.IF c).cur).nice))&&TZ W (Q9 W (gi W.IF c).cur).group c (gi W.IF c).aC
def O0:Kf:=⟨0,0,0,0,0,0,0,0,0⟩
structure zxl (W:Q7) (x:Kf):Prop where
 st:x.state=1\/x.state=2
 g:Q6 W.IE x.group=true
 n:Qf x.nice≠0
 m:OH x.mask=true
 m0:x.mask≠0
 v:ZU x.v=true
 s:ZU x.sum=true
 u:ZU x.used=true
 l1:0<=x.load
 l2:x.load<=8000000
 c:Z7 (Qy W x.group x.mask) x.R3=true
 f:x.state=1->Kd x.v (Qb W x.group x.R3).floor (Qf x.nice)=true
def A7(W:Q7)(t:Int):Prop:=(Q9 W t).state=0/\Q9 W t=O0\/(Q9 W t).state≠0/\zxl W (Q9 W t)
structure MS (W:Q7) (k c:Int):Prop where
 f:ZU (Qb W k c).floor=true
 v:ZU (Qb W k c).v=true
 s:ZU (Qb W k c).sum=true
 w1:1<=(Qb W k c).w
 w2:(Qb W k c).w<=20
 root:k=0->(Qb W k c).on=false/\(Qb W k c).v=0/\(Qb W k c).w=10
 on:k≠0->(Qb W k c).on=(QV W k c && !Uq W k c)
 st:k≠0->(Qb W k c).on=true->Kd (Qb W k c).v (Qb W (gi W.IE k).parent c).floor (Qb W k c).w=true
structure Bg (W:Q7) (c:Int):Prop where
 b:ZU (gi W.IF c).busy=true
 i:ZU (gi W.IF c).idle=true
 c1 : -1<=(gi W.IF c).cur
 c2:(gi W.IF c).cur<(W.tasks.length:Int)
 no:(gi W.IF c).cur<0->(gi W.IF c).aC=0
 yes:0<=(gi W.IF c).cur->(gi W.IF c).up=true/\1<=(gi W.IF c).aC/\(gi W.IF c).aC<=149/\(Q9 W (gi W.IF c).cur).R3=c/\ZL W (gi W.IF c).cur=true/\Mt W c=true
structure Je (W:Q7):Prop where
 a:WA W
 t:∀t:Int,0<=t->t<12->A7 W t
 s:∀k c:Int,0<=k->k<8->0<=c->c<((gi W.IE k).IG.length:Int)->MS W k c
 c:∀c:Int,0<=c->c<(W.IF.length:Int)->Bg W c
noncomputable def Qw(W:Q7):Bool:=U6 (Je W)
section
variable {W:Q7}
theorem WA.gl(h:WA W):W.IE.length=8:=h.tree.len
theorem WA.u(h:WA W){g:Int}(hu:Q6 W.IE g=true):0<=g/\g<8/\znq W g (gi W.IE g):=by
 obtain⟨a,b,c⟩:=Q5.1 hu;have:=h.gl;exact⟨a,Qo,(h.grp g a Qo).2 c⟩
theorem WA.root(h:WA W):Q6 W.IE 0=true:=Q5.2 ⟨Qd,by have:=h.gl; omega,h.tree.ru⟩
theorem WA.sl(h:WA W){g:Int}(hu:Q6 W.IE g=true):(gi W.IE g).IG.length=W.IF.length:=(h.u hu).2.2.len
theorem WA.up(h:WA W){g:Int}(hu:Q6 W.IE g=true)(hz:g≠0):Q6 W.IE (gi W.IE g).parent=true:=(Yl h.tree hu hz).1
theorem WA.dl(h:WA W){g:Int}(hu:Q6 W.IE g=true)(hq:(gi W.IE g).IQ.IZ≠0):(gi W.IE g).IQ.Rz.length=W.IF.length/\(gi W.IE g).IQ.locals.length=W.IF.length:=by
 have hb:=(h.u hu).2.2.IQ hq;exact⟨by rw[hb.1.dl,hb.2.1],hb.2.1⟩
end
theorem YU{v:Int}{w:Wo}{bs:List Nat}:PX bs ZT #[I v] w (.bool (ZU v)):=zgn v λwr hx=>⟨_,Qr,rfl⟩
theorem ZX{n:Int}{w:Wo}{bs:List Nat}:PX bs Zg #[I n] w (I (Qf n)):=
 CB n λwr hx=>⟨_,Qr,λg=>by
  unfold Qf; rw[C' (by simpa using g)],λg=>by
  have g':YQ n (-10) 9=true:=by simpa using g
  have:=Qu.1 g';refine⟨⟨Qo,Qo⟩,?_⟩;unfold Qf; rw[E' g']⟩
theorem Xr{m:Int}{w:Wo}{bs:List Nat}:PX bs Yg #[I m] w (.bool (OH m)):=zgj m λwr hx=>⟨_,Qr,rfl⟩
theorem Yj{m c:Int}{w:Wo}{bs:List Nat}:PX bs Zp #[I m,I c] w (.bool (Z7 m c)):=
 zdd m c λwr hx=>by
  have hr:(OH m&&YQ c 0 3)=true->0<=c/\c<=3:=λg=>by
   simp only[A'] at g;exact Qu.1 g.2
  exact⟨_,Xr,_,λ_=>Qr,λg=>by have:=hr g; exact⟨Qo,by show c<=18446744073709551615; omega⟩,λg=>(hr g).1,λ_=>by decide,rfl⟩
theorem zpw(a b:Int):∀k:Nat,k<=4->0<=za8 a b k/\za8 a b k<Up k
 | 0,_=>by simp[za8,Up]
 | k+1,h=>by
  have ih:=zpw a b k Qo
  have hb:Up (k+1)=2*Up k/\0<=Up k:=by
   have:k=0\/k=1\/k=2\/k=3:=Qo;rcases this with rfl | rfl | rfl | rfl <;> decide
  simp only[za8]
  split <;> omega
theorem zz4{k:Nat}(h:k<=64):Qm .u64 (k:Int):=⟨by show (0:Int)<=(k:Int); omega,by show (k:Int)<=18446744073709551615; omega⟩
theorem Mj{a b:Int}{w:Wo}{bs:List Nat}:PX bs JW #[I a,I b] w (I (TC a b)):=
 zdc a b λwr hx=>by
  refine⟨_,Xr,_,λ_=>Xr,λg=>?_,λg=>?_⟩
  ·rw[XA]
   simpa using g
  ·simp only[I0,I7] at g
   have he:TC a b=za8 a b 4:=by
    rw[OG g.1 g.2];obtain⟨x,rfl⟩:=MH g.1;obtain⟨y,rfl⟩:=MH g.2;exact(zt3 x y).symm
   rw[he];refine P3 4 0 rfl (λx k=>k<=4/\x=za8 a b k) ⟨Qo,rfl⟩ λx k ⟨hk,hx⟩=>⟨λIU=>?_,λRN=>?_⟩
   ·have IU:=Ot IU;have hb:=BG (k:=k) Qo;have hl:=zpw a b k hk;have gL:(1*2 ^ (min (Int.toNat (k:Int)) 64):Int)=Up k:=rfl;refine⟨_,Yj,_,λ_=>Yj,λh=>?_,λh=>?_⟩
    ·rw[gL];refine⟨zz4 Qo,⟨Qo,Qo,Qo⟩,⟨Qo,Qo⟩,⟨Qo,Qo⟩,QO Qo ⟨Qo,?_⟩⟩;rw[hx]; simp only[za8]; rw[E' h]
    ·refine⟨⟨Qo,Qo⟩,QO Qo ⟨Qo,?_⟩⟩;rw[hx]; simp only[za8]; rw[C' (by rw[h]; decide)]
   ·have RN:=Ou RN;have:k=4:=Qo;subst this;rw[hx]
theorem GE{b:JB}(h:Ow b=true):b.IZ=0/\b.RJ=0/\b.SB=0/\b.locals.length=0/\b.Rz.length=0:=by
 unfold Ow at h;simp only[A',It] at h;omega
theorem Ls{b:JB}{m:MG}{w:Wo}{bs:List Nat}:PX bs UU #[.agg (Z2 b m).toArray] w (.bool (Ow b)):=
 CM b.IZ b.RJ b.SB m.lO b.locals.length m.lC m.dO b.Rz.length m.dC λwr hx=>λ_ _=>rfl
theorem Da{b:JB}{m:MG}{w:Wo}{bs:List Nat}(h1:znt bs w m.lO b.locals)(h2:ztv bs w m.dO b.Rz)(hl:b.locals.length<=maxLen):PX bs Tk #[.agg (Z2 b m).toArray] w (.bool (U6 (V4 b))):=
 zgh b.IZ b.RJ b.SB m.lO b.locals.length m.lC m.dO b.Rz.length m.dC λwr hx=>by
  have h1:=(h1.ext hx).less (cs:=[]) Qs;have h2:=(h2.ext hx).less (cs:=[]) Qs;intro _ _;refine⟨_,Qr,_,λ_=>Qr,_,λ_=>Qr,_,λ_=>Qr,λg=>LI λp=>?_,λg=>?_⟩
  ·rw[Qu.2 ⟨p.q1,p.q2⟩,Qu.2 (by have:=p.l1; have:=p.l2; omega),Qu.2 ⟨p.p1,p.p2⟩,Qu.2 ⟨p.s1,p.s2⟩,p.dl] at g;simp at g
  ·simp only[I0,I7,bne_eq_false_iff_eq,Qu] at g;obtain⟨⟨⟨⟨g1,g2⟩,g3⟩,g4⟩,g5⟩:=g;have hdl:b.Rz.length=b.locals.length:=Qo
   have all:∀{k:Nat},k<=b.locals.length->(∀c:Int,0<=c->c<(k:Int)->0<=gi b.locals c/\gi b.locals c<=b.IZ/\(gi b.Rz c=true->gi b.locals c=0/\b.RJ=0))->0<=Vs b.locals k/\Vs b.locals k<=40000:=λ{k} hk h=>by
    have key:∀j:Nat,j<=k->0<=Vs b.locals j/\Vs b.locals j<=(j:Int)*10000:=λj=>by
     induction j with
     | zero=>intro _; simp[Vs]
     | succ j ih=>
      intro hj;have:=ih Qo;have:=h (j:Int) Qo Qo;simp only[Vs]; omega
    have:=key k (I8 _);omega
   refine⟨⟨Qo,Qo⟩,?_⟩;refine P3 b.locals.length 0 rfl (λx k=>k<=b.locals.length/\x=b.RJ+b.SB+Vs b.locals k/\∀c:Int,0<=c->c<(k:Int)->0<=gi b.locals c/\gi b.locals c<=b.IZ/\(gi b.Rz c=true->gi b.locals c=0/\b.RJ=0)) ⟨Ie _,by simp[Vs],λc h0 h1=>by omega⟩ λx k ⟨hk,R2,hI⟩=>⟨λIU=>?_,λRN=>?_⟩
   ·have IU:=Ot IU;have RM:(k:Int)<(b.Rz.length:Int):=Qo;have hsr:=all hk hI;refine⟨h1.ix JH Qo IU,_,h1 k Qo IU,_,Qr,λ_=>h2.ix DO Qo RM,_,λ_=>h2 k Qo RM,λ_ _=>h1.ix JH Qo IU,_,λ_ _=>h1 k Qo IU,λg=>LI λp=>?_,λg=>⟨h1.ix JH Qo IU,_,h1 k Qo IU,?_⟩⟩
    ·have pe:=p.each (k:Int) Qo IU;rw[Qu.2 ⟨pe.1,pe.2.1⟩] at g;simp only[Bool.not_true,Bool.false_or,A',Iv,Ik] at g;have:=pe.2.2 g.1;omega
    ·simp only[I0,I7,Qu] at g;obtain⟨ga,gb⟩:=g;refine⟨⟨Qo,Qo⟩,⟨Qo,Qo⟩,QO Qo ⟨Qo,by simp only[Vs]; omega,λc hc0 hc=>?_⟩⟩
     by_cases hck:c<(k:Int)
     ·exact hI c hc0 hck
     ·have:c=(k:Int):=Qo;subst this;refine⟨ga.1,ga.2,λhd=>?_⟩;rw[hd] at gb;simp only[Bool.true_and,I0,decide_eq_false_iff_not] at gb;omega
   ·have RN:=Ou RN;have:k=b.locals.length:=Qo;subst this;refine Pz ?_;rw[It,R2];constructor
    ·intro hs;exact⟨g1.1,g1.2,Qo,Qo,hdl,g4.1,g4.2,g5.1,g5.2,hI,hs⟩
    ·exact λp=>p.sum
section
variable {W:Q7}{m:MW}{w:Wo}{bs:List Nat}
theorem Li.RF{gs:List ZV}{ms:Nat->MG}{o:OA}(h:Li bs w o gs ms){i:Int}(h0:0<=i)(h1:i<(gs.length:Int)):Q1 bs w o (Int.toNat i*14+13) [.slice (ms i.toNat).sO (gi gs i).IG.length (ms i.toNat).sC]:=(h.cells i h0 h1).get 13 _ rfl
theorem Li.IF{gs:List ZV}{ms:Nat->MG}{o:OA}(h:Li bs w o gs ms){i:Int}(h0:0<=i)(h1:i<(gs.length:Int)):Q1 bs w o (Int.toNat i*14+4) [I (gi gs i).IF]:=(h.cells i h0 h1).get 4 _ rfl
theorem Li.IQ{gs:List ZV}{ms:Nat->MG}{o:OA}(h:Li bs w o gs ms){i:Int}(h0:0<=i)(h1:i<(gs.length:Int)):Q1 bs w o (Int.toNat i*14+8) (Z2 (gi gs i).IQ (ms i.toNat)):=T0 λj v hj=>by
 have e:Yv (gi gs i) (ms i.toNat)=((Yv (gi gs i) (ms i.toNat)).take 8++Z2 (gi gs i).IQ (ms i.toNat))++[.slice (ms i.toNat).sO (gi gs i).IG.length (ms i.toNat).sC]:=rfl
 have hj':j<5:=by
  have:=(I9.1 hj).1
  simpa[Z2] using this
 have:=(h.cells i h0 h1).get (8+j) v (by
  rw[e,Iq (by simp[Yv,Z2]; omega),List.getElem?_append_right (by simp[Yv])]
  simpa[Yv] using hj)
 rwa[<-Nat.add_assoc] at this
theorem zxd.f{ts:List Kf}{o:OA}(h:zxd bs w o ts){i:Int}(h0:0<=i)(h1:i<(ts.length:Int)){j:Nat}{v:Va}(hj:(YK (gi ts i))[j]? = some v):Q1 bs w o (Int.toNat i*9+j) [v]:=J8 ((h i h0 h1).get j v hj)
theorem z2e.f{cs:List MB}{o:OA}(h:z2e bs w o cs){i:Int}(h0:0<=i)(h1:i<(cs.length:Int)){j:Nat}{v:Va}(hj:(KY (gi cs i))[j]? = some v):Q1 bs w o (Int.toNat i*5+j) [v]:=J8 ((h i h0 h1).get j v hj)
theorem zno.f{ss:List KN}{o:OA}(h:zno bs w o ss){i:Int}(h0:0<=i)(h1:i<(ss.length:Int)){j:Nat}{v:Va}(hj:(M1 (gi ss i))[j]? = some v):Q1 bs w o (Int.toNat i*5+j) [v]:=J8 ((h i h0 h1).get j v hj)
theorem L5(h:Xg bs w W m)(h4:W.IF.length<=4):PX bs Vm #[.agg (Qa W m).toArray] w (I (JZ W.IF)):=
 zkj _ _ _ _ _ _ _ _ _ _ λwr hx=>by
  have h:=(h.ext hx).less (cs:=[]) Qs;intro _ _;refine P3 W.IF.length 0 rfl (λx k=>k<=W.IF.length/\x=Vt W.IF k) ⟨Ie _,rfl⟩ λx k ⟨hk,R2⟩=>⟨λIU=>?_,λRN=>?_⟩
  ·have IU:=Ot IU;have hb:=BG (k:=k) Qo;have hl:=Ho W.IF k Qo;have gL:(1*2 ^ (min (Int.toNat (k:Int)) 64):Int)=Up k:=rfl;refine⟨h.c.ix Ym Qo IU,_,h.c.f Qo IU (j:=0) rfl,λhu=>?_,λhu=>?_⟩
   ·rw[gL];refine⟨zz4 Qo,⟨Qo,Qo,Qo⟩,⟨Qo,Qo⟩,⟨Qo,Qo⟩,QO Qo ⟨Qo,?_⟩⟩;rw[R2]; simp only[Vt]; rw[E' hu]
   ·refine⟨⟨Qo,Qo⟩,QO Qo ⟨Qo,?_⟩⟩;rw[R2]; simp only[Vt]; rw[C' (by rw[hu]; decide)]
  ·have RN:=Ou RN;have:k=W.IF.length:=Qo;subst this;rw[R2]; rfl
theorem zf3{g:Int}(h:Xg bs w W m)(ht:Yk W.IE)(hu:Q6 W.IE g=true):PX bs Ma #[.agg (Qa W m).toArray,I g] w (I (zm7 W.IE g)):=
 zgr _ _ _ _ _ _ _ _ _ _ g λwr hx=>by
  have h:=(h.ext hx).less (cs:=[]) Qs;intro _ _;obtain⟨u1,u2,_⟩:=Q5.1 hu;refine⟨h.g.ix u1 u2,_,h.g.IF u1 u2,λvs=>∃(x s:Int),vs=[I x,I s]/\Q6 W.IE x=true/\(Zc W.IE x).foldl (λs x=>TC s (gi W.IE (gi W.IE x).parent).IF) s=zm7 W.IE g,λvs=>(dep 3 W.IE (ZQ 0 vs)).toNat,⟨g,_,rfl,hu,rfl⟩,?_⟩;rintro x s ⟨x',s',he,hux,hI⟩;simp only[I5,I6,true_and,and_true] at he;obtain⟨rfl,rfl⟩:=he;refine⟨λhz=>?_,λhz=>?_⟩
  ·have hz:x≠0:=by simpa using hz
   obtain⟨hp,a,b,d,e,e2,hd⟩:=Yl ht hux hz;obtain⟨v1,v2,_⟩:=Q5.1 hp;rw[YP ht hux hz,List.foldl_cons] at hI
   exact⟨h.g.ix a b,_,h.g.parent a b,h.g.ix v1 v2,_,h.g.IF v1 v2,_,Mj,⟨_,_,rfl,hp,hI⟩,by
    show (dep 3 W.IE (gi W.IE x).parent).toNat<(dep 3 W.IE x).toNat;omega⟩
  ·have hz:x=0:=by simpa using hz
   subst hz;rw[show Zc W.IE 0=[] from Zr _ _,List.foldl_nil] at hI;rw[hI]
theorem Jr{g mask:Int}(h:Xg bs w W m)(h4:W.IF.length<=4)(ht:Yk W.IE)(hu:Q6 W.IE g=true):PX bs YE #[.agg (Qa W m).toArray,I g,I mask] w (I (Qy W g mask)):=
 zdm _ _ _ _ _ _ _ _ _ _ g mask λwr hx=>by
  have h:=(h.ext hx).less (cs:=[]) Qs;intro _ _;have hk:=Mj (a:=zm7 W.IE g) (b:=JZ W.IF) (w:=wr) (bs:=[]);rw[zwp ht hu] at hk;refine⟨_,L5 h h4,_,zf3 h ht hu,_,hk,_,Mj,λg1=>?_,λg1=>⟨λg2=>?_,λg2=>?_⟩⟩
  ·unfold Qy; rw[E' (by simpa using g1)]
  ·unfold Qy; rw[C' (by simpa using g1),E' (by simpa using g2)]
  ·unfold Qy; rw[C' (by simpa using g1),C' (by simpa using g2)]
theorem L4{g c:Int}(h:Xg bs w W m)(ha:WA W)(hu:Q6 W.IE g=true)(c0:0<=c)(c1:c<(W.IF.length:Int)):PX bs Vl #[.agg (Qa W m).toArray,I g,I c] w (.bool (Uq W g c)):=
 zki _ _ _ _ _ _ _ _ _ _ g c λwr hx=>by
  have h:=(h.ext hx).less (cs:=[]) Qs;intro _ _;obtain⟨u1,u2,_⟩:=Q5.1 hu
  have hd:(decide ((gi W.IE g).IQ.IZ>0))=true->c<((gi W.IE g).IQ.Rz.length:Int):=λg1=>by
   have:=Ot g1;rw[(ha.dl hu Qo).1]; exact c1
  exact⟨h.g.ix u1 u2,_,_,_,_,_,_,_,_,_,h.g.IQ u1 u2,λ_ _=>⟨λg1=>(h.g.Rz g u1 u2).ix DO c0 (hd g1),_,λg1=>(h.g.Rz g u1 u2) c c0 (hd g1),rfl⟩⟩
theorem VF{g c:Int}(h:Xg bs w W m)(ha:WA W)(hu:Q6 W.IE g=true)(c0:0<=c)(c1:c<(W.IF.length:Int)):PX bs Xw #[.agg (Qa W m).toArray,I g,I c] w (.bool (Qb W g c).on):=
 CN _ _ _ _ _ _ _ _ _ _ g c λwr hx=>by
  have h:=(h.ext hx).less (cs:=[]) Qs;intro _ _;obtain⟨u1,u2,_⟩:=Q5.1 hu;have hs:=ha.sl hu;have c2:c<((gi W.IE g).IG.length:Int):=Qo;exact⟨h.g.ix u1 u2,_,_,_,h.g.RF u1 u2,(h.g.IG g u1 u2).ix Y7 c0 c2,_,zno.f (h.g.IG g u1 u2) c0 c2 (j:=1) rfl,rfl⟩
theorem zk0{gs:List ZV}{k:Nat}(hk:(k:Int)<(gs.length:Int))(hu:(gi gs (k:Int)).used=true):Q6 gs (k:Int)=true:=Q5.2 ⟨Qo,hk,hu⟩
theorem Pq{g c:Int}(h:Xg bs w W m)(ha:WA W)(c0:0<=c)(c1:c<(W.IF.length:Int)):PX bs Jq #[.agg (Qa W m).toArray,I g,I c] w (.bool (QV W g c)):=
 CJ _ _ _ _ _ _ _ _ _ _ g c λwr hx=>by
  have h:=(h.ext hx).less (cs:=[]) Qs;intro _ _;have cP:=ha.gl;have hm9:=Zl;refine XL W.tasks.length 0 rfl (λk=>k<=W.tasks.length/\∀j:Nat,j<k->OQ W g c j=false) ⟨Ie _,λj hj=>Is hj (Nat.not_lt_zero j)⟩ λk ⟨hk,hI⟩=>⟨λIU=>?_,λRN=>?_⟩
  ·have IU:=Ot IU;have ht:=ha.t;refine⟨h.t.ix QF Qo IU,_,h.t.f Qo IU (j:=0) rfl,λ_=>h.t.ix QF Qo IU,_,λ_=>h.t.f Qo IU (j:=1) rfl,λ_=>h.t.ix QF Qo IU,_,λ_=>h.t.f Qo IU (j:=2) rfl,λhy=>?_,λhn=>⟨⟨Qo,Qo⟩,QI Qo ⟨Qo,λj hj=>?_⟩⟩⟩
   ·unfold QV;rw[DB.2 ⟨k,Qo,hy⟩]; rfl
   ·by_cases iP:j<k
    ·exact hI j iP
    ·have:j=k:=Qo;subst this; exact hn
  ·have RN:=Ou RN;have jH:TN (OQ W g c) W.tasks.length=false:=zi2 λj hj=>hI j Qo
   refine XL W.IE.length 1 rfl (λk=>1<=k/\k<=W.IE.length/\∀j:Nat,j<k->Jf W g c j=false) ⟨I8 _,Qo,λj hj=>by
    have:j=0:=Qo;subst this; simp[Jf]⟩ λk ⟨hk1,hk,hI⟩=>⟨λIU=>?_,λRN=>?_⟩
   ·have IU:=Ot IU;refine⟨h.g.ix Qo IU,_,h.g.used Qo IU,λ_=>h.g.ix Qo IU,_,λ_=>h.g.parent Qo IU,(Qb W (k:Int) c).on,λhu=>VF h ha (zk0 IU (by simp only[A'] at hu; exact hu.1)) c0 c1,λhy=>?_,λhn=>⟨⟨Qo,Qo⟩,QI Qo ⟨Qo,Qo,λj hj=>?_⟩⟩⟩
    ·unfold QV
     have:TN (Jf W g c) W.IE.length=true:=DB.2 ⟨k,Qo,by
      unfold Jf;rw[Ii hk1,Bool.true_and]; exact hy⟩
     rw[this,Bool.or_true]
    ·by_cases iP:j<k
     ·exact hI j iP
     ·have:j=k:=Qo;subst this;unfold Jf;rw[Ii hk1,Bool.true_and]; exact hn
   ·have RN:=Ou RN;have:TN (Jf W g c) W.IE.length=false:=zi2 λj hj=>hI j Qo
    unfold QV;rw[jH,this]; rfl
theorem VE{t:Int}(h:Xg bs w W m)(ha:WA W)(t0:0<=t)(t1:t<(W.tasks.length:Int))(hu:(Q9 W t).state=1->Q6 W.IE (Q9 W t).group=true/\0<=(Q9 W t).R3/\(Q9 W t).R3<(W.IF.length:Int)) :
  PX bs YO #[.agg (Qa W m).toArray,I t] w (.bool (ZL W t)):=
 CL _ _ _ _ _ _ _ _ _ _ t λwr hx=>by
  have h:=(h.ext hx).less (cs:=[]) Qs;intro _ _;refine⟨h.t.ix QF t0 t1,_,_,_,_,_,_,_,_,_,h.t t t0 t1,λ_ _=>⟨λg=>?_,λg=>?_⟩⟩
  ·have:((Q9 W t).state==1)=false:=by simpa[Q9] using g
   unfold ZL; rw[this]; rfl
  ·have hs:(Q9 W t).state=1:=by simpa[Q9] using g
   obtain⟨hug,hc0,vY⟩:=hu hs;have hL:ZL W t=Vp W (Q9 W t).group (Q9 W t).R3:=by unfold ZL; rw[It.2 hs,Bool.true_and]
   rw[hL];refine⟨λvs=>∃x:Int,vs=[I x]/\Q6 W.IE x=true/\Vp W x (Q9 W t).R3=Vp W (Q9 W t).group (Q9 W t).R3,λvs=>(dep 3 W.IE (ZQ 0 vs)).toNat,⟨_,rfl,hug,rfl⟩,?_⟩;rintro x ⟨x',he,hux,hI⟩;simp only[I5,I6,true_and,and_true] at he;subst he;refine⟨λhz=>?_,λhz=>?_⟩
   ·have hz:x≠0:=by simpa using hz
    obtain⟨hp,a,b,d,e,e2,hd⟩:=Yl ha.tree hux hz;unfold Vp at hI;rw[YP ha.tree hux hz,List.all_cons] at hI
    refine⟨_,VF h ha hux hc0 vY,λg2=>?_,λg2=>⟨h.g.ix a b,_,h.g.parent a b,⟨_,rfl,hp,?_⟩,by
     show (dep 3 W.IE (gi W.IE x).parent).toNat<(dep 3 W.IE x).toNat;omega⟩⟩
    ·have g2:(Qb W x (Q9 W t).R3).on=false:=by simpa[Q9] using g2
     rw[g2,Bool.false_and] at hI;unfold Vp;rw[<-hI]
    ·have g2:(Qb W x (Q9 W t).R3).on=true:=by simpa[Q9] using g2
     rw[g2,Bool.true_and] at hI;exact hI
   ·have hz:x=0:=by simpa using hz
    subst hz;unfold Vp at hI;rw[show Zc W.IE 0=[] from Zr _ _,List.all_nil] at hI;unfold Vp;rw[<-hI]
end
theorem Gv{v f k:Int}{w:Wo}{bs:List Nat}:PX bs VB #[I v,I f,I k] w (.bool (Kd v f k)):=
 zdl v f k λwr hx=>⟨IntKind.i64.wrap (v-f),λ_ wq=>by simp[eqGuard,binOp,Op.intArith],_,λ_=>Mi,rfl⟩
theorem H9:zk6 Tryz.prog QK:=⟨Qk,Qk,Qk⟩
theorem k9(a b:Kf):NV Tryz.prog (Tryz.prog.fieldsOf QK).toList 0 (YK a) (YK b)=some ((a.state==b.state)&&((a.group==b.group)&&((a.R3==b.R3)&&((a.nice==b.nice)&&((a.mask==b.mask)&&((a.v==b.v)&&((a.sum==b.sum)&&((a.used==b.used)&&((a.load==b.load)&&true))))))))):=Qk
theorem B6{a b:Kf}:((a.state==b.state)&&((a.group==b.group)&&((a.R3==b.R3)&&((a.nice==b.nice)&&((a.mask==b.mask)&&((a.v==b.v)&&((a.sum==b.sum)&&((a.used==b.used)&&((a.load==b.load)&&true)))))))))=decide (a=b):=by
 cases a; cases b
 simp only[Kf.mk.injEq,Bool.and_true];rw[Bool.eq_iff_iff];simp only[A',It,Ik]
section
variable {W:Q7}{m:MW}{w:Wo}{bs:List Nat}
theorem N3{k:Int}(h:Xg bs w W m)(hn:0<=W.now)(k0:0<=k)(k1:k<(W.IE.length:Int))(hf:zil (gi W.IE k)):PX bs Tu #[.agg (Qa W m).toArray,I k] w (.bool (U6 (MR W k))):=
 Nv _ _ _ _ _ _ _ _ _ _ k λwr hx=>by
  have h:=(h.ext hx).less (cs:=[]) Qs;intro _ _;refine⟨h.g.ix k0 k1,_,_,_,_,_,_,_,_,_,_,_,_,_,_,_,_,_,_,_,_,h.g.cells k k0 k1,λ_ _=>⟨λg=>?_,λg=>?_⟩⟩
  ·have hu:(gi W.IE k).used=false:=by simpa using g
   refine⟨_,λ_=>Ls (b:=(gi W.IE k).IQ) (m:=m.ms k.toNat),Pz ?_⟩;simp only[A',It,UY];constructor
   ·rintro⟨⟨⟨⟨⟨⟨⟨⟨e1,e2⟩,e3⟩,e4⟩,e5⟩,e6⟩,e7⟩,e8⟩,e9⟩;exact⟨λ_=>⟨e1,e2,e3,e4,e5,e6,e7,Qo,e9⟩,λhu'=>by rw[hu'] at hu; cases hu⟩
   ·intro p;have q:=p.1 hu;exact⟨⟨⟨⟨⟨⟨⟨⟨q.p,q.n⟩,q.w⟩,q.c⟩,q.pe⟩,q.ne⟩,q.s⟩,by have:=q.l; omega⟩,q.b⟩
  ·have hu:(gi W.IE k).used=true:=by simpa using g
   have mk:znq W k (gi W.IE k)->MR W k:=λq=>⟨λhu'=>(by rw[hu'] at hu; cases hu),λ_=>q⟩
   refine⟨_,JY,_,λ_=>Xr,_,λ_=>YU,λg2=>LI λp=>?_,λg2=>⟨λg3=>LI λp=>?_,λg3=>⟨λg4=>⟨_,Ls (b:=(gi W.IE k).IQ) (m:=m.ms k.toNat),Pz ?_⟩,λg4=>⟨_,Da (b:=(gi W.IE k).IQ) (m:=m.ms k.toNat) (h.g.locals k k0 k1) (h.g.Rz k k0 k1) hf.lo,_,λ_=>Qr,λg5=>?_,Pz ?_⟩⟩⟩⟩
   ·have q:=p.2 hu;have e1:YQ (gi W.IE k).weight 1 20=true:=Qu.2 ⟨q.w1,q.w2⟩;have e3:((gi W.IE k).IF==0)=false:=by simpa using q.m0
    have e5:(((gi W.IE k).IG.length:Nat):Int)=((W.IF.length:Nat):Int):=by have:=q.len; omega
    rw[e1,q.m,e3,q.s,e5] at g2;simp at g2
   ·have q:=p.2 hu;simp only[A',It] at g3;have r:=q.root g3.1;rw[r.1,r.2.1,r.2.2] at g3;simp at g3
   all_goals
    simp only[I0,I7,bne_eq_false_iff_eq,Qu,beq_eq_false_iff_ne] at g2;obtain⟨⟨⟨⟨a1,a2⟩,a3⟩,a4⟩,a5⟩:=g2;have hlen:(gi W.IE k).IG.length=W.IF.length:=Qo
    have CI3:k=0->(gi W.IE k).weight=10/\(gi W.IE k).IF=15/\(gi W.IE k).IQ.IZ=0:=λhk=>by
     rw[It.2 hk,Bool.true_and] at g3;simp only[I0,bne_eq_false_iff_eq] at g3;exact⟨g3.1.1,g3.1.2,g3.2⟩
   ·have q0:(gi W.IE k).IQ.IZ=0:=by simpa using g4
    simp only[A',It];constructor
    ·rintro⟨⟨e1,e2⟩,e3⟩;exact mk ⟨a1.1,a1.2,a2,a3,a4,hlen,CI3,λ_=>⟨e1,e2,e3⟩,λgE=>Is q0 gE⟩
    ·intro p;have q:=(p.2 hu).none q0;exact⟨⟨q.1,q.2.1⟩,q.2.2⟩
   ·simp only[A',It,Ik] at g5;have:=hf.nx;exact⟨by have:=this.1; omega,by have:=this.2; omega⟩
   ·have q0:(gi W.IE k).IQ.IZ≠0:=by simpa using g4
    simp only[A',It,Ik,Qh,Qu];constructor
    ·rintro⟨⟨⟨⟨e1,e2⟩,e3⟩,e4⟩,e5⟩;exact mk ⟨a1.1,a1.2,a2,a3,a4,hlen,CI3,λgE=>Is gE q0,λ_=>⟨e1,Qo,e3.1,e3.2,e4,e5⟩⟩
    ·intro p;have q:=(p.2 hu).IQ q0;exact⟨⟨⟨⟨q.1,by have:=q.2.1; omega⟩,q.2.2.1,q.2.2.2.1⟩,q.2.2.2.2.1⟩,q.2.2.2.2.2⟩
theorem KV{W:Q7}(ha:WA W){g mask c:Int}(hc:Z7 (Qy W g mask) c=true):0<=c/\c<(W.IF.length:Int):=by
 have h1:=ztl hc;exact⟨(Mm h1).2.1,(zky W.IF _ ha.c2 h1).1⟩
theorem Cq{t:Int}(h:Xg bs w W m)(ha:WA W)(t0:0<=t)(t1:t<(W.tasks.length:Int)):PX bs Oj #[.agg (Qa W m).toArray,I t] w (.bool (U6 (A7 W t))):=
 CP _ _ _ _ _ _ _ _ _ _ t λwr hx=>by
  have h:=(h.ext hx).less (cs:=[]) Qs;intro _ _;have cP:=ha.gl;have hm9:=Zl;refine⟨h.t.ix QF t0 t1,_,_,_,_,_,_,_,_,_,h.t t t0 t1,λ_ _=>⟨λg=>?_,λg=>?_⟩⟩
  ·have hs:(gi W.tasks t).state=0:=by simpa using g
   refine⟨_,λwq=>zdv H9 (k9 (gi W.tasks t) O0) _ _ wq,Pz ?_⟩;rw[B6,Ik];constructor
   ·exact λe=>.inl ⟨hs,e⟩
   ·rintro (⟨_,e⟩ | ⟨e,_⟩)
    ·exact e
    ·exact Is hs e
  ·have hs:(gi W.tasks t).state≠0:=by simpa using g
   have no:∀{q:A7 W t},zxl W (gi W.tasks t):=λ{q}=>by
    rcases q with ⟨e,_⟩ | ⟨_,q⟩
    ·exact Is e hs
    ·exact q
   refine⟨_,λ_=>Xs (c:=m.gC) h.g,_,λ_=>ZX,_,λ_=>Xr,λg2=>LI λp=>?_,λg2=>?_⟩
   ·have q:=no (q:=p);have e3:(Qf (gi W.tasks t).nice==0)=false:=by simpa using q.n
    have e4:((gi W.tasks t).mask==0)=false:=by simpa using q.m0
    rw[q.g,e3,q.m,e4] at g2;simp only[Bool.not_true,Bool.or_false,A',Iu] at g2;have:=q.st;omega
   ·simp only[I0,I7,beq_eq_false_iff_ne] at g2;obtain⟨⟨⟨⟨a1,a2⟩,a3⟩,a4⟩,a5⟩:=g2
    have st:(gi W.tasks t).state=1\/(gi W.tasks t).state=2:=by
     by_cases h1:(gi W.tasks t).state=1
     ·exact .inl h1
     ·refine .inr ?_;have:((gi W.tasks t).state != 1)=true:=by simpa using h1
      rw[this,Bool.true_and] at a1
      simpa using a1
    refine⟨_,YU,_,λ_=>YU,_,λ_=>YU,_,λ_=>Qr,Qy W (gi W.tasks t).group (gi W.tasks t).mask,λ_=>Jr h ha.c2 ha.tree a2,_,λ_=>Yj,λg3=>LI λp=>?_,λg3=>?_⟩
    ·have q:=no (q:=p);have e4:YQ (gi W.tasks t).load 0 8000000=true:=Qu.2 ⟨q.l1,q.l2⟩;rw[q.v,q.s,q.u,e4,q.c] at g3;simp at g3
    ·simp only[I0,I7,Qu] at g3;obtain⟨⟨⟨⟨b1,b2⟩,b3⟩,b4⟩,b5⟩:=g3;obtain⟨u1,u2,_⟩:=Q5.1 a2;obtain⟨c0,c1⟩:=KV ha b5;have hsl:=ha.sl a2;have c2:(gi W.tasks t).R3<((gi W.IE (gi W.tasks t).group).IG.length:Int):=Qo;refine⟨λ_=>h.g.ix u1 u2,_,_,_,λ_=>h.g.RF u1 u2,λ_=>(h.g.IG _ u1 u2).ix Y7 c0 c2,_,λ_=>zno.f (h.g.IG _ u1 u2) c0 c2 (j:=0) rfl,_,λ_=>ZX,_,λ_=>Gv,Pz ?_⟩;simp only[Iv,It];constructor
     ·intro e
      exact .inr ⟨hs,⟨st,a2,a3,a4,a5,b1,b2,b3,b4.1,b4.2,b5,λe1=>by
       rcases e with e | e
       ·have e:(gi W.tasks t).state=2:=e;have e1:(gi W.tasks t).state=1:=e1;omega
       ·exact e⟩⟩
     ·intro p;have q:=no (q:=p);rcases st with e | e
      ·exact .inr (q.f e)
      ·exact .inl e
theorem N4{k c:Int}(h:Xg bs w W m)(ha:WA W)(k0:0<=k)(k1:k<(W.IE.length:Int))(c0:0<=c)(c2:c<((gi W.IE k).IG.length:Int)):PX bs Tv #[.agg (Qa W m).toArray,I k,I c] w (.bool (U6 (MS W k c))):=
 Nw _ _ _ _ _ _ _ _ _ _ k c λwr hx=>by
  have h:=(h.ext hx).less (cs:=[]) Qs;intro _ _;have cP:=ha.gl
  have hus:(gi W.IE k).used=true:=by
   cases hu:(gi W.IE k).used with
   | true=>rfl
   | false=>
    have:=((ha.grp k k0 Qo).1 hu).l;omega
  have hu:Q6 W.IE k=true:=Q5.2 ⟨k0,k1,hus⟩;have hsl:=ha.sl hu;have c1:c<(W.IF.length:Int):=Qo;refine⟨h.g.ix k0 k1,_,_,_,_,_,_,_,_,_,_,_,_,_,_,_,_,_,_,_,_,h.g.cells k k0 k1,λ_ _=>⟨(h.g.IG k k0 k1).ix Y7 c0 c2,_,_,_,_,_,(h.g.IG k k0 k1) c c0 c2,λ_ _=>⟨_,YU,_,λ_=>YU,_,λ_=>YU,_,λ_=>JY,λg=>LI λp=>?_,λg=>⟨λg2=>Pz ?_,λg2=>⟨_,Pq h ha c0 c1,_,λ_=>L4 h ha hu c0 c1,λg3=>LI λp=>?_,λg3=>?_⟩⟩⟩⟩⟩
  ·have e1:=p.f;have e2:=p.v;have e3:=p.s;have e4:YQ (Qb W k c).w 1 20=true:=Qu.2 ⟨p.w1,p.w2⟩;have g':(((!ZU (Qb W k c).floor || !ZU (Qb W k c).v) || !ZU (Qb W k c).sum) || !YQ (Qb W k c).w 1 20)=true:=g;rw[e1,e2,e3,e4] at g'
   cases g'
  ·have g':(((!ZU (Qb W k c).floor || !ZU (Qb W k c).v) || !ZU (Qb W k c).sum) || !YQ (Qb W k c).w 1 20)=false:=g;simp only[I0,I7,Qu] at g';obtain⟨⟨⟨a1,a2⟩,a3⟩,a4⟩:=g';have hk:k=0:=by simpa using g2
   show ((!(Qb W k c).on&&((Qb W k c).v==0))&&((Qb W k c).w==10))=true↔_;simp only[A',ID,It];constructor
   ·rintro⟨⟨e1,e2⟩,e3⟩;exact⟨a1,a2,a3,a4.1,a4.2,λ_=>⟨e1,e2,e3⟩,λgE=>Is hk gE,λgE=>Is hk gE⟩
   ·intro p;have q:=p.root hk;exact⟨⟨q.1,q.2.1⟩,q.2.2⟩
  ·have hk:k≠0:=by simpa using g2
   have g3':(!((Qb W k c).on==(QV W k c && !Uq W k c)))=true:=g3;rw[p.on hk] at g3';simp at g3'
  ·have g':(((!ZU (Qb W k c).floor || !ZU (Qb W k c).v) || !ZU (Qb W k c).sum) || !YQ (Qb W k c).w 1 20)=false:=g;simp only[I0,I7,Qu] at g';obtain⟨⟨⟨a1,a2⟩,a3⟩,a4⟩:=g';have hk:k≠0:=by simpa using g2
   have hon:(Qb W k c).on=(QV W k c && !Uq W k c):=by
    have g3':(!((Qb W k c).on==(QV W k c && !Uq W k c)))=false:=g3
    simpa using g3'
   have hp:=ha.up hu hk;obtain⟨v1,v2,_⟩:=Q5.1 hp;have hpl:=ha.sl hp;have c3:c<((gi W.IE (gi W.IE k).parent).IG.length:Int):=Qo;refine⟨λ_=>h.g.ix v1 v2,_,_,_,λ_=>h.g.RF v1 v2,λ_=>(h.g.IG _ v1 v2).ix Y7 c0 c3,_,λ_=>zno.f (h.g.IG _ v1 v2) c0 c3 (j:=0) rfl,_,λ_=>Gv,Pz ?_⟩;show (!(Qb W k c).on||Kd (Qb W k c).v (Qb W (gi W.IE k).parent c).floor (Qb W k c).w)=true↔_;simp only[Iv,ID];constructor
   ·intro e
    exact⟨a1,a2,a3,a4.1,a4.2,λe0=>Is e0 hk,λ_=>hon,λ_ ho=>by
     rcases e with e | e
     ·rw[ho] at e; cases e
     ·exact e⟩
   ·intro p
    cases ho:(Qb W k c).on with
    | false=>exact .inl rfl
    | true=>exact .inr (p.st hk ho)
theorem zj5{t:Int}(ht:A7 W t)(hl:ZL W t=true):zxl W (Q9 W t)/\(Q9 W t).state=1:=by
 have hs:(Q9 W t).state=1:=by
  unfold ZL at hl;simp only[A',It] at hl;exact hl.1
 rcases ht with ⟨e,_⟩ | ⟨_,q⟩
 ·omega
 ·exact⟨q,hs⟩
theorem BW{a b:Int}(ha:ZU a=true)(hb:ZU b=true):Qm .i64 (a-b):=by
 have:=Ys.1 ha;have:=Ys.1 hb;exact⟨Qo,Qo⟩
theorem Cp{c:Int}(h:Xg bs w W m)(ha:WA W)(hts:∀t:Int,0<=t->t<12->A7 W t)(wY:∀k c:Int,0<=k->k<8->0<=c->c<((gi W.IE k).IG.length:Int)->MS W k c)(c0:0<=c)(c1:c<(W.IF.length:Int))(t0:0<=(gi W.IF c).cur)(t1:(gi W.IF c).cur<(W.tasks.length:Int))(hl:ZL W (gi W.IF c).cur=true) :
  PX bs Oi #[.agg (Qa W m).toArray,I c] w (.bool (Mt W c)):=
 CO _ _ _ _ _ _ _ _ _ _ c λwr hx=>by
  have h:=(h.ext hx).less (cs:=[]) Qs;intro _ _;have fH:=ha.t;have cP:=ha.gl;obtain⟨q,_⟩:=zj5 (hts _ t0 Qo) hl;have a2:=q.g;obtain⟨u1,u2,_⟩:=Q5.1 a2
  have sl:∀{x:Int},Q6 W.IE x=true->0<=x/\x<(W.IE.length:Int)/\c<((gi W.IE x).IG.length:Int)/\MS W x c:=λ{x} hx=>by
   obtain⟨v1,v2,_⟩:=Q5.1 hx;have e:=ha.sl hx;have c3:c<((gi W.IE x).IG.length:Int):=Qo;exact⟨v1,v2,c3,wY x c v1 Qo c0 c3⟩
  obtain⟨_,_,c2,sp⟩:=sl a2;refine⟨h.c.ix Ym c0 c1,_,_,_,_,_,h.c c c0 c1,λ_ _=>⟨h.t.ix QF t0 t1,_,_,_,_,_,_,_,_,_,h.t _ t0 t1,λ_ _=>⟨h.g.ix u1 u2,_,_,_,h.g.RF u1 u2,(h.g.IG _ u1 u2).ix Y7 c0 c2,_,zno.f (h.g.IG _ u1 u2) c0 c2 (j:=0) rfl,BW q.v sp.f,_,ZX,_,Xz,λg=>?_,λg=>?_⟩⟩⟩
  ·have g:=Ot g;have hd:¬((Q9 W (gi W.IF c).cur).v-(Qb W (Q9 W (gi W.IF c).cur).group c).floor<=Zf (gi W.IF c).aC (Qf (Q9 W (gi W.IF c).cur).nice)):=Int.not_le.2 g;unfold Mt;rw[decide_eq_false hd];rfl
  ·have g:=Ou g
   have hS:Mt W c=TZ W (Q9 W (gi W.IF c).cur).group c (gi W.IF c).aC:=by
    have hd:(Q9 W (gi W.IF c).cur).v-(Qb W (Q9 W (gi W.IF c).cur).group c).floor<=Zf (gi W.IF c).aC (Qf (Q9 W (gi W.IF c).cur).nice):=Int.not_lt.1 g;unfold Mt;rw[Ii hd,Bool.true_and]
   rw[hS];refine⟨λvs=>∃x:Int,vs=[I x]/\Q6 W.IE x=true/\TZ W x c (gi W.IF c).aC=TZ W (Q9 W (gi W.IF c).cur).group c (gi W.IF c).aC,λvs=>(dep 3 W.IE (ZQ 0 vs)).toNat,⟨_,rfl,a2,rfl⟩,?_⟩;rintro x ⟨x',he,hux,hI⟩;simp only[I5,I6,true_and,and_true] at he;subst he;refine⟨λhz=>?_,λhz=>?_⟩
   ·have hz:x≠0:=by simpa using hz
    obtain⟨hp,a,b,d,e,e2,hd⟩:=Yl ha.tree hux hz;obtain⟨x1,x2,x3,xs⟩:=sl hux;obtain⟨p1,p2,p3,ps⟩:=sl hp;unfold TZ at hI;rw[YP ha.tree hux hz,List.all_cons] at hI
    refine⟨h.g.ix x1 x2,_,_,_,h.g.RF x1 x2,(h.g.IG _ x1 x2).ix Y7 c0 x3,_,_,_,_,_,(h.g.IG _ x1 x2) c c0 x3,λ_ _=>⟨h.g.ix x1 x2,_,h.g.parent x1 x2,h.g.ix p1 p2,_,_,_,h.g.RF p1 p2,(h.g.IG _ p1 p2).ix Y7 c0 p3,_,zno.f (h.g.IG _ p1 p2) c0 p3 (j:=0) rfl,BW xs.v ps.f,_,Xz,λg2=>?_,λg2=>⟨h.g.ix x1 x2,_,h.g.parent x1 x2,⟨_,rfl,hp,?_⟩,by
     show (dep 3 W.IE (gi W.IE x).parent).toNat<(dep 3 W.IE x).toNat;omega⟩⟩⟩
    ·have g2:=Ot g2;have hd:¬((Qb W x c).v-(Qb W (gi W.IE x).parent c).floor<=Zf (gi W.IF c).aC (Qb W x c).w):=Int.not_le.2 g2;rw[decide_eq_false hd,Bool.false_and] at hI;unfold TZ;rw[<-hI]
    ·have g2:=Ou g2;have hd:(Qb W x c).v-(Qb W (gi W.IE x).parent c).floor<=Zf (gi W.IF c).aC (Qb W x c).w:=Int.not_lt.1 g2;rw[Ii hd,Bool.true_and] at hI;exact hI
   ·have hz:x=0:=by simpa using hz
    subst hz;unfold TZ at hI;rw[show Zc W.IE 0=[] from Zr _ _,List.all_nil] at hI;unfold TZ;rw[<-hI]
theorem Fx{t:Int}(ha:WA W)(ht:A7 W t)(hs:(Q9 W t).state=1):Q6 W.IE (Q9 W t).group=true/\0<=(Q9 W t).R3/\(Q9 W t).R3<(W.IF.length:Int):=by
 rcases ht with ⟨e,_⟩ | ⟨_,q⟩
 ·omega
 ·exact⟨q.g,KV ha q.c⟩
theorem zct{c:Int}(h:Xg bs w W m)(ha:WA W)(hts:∀t:Int,0<=t->t<12->A7 W t)(wY:∀k c:Int,0<=k->k<8->0<=c->c<((gi W.IE k).IG.length:Int)->MS W k c)(c0:0<=c)(c1:c<(W.IF.length:Int)) :
  PX bs Pk #[.agg (Qa W m).toArray,I c] w (.bool (U6 (Bg W c))):=
 zdj _ _ _ _ _ _ _ _ _ _ c λwr hx=>by
  have h:=(h.ext hx).less (cs:=[]) Qs;intro _ _;have fH:=ha.t;refine⟨h.c.ix Ym c0 c1,_,_,_,_,_,h.c c c0 c1,λ_ _=>⟨_,YU,_,λ_=>YU,λ_=>⟨Qo,Qo⟩,_,λ_=>Qr,λg=>LI λp=>?_,λg=>⟨λg2=>Pz ?_,λg2=>?_⟩⟩⟩
  ·have e3:YQ (gi W.IF c).cur (-1) (((W.tasks.length:Nat):Int)-1)=true:=Qu.2 (by have:=p.c1; have:=p.c2; omega);rw[p.b,p.i,e3] at g;cases g
  ·simp only[I0,I7,Qu] at g;obtain⟨⟨a1,a2⟩,a3⟩:=g;have g2:=Ot g2;rw[It];exact⟨λe=>⟨a1,a2,a3.1,Qo,λ_=>e,λhc=>by omega⟩,λp=>p.no g2⟩
  ·simp only[I0,I7,Qu] at g;obtain⟨⟨a1,a2⟩,a3⟩:=g;have g2:=Ou g2;have t0:0<=(gi W.IF c).cur:=Qo;have t1:(gi W.IF c).cur<(W.tasks.length:Int):=Qo;refine⟨_,λ_=>Qr,λ_=>h.t.ix QF t0 t1,_,λ_=>h.t.f t0 t1 (j:=2) rfl,ZL W (gi W.IF c).cur,λ_=>VE h ha t0 t1 λhs=>Fx ha (hts _ t0 Qo) hs,Mt W c,λg3=>Cp h ha hts wY c0 c1 t0 t1 (by simp only[A'] at g3; exact g3.2),Pz ?_⟩;simp only[A',It,Qu];constructor
   ·rintro⟨⟨⟨⟨e1,e2⟩,e3⟩,e4⟩,e5⟩;exact⟨a1,a2,a3.1,Qo,λhc=>by omega,λ_=>⟨e1,e2.1,e2.2,e3,e4,e5⟩⟩
   ·intro p;have q:=p.yes t0;exact⟨⟨⟨⟨q.1,q.2.1,q.2.2.1⟩,q.2.2.2.1⟩,q.2.2.2.2.1⟩,q.2.2.2.2.2⟩
theorem UD(h:Xg bs w W m)(lc:W.IF.length<=maxLen)(lt:W.tasks.length<=maxLen)(lg:W.IE.length<=maxLen)(hf:∀i:Int,0<=i->i<(W.IE.length:Int)->zil (gi W.IE i)) :
  PX bs Xf #[.agg (Qa W m).toArray] w (.bool (Qw W)):=
 zde _ _ _ _ _ _ _ _ _ _ λwr hx=>by
  have h:=(h.ext hx).less (cs:=[]) Qs;intro _ _;have hm9:=Js;refine⟨_,Qr,_,λ_=>Qr,ML W.IE,λ_=>Dc h.g lg,JZ W.IF,λg=>L5 h ?_,λg=>LI λp=>?_,λg=>?_⟩
  ·simp only[I0,I7,Qu] at g;omega
  ·have a:=p.a;have e1:YQ W.now 0 100000000000000000=true:=Qu.2 ⟨a.n1,a.n2⟩;have e2:YQ ((W.IF.length:Nat):Int) 1 4=true:=Qu.2 (by have:=a.c1; have:=a.c2; omega);have e3:((W.tasks.length:Nat):Int)=12:=by have:=a.t; omega
   have e5:(JZ W.IF==0)=false:=by simpa using a.ups
   rw[e1,e2,e3,T5.2 a.tree,e5] at g;simp at g
  simp only[I0,I7,Qu,bne_eq_false_iff_eq,beq_eq_false_iff_ne] at g;obtain⟨⟨⟨⟨g1,g2⟩,g3⟩,g4⟩,g5⟩:=g;have ht:=T5.1 g4;have cP:=ht.len;refine XL W.IE.length 0 rfl (λk=>k<=W.IE.length/\∀j:Int,0<=j->j<(k:Int)->MR W j) ⟨Ie _,λj h0 h1=>by omega⟩ λk ⟨hk,hI⟩=>⟨λIU=>?_,λRN=>?_⟩
  ·have IU:=Ot IU;refine⟨_,N3 h g1.1 Qo IU (hf _ Qo IU),λg6=>LI λp=>?_,λg6=>⟨⟨Qo,Qo⟩,QI Qo ⟨Qo,λj h0 h1=>?_⟩⟩⟩
   ·have g6:U6 (MR W (k:Int))=false:=by simpa using g6
    exact G7.1 g6 (p.a.grp _ Qo Qo)
   ·by_cases iP:j<(k:Int)
    ·exact hI j h0 iP
    ·have:j=(k:Int):=Qo;subst this;exact Qh.1 (by simpa using g6)
  have RN:=Ou RN;have ha:WA W:=⟨g1.1,g1.2,Qo,Qo,Qo,ht,g5,λj h0 h1=>hI j h0 Qo⟩;refine XL W.tasks.length 0 rfl (λk=>k<=W.tasks.length/\∀j:Int,0<=j->j<(k:Int)->A7 W j) ⟨Ie _,λj h0 h1=>by omega⟩ λk2 ⟨xJ,hI2⟩=>⟨λIU=>?_,λbS=>?_⟩
  ·have IU:=Ot IU;refine⟨_,Cq h ha Qo IU,λg6=>LI λp=>?_,λg6=>⟨⟨Qo,Qo⟩,QI Qo ⟨Qo,λj h0 h1=>?_⟩⟩⟩
   ·have g6:U6 (A7 W (k2:Int))=false:=by simpa using g6
    exact G7.1 g6 (p.t _ Qo Qo)
   ·by_cases iP:j<(k2:Int)
    ·exact hI2 j h0 iP
    ·have:j=(k2:Int):=Qo;subst this;exact Qh.1 (by simpa using g6)
  have bS:=Ou bS;have hts:∀t:Int,0<=t->t<12->A7 W t:=λt h0 h1=>hI2 t h0 Qo
  refine XL W.IE.length 0 rfl (λk=>k<=W.IE.length/\∀j c:Int,0<=j->j<(k:Int)->0<=c->c<((gi W.IE j).IG.length:Int)->MS W j c) ⟨Ie _,λj c h0 h1=>by omega⟩ λk3 ⟨wN,hI3⟩=>⟨λIU=>?_,λBz5=>?_⟩
  ·have IU:=Ot IU;have k30:(0:Int)<=(k3:Int):=Qo;refine XL (gi W.IE (k3:Int)).IG.length 0 rfl (λc=>c<=(gi W.IE (k3:Int)).IG.length/\∀d:Int,0<=d->d<(c:Int)->MS W (k3:Int) d) ⟨Ie _,λj h0 h1=>by omega⟩ λc ⟨hc,hJ⟩=>⟨h.g.ix k30 IU,_,_,_,h.g.RF k30 IU,λmL=>?_,λAV5=>?_⟩
   ·have mL:=Ot mL;have hsm:(gi W.IE (k3:Int)).IG.length<=maxLen:=(hf _ k30 IU).sh;refine⟨_,N4 h ha k30 IU Qo mL,λg6=>LI λp=>?_,λg6=>⟨⟨Qo,Qo⟩,QI Qo ⟨Qo,λd h0 h1=>?_⟩⟩⟩
    ·have g6:U6 (MS W (k3:Int) (c:Int))=false:=by simpa using g6
     exact G7.1 g6 (p.s _ _ Qo Qo Qo mL)
    ·by_cases iP:d<(c:Int)
     ·exact hJ d h0 iP
     ·have:d=(c:Int):=Qo;subst this;exact Qh.1 (by simpa using g6)
   ·have AV5:=Ou AV5;refine⟨⟨Qo,Qo⟩,QI Qo ⟨Qo,λj d h0 h1 h2 h3=>?_⟩⟩
    by_cases iP:j<(k3:Int)
    ·exact hI3 j d h0 iP h2 h3
    ·have:j=(k3:Int):=Qo;subst this;exact hJ d h2 Qo
  have Bz5:=Ou Bz5;have wY:∀k c:Int,0<=k->k<8->0<=c->c<((gi W.IE k).IG.length:Int)->MS W k c:=λk c h0 h1 h2 h3=>hI3 k c h0 Qo h2 h3
  refine XL W.IF.length 0 rfl (λk=>k<=W.IF.length/\∀j:Int,0<=j->j<(k:Int)->Bg W j) ⟨Ie _,λj h0 h1=>by omega⟩ λk4 ⟨hk4,hI4⟩=>⟨λIU=>?_,λCe0=>?_⟩
  ·have IU:=Ot IU;refine⟨_,zct h ha hts wY Qo IU,λg6=>LI λp=>?_,λg6=>⟨⟨Qo,Qo⟩,QI Qo ⟨Qo,λj h0 h1=>?_⟩⟩⟩
   ·have g6:U6 (Bg W (k4:Int))=false:=by simpa using g6
    exact G7.1 g6 (p.c _ Qo IU)
   ·by_cases iP:j<(k4:Int)
    ·exact hI4 j h0 iP
    ·have:j=(k4:Int):=Qo;subst this;exact Qh.1 (by simpa using g6)
  ·have Ce0:=Ou Ce0;exact znm ⟨ha,hts,wY,λc h0 h1=>hI4 c h0 Qo⟩
end
theorem Ze{n p:Nat}{vs us:List Va}{k:Nat}(h1:ZQ p vs=(k:Int)+1)(h2:ZQ p us=(k:Int))(hk:k<n):Xe n p vs<Xe n p us:=by
 unfold Xe;rw[h1,h2];omega
theorem CY{α:Type}[Inhabited α]{l:List α}{p:α->Bool}:l.all p=true↔∀k:Nat,k<l.length->p (gi l (k:Int))=true:=by
 rw[List.all_eq_true];constructor
 ·intro h k hk; exact h _ (zoj Qo Qo)
 ·intro h x hx;obtain⟨k,hk,rfl⟩:=List.getElem_of_mem hx;rw[<-Ui hk]; exact h k hk
theorem KD{bs:List Nat}{w:Wo}{b:Nat}{l:List Int}{t:TypeId}{fz:Nat×Nat}(h:w.heap[b]? = some (.cells (l.flatMap Jn).toArray t fz))(hb:b∉bs):znt bs w (some ⟨b,0,none⟩) l:=λi h0 hi=>by
 have IU:i.toNat<l.length:=Qo;refine XP h hb (k0:=0) ?_;have:=Fb (enc:=Jn) (z:=1) (λ_=>rfl) l i.toNat 0 IU Qd;rw[Nat.add_zero] at this;rw[Nat.zero_add,this]
 have e:gi l i=l[i.toNat]:=by
  have:=Ui IU
  rwa[show ((i.toNat:Nat):Int)=i by omega] at this
 rw[e]; rfl
theorem N5{l:List Int}{o:OA}{c:Nat}{w:Wo}{bs:List Nat}(h:znt bs w o l)(hl:l.length<=maxLen):PX bs ZR #[.slice o l.length c] w (.bool (l.all ZU)):=
 zgg o l.length c λwr hx=>by
  have h:=(h.ext hx).less (cs:=[]) Qs;refine XL l.length 0 rfl (λk=>k<=l.length/\∀j:Nat,j<k->ZU (gi l (j:Int))=true) ⟨Ie _,λj hj=>Is hj (Nat.not_lt_zero j)⟩ λk ⟨hk,hI⟩=>⟨λIU=>?_,λRN=>?_⟩
  ·have IU:=Ot IU;refine⟨h.ix JH Qo IU,_,h k Qo IU,_,QW,λg=>?_,λg=>⟨zjw IU hl,QI Qo ⟨Qo,λj hj=>?_⟩⟩⟩
   ·have:l.all ZU=false:=by
     cases hb:l.all ZU with
     | false=>rfl
     | true=>
      have:=CY.1 hb k Qo;unfold ZU at this;rw[this] at g;cases g
    rw[this]
   ·by_cases iP:j<k
    ·exact hI j iP
    ·have:j=k:=Qo;subst this;unfold ZU
     simpa using g
  ·have RN:=Ou RN;have hk:k=l.length:=Qo;subst hk;rw[CY.2 hI]
theorem z3f{a:Int}{w:Wo}{b:Nat}{t:TypeId}{fz:Nat×Nat}(h:w.heap[b]? = some (.cells ([I a]:List Va).toArray t fz)):PX [] ZR #[.slice (some ⟨b,0,none⟩) 1 1] w (.bool (ZU a)):=by
 have:=N5 (l:=[a]) (c:=1) (bs:=[]) (KD h Qs) (by simp[maxLen])
 simpa using this
theorem z30{a b2:Int}{w:Wo}{b:Nat}{t:TypeId}{fz:Nat×Nat}(h:w.heap[b]? = some (.cells ([I a,I b2]:List Va).toArray t fz)):PX [] ZR #[.slice (some ⟨b,0,none⟩) 2 2] w (.bool (ZU a&&ZU b2)):=by
 have:=N5 (l:=[a,b2]) (c:=2) (bs:=[]) (KD h Qs) (by simp[maxLen])
 simpa using this
theorem z3p{a b2 b3:Int}{w:Wo}{b:Nat}{t:TypeId}{fz:Nat×Nat}(h:w.heap[b]? = some (.cells ([I a,I b2,I b3]:List Va).toArray t fz)):PX [] ZR #[.slice (some ⟨b,0,none⟩) 3 3] w (.bool (ZU a&&(ZU b2&&ZU b3))):=by
 have:=N5 (l:=[a,b2,b3]) (c:=3) (bs:=[]) (KD h Qs) (by simp[maxLen])
 simpa using this
theorem zcj{m:Int}{w:Wo}{bs:List Nat}:PX bs Uc #[I m] w (.bool (OH m)):=Nk m λwr hx=>rfl
theorem K4{m:Int}{w:Wo}{bs:List Nat}:PX bs Ux #[I m] w (.bool (OH m)):=zgc m λwr hx=>⟨_,zcj,rfl⟩
theorem Pm{m:Int}{w:Wo}{bs:List Nat}:PX bs Xt #[I m] w (.bool ((m != 0)&&OH m)):=Cy m λwr hx=>⟨_,λ_=>K4,rfl⟩
theorem zx9:∀(m:Fin 16) (c:Fin 4),(TK .and .i64 (Int.fdiv (m.val:Int) (2 ^ (min (Int.toNat (c.val:Int)) 64))) 1==1)=(Int.tmod (Int.fdiv (m.val:Int) (2 ^ (min (Int.toNat (c.val:Int)) 64))) 2==1):=by decide +kernel
theorem zci{m c:Int}{w:Wo}{bs:List Nat}:PX bs JL #[I m,I c] w (.bool (Z7 m c)):=
 FJ m c λwr hx=>by
  refine⟨_,zcj,_,λ_=>QW,λg=>?_,?_⟩
  ·simp only[A'] at g;exact(Qu.1 g.2).1
  ·unfold Z7
   cases h1:OH m with
   | false=>rfl
   | true=>
    cases h2:YQ c 0 3 with
    | false=>rfl
    | true=>
     obtain⟨x,rfl⟩:=MH h1;have:=Qu.1 h2;have e:=zx9 x ⟨c.toNat,Qo⟩;rw[show ((⟨c.toNat,Qo⟩:Fin 4).val:Int)=c by show ((c.toNat:Nat):Int)=c; omega] at e;rw[e]
theorem zcd{m c:Int}{w:Wo}{bs:List Nat}:PX bs Pe #[I m,I c] w (.bool (Z7 m c)):=zc9 m c λwr hx=>⟨_,zci,rfl⟩
theorem Mh{a b:Int}{w:Wo}{bs:List Nat}:PX bs JT #[I a,I b] w (I (TC a b)):=
 zc8 a b λwr hx=>by
  refine⟨_,K4,_,λ_=>K4,λg=>?_,λg=>?_⟩
  ·rw[XA]; simpa using g
  ·simp only[I0,I7] at g;rw[OG g.1 g.2]
theorem Lp{b:JB}{m:MG}{w:Wo}{bs:List Nat}:PX bs UQ #[.agg (Z2 b m).toArray] w (.bool (Ow b)):=
 Cv b.IZ b.RJ b.SB m.lO b.locals.length m.lC m.dO b.Rz.length m.dC λwr hx=>λ_ _=>rfl
theorem BX{g:ZV}{m:MG}{w:Wo}{bs:List Nat}(hu:g.used=false):PX bs Th #[.agg (Yv g m).toArray] w (.bool (U6 (ztr g))):=
 Nm g.used g.parent g.name g.weight g.IF g.period g.next g.sum g.IQ.IZ g.IQ.RJ g.IQ.SB m.lO g.IQ.locals.length m.lC m.dO g.IQ.Rz.length m.dC m.sO g.IG.length m.sC λwr hx=>by
  intro _ _;refine⟨_,λ_=>Lp (b:=g.IQ) (m:=m),Pz ?_⟩;simp only[hu,Bool.not_false,Bool.true_and,A',It,UY];constructor
  ·rintro⟨⟨⟨⟨⟨⟨⟨⟨e1,e2⟩,e3⟩,e4⟩,e5⟩,e6⟩,e7⟩,e9⟩,e8⟩;exact⟨e1,e2,e3,e4,e5,e6,e7,Qo,e9⟩
  ·intro q;exact⟨⟨⟨⟨⟨⟨⟨⟨q.p,q.n⟩,q.w⟩,q.c⟩,q.pe⟩,q.ne⟩,q.s⟩,q.b⟩,by have:=q.l; omega⟩
theorem zfr{b:JB}{m:MG}{w:Wo}{bs:List Nat}(h1:znt bs w m.lO b.locals)(h2:ztv bs w m.dO b.Rz)(hl:b.locals.length<=maxLen):PX bs M2 #[.agg (Z2 b m).toArray] w (.bool (U6 (V4 b))):=
 zga b.IZ b.RJ b.SB m.lO b.locals.length m.lC m.dO b.Rz.length m.dC λwr hx=>by
  have h1:=(h1.ext hx).less (cs:=[]) Qs;have h2:=(h2.ext hx).less (cs:=[]) Qs;intro _ _;refine⟨_,QW,_,λ_=>QW,λg=>LI λp=>?_,λg=>⟨_,QW,_,λ_=>QW,λg'=>LI λp=>?_,λg'=>?_⟩⟩
  ·rw[Qu.2 ⟨p.q1,p.q2⟩,Qu.2 (by have:=p.l1; have:=p.l2; omega),p.dl] at g;simp at g
  ·rw[Qu.2 ⟨p.p1,p.p2⟩,Qu.2 ⟨p.s1,p.s2⟩] at g'
   cases g'
  ·simp only[I0,I7,bne_eq_false_iff_eq,Qu] at g g';obtain⟨⟨g1,g2⟩,g3⟩:=g;obtain⟨g4,g5⟩:=g';have hdl:b.Rz.length=b.locals.length:=Qo
   have all:∀{k:Nat},k<=b.locals.length->(∀c:Int,0<=c->c<(k:Int)->0<=gi b.locals c/\gi b.locals c<=b.IZ/\(gi b.Rz c=true->gi b.locals c=0/\b.RJ=0))->0<=Vs b.locals k/\Vs b.locals k<=40000:=λ{k} hk h=>by
    have key:∀j:Nat,j<=k->0<=Vs b.locals j/\Vs b.locals j<=(j:Int)*10000:=λj=>by
     induction j with
     | zero=>intro _; simp[Vs]
     | succ j ih=>
      intro hj;have:=ih Qo;have:=h (j:Int) Qo Qo;simp only[Vs]; omega
    have:=key k (I8 _);omega
   refine⟨⟨Qo,Qo⟩,?_⟩;refine P3 b.locals.length 0 rfl (λx k=>k<=b.locals.length/\x=b.RJ+b.SB+Vs b.locals k/\∀c:Int,0<=c->c<(k:Int)->0<=gi b.locals c/\gi b.locals c<=b.IZ/\(gi b.Rz c=true->gi b.locals c=0/\b.RJ=0)) ⟨Ie _,by simp[Vs],λc h0 h1=>by omega⟩ λx k ⟨hk,R2,hI⟩=>⟨λIU=>?_,λRN=>?_⟩
   ·have IU:=Ot IU;have RM:(k:Int)<(b.Rz.length:Int):=Qo;have hsr:=all hk hI;refine⟨h1.ix JH Qo IU,_,h1 k Qo IU,_,QW,λ_=>h2.ix DO Qo RM,_,λ_=>h2 k Qo RM,λg=>LI λp=>?_,λg=>?_⟩
    ·have pe:=p.each (k:Int) Qo IU;rw[Qu.2 ⟨pe.1,pe.2.1⟩] at g;simp only[Bool.not_true,Bool.false_or,A',Iv,Iu] at g;have:=pe.2.2 g.1;rcases g.2 with h | h
     ·exact h this.1
     ·exact h this.2
    ·simp only[I0,I7,Qu] at g;obtain⟨ga,gb⟩:=g;refine⟨⟨Qo,Qo⟩,⟨Qo,Qo⟩,QO Qo ⟨Qo,by simp only[Vs]; omega,λc hc0 hc=>?_⟩⟩
     by_cases hck:c<(k:Int)
     ·exact hI c hc0 hck
     ·have:c=(k:Int):=Qo;subst this;refine⟨ga.1,ga.2,λhd=>?_⟩;rw[hd] at gb;simp only[Bool.true_and,I0,bne_eq_false_iff_eq] at gb;exact gb
   ·have RN:=Ou RN;have:k=b.locals.length:=Qo;subst this;refine Pz ?_;rw[It,R2];constructor
    ·intro hs;exact⟨g1.1,g1.2,Qo,Qo,hdl,g4.1,g4.2,g5.1,g5.2,hI,hs⟩
    ·exact λp=>p.sum
def zws(v f k:Int):Bool:=decide (v>=f)&&decide (v-f<=ZB k)
theorem zzu{a b:Int}(ha:ZU a=true)(hb:ZU b=true):IntKind.i64.wrap (a-b)=a-b:=(BW ha hb).wrap
theorem zwt{v f k:Int}(hv:ZU v=true)(hf:ZU f=true):Kd v f k=zws v f k:=by unfold Kd zws; rw[zzu hv hf]
theorem Gp{v f k:Int}{w:Wo}{bs:List Nat}(h:ZU v=true)(hf:ZU f=true):PX bs Tj #[I v,I f,I k] w (.bool (Kd v f k)):=by
 rw[zwt h hf];exact zgf v f k λwr hx=>⟨λ_=>BW h hf,_,λ_=>Gn,rfl⟩
theorem zfx{n:Int}{w:Wo}{bs:List Nat}:PX bs M6 #[I n] w (.bool (YQ n 0 8000000)):=zgd n λwr hx=>⟨_,QW,rfl⟩
structure My (bs:List Nat) (w:Wo) (p:OA) (W:Q7) (m:MW):Prop where
 cs:Q1 bs w p 0 (Qa W m)
 rd:Xg bs w W m
theorem G3{bs:List Nat}{w:Wo}{o:OA}{n:Nat}{vs:List Va}(h:Q1 bs w o n vs){j:Nat}{v:Va}(hj:vs[j]? = some v):Q1 bs w (o.map (·.add n)) (0+j) [v]:=by
 obtain⟨a,ha,hb,hc⟩:=h.get j v hj;refine J8 ⟨a.add n,by rw[ha]; rfl,by rw[Zv]; exact hb,?_⟩;rw[Jl,Nat.zero_add]; exact hc
theorem KG{bs:List Nat}{w:Wo}{o:OA}{n k:Nat}{v:Va}{r:List Va}(h:Q1 bs w o k (v::r)):(o.map (·.add n)).isSome=true:=by
 have:=h.some
 cases o with
 | none=>cases this
 | some a=>rfl
section
variable {W:Q7}{m:MW}{w w':Wo}{bs cs:List Nat}{p:OA}
theorem My.ext(h:My bs w p W m)(hx:Q0 bs w w'):My bs w' p W m:=⟨h.cs.ext hx,h.rd.ext hx⟩
theorem My.less(h:My bs w p W m)(hs:∀x∈cs,x∈bs):My cs w p W m:=⟨h.cs.less hs,h.rd.less hs⟩
theorem My.some(h:My bs w p W m):p.isSome=true:=by
 have h1:=h.cs.get 0 _ (rfl:(Qa W m)[0]? = Option.some (I W.now));obtain⟨a,rfl,_⟩:=h1;rfl
theorem My.c(h:My bs w p W m){j:Nat}{v:Va}(hj:(Qa W m)[j]? = Option.some v):Q1 bs w p (0+j) [v]:=J8 (h.cs.get j v hj)
theorem My.now(h:My bs w p W m):Q1 bs w p (0+0) [I W.now]:=h.c rfl
theorem My.IF(h:My bs w p W m):Q1 bs w p (0+1) [.slice m.cO W.IF.length m.cC]:=h.c rfl
theorem My.tasks(h:My bs w p W m):Q1 bs w p (0+2) [.slice m.tO W.tasks.length m.tC]:=h.c rfl
theorem My.IE(h:My bs w p W m):Q1 bs w p (0+3) [.slice m.gO W.IE.length m.gC]:=h.c rfl
def zxh(m:MW)(g c:Int):OA:=(m.ms g.toNat).sO.map (·.add (Int.toNat c*5))
theorem My.sh(h:My bs w p W m){g c:Int}(g0:0<=g)(g1:g<(W.IE.length:Int))(c0:0<=c)(c1:c<((gi W.IE g).IG.length:Int)):(zxh m g c).isSome=true/\∀{j:Nat} {v:Va},(M1 (Qb W g c))[j]? = Option.some v->Q1 bs w (zxh m g c) (0+j) [v]:=
 ⟨KG (h.rd.g.IG g g0 g1 c c0 c1),λ{j v} hj=>G3 (h.rd.g.IG g g0 g1 c c0 c1) hj⟩
theorem JD{c:Int}:PX bs Zk #[.pointer p,I c] w (.agg #[.pointer p,I c]):=FG p c λwr hx=>λ_ _=>rfl
theorem Zw{g c:Int}(h:My bs w p W m)(g0:0<=g)(g1:g<(W.IE.length:Int))(c0:0<=c)(c1:c<((gi W.IE g).IG.length:Int)):PX bs QC #[.agg #[.pointer p,I c],I g] w (.pointer (zxh m g c)):=
 FL p c g λwr hx=>by
  have h:=(h.ext hx).less (cs:=[]) Qs;exact λ_ _=>⟨h.some,_,_,_,h.IE,h.rd.g.ix g0 g1,_,_,_,h.rd.g.RF g0 g1,(h.rd.g.IG g g0 g1).ix Y7 c0 c1,rfl⟩
theorem L3{c:Int}(h:My bs w p W m)(c0:0<=c)(c1:c<(W.IF.length:Int)):PX bs YL #[.agg #[.pointer p,I c]] w (.pointer (m.cO.map (·.add (Int.toNat c*5)))):=
 Cw p c λwr hx=>by
  have h:=(h.ext hx).less (cs:=[]) Qs;exact λ_ _=>⟨h.some,_,_,_,h.IF,h.rd.c.ix Ym c0 c1,rfl⟩
theorem Kp{t:Int}(h:My bs w p W m)(hl:W.tasks.length<=maxLen):PX bs Xc #[.pointer p,I t] w (.bool (YQ t 0 ((W.tasks.length:Int)-1)&&((Q9 W t).state != 0))):=
 Lc p t λwr hx=>by
  have h:=(h.ext hx).less (cs:=[]) Qs;have:=Js;have hr:YQ t 0 ((W.tasks.length:Int)-1)=true->0<=t/\t<(W.tasks.length:Int):=λg=>by have:=Qu.1 g; omega
  exact⟨h.some,_,_,_,h.tasks,⟨Qo,Qo⟩,_,QW,λ_=>h.some,_,_,_,λ_=>h.tasks,λg=>h.rd.t.ix QF (hr g).1 (hr g).2,_,λg=>h.rd.t.f (hr g).1 (hr g).2 (j:=0) rfl,rfl⟩
theorem K7(h:My bs w p W m)(h4:W.IF.length<=4):PX bs X1 #[.pointer p] w (I (JZ W.IF)):=
 HS p λwr hx=>by
  have h:=(h.ext hx).less (cs:=[]) Qs;refine⟨h.some,_,_,_,h.IF,?_⟩;refine P3 W.IF.length 0 rfl (λx k=>k<=W.IF.length/\x=Vt W.IF k) ⟨Ie _,rfl⟩ λx k ⟨hk,R2⟩=>⟨λIU=>?_,λRN=>?_⟩
  ·have IU:=Ot IU;have hb:=BG (k:=k) Qo;have hl:=Ho W.IF k Qo;have gL:(1*2 ^ (min (Int.toNat (k:Int)) 64):Int)=Up k:=rfl;refine⟨h.rd.c.ix Ym Qo IU,_,_,_,_,_,h.rd.c k Qo IU,λ_ _=>⟨λhu=>?_,λhu=>?_⟩⟩
   ·rw[gL,R2,z1s Qo hl.1 hl.2];refine⟨⟨Qo,Qo,Qo⟩,⟨Qo,Qo⟩,QO Qo ⟨Qo,?_⟩⟩;simp only[Vt]; rw[E' hu]
   ·refine⟨⟨Qo,Qo⟩,QO Qo ⟨Qo,?_⟩⟩;rw[R2]; simp only[Vt]; rw[C' (by rw[hu]; decide)]
  ·have RN:=Ou RN;have:k=W.IF.length:=Qo;subst this;rw[R2]; rfl
theorem zl6{g:Int}(h:My bs w p W m)(h4:W.IF.length<=4)(ht:Yk W.IE)(hu:Q6 W.IE g=true):PX bs VL #[.pointer p,I g] w (I (T9 W.IE g (JZ W.IF))):=
 FH p g λwr hx=>by
  have h:=(h.ext hx).less (cs:=[]) Qs;have hr:Q6 W.IE 0=true:=Q5.2 ⟨Qd,by have:=ht.len; omega,ht.ru⟩;obtain⟨r1,r2,_⟩:=Q5.1 hr;refine⟨_,K7 h h4,λvs=>∃(x s:Int),vs=[I x,I s]/\Q6 W.IE x=true/\T9 W.IE x s=T9 W.IE g (JZ W.IF),λvs=>(dep 3 W.IE (ZQ 0 vs)).toNat,⟨g,_,rfl,hu,rfl⟩,?_⟩;rintro x s ⟨x',s',he,hux,hI⟩;simp only[I5,I6,true_and,and_true] at he;obtain⟨rfl,rfl⟩:=he;refine⟨λhz=>?_,λhz=>?_⟩
  ·have hz:x≠0:=by simpa using hz
   obtain⟨hp,a,b,d,e,e2,hd⟩:=Yl ht hux hz;unfold T9 at hI;rw[YP ht hux hz,List.cons_append,List.foldl_cons] at hI
   exact⟨h.some,_,_,_,h.IE,h.rd.g.ix a b,_,h.rd.g.IF a b,_,Mh,h.some,_,_,_,h.IE,h.rd.g.ix a b,_,h.rd.g.parent a b,⟨_,_,rfl,hp,hI⟩,by
    show (dep 3 W.IE (gi W.IE x).parent).toNat<(dep 3 W.IE x).toNat;omega⟩
  ·have hz:x=0:=by simpa using hz
   subst hz;unfold T9 at hI;rw[show Zc W.IE 0=[] from Zr _ _] at hI;refine⟨h.some,_,_,_,h.IE,h.rd.g.ix r1 r2,_,h.rd.g.IF r1 r2,_,Mh,?_⟩;unfold T9;rw[<-hI]; rfl
theorem Ko{g mask:Int}(h:My bs w p W m)(h4:W.IF.length<=4)(ht:Yk W.IE)(hu:Q6 W.IE g=true):PX bs Xa #[.pointer p,I mask,I g] w (I (Qy W g mask)):=
 L8 p mask g λwr hx=>by
  have h:=(h.ext hx).less (cs:=[]) Qs;refine⟨_,zl6 h h4 ht hu,_,Mh,λg1=>?_,λg1=>⟨λg2=>?_,λg2=>⟨_,K7 h h4,?_⟩⟩⟩
  ·unfold Qy; rw[E' (by simpa using g1)]
  ·unfold Qy; rw[C' (by simpa using g1),E' (by simpa using g2)]
  ·unfold Qy; rw[C' (by simpa using g1),C' (by simpa using g2)]
theorem zcf{t:Int}(h:My bs w p W m)(h4:W.IF.length<=4)(ht:Yk W.IE)(t0:0<=t)(t1:t<(W.tasks.length:Int))(hu:Q6 W.IE (Q9 W t).group=true):PX bs U7 #[.pointer p,I t] w (I (Qy W (Q9 W t).group (Q9 W t).mask)):=
 GI p t λwr hx=>by
  have h:=(h.ext hx).less (cs:=[]) Qs;exact⟨h.some,_,_,_,h.tasks,h.rd.t.ix QF t0 t1,_,h.rd.t.f t0 t1 (j:=4) rfl,h.some,_,_,_,h.tasks,h.rd.t.ix QF t0 t1,_,h.rd.t.f t0 t1 (j:=1) rfl,_,Ko h h4 ht hu,rfl⟩
theorem D8{t c g:Int}(h:My bs w p W m)(t0:0<=t)(t1:t<(W.tasks.length:Int)):PX bs Ji #[.agg #[.pointer p,I c],I t,I g] w (.bool (OQ W g c t.toNat)):=
 E7 p c t g λwr hx=>by
  have h:=(h.ext hx).less (cs:=[]) Qs;refine λ_ _=>⟨h.some,_,_,_,h.tasks,h.rd.t.ix QF t0 t1,_,_,_,_,_,_,_,_,_,h.rd.t t t0 t1,λ_ _=>?_⟩
  unfold OQ;rw[show ((t.toNat:Nat):Int)=t by omega]
theorem Fh{k c g:Int}(h:My bs w p W m)(ha:WA W)(k0:0<=k)(k1:k<(W.IE.length:Int))(c0:0<=c)(c1:c<(W.IF.length:Int)):PX bs JM #[.agg #[.pointer p,I c],I k,I g] w (.bool (Jf W g c k.toNat)):=
 FK p c k g λwr hx=>by
  have h:=(h.ext hx).less (cs:=[]) Qs
  have hc:(((k != 0)&&(gi W.IE k).used)&&((gi W.IE k).parent==g))=true->c<((gi W.IE k).IG.length:Int):=λq=>by
   simp only[A'] at q;rw[ha.sl (Q5.2 ⟨k0,k1,q.1.2⟩)]; exact c1
  refine λ_ _=>⟨λ_=>h.some,_,_,_,λ_=>h.IE,λ_=>h.rd.g.ix k0 k1,_,λ_=>h.rd.g.used k0 k1,λ_=>h.some,_,_,_,λ_=>h.IE,λ_=>h.rd.g.ix k0 k1,_,λ_=>h.rd.g.parent k0 k1,zxh m k c,λq=>Zw h k0 k1 c0 (hc q),λq=>(h.sh k0 k1 c0 (hc q)).1,(Qb W k c).on,λq=>(h.sh k0 k1 c0 (hc q)).2 (j:=1) rfl,?_⟩
  unfold Jf;rw[show ((k.toNat:Nat):Int)=k by omega]
  have e:decide (1<=k.toNat)=(k != 0):=by
   by_cases hk:k=0
   ·subst hk; rfl
   ·rw[Ii Qo,Iu.2 hk]
  rw[e,Bool.and_assoc,Bool.and_assoc,Bool.and_assoc,Bool.and_assoc]
theorem K5{g c:Int}(h:My bs w p W m)(ha:WA W)(c0:0<=c)(c1:c<(W.IF.length:Int)):PX bs Xk #[.agg #[.pointer p,I c],I g] w (.bool (QV W g c)):=
 E5 p c g λwr hx=>by
  have h:=(h.ext hx).less (cs:=[]) Qs;have cP:=ha.gl;have ht:=ha.t;refine λ_ _=>⟨h.some,_,_,_,h.tasks,?_⟩
  refine XL W.tasks.length 0 rfl (λk=>k<=W.tasks.length/\∀j:Nat,j<k->OQ W g c j=false) ⟨Ie _,λj hj=>Is hj (Nat.not_lt_zero j)⟩ λk ⟨hk,hI⟩=>⟨λIU=>?_,λRN=>?_⟩
  ·have IU:=Ot IU;refine⟨_,D8 h Qo IU,λhy=>?_,λhn=>⟨⟨Qo,Qo⟩,QI Qo ⟨Qo,λj hj=>?_⟩⟩⟩
   ·rw[Ih] at hy;unfold QV;rw[DB.2 ⟨k,Qo,hy⟩]; rfl
   ·by_cases iP:j<k
    ·exact hI j iP
    ·have:j=k:=Qo;subst this
     rwa[Ih] at hn
  ·have RN:=Ou RN;have jH:TN (OQ W g c) W.tasks.length=false:=zi2 λj hj=>hI j Qo
   refine⟨h.some,_,_,_,h.IE,?_⟩;refine XL W.IE.length 0 rfl (λk=>k<=W.IE.length/\∀j:Nat,j<k->Jf W g c j=false) ⟨Ie _,λj hj=>Is hj (Nat.not_lt_zero j)⟩ λk ⟨hk,hI⟩=>⟨λIU=>?_,λRN=>?_⟩
   ·have IU:=Ot IU;refine⟨_,Fh h ha Qo IU c0 c1,λhy=>?_,λhn=>⟨⟨Qo,Qo⟩,QI Qo ⟨Qo,λj hj=>?_⟩⟩⟩
    ·rw[Ih] at hy;unfold QV;rw[DB.2 ⟨k,Qo,hy⟩,Bool.or_true]
    ·by_cases iP:j<k
     ·exact hI j iP
     ·have:j=k:=Qo;subst this
      rwa[Ih] at hn
   ·have RN:=Ou RN;have:TN (Jf W g c) W.IE.length=false:=zi2 λj hj=>hI j Qo
    unfold QV;rw[jH,this]; rfl
theorem zch{g c:Int}(h:My bs w p W m)(ha:WA W)(hu:Q6 W.IE g=true)(c0:0<=c)(c1:c<(W.IF.length:Int)):PX bs UR #[.agg #[.pointer p,I c],I g] w (.bool (Uq W g c)):=
 Cx p c g λwr hx=>by
  have h:=(h.ext hx).less (cs:=[]) Qs;obtain⟨u1,u2,_⟩:=Q5.1 hu
  have hd:(decide ((gi W.IE g).IQ.IZ>0))=true->c<((gi W.IE g).IQ.Rz.length:Int):=λg1=>by
   have:=Ot g1;rw[(ha.dl hu Qo).1]; exact c1
  exact λ_ _=>⟨h.some,_,_,_,h.IE,h.rd.g.ix u1 u2,_,_,_,_,_,_,_,_,_,h.rd.g.IQ u1 u2,λ_ _=>⟨λg1=>(h.rd.g.Rz g u1 u2).ix DO c0 (hd g1),_,λg1=>(h.rd.g.Rz g u1 u2) c c0 (hd g1),rfl⟩⟩
theorem D7{t c:Int}(h:My bs w p W m)(ha:WA W)(t0:0<=t)(t1:t<(W.tasks.length:Int))(c0:0<=c)(c1:c<(W.IF.length:Int))(hu:(Q9 W t).state=1->Q6 W.IE (Q9 W t).group=true) :
  PX bs Jh #[.agg #[.pointer p,I c],I t] w (.bool (((Q9 W t).R3==c)&&ZL W t)):=
 E6 p c t λwr hx=>by
  have h:=(h.ext hx).less (cs:=[]) Qs;refine λ_ _=>⟨h.some,_,_,_,h.tasks,h.rd.t.ix QF t0 t1,_,_,_,_,_,_,_,_,_,h.rd.t t t0 t1,λ_ _=>⟨λg=>?_,λg=>?_⟩⟩
  ·have g':(((Q9 W t).state != 1)||((Q9 W t).R3 != c))=true:=g
   have:(((Q9 W t).R3==c)&&ZL W t)=false:=by
    unfold ZL;simp only[Iv,Iu] at g';rcases g' with e | e
    ·rw[beq_eq_false_iff_ne.2 e,Bool.false_and,Bool.and_false]
    ·rw[beq_eq_false_iff_ne.2 e,Bool.false_and]
   rw[this]
  ·have g':(((Q9 W t).state != 1)||((Q9 W t).R3 != c))=false:=g;simp only[I0,bne_eq_false_iff_eq] at g';obtain⟨hs,hc⟩:=g';have hug:=hu hs
   have hL:(((Q9 W t).R3==c)&&ZL W t)=Vp W (Q9 W t).group c:=by
    unfold ZL; rw[It.2 hs,It.2 hc,Bool.true_and,Bool.true_and,hc]
   rw[hL];refine⟨λvs=>∃x:Int,vs=[I x]/\Q6 W.IE x=true/\Vp W x c=Vp W (Q9 W t).group c,λvs=>(dep 3 W.IE (ZQ 0 vs)).toNat,⟨_,rfl,hug,rfl⟩,?_⟩;rintro x ⟨x',he,hux,hI⟩;simp only[I5,I6,true_and,and_true] at he;subst he;refine⟨λhz=>?_,λhz=>?_⟩
   ·have hz:x≠0:=by simpa using hz
    obtain⟨hp,a,b,d,e,e2,hd⟩:=Yl ha.tree hux hz;have vY:c<((gi W.IE x).IG.length:Int):=by rw[ha.sl hux]; exact c1
    unfold Vp at hI;rw[YP ha.tree hux hz,List.all_cons] at hI
    refine⟨_,Zw h a b c0 vY,(h.sh a b c0 vY).1,_,(h.sh a b c0 vY).2 (j:=1) rfl,λg2=>?_,λg2=>⟨h.some,_,_,_,h.IE,h.rd.g.ix a b,_,h.rd.g.parent a b,⟨_,rfl,hp,?_⟩,by
     show (dep 3 W.IE (gi W.IE x).parent).toNat<(dep 3 W.IE x).toNat;omega⟩⟩
    ·have g2:(Qb W x c).on=false:=by simpa using g2
     rw[g2,Bool.false_and] at hI;unfold Vp;rw[<-hI]
    ·have g2:(Qb W x c).on=true:=by simpa using g2
     rw[g2,Bool.true_and] at hI;exact hI
   ·have hz:x=0:=by simpa using hz
    subst hz;unfold Vp at hI;rw[show Zc W.IE 0=[] from Zr _ _,List.all_nil] at hI;unfold Vp;rw[<-hI]
end
structure zxe (W:Q7):Prop where
 n1:0<=W.now
 n2:W.now<=100000000000000000
 c1:1<=W.IF.length
 c2:W.IF.length<=4
 t:W.tasks.length=12
 tree:Yk W.IE
 ups:JZ W.IF≠0
structure z2d (W:Q7) (g:ZV):Prop where
 none:g.IQ.IZ=0->Ow g.IQ=true/\g.period=0/\g.next=0
 IQ:g.IQ.IZ≠0->V4 g.IQ/\g.IQ.locals.length=W.IF.length/\1<=g.period/\g.period<=1000/\W.now<g.next/\g.next-W.now<=g.period
structure z2b (W:Q7) (g:ZV):Prop where
 w1:1<=g.weight
 w2:g.weight<=20
 m:OH g.IF=true
 m0:g.IF≠0
 s:ZU g.sum=true
 len:g.IG.length=W.IF.length
 q:z2d W g
def zxi(W:Q7)(k:Int):Prop:=((gi W.IE k).used=false->ztr (gi W.IE k))/\((gi W.IE k).used=true->z2b W (gi W.IE k))
theorem Fe{W:Q7}{k:Int}:MR W k↔zxi W k/\((gi W.IE k).used=true->k=0->(gi W.IE k).weight=10/\(gi W.IE k).IF=15/\(gi W.IE k).IQ.IZ=0):=by
 constructor
 ·intro p;exact⟨⟨p.1,λhu=>by have q:=p.2 hu; exact⟨q.w1,q.w2,q.m,q.m0,q.s,q.len,⟨q.none,q.IQ⟩⟩⟩,λhu=>(p.2 hu).root⟩
 ·rintro⟨p,r⟩;exact⟨p.1,λhu=>by have q:=p.2 hu; exact⟨q.w1,q.w2,q.m,q.m0,q.s,q.len,r hu,q.q.none,q.q.IQ⟩⟩
section
variable {W:Q7}{m:MW}{w:Wo}{bs:List Nat}{p:OA}
theorem zck{k:Int}(h:My bs w p W m)(n1:0<=W.now)(n2:W.now<=100000000000000000)(k0:0<=k)(k1:k<(W.IE.length:Int))(hf:zil (gi W.IE k)) :
  PX bs XD #[.pointer p,.agg (Yv (gi W.IE k) (m.ms k.toNat)).toArray] w (.bool (U6 (z2d W (gi W.IE k)))):=
 GJ p (gi W.IE k).used (gi W.IE k).parent (gi W.IE k).name (gi W.IE k).weight (gi W.IE k).IF (gi W.IE k).period (gi W.IE k).next (gi W.IE k).sum (gi W.IE k).IQ.IZ (gi W.IE k).IQ.RJ (gi W.IE k).IQ.SB (m.ms k.toNat).lO (gi W.IE k).IQ.locals.length (m.ms k.toNat).lC (m.ms k.toNat).dO (gi W.IE k).IQ.Rz.length (m.ms k.toNat).dC (m.ms k.toNat).sO (gi W.IE k).IG.length (m.ms k.toNat).sC λwr hx=>by
  have h:=(h.ext hx).less (cs:=[]) Qs
  have hp:((U6 (V4 (gi W.IE k).IQ)&&(((gi W.IE k).IQ.locals.length:Nat):Int)==((W.IF.length:Nat):Int))&&YQ (gi W.IE k).period 1 1000)=true->1<=(gi W.IE k).period/\(gi W.IE k).period<=1000:=λq=>by
   simp only[A'] at q;exact Qu.1 q.2
  refine λ_ _=>⟨_,Lp (b:=(gi W.IE k).IQ) (m:=m.ms k.toNat),λg=>Pz ?_,λg=>⟨_,zfr (b:=(gi W.IE k).IQ) (m:=m.ms k.toNat) (h.rd.g.locals k k0 k1) (h.rd.g.Rz k k0 k1) hf.lo,λ_=>h.some,_,_,_,λ_=>h.IF,_,λ_=>QW,λ_=>h.some,_,λ_=>h.now,λ_=>⟨Qo,Qo⟩,λ_=>h.some,_,λ_=>h.now,λq=>⟨by have:=hp q; omega,by have:=hp q; omega⟩,_,λ_=>QW,Pz ?_⟩⟩
  ·have q0:=(GE g).1;simp only[A',It];exact⟨λe=>⟨λ_=>⟨g,e.1,e.2⟩,λgE=>Is q0 gE⟩,λq=>(q.none q0).2⟩
  ·simp only[A',It,Qh,Qu];constructor
   ·rintro⟨⟨⟨e1,e2⟩,e3⟩,e4⟩;have:=e1.q1;exact⟨λhz=>by omega,λ_=>⟨e1,Qo,e3.1,e3.2,Qo,Qo⟩⟩
   ·intro q
    have hq:(gi W.IE k).IQ.IZ≠0:=λe=>by
     have:=(q.none e).1;rw[this] at g; cases g
    have r:=q.IQ hq;exact⟨⟨⟨r.1,by have:=r.2.1; omega⟩,r.2.2.1,r.2.2.2.1⟩,by have:=r.2.2.2.2.1; omega,by have:=r.2.2.2.2.2; omega⟩
theorem Cb(h:My bs w p W m)(hs:zxe W)(hf:∀i:Int,0<=i->i<(W.IE.length:Int)->zil (gi W.IE i)):PX bs Xn #[.pointer p] w (.bool (U6 (∀k:Int,0<=k->k<8->MR W k))):=
 LJ p λwr hx=>by
  have h:=(h.ext hx).less (cs:=[]) Qs;have cP:=hs.tree.len;refine⟨h.some,_,_,_,h.IE,?_⟩;refine XL W.IE.length 0 rfl (λk=>k<=W.IE.length/\∀j:Int,0<=j->j<(k:Int)->zxi W j) ⟨Ie _,λj h0 h1=>by omega⟩ λk ⟨hk,hI⟩=>⟨λIU=>?_,λRN=>?_⟩
  ·have IU:=Ot IU;have k0:(0:Int)<=(k:Int):=Qo
   have nxt:zxi W (k:Int)->∀j:Int,0<=j->j<((k+1:Nat):Int)->zxi W j:=λhq j h0 h1=>by
    by_cases iP:j<(k:Int)
    ·exact hI j h0 iP
    ·have:j=(k:Int):=Qo;subst this; exact hq
   refine⟨h.rd.g.ix k0 IU,_,_,_,_,_,_,_,_,_,_,_,_,_,_,_,_,_,_,_,_,h.rd.g.cells k k0 IU,λ_ _=>⟨λg=>?_,λg=>?_⟩⟩
   ·have hu:(gi W.IE (k:Int)).used=false:=by simpa using g
    refine⟨_,BX (g:=gi W.IE (k:Int)) (m:=m.ms (k:Int).toNat) hu,λg2=>LI λpp=>?_,λg2=>⟨⟨Qo,Qo⟩,QI Qo ⟨Qo,nxt ⟨λ_=>Qh.1 (by simpa using g2),λhu'=>by rw[hu'] at hu; cases hu⟩⟩⟩⟩;have g2:U6 (ztr (gi W.IE (k:Int)))=false:=by simpa using g2
    exact G7.1 g2 ((Fe.1 (pp (k:Int) k0 Qo)).1.1 hu)
   ·have hu:(gi W.IE (k:Int)).used=true:=by simpa using g
    have bad:¬z2b W (gi W.IE (k:Int))->¬∀k:Int,0<=k->k<8->MR W k:=λhn pp=>hn ((Fe.1 (pp (k:Int) k0 Qo)).1.2 hu)
    refine⟨_,Pn,_,λ_=>Pm,λg2 b1 gH=>⟨ZU (gi W.IE (k:Int)).sum,λ_ wx hxw hcx=>z3f hcx,λ_=>h.some,_,_,_,λ_=>h.IF,_,λ_=>zck h hs.n1 hs.n2 k0 IU (hf _ k0 IU),λg3=>LI (bad λq=>?_),λg3=>⟨⟨Qo,Qo⟩,QI Qo ⟨Qo,nxt ⟨λhu'=>(by rw[hu'] at hu; cases hu),λ_=>?_⟩⟩⟩⟩,λg2=>⟨λe=>(by cases e),none,0,0,λe=>(by cases e),false,λe=>(by simp at e),λg3=>LI (bad λq=>g2 ?_),λg3=>(by simp at g3)⟩⟩
    ·have e1:YQ (gi W.IE (k:Int)).weight 1 20=true:=Qu.2 ⟨q.w1,q.w2⟩;have e2:((gi W.IE (k:Int)).IF != 0)=true:=by simpa using q.m0
     have e5:(((gi W.IE (k:Int)).IG.length:Nat):Int)=((W.IF.length:Nat):Int):=by have:=q.len; omega
     rw[e1,e2,q.m,q.s,e5,Qh.2 q.q] at g3;simp at g3
    ·simp only[I0,I7,bne_eq_false_iff_eq,Qu,A',Iu,Qh] at g3;obtain⟨⟨⟨⟨a1,a2⟩,a3⟩,a4⟩,a5⟩:=g3;exact⟨a1.1,a1.2,a2.2,a2.1,a3,Qo,a5⟩
    ·have e1:YQ (gi W.IE (k:Int)).weight 1 20=true:=Qu.2 ⟨q.w1,q.w2⟩;have e2:((gi W.IE (k:Int)).IF != 0)=true:=by simpa using q.m0
     rw[e1,e2,q.m]; rfl
  ·have RN:=Ou RN;have h0:(0:Int)<(W.IE.length:Int):=Qo;refine⟨h.some,_,_,_,h.IE,h.rd.g.ix Qd h0,_,_,_,_,_,_,_,_,_,_,_,_,_,_,_,_,_,_,_,_,h.rd.g.cells 0 Qd h0,λ_ _=>Pz ?_⟩;simp only[A',It];constructor
   ·rintro⟨⟨e1,e2⟩,e3⟩ j j0 j1;exact Fe.2 ⟨hI j j0 Qo,λ_ hj=>by subst hj; exact⟨e1,e2,e3⟩⟩
   ·intro pp;have r:=(Fe.1 (pp 0 Qd Qd)).2 hs.tree.ru rfl;exact⟨⟨r.1,r.2.1⟩,r.2.2⟩
theorem zxe.wa(hs:zxe W)(hg:∀k:Int,0<=k->k<8->MR W k):WA W:=⟨hs.n1,hs.n2,hs.c1,hs.c2,hs.t,hs.tree,hs.ups,hg⟩
theorem zvw{n:Int}:YQ n (-10) 9=true↔Qf n≠0:=by
 unfold Qf
 cases h:YQ n (-10) 9 with
 | true=>
  have:=Qu.1 h;simp; omega
 | false=>simp
def zai(W:Q7)(t:Int):Prop:=A7 W t/\((Q9 W t).state=1->ZU (Qb W (Q9 W t).group (Q9 W t).R3).floor=true)
theorem zco(h:My bs w p W m)(ha:WA W)(lg:W.IE.length<=maxLen):PX bs XF #[.pointer p] w (.bool (U6 (∀t:Int,0<=t->t<12->zai W t))):=
 GL p λwr hx=>by
  have h:=(h.ext hx).less (cs:=[]) Qs;have cP:=ha.gl;have fH:=ha.t;refine⟨h.some,_,_,_,h.tasks,?_⟩;refine XL W.tasks.length 0 rfl (λk=>k<=W.tasks.length/\∀j:Int,0<=j->j<(k:Int)->zai W j) ⟨Ie _,λj h0 h1=>by omega⟩ λk ⟨hk,hI⟩=>⟨λIU=>?_,λRN=>?_⟩
  ·have IU:=Ot IU;have k0:(0:Int)<=(k:Int):=Qo
   have nxt:zai W (k:Int)->Qm .i64 ((k:Int)+1)/\zrt (λk=>k<=W.tasks.length/\∀j:Int,0<=j->j<(k:Int)->zai W j) [I ((k:Int)+1)]/\Xe W.tasks.length 0 [I ((k:Int)+1)]<Xe W.tasks.length 0 [I (k:Int)]:=λhq=>⟨⟨Qo,Qo⟩,QI Qo ⟨Qo,λj h0 h1=>by
    by_cases iP:j<(k:Int)
    ·exact hI j h0 iP
    ·have:j=(k:Int):=Qo;subst this; exact hq⟩⟩
   have bad:¬zai W (k:Int)->¬∀t:Int,0<=t->t<12->zai W t:=λhn pp=>hn (pp (k:Int) k0 Qo)
   refine⟨h.rd.t.ix QF k0 IU,_,_,_,_,_,_,_,_,_,h.rd.t k k0 IU,λ_ _=>⟨_,λwq=>zdv H9 (k9 (gi W.tasks (k:Int)) O0) _ _ wq,λg=>?_,λg=>?_⟩⟩
   ·rw[B6,Ik] at g;have hz:Q9 W (k:Int)=O0:=g;exact nxt ⟨.inl ⟨by rw[hz]; rfl,hz⟩,λe=>by rw[hz] at e; cases e⟩
   ·rw[B6,decide_eq_false_iff_not] at g;have hz:¬Q9 W (k:Int)=O0:=g
    have get:zai W (k:Int)->zxl W (gi W.tasks (k:Int)):=λq=>by
     rcases q.1 with ⟨_,e⟩ | ⟨_,q⟩
     ·exact Is e hz
     ·exact q
    refine⟨λ_=>h.some,_,_,_,λ_=>h.IE,_,λ_=>On (c:=m.gC) h.rd.g lg,_,λ_=>K6,_,λ_=>Pm,λg2=>LI (bad λq=>?_),λg2 b1 gH=>?_⟩
    ·have q:=get q;have e3:YQ (gi W.tasks (k:Int)).nice (-10) 9=true:=zvw.2 q.n;have e4:((gi W.tasks (k:Int)).mask != 0)=true:=by simpa using q.m0
     rw[q.g,e3,q.m,e4] at g2;simp only[Bool.not_true,Bool.or_false,Bool.and_true,A',Iu] at g2;have:=q.st;omega
    ·simp only[I0,I7,A',Iu] at g2;obtain⟨⟨⟨a1,a2⟩,a3⟩,a4⟩:=g2
     have st:(gi W.tasks (k:Int)).state=1\/(gi W.tasks (k:Int)).state=2:=by
      by_cases h1:(gi W.tasks (k:Int)).state=1
      ·exact .inl h1
      ·refine .inr ?_;have:((gi W.tasks (k:Int)).state != 1)=true:=by simpa using h1
       rw[this,Bool.true_and] at a1
       simpa using a1
     refine⟨_,λwx hxw hcx=>z3p hcx,_,λ_=>zfx,_,λ_=>zcf h ha.c2 ha.tree k0 IU a2,_,λ_=>zcd,λg3=>LI (bad λq=>?_),λg3=>?_⟩
     ·have q:=get q;have e4:YQ (gi W.tasks (k:Int)).load 0 8000000=true:=Qu.2 ⟨q.l1,q.l2⟩;have e5:Z7 (Qy W (Q9 W (k:Int)).group (Q9 W (k:Int)).mask) (gi W.tasks (k:Int)).R3=true:=q.c;rw[q.v,q.s,q.u,e4,e5] at g3;cases g3
     ·simp only[I0,I7,Qu,A'] at g3;obtain⟨⟨b1',b2⟩,b3⟩:=g3;obtain⟨u1,u2,_⟩:=Q5.1 a2;obtain⟨c0,c1⟩:=KV ha b3;have hsl:=ha.sl a2;have c2:(gi W.tasks (k:Int)).R3<((gi W.IE (gi W.tasks (k:Int)).group).IG.length:Int):=Qo;have sh:=h.sh (g:=(gi W.tasks (k:Int)).group) u1 u2 c0 c2
      have mk:(((Q9 W (k:Int)).state=1->ZU (Qb W (Q9 W (k:Int)).group (Q9 W (k:Int)).R3).floor=true/\Kd (gi W.tasks (k:Int)).v (Qb W (gi W.tasks (k:Int)).group (gi W.tasks (k:Int)).R3).floor (Qf (gi W.tasks (k:Int)).nice)=true))->zai W (k:Int):=λhf=>⟨.inr ⟨λe=>by
        have e:(gi W.tasks (k:Int)).state=0:=e;omega,⟨st,a2,zvw.1 a3,a4.2,a4.1,b1'.1,b1'.2.1,b1'.2.2,b2.1,b2.2,b3,λe=>(hf e).2⟩⟩,λe=>(hf e).1⟩
      refine⟨_,_,JD,_,Zw h u1 u2 c0 c2,sh.1,_,sh.2 (j:=0) rfl,λ_ b2 cN=>⟨ZU (Qb W (gi W.tasks (k:Int)).group (gi W.tasks (k:Int)).R3).floor,λ_ wx hxw hcx=>z3f hcx,_,λ_ _=>Lo,_,λg4 _=>Gp b1'.1 (by simpa using g4),λg4=>LI (bad λq=>?_),λg4=>nxt (mk λe=>?_)⟩,λg4=>⟨λe=>(by cases e),λ_=>nxt (mk λe=>Is (It.2 e) g4)⟩⟩
      ·simp only[A',It,Iv,ID] at g4;have e1:=(get q).f g4.1;have e2:=q.2 g4.1;rcases g4.2 with g5 | g5
       ·have e2:ZU (Qb W (gi W.tasks (k:Int)).group (gi W.tasks (k:Int)).R3).floor=true:=e2;rw[e2] at g5; cases g5
       ·rw[e1] at g5; cases g5
      ·have e':((gi W.tasks (k:Int)).state==1)=true:=It.2 e;rw[e',Bool.true_and] at g4;simp only[I0,I7] at g4;exact g4
  ·have RN:=Ou RN;exact znm λt h0 h1=>hI t h0 Qo
theorem BY(h:My bs w p W m)(ha:WA W)(hf:∀i:Int,0<=i->i<(W.IE.length:Int)->zil (gi W.IE i)):PX bs Xb #[.pointer p] w (.bool (U6 (∀k c:Int,0<=k->k<8->0<=c->c<((gi W.IE k).IG.length:Int)->MS W k c))):=
 Lb p λwr hx=>by
  have h:=(h.ext hx).less (cs:=[]) Qs;have cP:=ha.gl;have tP:=ha.c2
  let TS:=λ(k c:Int)=>ZU (Qb W k c).floor=true/\ZU (Qb W k c).v=true/\ZU (Qb W k c).sum=true/\1<=(Qb W k c).w/\(Qb W k c).w<=20
  have ts:(∀k c:Int,0<=k->k<8->0<=c->c<((gi W.IE k).IG.length:Int)->MS W k c)->∀k c:Int,0<=k->k<8->0<=c->c<((gi W.IE k).IG.length:Int)->TS k c:=λq k c h0 h1 h2 h3=>by
   have r:=q k c h0 h1 h2 h3;exact⟨r.f,r.v,r.s,r.w1,r.w2⟩
  refine⟨h.some,_,_,_,h.IE,?_⟩;refine XL W.IE.length 0 rfl (λk=>k<=W.IE.length/\∀j c:Int,0<=j->j<(k:Int)->0<=c->c<((gi W.IE j).IG.length:Int)->TS j c) ⟨Ie _,λj c h0 h1=>by omega⟩ λk ⟨hk,hI⟩=>⟨λIU=>?_,λRN=>?_⟩
  ·have IU:=Ot IU;have k0:(0:Int)<=(k:Int):=Qo;have hsm:(gi W.IE (k:Int)).IG.length<=maxLen:=(hf _ k0 IU).sh;refine⟨h.rd.g.ix k0 IU,_,_,_,_,_,_,_,_,_,_,_,_,_,_,_,_,_,_,_,_,h.rd.g.cells k k0 IU,λ_ _=>?_⟩;refine XL (gi W.IE (k:Int)).IG.length 0 rfl (λc=>c<=(gi W.IE (k:Int)).IG.length/\∀d:Int,0<=d->d<(c:Int)->TS (k:Int) d) ⟨Ie _,λj h0 h1=>by omega⟩ λc ⟨hc,hJ⟩=>⟨λmL=>?_,λAV5=>?_⟩
   ·have mL:=Ot mL;have c0:(0:Int)<=(c:Int):=Qo;have rs:=h.rd.g.IG (k:Int) k0 IU;refine⟨rs.ix Y7 c0 mL,_,_,_,_,_,rs c c0 mL,λ_ _ b2 cN=>⟨_,λwx hxw hcx=>z3p hcx,_,λ_=>Pn,λg=>LI λq=>?_,λg=>⟨zjw mL hsm,QI Qo ⟨Qo,λd h0 h1=>?_⟩⟩⟩⟩
    ·have r:=ts q (k:Int) (c:Int) k0 Qo c0 mL;have e4:YQ (Qb W (k:Int) (c:Int)).w 1 20=true:=Qu.2 ⟨r.2.2.2.1,r.2.2.2.2⟩;have g':((!(ZU (Qb W (k:Int) (c:Int)).floor&&(ZU (Qb W (k:Int) (c:Int)).v&&ZU (Qb W (k:Int) (c:Int)).sum))) || !YQ (Qb W (k:Int) (c:Int)).w 1 20)=true:=g;rw[r.1,r.2.1,r.2.2.1,e4] at g'
     cases g'
    ·by_cases iP:d<(c:Int)
     ·exact hJ d h0 iP
     ·have:d=(c:Int):=Qo;subst this;have g':((!(ZU (Qb W (k:Int) (c:Int)).floor&&(ZU (Qb W (k:Int) (c:Int)).v&&ZU (Qb W (k:Int) (c:Int)).sum))) || !YQ (Qb W (k:Int) (c:Int)).w 1 20)=false:=g;simp only[I0,I7,A',Qu] at g';exact⟨g'.1.1,g'.1.2.1,g'.1.2.2,g'.2.1,g'.2.2⟩
   ·have AV5:=Ou AV5;refine⟨⟨Qo,Qo⟩,QI Qo ⟨Qo,λj d h0 h1 h2 h3=>?_⟩⟩
    by_cases iP:j<(k:Int)
    ·exact hI j d h0 iP h2 h3
    ·have:j=(k:Int):=Qo;subst this;exact hJ d h2 Qo
  have RN:=Ou RN;have hT:∀j c:Int,0<=j->j<8->0<=c->c<((gi W.IE j).IG.length:Int)->TS j c:=λj c h0 h1=>hI j c h0 Qo
  refine⟨h.some,_,_,_,h.IF,?_⟩;refine XL W.IF.length 0 rfl (λc=>c<=W.IF.length/\∀d k:Int,0<=d->d<(c:Int)->0<=k->k<8->d<((gi W.IE k).IG.length:Int)->MS W k d) ⟨Ie _,λj k h0 h1=>by omega⟩ λc ⟨hc,hJ⟩=>⟨λmL=>?_,λAV5=>?_⟩
  ·have mL:=Ot mL;have c0:(0:Int)<=(c:Int):=Qo;obtain⟨r1,r2,_⟩:=Q5.1 ha.root;have hrc:(c:Int)<((gi W.IE 0).IG.length:Int):=by rw[ha.sl ha.root]; exact mL
   have sh:=h.sh (g:=0) r1 r2 c0 hrc;have tr:=hT 0 (c:Int) Qd Qd c0 hrc;refine⟨_,_,JD,λ_ _=>⟨_,Zw h r1 r2 c0 hrc,sh.1,(Qb W 0 (c:Int)).on,sh.2 (j:=1) rfl,λ_=>sh.1,(Qb W 0 (c:Int)).v,λ_=>sh.2 (j:=2) rfl,λ_=>sh.1,(Qb W 0 (c:Int)).w,λ_=>sh.2 (j:=3) rfl,λg=>LI λq=>?_,λg=>?_⟩⟩
   ·have r:=(q 0 (c:Int) Qd Qd c0 hrc).root rfl;rw[r.1,r.2.1,r.2.2] at g;simp at g
   simp only[I0,bne_eq_false_iff_eq] at g;have root:MS W 0 (c:Int):=⟨tr.1,tr.2.1,tr.2.2.1,tr.2.2.2.1,tr.2.2.2.2,λ_=>⟨g.1.1,g.1.2,g.2⟩,λgE=>Is rfl gE,λgE=>Is rfl gE⟩
   refine XL 8 1 rfl (λk=>1<=k/\k<=8/\∀j:Int,0<=j->j<(k:Int)->(c:Int)<((gi W.IE j).IG.length:Int)->MS W j (c:Int)) ⟨I8 _,Qo,λj h0 h1 _=>by
    have:j=0:=Qo;subst this; exact root⟩ λk ⟨hk1,hk,hK⟩=>⟨λIU=>?_,λbS=>?_⟩
   ·have IU:=Ot IU;have k0:(0:Int)<=(k:Int):=Qo;have kl:(k:Int)<(W.IE.length:Int):=Qo
    have nxt:((c:Int)<((gi W.IE (k:Int)).IG.length:Int)->MS W (k:Int) (c:Int))->Qm .i64 ((k:Int)+1)/\zrt (λk=>1<=k/\k<=8/\∀j:Int,0<=j->j<(k:Int)->(c:Int)<((gi W.IE j).IG.length:Int)->MS W j (c:Int)) [I ((k:Int)+1)]/\Xe 8 0 [I ((k:Int)+1)]<Xe 8 0 [I (k:Int)]:=λhq=>⟨⟨Qo,Qo⟩,QI Qo ⟨Qo,Qo,λj h0 h1 h2=>by
     by_cases iP:j<(k:Int)
     ·exact hK j h0 iP h2
     ·have:j=(k:Int):=Qo;subst this; exact hq h2⟩⟩
    refine⟨h.some,_,_,_,h.IE,h.rd.g.ix k0 kl,_,h.rd.g.used k0 kl,λg2=>nxt λhh=>?_,λg2=>?_⟩
    ·have hu:(gi W.IE (k:Int)).used=false:=by simpa using g2
     have:=((ha.grp (k:Int) k0 Qo).1 hu).l;omega
    ·have hus:(gi W.IE (k:Int)).used=true:=by simpa using g2
     have hu:Q6 W.IE (k:Int)=true:=Q5.2 ⟨k0,kl,hus⟩;have hkc:(c:Int)<((gi W.IE (k:Int)).IG.length:Int):=by rw[ha.sl hu]; exact mL
     have hp:=ha.up hu Qo;obtain⟨v1,v2,_⟩:=Q5.1 hp;have qA:(c:Int)<((gi W.IE (gi W.IE (k:Int)).parent).IG.length:Int):=by rw[ha.sl hp]; exact mL
     have sk:=h.sh (g:=(k:Int)) k0 kl c0 hkc;have sp:=h.sh (g:=(gi W.IE (k:Int)).parent) v1 v2 c0 qA;have tk:=hT (k:Int) (c:Int) k0 Qo c0 hkc;have tp:=hT (gi W.IE (k:Int)).parent (c:Int) v1 Qo c0 qA;refine⟨_,Zw h k0 kl c0 hkc,sk.1,(Qb W (k:Int) (c:Int)).on,sk.2 (j:=1) rfl,_,K5 h ha c0 mL,_,λ_=>zch h ha hu c0 mL,λ_=>sk.1,(Qb W (k:Int) (c:Int)).on,λ_=>sk.2 (j:=1) rfl,λ_ _=>sk.1,(Qb W (k:Int) (c:Int)).v,λ_ _=>sk.2 (j:=2) rfl,λ_ _=>h.some,_,_,_,λ_ _=>h.IE,λ_ _=>h.rd.g.ix k0 kl,_,λ_ _=>h.rd.g.parent k0 kl,_,λ_ _=>Zw h v1 v2 c0 qA,λ_ _=>sp.1,(Qb W (gi W.IE (k:Int)).parent (c:Int)).floor,λ_ _=>sp.2 (j:=0) rfl,λ_ _=>sk.1,(Qb W (k:Int) (c:Int)).w,λ_ _=>sk.2 (j:=3) rfl,_,λ_ _=>Gp tk.2.1 tp.1,λg3=>LI λq=>?_,λg3=>nxt λ_=>?_⟩
     ·have r:=q (k:Int) (c:Int) k0 Qo c0 hkc;have r1:=r.on Qo;simp only[Iv,A',ID,beq_eq_false_iff_ne] at g3;rcases g3 with g3 | g3
      ·exact g3 r1
      ·have:=r.st Qo g3.1;rw[this] at g3
       cases g3.2
     ·simp only[I0,I7,It] at g3;refine⟨tk.1,tk.2.1,tk.2.2.1,tk.2.2.2.1,tk.2.2.2.2,λe=>by omega,λ_=>g3.1,λ_ ho=>?_⟩;have:=g3.2;rw[ho,Bool.true_and] at this
      simpa using this
   ·have bS:=Ou bS;refine⟨⟨Qo,Qo⟩,QI Qo ⟨Qo,λd k' h0 h1 h2 h3 h4=>?_⟩⟩
    by_cases hdc:d<(c:Int)
    ·exact hJ d k' h0 hdc h2 h3 h4
    ·have:d=(c:Int):=Qo;subst this;exact hK k' h2 Qo h4
  ·have AV5:=Ou AV5;refine znm λk d h0 h1 h2 h3=>hJ d k h2 ?_ h0 h1 h3
   have hus:(gi W.IE k).used=true:=by
    cases hu:(gi W.IE k).used with
    | true=>rfl
    | false=>
     have:=((ha.grp k h0 h1).1 hu).l;omega
   have:=ha.sl (Q5.2 ⟨h0,Qo,hus⟩);omega
theorem zfv(h:My bs w p W m)(ha:WA W)(hts:∀t:Int,0<=t->t<12->A7 W t)(wY:∀k c:Int,0<=k->k<8->0<=c->c<((gi W.IE k).IG.length:Int)->MS W k c):PX bs XT #[.pointer p] w (.bool (U6 (∀c:Int,0<=c->c<(W.IF.length:Int)->Bg W c))):=
 HR p λwr hx=>by
  have h:=(h.ext hx).less (cs:=[]) Qs;have cP:=ha.gl;have fH:=ha.t;have tP:=ha.c2;have hm9:=Zl;refine⟨h.some,_,_,_,h.IF,?_⟩;refine XL W.IF.length 0 rfl (λc=>c<=W.IF.length/\∀j:Int,0<=j->j<(c:Int)->Bg W j) ⟨Ie _,λj h0 h1=>by omega⟩ λc ⟨hc,hI⟩=>⟨λIU=>?_,λRN=>?_⟩
  ·have IU:=Ot IU;have c0:(0:Int)<=(c:Int):=Qo
   have nxt:Bg W (c:Int)->Qm .i64 ((c:Int)+1)/\zrt (λc=>c<=W.IF.length/\∀j:Int,0<=j->j<(c:Int)->Bg W j) [I ((c:Int)+1)]/\Xe W.IF.length 0 [I ((c:Int)+1)]<Xe W.IF.length 0 [I (c:Int)]:=λhq=>⟨⟨Qo,Qo⟩,QI Qo ⟨Qo,λj h0 h1=>by
    by_cases iP:j<(c:Int)
    ·exact hI j h0 iP
    ·have:j=(c:Int):=Qo;subst this; exact hq⟩⟩
   have bad:¬Bg W (c:Int)->¬∀c:Int,0<=c->c<(W.IF.length:Int)->Bg W c:=λhn pp=>hn (pp (c:Int) c0 IU)
   refine⟨h.rd.c.ix Ym c0 IU,_,_,_,_,_,h.rd.c c c0 IU,λ_ _ b1 gH=>⟨_,λwx hxw hcx=>z30 hcx,λg=>LI (bad λq=>?_),λg=>⟨λg2=>nxt ?_,λg2=>?_⟩⟩⟩
   ·rw[q.b,q.i] at g; cases g
   ·simp only[I7,A'] at g;simp only[A',It] at g2;exact⟨g.1,g.2,Qo,Qo,λ_=>g2.2,λhh=>by omega⟩
   ·simp only[I7,A'] at g
    have ne:Bg W (c:Int)->0<=(gi W.IF (c:Int)).cur:=λq=>by
     rcases Int.lt_or_le (gi W.IF (c:Int)).cur 0 with C50 | B05
     ·have e1:=q.c1;have e2:=q.no C50;have e3:(gi W.IF (c:Int)).cur = -1:=Qo;rw[e3,e2] at g2;simp at g2
     ·exact B05
    have there:(YQ (gi W.IF (c:Int)).cur 0 ((W.tasks.length:Int)-1)&&((Q9 W (gi W.IF (c:Int)).cur).state != 0))=true->0<=(gi W.IF (c:Int)).cur/\(gi W.IF (c:Int)).cur<(W.tasks.length:Int):=λq=>by
     simp only[A'] at q;have:=Qu.1 q.1;omega
    have lu:0<=(gi W.IF (c:Int)).cur/\(gi W.IF (c:Int)).cur<(W.tasks.length:Int)->(Q9 W (gi W.IF (c:Int)).cur).state=1->Q6 W.IE (Q9 W (gi W.IF (c:Int)).cur).group=true:=λq hs=>(Fx ha (hts _ q.1 Qo) hs).1
    refine⟨_,_,JD,λ_ _=>⟨_,λ_=>Kp h Qo,((Q9 W (gi W.IF (c:Int)).cur).R3==(c:Int))&&ZL W (gi W.IF (c:Int)).cur,λq=>?_,_,λ_=>QW,λg3=>LI (bad λq=>?_),λg3=>?_⟩⟩
    ·simp only[I0,I7] at q;have:=there q.2;exact D7 h ha this.1 this.2 c0 IU (lu this)
    ·have t0:=ne q;have t1:=q.c2;have y:=q.yes t0;have e2:YQ (gi W.IF (c:Int)).cur 0 ((W.tasks.length:Int)-1)=true:=Qu.2 Qo;have mS:(Q9 W (gi W.IF (c:Int)).cur).state=1:=(zj5 (hts _ t0 Qo) y.2.2.2.2.1).2;have e4:YQ (gi W.IF (c:Int)).aC 1 149=true:=Qu.2 ⟨y.2.1,y.2.2.1⟩;rw[y.1,e2,mS,y.2.2.2.1,y.2.2.2.2.1,e4] at g3;simp at g3
    ·simp only[I0,I7] at g3;obtain⟨⟨⟨a1,a2⟩,a3⟩,a4⟩:=g3;obtain⟨t0,t1⟩:=there a2;have a4:=Qu.1 a4;simp only[A',It] at a3;obtain⟨CA1,oG⟩:=a3;obtain⟨q,_⟩:=zj5 (hts _ t0 Qo) oG;have au:=q.g;obtain⟨u1,u2,_⟩:=Q5.1 au
     have sl:∀{x:Int},Q6 W.IE x=true->0<=x/\x<(W.IE.length:Int)/\(c:Int)<((gi W.IE x).IG.length:Int)/\MS W x (c:Int):=λ{x} hx=>by
      obtain⟨v1,v2,_⟩:=Q5.1 hx;have c3:(c:Int)<((gi W.IE x).IG.length:Int):=by rw[ha.sl hx]; exact IU
      exact⟨v1,v2,c3,wY x (c:Int) v1 Qo c0 c3⟩
     obtain⟨_,_,c2,sp⟩:=sl au;have sh:=h.sh (g:=(Q9 W (gi W.IF (c:Int)).cur).group) u1 u2 c0 c2;have mk:Mt W (c:Int)=true->Bg W (c:Int):=λmS=>⟨g.1,g.2,Qo,t1,λhh=>by omega,λ_=>⟨a1,a4.1,a4.2,CA1,oG,mS⟩⟩
     refine⟨h.some,_,_,_,h.tasks,h.rd.t.ix QF t0 t1,_,_,_,_,_,_,_,_,_,h.rd.t _ t0 t1,λ_ _=>⟨h.rd.t _ t0 t1,rfl,h.tasks,_,Zw h u1 u2 c0 c2,sh.1,_,sh.2 (j:=0) rfl,BW q.v sp.f,_,Lo,_,VV,λg4=>LI (bad λqq=>?_),λg4=>?_⟩⟩
     ·have g4:=Ot g4;have hd:¬((Q9 W (gi W.IF (c:Int)).cur).v-(Qb W (Q9 W (gi W.IF (c:Int)).cur).group (c:Int)).floor<=Zf (gi W.IF (c:Int)).aC (Qf (Q9 W (gi W.IF (c:Int)).cur).nice)):=Int.not_le.2 g4;have:=(qq.yes t0).2.2.2.2.2;unfold Mt at this;rw[decide_eq_false hd] at this;cases this
     ·have g4:=Ou g4;have hd:(Q9 W (gi W.IF (c:Int)).cur).v-(Qb W (Q9 W (gi W.IF (c:Int)).cur).group (c:Int)).floor<=Zf (gi W.IF (c:Int)).aC (Qf (Q9 W (gi W.IF (c:Int)).cur).nice):=Int.not_lt.1 g4
      have hS:Mt W (c:Int)=TZ W (Q9 W (gi W.IF (c:Int)).cur).group (c:Int) (gi W.IF (c:Int)).aC:=by
       unfold Mt;rw[Ii hd,Bool.true_and]
      refine⟨λvs=>∃x:Int,vs=[I x]/\Q6 W.IE x=true/\TZ W x (c:Int) (gi W.IF (c:Int)).aC=TZ W (Q9 W (gi W.IF (c:Int)).cur).group (c:Int) (gi W.IF (c:Int)).aC,λvs=>(dep 3 W.IE (ZQ 0 vs)).toNat,⟨_,rfl,au,rfl⟩,?_⟩;rintro x ⟨x',he,hux,hJ⟩;simp only[I5,I6,true_and,and_true] at he;subst he;refine⟨λhz=>?_,λhz=>?_⟩
      ·have hz:x≠0:=by simpa using hz
       obtain⟨hp,a,b,d,e,e2,hd⟩:=Yl ha.tree hux hz;obtain⟨x1,x2,x3,xs⟩:=sl hux;obtain⟨p1,p2,p3,ps⟩:=sl hp;have sx:=h.sh (g:=x) x1 x2 c0 x3;have spp:=h.sh (g:=(gi W.IE x).parent) p1 p2 c0 p3;unfold TZ at hJ;rw[YP ha.tree hux hz,List.all_cons] at hJ
       refine⟨_,Zw h x1 x2 c0 x3,sx.1,_,sx.2 (j:=2) rfl,h.some,_,_,_,h.IE,h.rd.g.ix x1 x2,_,h.rd.g.parent x1 x2,_,Zw h p1 p2 c0 p3,spp.1,_,spp.2 (j:=0) rfl,BW xs.v ps.f,sx.1,_,sx.2 (j:=3) rfl,_,VV,λg5=>LI (bad λqq=>?_),λg5=>⟨h.some,_,_,_,h.IE,h.rd.g.ix x1 x2,_,h.rd.g.parent x1 x2,⟨_,rfl,hp,?_⟩,by
        show (dep 3 W.IE (gi W.IE x).parent).toNat<(dep 3 W.IE x).toNat;omega⟩⟩
       ·have g5:=Ot g5;have hd:¬((Qb W x (c:Int)).v-(Qb W (gi W.IE x).parent (c:Int)).floor<=Zf (gi W.IF (c:Int)).aC (Qb W x (c:Int)).w):=Int.not_le.2 g5;rw[decide_eq_false hd,Bool.false_and] at hJ;have:=(qq.yes t0).2.2.2.2.2;rw[hS] at this;unfold TZ at this;rw[<-hJ] at this;cases this
       ·have g5:=Ou g5;have hd:(Qb W x (c:Int)).v-(Qb W (gi W.IE x).parent (c:Int)).floor<=Zf (gi W.IF (c:Int)).aC (Qb W x (c:Int)).w:=Int.not_lt.1 g5;rw[Ii hd,Bool.true_and] at hJ;exact hJ
      ·have hz:x=0:=by simpa using hz
       subst hz;refine nxt (mk ?_);rw[hS,<-hJ];unfold TZ;rw[show Zc W.IE 0=[] from Zr _ _,List.all_nil]
  ·have RN:=Ou RN;exact znm λt h0 h1=>hI t h0 Qo
theorem zcn(h:My bs w p W m)(lc:W.IF.length<=maxLen)(lg:W.IE.length<=maxLen):PX bs XE #[.pointer p] w (.bool (U6 (zxe W))):=
 GK p λwr hx=>by
  have h:=(h.ext hx).less (cs:=[]) Qs;refine⟨h.some,_,h.now,λb hb=>⟨ZU W.now,λwx hxw hcx=>z3f hcx,λ_=>h.some,_,_,_,λ_=>h.IF,_,λ_=>QW,JZ W.IF,λg=>K7 h ?_,λ_=>h.some,_,_,_,λ_=>h.tasks,λ_=>h.some,_,_,_,λ_=>h.IE,ML W.IE,λ_=>zfu h.rd.g lg,Pz ?_⟩⟩
  ·simp only[A',Qu] at g;omega
  ·simp only[A',Qu,It,Iu,Ys,T5];constructor
   ·rintro⟨⟨⟨⟨e1,e2⟩,e3⟩,e4⟩,e5⟩;exact⟨e1.1,e1.2,Qo,Qo,Qo,e5,e3⟩
   ·intro q;have:=q.t;have:=q.c1;have:=q.c2;exact⟨⟨⟨⟨⟨q.n1,q.n2⟩,Qo⟩,q.ups⟩,Qo⟩,q.tree⟩
theorem zce(h:Xg bs w W m)(lc:W.IF.length<=maxLen)(lg:W.IE.length<=maxLen)(hf:∀i:Int,0<=i->i<(W.IE.length:Int)->zil (gi W.IE i)) :
  PX bs Pf #[.agg (Qa W m).toArray] w (.bool (Qw W)):=by
 refine FSx λwr0 wB=>zbj _ _ _ _ _ _ _ _ _ _ (R:=λv w'=>v=.bool (Qw W)/\Q0 [] wr0 w') ?_
 have h:=(h.ext wB).less (cs:=[]) Qs;intro b wb hxb hb Wd _ b1 gH
 have hP:∀{bs:List Nat} {w1:Wo},Q0 [] wb w1->(∀x∈bs,wb.heap.size<=x)->My bs w1 (some ⟨b,0,none⟩) W m:=λ{bs w1} hx hbs=>by
  have hbn:b∉bs:=λhm=>by
   have:=hbs b hm;have:=YY Wd;omega
  have hrd:Xg bs w1 W m:=((h.ext hxb).wide (cs:=bs) λx hm=>.inr (hbs x hm)).ext hx.of_nil;exact⟨PV (Qq Wd hx Qs) hbn (k0:=0) λj v hj=>by rw[Nat.zero_add,Nat.zero_add]; exact hj,hrd⟩
 let Cn:=λ(k:Nat)=>match k with
  | 0=>zxe W
  | 1=>∀k:Int,0<=k->k<8->MR W k
  | 2=>∀t:Int,0<=t->t<12->zai W t
  | 3=>∀k c:Int,0<=k->k<8->0<=c->c<((gi W.IE k).IG.length:Int)->MS W k c
  | _=>∀c:Int,0<=c->c<(W.IF.length:Int)->Bg W c
 have all:Je W->∀k:Nat,k<5->Cn k:=λq k hk=>by
  have:k=0\/k=1\/k=2\/k=3\/k=4:=Qo;rcases this with rfl | rfl | rfl | rfl | rfl
  ·exact⟨q.a.n1,q.a.n2,q.a.c1,q.a.c2,q.a.t,q.a.tree,q.a.ups⟩
  ·exact q.a.grp
  ·refine λt h0 h1=>⟨q.t t h0 h1,λhs=>?_⟩
   have hu:=Fx q.a (q.t t h0 h1) hs;obtain⟨u1,u2,_⟩:=Q5.1 hu.1;have:=q.a.gl;exact(q.s _ _ u1 Qo hu.2.1 (by rw[q.a.sl hu.1]; exact hu.2.2)).f
  ·exact q.s
  ·exact q.c
 have back:(∀k:Nat,k<5->Cn k)->Je W:=λq=>by
  have q0:zxe W:=q 0 Qd;have q1:∀k:Int,0<=k->k<8->MR W k:=q 1 Qd;have q2:∀t:Int,0<=t->t<12->zai W t:=q 2 Qd;exact⟨q0.wa q1,λt h0 h1=>(q2 t h0 h1).1,q 3 Qd,q 4 Qd⟩
 have cond:∀k:Nat,k<5->(∀j:Nat,j<k->Cn j)->∀{w1:Wo},Q0 [] wb w1->∃F:FuncId,(#[.func (.func XE) #[] #[],.func (.func Xn) #[] #[],.func (.func XF) #[] #[],.func (.func Xb) #[] #[],.func (.func XT) #[] #[]]:Array Va)[k]? = some (.func (.func F) #[] #[])/\(∀(w:Wo) (x:Va),(zbe (.func (.func F) #[] #[]) [x]).run Tryz.prog w=.ok (.enter F #[x]) w)/\∃rv:Bool,(rv=true↔Cn k)/\PX [b1] F #[.pointer (some ⟨b,0,none⟩)] w1 (.bool rv):=λk hk hj {w1} hx=>by
  have hp:=hP (bs:=[b1]) hx (by simpa using gH);have:k=0\/k=1\/k=2\/k=3\/k=4:=Qo;rcases this with rfl | rfl | rfl | rfl | rfl
  ·exact⟨_,rfl,λ_ _=>rfl,_,Qh,zcn hp lc lg⟩
  ·have q0:zxe W:=hj 0 Qd;exact⟨_,rfl,λ_ _=>rfl,_,Qh,Cb hp q0 hf⟩
  ·have q0:zxe W:=hj 0 Qd;have q1:∀k:Int,0<=k->k<8->MR W k:=hj 1 Qd;exact⟨_,rfl,λ_ _=>rfl,_,Qh,zco hp (q0.wa q1) lg⟩
  ·have q0:zxe W:=hj 0 Qd;have q1:∀k:Int,0<=k->k<8->MR W k:=hj 1 Qd;exact⟨_,rfl,λ_ _=>rfl,_,Qh,BY hp (q0.wa q1) hf⟩
  ·have q0:zxe W:=hj 0 Qd;have q1:∀k:Int,0<=k->k<8->MR W k:=hj 1 Qd;have q2:∀t:Int,0<=t->t<12->zai W t:=hj 2 Qd;have q3:∀k c:Int,0<=k->k<8->0<=c->c<((gi W.IE k).IG.length:Int)->MS W k c:=hj 3 Qd;exact⟨_,rfl,λ_ _=>rfl,_,Qh,zfv hp (q0.wa q1) (λt h0 h1=>(q2 t h0 h1).1) q3⟩
 refine⟨λvs w1=>∃k:Nat,vs=[.bool true,I (k:Int)]/\k<=5/\Q0 [] wb w1/\∀j:Nat,j<k->Cn j,Zt 5 1,λwr hx _=>⟨0,rfl,Qo,hx,λj hj=>Is hj (Nat.not_lt_zero j)⟩,?_⟩;rintro ok x w1 dK ⟨k,he,hk,hX,hI⟩;simp only[I5,I6,Value.bool.injEq,true_and,and_true] at he;obtain⟨rfl,rfl⟩:=he
 have fr:∀{w2:Wo},Q0 [b1] w1 w2->Q0 [] wb w2:=λ{w2} hx=>hX.fresh hx λy hm=>.inl (by
  have:y=b1:=by simpa using hm
  omega)
 refine⟨λIU=>?_,λRN wr hx=>⟨?_,hxb.trans (fr hx)⟩⟩
 ·have IU:=Ot IU;obtain⟨F,hF,_⟩:=cond k Qo hI hX;refine⟨.func F,#[],#[],⟨Qo,Qo,by rw[Ih]; exact hF⟩,λM' RZ We=>?_⟩;obtain⟨F',hF',hcv,rv,hrv,hpu⟩:=cond k Qo hI (fr RZ);rw[hF] at hF';simp only[I1,Value.func.injEq,Fn.func.injEq,and_self,and_true] at hF';subst hF';refine .inl ⟨F,#[.pointer (some ⟨b,0,none⟩)],?_,?_⟩
  ·exact hcv _ _
  ·refine(hpu M' (Q0.refl _ _)).mono λe w3 ⟨he,Rb⟩=>⟨rv,he,Qe Rb We,λg O' SZ=>⟨?_,hxb.trans ((fr RZ).trans Rb |>.fresh SZ λy hm=>.inl (by
    have:y=b1:=by simpa using hm
    omega))⟩,λg=>⟨⟨Qo,Qo⟩,λRq SZ _=>⟨⟨k+1,Qs,Qo,((fr RZ).trans Rb).fresh SZ λy hm=>.inl (by
    have:y=b1:=by simpa using hm
    omega),λj hj=>?_⟩,Ze (k:=k) rfl rfl Qo⟩⟩⟩
   ·have g:rv=false:=by simpa using g
    exact LI λq=>by
     rw[hrv.2 (all q k Qo)] at g; cases g
   ·by_cases iP:j<k
    ·exact hI j iP
    ·have:j=k:=Qo;subst this;exact hrv.1 (by simpa using g)
 ·have RN:=Ou RN;have:k=5:=Qo;subst this;exact znm (back hI)
end
theorem KX:zpr Tryz.prog KY 5 ZD 40 (⟨false,0,0,0,0⟩:MB):=DN Qk λ_=>rfl
theorem Ke:Tryz.prog.underlying Zs=some (.slice ZD):=Qk
theorem OZ:zpr Tryz.prog YK 9 QK 72 (⟨0,0,0,0,0,0,0,0,0⟩:Kf):=DN Qk λ_=>rfl
theorem Mw:Tryz.prog.underlying Z4=some (.slice QK):=Qk
section
variable {W:Q7}{m:MW}{w w':Wo}
structure z0l (base:Nat) (w:Wo) (W:Q7) (m:MW):Prop where
 c:Uo KY 5 ZD base w m.cO m.cC W.IF
 t:Uo YK 9 QK base w m.tO m.tC W.tasks
 g:∃ps:List (ZV×MG),ps.map (·.1)=W.IE/\(λk:Nat=>(gi ps (k:Int)).2)=m.ms/\KP base w m.gO m.gC ps
theorem z0l.mono{base aU:Nat}(h:z0l base w W m)(hb:aU<=base):z0l aU w W m:=
 ⟨h.c.mono hb,h.t.mono hb,by
  obtain⟨ps,h1,h2,h3⟩:=h.g;exact⟨ps,h1,h2,h3.mono hb⟩⟩
end
theorem y9{x bt n:Nat}(hm:x∈[bt])(h:n<=bt):n<=x:=by
 have:x=bt:=by simpa using hm
 omega
structure Sc (w0:Wo) (bs:List Nat) (w:Wo):Prop where
 ext:Q0 [] w0 w
 new:∀x∈bs,w0.heap.size<=x
theorem Sc.start(w:Wo):Sc w [] w:=⟨Q0.refl _ _,Qs⟩
theorem Sc.step{w0:Wo}{bs:List Nat}{w w':Wo}(h:Sc w0 bs w)(hx:Q0 bs w w'):Sc w0 bs w':=⟨h.ext.fresh hx λx hm=>.inl (h.new x hm),h.new⟩
theorem Sc.call{w0:Wo}{bs cs:List Nat}{w w':Wo}(h:Sc w0 bs w)(hx:Q0 cs w w')(hc:∀x∈cs,w0.heap.size<=x):Sc w0 bs w':=⟨h.ext.fresh hx λx hm=>.inl (hc x hm),h.new⟩
theorem Sc.R5{w0:Wo}{bs:List Nat}{w w':Wo}(h:Sc w0 bs w)(hx:Q0 [] w w'):Sc w0 bs w':=⟨h.ext.trans hx,h.new⟩
theorem Sc.add{w0:Wo}{bs:List Nat}{w:Wo}{b:Nat}(h:Sc w0 bs w)(hb:w.heap.size<=b):Sc w0 (bs++[b]) w:=⟨h.ext,λx hm=>by
 rcases Io.1 hm with hm | hm
 ·exact h.new x hm
 ·have:x=b:=by simpa using hm
  have:=h.ext.size;omega⟩
theorem Sc.sub{w0:Wo}{bs cs:List Nat}{w:Wo}(h:Sc w0 bs w)(hs:∀x∈cs,x∈bs):Sc w0 cs w:=⟨h.ext,λx hm=>h.new x (hs x hm)⟩
theorem Sc.put{w0:Wo}{bs:List Nat}{w w':Wo}{b:Nat}(h:Sc w0 bs w)(hx:Q0 bs w w')(hb:w.heap.size<=b):Sc w0 (bs++[b]) w':=⟨(h.step hx).ext,(h.add hb).new⟩
structure Ob {α:Type} (enc:α->List Va) (z:Nat) (ty:TypeId) (base:Nat) (bs:List Nat) (w:Wo) (o:OA) (cap:Nat) (l:List α):Prop where
 own:Uo enc z ty base w o cap l
 nb:∀x∈QE o,x∉bs
section
variable {α:Type}{enc:α->List Va}{z:Nat}{ty:TypeId}{base:Nat}{bs cs:List Nat}{w w':Wo}{o:OA}{cap:Nat}{l:List α}{b:Nat}
theorem Ob.of(h:Uo enc z ty base w o cap l)(hs:∀x∈bs,x<base):Ob enc z ty base bs w o cap l:=⟨h,λx hx hm=>by
 have:=(h.lt x hx).1;have:=hs x hm;omega⟩
theorem Ob.step(h:Ob enc z ty base bs w o cap l)(hx:Q0 bs w w'):Ob enc z ty base bs w' o cap l:=⟨h.own.ext hx h.nb,h.nb⟩
theorem Ob.R5(h:Ob enc z ty base bs w o cap l)(hx:Q0 [] w w'):Ob enc z ty base bs w' o cap l:=⟨h.own.WQ hx,h.nb⟩
theorem Ob.call(h:Ob enc z ty base bs w o cap l)(hx:Q0 cs w w')(hd:∀x∈QE o,x∉cs):Ob enc z ty base bs w' o cap l:=⟨h.own.ext hx hd,h.nb⟩
theorem Ob.add(h:Ob enc z ty base bs w o cap l)(hb:w.heap.size<=b):Ob enc z ty base (bs++[b]) w o cap l:=⟨h.own,λx hx hm=>by
 rcases Io.1 hm with hm | hm
 ·exact h.nb x hx hm
 ·have:x=b:=by simpa using hm
  have:=(h.own.lt x hx).2;omega⟩
theorem Ob.put(h:Ob enc z ty base bs w o cap l)(hx:Q0 bs w w')(hb:w.heap.size<=b):Ob enc z ty base (bs++[b]) w' o cap l:=⟨(h.step hx).own,(h.add hb).nb⟩
theorem Ob.sub(h:Ob enc z ty base bs w o cap l)(hs:∀x∈cs,x∈bs):Ob enc z ty base cs w o cap l:=⟨h.own,λx hx hm=>h.nb x hx (hs x hm)⟩
theorem Ob.mono{aU:Nat}(h:Ob enc z ty base bs w o cap l)(hb:aU<=base):Ob enc z ty aU bs w o cap l:=⟨h.own.mono hb,h.nb⟩
theorem Ob.rd[Inhabited α](h:Ob enc z ty base bs w o cap l)(hz:∀x,(enc x).length=z):Rd enc z bs w o l:=h.own.rd hz h.nb
end
theorem Rd.scb{α:Type}[Inhabited α]{enc:α->List Va}{z:Nat}{w0:Wo}{bs:List Nat}{w:Wo}{o:OA}{l:List α}(h:Rd enc z [] w0 o l)(hs:Sc w0 bs w):Rd enc z bs w o l:=(h.wide (cs:=bs) λx hm=>.inr (hs.new x hm)).ext hs.ext.of_nil
theorem Gw{bs cs:List Nat}{w w':Wo}(hx:Q0 cs w w')(hs:∀b∈bs,b<w.heap.size)(hd:∀x∈cs,x∉bs):Q8 bs w w':=λx hm=>hx.block x (hs x hm) λgX=>hd x gX hm
theorem Ob.AU1{α:Type}[Inhabited α]{P:Program}{enc:α->List Va}{z:Nat}{ty t:TypeId}{bytes:Nat}{zero:α}(E:zpr P enc z ty bytes zero)(ht:P.underlying t=some (.slice ty)){base:Nat}{bs:List Nat}{w:Wo}{o:OA}{cap:Nat}{l:List α}(hO:Ob enc z ty base bs w o cap l)(hs:∀x∈bs,x<w.heap.size)(uX:base<=w.heap.size){x:α}{b:Nat}{t':TypeId}{fz:Nat×Nat}(hb:w.heap[b]? = some (.cells (enc x).toArray t' fz))(h1:Zm (enc x)=true)(hl:l.length<=1048576)(hby:bytes<=1000)(tr:TypeId)(cs:Array Bool) :
  ∃o' nW w',(builtin .append #[t,t] tr cs #[.slice o l.length cap,.slice (some ⟨b,0,none⟩) 1 1]).run P w=.ok (.value (.slice o' (l++[x]).length nW)) w'/\Q8 bs w w'/\Ob enc z ty base bs w' o' nW (l++[x])/\Q0 (QE o) w w':=by
 have hbb:(2*(l.length+1))*bytes<=281474976710656:=IB (Nat.mul_le_mul (show 2*(l.length+1)<=2097154 by omega) hby) Qd;obtain⟨o2,c2,w2,WK,oZ,R2,ho2⟩:=zm0 E ht hO.own hb h1 hbb Qo tr cs uX;refine⟨o2,c2,w2,WK,λy hm=>R2.block y (hs y hm) λgX=>hO.nb y gX hm,⟨oZ,λy hy hm=>?_⟩,R2⟩;rcases ho2 with rfl | rfl
 ·exact hO.nb y hy hm
 ·have:y=w.heap.size:=by simpa[QE] using hy
  have:=hs y hm;omega
def XI(f:Nat->Int):Nat->Int
 | 0=>0
 | k+1=>XI f k+f k
theorem VZ{f:Nat->Int}{B:Int}(h:∀j,0<=f j/\f j<=B):∀k:Nat,0<=XI f k/\XI f k<=(k:Int)*B
 | 0=>by simp[XI]
 | k+1=>by
  have ih:=VZ h k;have:=h k;simp only[XI];rw[show ((k+1:Nat):Int)*B=(k:Int)*B+B by rw[show ((k+1:Nat):Int)=(k:Int)+1 by omega,Int.add_mul,Int.one_mul]];omega
theorem Jz(n:Int):0<=Qf n/\Qf n<=20:=by
 unfold Qf;split
 ·rename_i h;have:=Qu.1 h;omega
 ·omega
def zhn(W:Q7)(c:Int)(j:Nat):Int:=if (((Q9 W (j:Int)).R3==c)&&ZL W (j:Int))=true then Qf (Q9 W (j:Int)).nice else 0
def zl4(W:Q7)(g c:Int)(j:Nat):Int:=if ((((Q9 W (j:Int)).state==1)&&((Q9 W (j:Int)).R3==c))&&TQ 3 W.IE g (Q9 W (j:Int)).group)=true then Qf (Q9 W (j:Int)).nice else 0
theorem z05{W:Q7}{g c:Int}{k:Nat}(h:((((Q9 W (k:Int)).state==1)&&((Q9 W (k:Int)).R3==c))&&TQ 3 W.IE g (Q9 W (k:Int)).group)=true):zl4 W g c k=Qf (Q9 W (k:Int)).nice:=E' h
theorem z04{W:Q7}{g c:Int}{k:Nat}(h:((((Q9 W (k:Int)).state==1)&&((Q9 W (k:Int)).R3==c))&&TQ 3 W.IE g (Q9 W (k:Int)).group)=false):zl4 W g c k=0:=C' (by rw[h]; decide)
def Fy(W:Q7)(c:Int):Int:=XI (zhn W c) W.tasks.length
def zb9(W:Q7)(g c:Int):Int:=XI (zl4 W g c) W.tasks.length
theorem NY(W:Q7)(c:Int)(j:Nat):0<=zhn W c j/\zhn W c j<=20:=by
 unfold zhn;split
 ·exact Jz _
 ·omega
theorem zb8(W:Q7)(g c:Int)(j:Nat):0<=zl4 W g c j/\zl4 W g c j<=20:=by
 unfold zl4;split
 ·exact Jz _
 ·omega
def XJ(W:Q7)(c:Int):Bool:=YQ c 0 ((W.IF.length:Int)-1)
theorem OD{W:Q7}{c:Int}(h:XJ W c=true):0<=c/\c<(W.IF.length:Int):=by have:=Qu.1 h; omega
theorem Je.li{W:Q7}(wp:Je W){t:Int}(t0:0<=t)(t1:t<(W.tasks.length:Int))(hs:(Q9 W t).state=1):Q6 W.IE (Q9 W t).group=true/\0<=(Q9 W t).R3/\(Q9 W t).R3<(W.IF.length:Int):=by
 have:=wp.a.t;exact Fx wp.a (wp.t t t0 Qo) hs
structure TU (W:Q7):Prop where
 a:WA W
 li:∀{t:Int},0<=t->t<(W.tasks.length:Int)->(Q9 W t).state=1->Q6 W.IE (Q9 W t).group=true/\0<=(Q9 W t).R3/\(Q9 W t).R3<(W.IF.length:Int)
structure XM (W:Q7):Prop where
 c:W.IF.length<=maxLen
 t:W.tasks.length<=maxLen
 g:W.IE.length<=maxLen
 f:∀i:Int,0<=i->i<(W.IE.length:Int)->zil (gi W.IE i)
section
variable {W:Q7}{m:MW}{w:Wo}{bs:List Nat}{p:OA}
theorem Tz{c:Int}(h:Xg bs w W m)(wp:Je W):PX bs XQ #[.agg (Qa W m).toArray,I c] w (I (Fy W c)):=
 zdg _ _ _ _ _ _ _ _ _ _ c λwr hx=>by
  have h:=(h.ext hx).less (cs:=[]) Qs;have fH:=wp.a.t;intro _ _;refine P3 W.tasks.length 0 rfl (λx k=>k<=W.tasks.length/\x=XI (zhn W c) k) ⟨Ie _,rfl⟩ λx k ⟨hk,R2⟩=>⟨λIU=>?_,λRN=>?_⟩
  ·have IU:=Ot IU;have hr:=VZ (NY W c) k;have hw:=Jz (Q9 W (k:Int)).nice;have eF:zhn W c k=if (((Q9 W (k:Int)).R3==c)&&ZL W (k:Int))=true then Qf (Q9 W (k:Int)).nice else 0:=rfl;refine⟨h.t.ix QF Qo IU,_,h.t.f Qo IU (j:=0) rfl,λ_=>h.t.ix QF Qo IU,_,λ_=>h.t.f Qo IU (j:=2) rfl,ZL W (k:Int),λ_=>VE h wp.a Qo IU λhs=>wp.li Qo IU hs,λg2=>⟨h.t.ix QF Qo IU,_,h.t.f Qo IU (j:=3) rfl,Qf (Q9 W (k:Int)).nice,ZX,⟨Qo,Qo⟩,⟨Qo,Qo⟩,QO Qo ⟨Qo,?_⟩⟩,λg2=>⟨⟨Qo,Qo⟩,QO Qo ⟨Qo,?_⟩⟩⟩
   ·have g2:((((Q9 W (k:Int)).state==1)&&((Q9 W (k:Int)).R3==c))&&ZL W (k:Int))=true:=g2;simp only[A'] at g2;simp only[XI]; rw[eF,E' (by rw[g2.1.2,g2.2]; rfl),R2]
   ·have g2:((((Q9 W (k:Int)).state==1)&&((Q9 W (k:Int)).R3==c))&&ZL W (k:Int))=false:=g2
    simp only[XI]; rw[eF,C' (λhc=>by
     simp only[A'] at hc;have hl:=hc.2;unfold ZL at hl;simp only[A'] at hl;rw[hc.1,hc.2,hl.1] at g2
     cases g2),R2]; omega
  ·have RN:=Ou RN;have:k=W.tasks.length:=Qo;subst this;rw[R2]; rfl
theorem Ku{g c:Int}(h:Xg bs w W m)(wp:TU W)(hl:XM W)(hu:Q6 W.IE g=true):PX bs Uh #[.agg (Qa W m).toArray,I g,I c] w (I (zb9 W g c)):=
 Nu _ _ _ _ _ _ _ _ _ _ g c λwr hx=>by
  have h:=(h.ext hx).less (cs:=[]) Qs;have fH:=wp.a.t;intro _ _;refine P3 W.tasks.length 0 rfl (λx k=>k<=W.tasks.length/\x=XI (zl4 W g c) k) ⟨Ie _,rfl⟩ λx k ⟨hk,R2⟩=>⟨λIU=>?_,λRN=>?_⟩
  ·have IU:=Ot IU;have hr:=VZ (zb8 W g c) k;have hw:=Jz (Q9 W (k:Int)).nice
   have hun:(((Q9 W (k:Int)).state==1)&&((Q9 W (k:Int)).R3==c))=true->Pu W.IE g (Q9 W (k:Int)).group=TQ 3 W.IE g (Q9 W (k:Int)).group:=λq=>by
    simp only[A',It] at q;unfold Pu;rw[T5.2 wp.a.tree,hu,(wp.li Qo IU q.1).1]; rfl
   have eF:zl4 W g c k=if ((((Q9 W (k:Int)).state==1)&&((Q9 W (k:Int)).R3==c))&&TQ 3 W.IE g (Q9 W (k:Int)).group)=true then Qf (Q9 W (k:Int)).nice else 0:=rfl
   have e2:((((Q9 W (k:Int)).state==1)&&((Q9 W (k:Int)).R3==c))&&TQ 3 W.IE g (Q9 W (k:Int)).group)=((((Q9 W (k:Int)).state==1)&&((Q9 W (k:Int)).R3==c))&&Pu W.IE g (Q9 W (k:Int)).group):=by
    cases hq:(((Q9 W (k:Int)).state==1)&&((Q9 W (k:Int)).R3==c)) with
    | false=>rfl
    | true=>rw[hun hq]
   refine⟨h.t.ix QF Qo IU,_,_,_,_,_,_,_,_,_,h.t k Qo IU,λ_ _=>⟨Pu W.IE g (Q9 W (k:Int)).group,λ_=>Oo h.g hl.g,λg2=>⟨Qf (Q9 W (k:Int)).nice,ZX,⟨Qo,Qo⟩,⟨Qo,Qo⟩,QO Qo ⟨Qo,?_⟩⟩,λg2=>⟨⟨Qo,Qo⟩,QO Qo ⟨Qo,?_⟩⟩⟩⟩
   ·simp only[XI]; rw[z05 (W:=W) (g:=g) (c:=c) (k:=k) (e2.trans g2),R2]
   ·simp only[XI]; rw[z04 (W:=W) (g:=g) (c:=c) (k:=k) (e2.trans g2),R2]; omega
  ·have RN:=Ou RN;have:k=W.tasks.length:=Qo;subst this;rw[R2]; rfl
end
def QZ(p:Nat->Bool)(v:Nat->Int):Nat->Int
 | 0 => -1
 | k+1=>if (p k&&(decide (QZ p v k<0)||decide (v k<v (QZ p v k).toNat)))=true then (k:Int) else QZ p v k
theorem Zu(p:Nat->Bool)(v:Nat->Int):∀k:Nat,(QZ p v k = -1/\∀j,j<k->p j=false) \/
  (0<=QZ p v k/\QZ p v k<(k:Int)/\p (QZ p v k).toNat=true/\(∀j,j<k->p j=true->v (QZ p v k).toNat<=v j)/\∀j:Nat,(j:Int)<QZ p v k->p j=true->v (QZ p v k).toNat<v j)
 | 0=>.inl ⟨rfl,λj hj=>Is hj (Nat.not_lt_zero j)⟩
 | k+1=>by
  simp only[QZ];split
  ·rename_i h;simp only[A',Iv,Ik] at h;refine .inr ⟨Qo,Qo,by simpa using h.1,λj hj hp=>?_,λj hj hp=>?_⟩
   ·rw[Ih]
    by_cases iP:j=k
    ·subst iP; exact I3 _
    ·rcases Zu p v k with ⟨_,h2⟩ | ⟨h1,_,_,h4,_⟩
     ·rw[h2 j Qo] at hp; cases hp
     ·have:=h4 j Qo hp;rcases h.2 with h5 | h5 <;> omega
   ·rw[Ih];rcases Zu p v k with ⟨_,h2⟩ | ⟨h1,_,_,h4,_⟩
    ·rw[h2 j Qo] at hp; cases hp
    ·have:=h4 j Qo hp;rcases h.2 with h5 | h5 <;> omega
  ·rename_i h;rcases Zu p v k with ⟨h1,h2⟩ | ⟨h1,h2,h3,h4,h5⟩
   ·refine .inl ⟨h1,λj hj=>?_⟩
    by_cases iP:j=k
    ·subst iP
     cases hp:p j with
     | false=>rfl
     | true=>
      exfalso; apply h
      rw[hp,h1]; rfl
    ·exact h2 j Qo
   ·refine .inr ⟨h1,Qo,h3,λj hj hp=>?_,h5⟩
    by_cases iP:j=k
    ·subst iP;rcases Int.lt_or_le (v j) (v (QZ p v j).toNat) with h6 | h6
     ·exfalso; apply h
      rw[hp,Ii h6]; simp
     ·exact h6
    ·exact h4 j Qo hp
theorem zoq{p:Nat->Bool}{v:Nat->Int}{n k:Nat}(hk:k<n)(hp:p k=true)(h0:0<=QZ p v n)(hv:v k=v (QZ p v n).toNat)(hb:∀j,j<k->p j=true->v j≠v (QZ p v n).toNat):QZ p v n=(k:Int):=by
 rcases Zu p v n with ⟨h1,_⟩ | ⟨_,h2,h3,h4,h5⟩
 ·omega
 ·by_cases IU:(k:Int)<QZ p v n
  ·have:=h5 k IU hp; omega
  ·by_cases hgt:QZ p v n<(k:Int)
   ·exact Is rfl (hb _ Qo h3)
   ·omega
def Zq(W:Q7)(g c:Int)(i:Nat):Bool:=if i<12 then OQ W g c i else Jf W g c (i-12)
def Zn(W:Q7)(c:Int)(i:Nat):Int:=if i<12 then (Q9 W (i:Int)).v else (Qb W ((i-12:Nat):Int) c).v
def QX(W:Q7)(g c:Int):Int:=QZ (Zq W g c) (Zn W c) 20
def zqo:Nat->Q7->Int->Int->Int
 | 0,_,_,_ => -1
 | f+1,W,g,c=>if QX W g c<0 then -1 else if QX W g c<12 then QX W g c else zqo f W (QX W g c-12) c
def Ky(W:Q7)(g c:Int):Int:=zqo (4-dep 3 W.IE g).toNat W g c
def Qv(W:Q7)(c:Int):Int:=if (gi W.IF c).cur>=0/\(gi W.IF c).aC<50 then (gi W.IF c).cur else Ky W 0 c
theorem Vh{W:Q7}{g c:Int}{i:Nat}(h:i<12):Zq W g c i=OQ W g c i:=E' h
theorem Ua{W:Q7}{g c:Int}{i:Nat}:Zq W g c (12+i)=Jf W g c i:=by
 unfold Zq;rw[C' Qo,show 12+i-12=i by omega]
theorem DY{W:Q7}{c:Int}{i:Nat}(h:i<12):Zn W c i=(Q9 W (i:Int)).v:=E' h
theorem DX{W:Q7}{c:Int}{i:Nat}:Zn W c (12+i)=(Qb W (i:Int) c).v:=by
 unfold Zn;rw[C' Qo,show 12+i-12=i by omega]
theorem zqk(W:Q7)(g c:Int):Zq W g c 12=false:=by
 rw[show (12:Nat)=12+0 from rfl,Ua]; rfl
theorem H8{W:Q7}{g c:Int}(ha:WA W)(hu:Q6 W.IE g=true)(h:12<=QX W g c):Q6 W.IE (QX W g c-12)=true/\QX W g c-12≠0/\dep 3 W.IE (QX W g c-12)=dep 3 W.IE g+1/\QX W g c<20:=by
 unfold QX at *;rcases Zu (Zq W g c) (Zn W c) 20 with ⟨h1,_⟩ | ⟨h1,h2,h3,_,_⟩
 ·omega
 ·have e:(QZ (Zq W g c) (Zn W c) 20).toNat=12+((QZ (Zq W g c) (Zn W c) 20).toNat-12):=Qo;rw[e,Ua] at h3;unfold Jf at h3;simp only[A',Ik,It] at h3;obtain⟨⟨k1,k2,k3⟩,_⟩:=h3;have ek:(((QZ (Zq W g c) (Zn W c) 20).toNat-12:Nat):Int)=QZ (Zq W g c) (Zn W c) 20-12:=Qo;rw[ek] at k2 k3;have cP:=ha.gl;have hk:Q6 W.IE (QZ (Zq W g c) (Zn W c) 20-12)=true:=Q5.2 ⟨Qo,Qo,k2⟩;have hz:QZ (Zq W g c) (Zn W c) 20-12≠0:=Qo;obtain⟨_,_,_,d,e1,e2,_⟩:=Yl ha.tree hk hz;rw[k3] at e2;exact⟨hk,hz,Qo,Qo⟩
theorem G8{W:Q7}(ha:WA W){g:Int}(hu:Q6 W.IE g=true):0<=dep 3 W.IE g/\dep 3 W.IE g<=3:=by
 have hr:=O2 W.IE 3 g
 by_cases hz:g=0
 ·subst hz; rw[Y4]; omega
 ·obtain⟨_,_,_,d,e1,_⟩:=Yl ha.tree hu hz;omega
theorem Ng{W:Q7}(ha:WA W){g c:Int}(hu:Q6 W.IE g=true):Ky W g c=if QX W g c<0 then -1 else if QX W g c<12 then QX W g c else Ky W (QX W g c-12) c:=by
 have hd:=G8 ha hu;have e:(4-dep 3 W.IE g).toNat=(3-dep 3 W.IE g).toNat+1:=Qo;show zqo (4-dep 3 W.IE g).toNat W g c=_;rw[e];simp only[zqo];split
 ·rfl
 ·split
  ·rfl
  ·obtain⟨_,_,hk,_⟩:=H8 ha hu (c:=c) Qo;unfold Ky;rw[hk,show (4-(dep 3 W.IE g+1))=3-dep 3 W.IE g by omega]
section
variable {W:Q7}{m:MW}{w:Wo}{bs:List Nat}{p:OA}
def Z5(W:Q7)(g c:Int)(k:Nat):Int:=if QZ (Zq W g c) (Zn W c) k<0 then 0 else Zn W c (QZ (Zq W g c) (Zn W c) k).toNat
def Zx(W:Q7)(g c:Int)(k:Nat):Bool:=decide (0<=QZ (Zq W g c) (Zn W c) k)
theorem zg6{W:Q7}{g c:Int}{k:Nat}:(decide (QZ (Zq W g c) (Zn W c) k<0)||decide (Zn W c k<Zn W c (QZ (Zq W g c) (Zn W c) k).toNat))=(!Zx W g c k||decide (Zn W c k<Z5 W g c k)):=by
 unfold Zx Z5
 by_cases h:QZ (Zq W g c) (Zn W c) k<0
 ·have h2:decide (0<=QZ (Zq W g c) (Zn W c) k)=false:=decide_eq_false Qo;rw[E' h,Ii h,h2]; rfl
 ·have h2:decide (0<=QZ (Zq W g c) (Zn W c) k)=true:=Ii Qo;rw[C' h,decide_eq_false h,h2]; rfl
theorem EU{W:Q7}{g c:Int}{k:Nat}(h:(Zq W g c k&&(!Zx W g c k||decide (Zn W c k<Z5 W g c k)))=true):Z5 W g c (k+1)=Zn W c k/\Zx W g c (k+1)=true:=by
 rw[<-zg6] at h
 have e:QZ (Zq W g c) (Zn W c) (k+1)=(k:Int):=by
  simp only[QZ]; rw[E' h]
 unfold Z5 Zx;rw[e,C' Qo,Ih];exact⟨rfl,Ii Qo⟩
theorem ET{W:Q7}{g c:Int}{k:Nat}(h:(Zq W g c k&&(!Zx W g c k||decide (Zn W c k<Z5 W g c k)))=false):Z5 W g c (k+1)=Z5 W g c k/\Zx W g c (k+1)=Zx W g c k:=by
 rw[<-zg6] at h
 have e:QZ (Zq W g c) (Zn W c) (k+1)=QZ (Zq W g c) (Zn W c) k:=by
  simp only[QZ]; rw[C' (by rw[h]; decide)]
 unfold Z5 Zx;rw[e];exact⟨rfl,rfl⟩
theorem Gt{g c:Int}(h:Xg bs w W m)(ha:WA W)(c0:0<=c)(c1:c<(W.IF.length:Int)):PX bs Vz #[.agg (Qa W m).toArray,I g,I c] w (.tuple #[I (Z5 W g c 20),.bool (Zx W g c 20)]):=
 zdk _ _ _ _ _ _ _ _ _ _ g c λwr hx=>by
  have h:=(h.ext hx).less (cs:=[]) Qs;have cP:=ha.gl;have fH:=ha.t;intro _ _;refine⟨λvs=>∃k:Nat,k<=12/\vs=[I (Z5 W g c k),.bool (Zx W g c k),I (k:Int)],Xe 12 2,⟨0,Qo,rfl⟩,?_⟩;rintro bD some t ⟨k,hk,he⟩;simp only[I5,I6,Value.bool.injEq,true_and,and_true] at he;obtain⟨rfl,rfl,rfl⟩:=he;refine⟨λIU=>?_,λRN=>?_⟩
  ·have IU:=Ot IU;have wM:k<12:=Qo;refine⟨h.t.ix QF Qo IU,_,_,_,_,_,_,_,_,_,h.t k Qo IU,λ_ _=>⟨λq=>⟨⟨Qo,Qo⟩,⟨k+1,Qo,?_⟩,Ze (k:=k) rfl rfl wM⟩,λq=>⟨⟨Qo,Qo⟩,⟨k+1,Qo,?_⟩,Ze (k:=k) rfl rfl wM⟩⟩⟩
   ·have q':(Zq W g c k&&(!Zx W g c k||decide (Zn W c k<Z5 W g c k)))=true:=by rw[Vh wM,DY wM]; exact q
    obtain⟨e1,e2⟩:=EU q';rw[e1,e2,DY wM]; simp[Q9]
   ·have q':(Zq W g c k&&(!Zx W g c k||decide (Zn W c k<Z5 W g c k)))=false:=by rw[Vh wM,DY wM]; exact q
    obtain⟨e1,e2⟩:=ET q';rw[e1,e2]; simp
  ·have RN:=Ou RN;have:k=12:=Qo;subst this;have e12:Z5 W g c 13=Z5 W g c 12/\Zx W g c 13=Zx W g c 12:=ET (by rw[zqk]; rfl);refine⟨λvs=>∃k:Nat,1<=k/\k<=8/\vs=[I (Z5 W g c (12+k)),.bool (Zx W g c (12+k)),I (k:Int)],Xe 8 2,⟨1,Qo,Qo,by rw[show 12+1=13 from rfl,e12.1,e12.2]; rfl⟩,?_⟩;rintro kO DL0 t1 ⟨k,hk1,hk,he⟩;simp only[I5,I6,Value.bool.injEq,true_and,and_true] at he;obtain⟨rfl,rfl,rfl⟩:=he;refine⟨λIU=>?_,λRN=>?_⟩
   ·have IU:=Ot IU;have gD:(0:Int)<=(k:Int):=Qo
    have used:∀{x:Bool},(((gi W.IE (k:Int)).used&&((gi W.IE (k:Int)).parent==g))&&x)=true->Q6 W.IE (k:Int)=true/\c<((gi W.IE (k:Int)).IG.length:Int):=λ{x} q=>by
     simp only[A'] at q;have hu:=zk0 IU q.1.1;exact⟨hu,by rw[ha.sl hu]; exact c1⟩
    have eA:Jf W g c k=(((gi W.IE (k:Int)).used&&((gi W.IE (k:Int)).parent==g))&&(Qb W (k:Int) c).on):=by
     unfold Jf; rw[Ii hk1,Bool.true_and]
    have eP:Zq W g c (12+k)=(((gi W.IE (k:Int)).used&&((gi W.IE (k:Int)).parent==g))&&(Qb W (k:Int) c).on):=by rw[Ua,eA]
    refine⟨h.g.ix gD IU,_,h.g.used gD IU,λ_=>h.g.ix gD IU,_,λ_=>h.g.parent gD IU,(Qb W (k:Int) c).on,λq=>VF h ha (used (x:=true) (by rw[q]; rfl)).1 c0 c1,λ_ _=>h.g.ix gD IU,_,_,_,λ_ _=>h.g.RF gD IU,λ_ q=>(h.g.IG _ gD IU).ix Y7 c0 (used q).2,(Qb W (k:Int) c).v,λ_ q=>zno.f (h.g.IG _ gD IU) c0 (used q).2 (j:=2) rfl,λq=>?_,λq=>⟨⟨Qo,Qo⟩,⟨k+1,Qo,Qo,?_⟩,Ze (k:=k) rfl rfl Qo⟩⟩
    ·have q2:=q;simp only[A'] at q2;have hu:=used (x:=(Qb W (k:Int) c).on) (by simp only[A']; exact q2.1);have q':(Zq W g c (12+k)&&(!Zx W g c (12+k)||decide (Zn W c (12+k)<Z5 W g c (12+k))))=true:=by rw[eP,DX]; exact q
     obtain⟨e1,e2⟩:=EU q';refine⟨h.g.ix gD IU,_,_,_,h.g.RF gD IU,(h.g.IG _ gD IU).ix Y7 c0 hu.2,_,zno.f (h.g.IG _ gD IU) c0 hu.2 (j:=2) rfl,⟨Qo,Qo⟩,⟨k+1,Qo,Qo,?_⟩,Ze (k:=k) rfl rfl Qo⟩;rw[show 12+(k+1)=12+k+1 from rfl,e1,e2,DX]; simp[Qb]
    ·have q':(Zq W g c (12+k)&&(!Zx W g c (12+k)||decide (Zn W c (12+k)<Z5 W g c (12+k))))=false:=by rw[eP,DX]; exact q
     obtain⟨e1,e2⟩:=ET q';rw[show 12+(k+1)=12+k+1 from rfl,e1,e2]; simp
   ·have RN:=Ou RN;have:k=8:=Qo;subst this;rfl
theorem zf5{g c:Int}(h:Xg bs w W m)(ha:WA W)(hu:Q6 W.IE g=true)(c0:0<=c)(c1:c<(W.IF.length:Int)):PX bs UB #[.agg (Qa W m).toArray,I g,I c] w (I (Ky W g c)):=by
 have cP:=ha.gl;have fH:=ha.t
 have key:∀(n:Nat) (g:Int),Q6 W.IE g=true->(3-dep 3 W.IE g).toNat=n->∀{bs:List Nat} {w:Wo},Xg bs w W m->PX bs UB #[.agg (Qa W m).toArray,I g,I c] w (I (Ky W g c)):=by
  intro n
  induction n using Nat.strongRecOn with
  | ind n ih=>
   intro g hu hn bs w h;refine zgu _ _ _ _ _ _ _ _ _ _ g c λwr hx=>?_
   have h:=(h.ext hx).less (cs:=[]) Qs;have dF:=Ng ha hu (c:=c);have hd:=G8 ha hu;intro _ _;refine⟨_,_,Gt h ha c0 c1,λq=>?_,λq=>?_⟩
   ·have q:¬0<=QZ (Zq W g c) (Zn W c) 20:=by
     unfold Zx at q
     simpa using q
    have q:¬0<=QX W g c:=q;rw[dF,E' Qo]
   have hF0:0<=QZ (Zq W g c) (Zn W c) 20:=by
    unfold Zx at q
    simpa using q
   have hF:0<=QX W g c:=hF0
   have CG1:Z5 W g c 20=Zn W c (QX W g c).toNat:=by
    show (if QX W g c<0 then 0 else Zn W c (QX W g c).toNat)=_;rw[C' (show ¬QX W g c<0 by omega)]
   have found:∀k:Nat,k<20->Zq W g c k=true->Zn W c k=Z5 W g c 20->(∀j,j<k->Zq W g c j=true->Zn W c j≠Z5 W g c 20)->QX W g c=(k:Int):=λk hk hp hv hb=>by
    rw[CG1] at hv hb;exact zoq hk hp hF hv hb
   refine⟨λvs=>∃k:Nat,vs=[I (k:Int)]/\k<=12/\∀j,j<k->Zq W g c j=true->Zn W c j≠Z5 W g c 20,Xe 12 0,⟨0,rfl,Qo,λj hj=>Is hj (Nat.not_lt_zero j)⟩,?_⟩;rintro t ⟨k,he,hk,hI⟩;simp only[I5,I6,true_and,and_true] at he;subst he;refine⟨λIU=>?_,λRN=>?_⟩
   ·have IU:=Ot IU;have wM:k<12:=Qo;refine⟨h.t.ix QF Qo IU,_,_,_,_,_,_,_,_,_,h.t k Qo IU,λb1 gH=>⟨λq2=>?_,λq2=>⟨⟨Qo,Qo⟩,⟨k+1,Qs,Qo,λj hj hp hv=>?_⟩,Ze (k:=k) rfl rfl wM⟩⟩⟩
    ·have q2':(OQ W g c k&&((Q9 W (k:Int)).v==Z5 W g c 20))=true:=q2;simp only[A',It] at q2';have:=found k Qo (by rw[Vh wM]; exact q2'.1) (by rw[DY wM]; exact q2'.2) hI;rw[dF,C' Qo,E' Qo,this]
    ·by_cases iP:j<k
     ·exact hI j iP hp hv
     ·have:j=k:=Qo;subst this;rw[Vh wM] at hp;rw[DY wM] at hv;have q2':(OQ W g c j&&((Q9 W (j:Int)).v==Z5 W g c 20))=false:=q2;rw[hp,hv] at q2';simp at q2'
   ·have RN:=Ou RN;have:k=12:=Qo;subst this
    refine⟨λvs=>∃k:Nat,vs=[I (k:Int)]/\1<=k/\k<=8/\∀j,j<12+k->Zq W g c j=true->Zn W c j≠Z5 W g c 20,Xe 8 0,⟨1,rfl,Qo,Qo,λj hj hp=>by
     by_cases wL:j<12
     ·exact hI j wL hp
     ·have:j=12:=Qo;subst this;rw[zqk] at hp; cases hp⟩,?_⟩
    rintro t2 ⟨k,he,hk1,hk,hI2⟩;simp only[I5,I6,true_and,and_true] at he;subst he;refine⟨λIU=>?_,λbS=>?_⟩
    ·have IU:=Ot IU;have gD:(0:Int)<=(k:Int):=Qo
     have used:∀{x:Bool},(((gi W.IE (k:Int)).used&&((gi W.IE (k:Int)).parent==g))&&x)=true->Q6 W.IE (k:Int)=true/\c<((gi W.IE (k:Int)).IG.length:Int):=λ{x} q=>by
      simp only[A'] at q;have hu:=zk0 IU q.1.1;exact⟨hu,by rw[ha.sl hu]; exact c1⟩
     have eA:Jf W g c k=(((gi W.IE (k:Int)).used&&((gi W.IE (k:Int)).parent==g))&&(Qb W (k:Int) c).on):=by
      unfold Jf; rw[Ii hk1,Bool.true_and]
     have eP:Zq W g c (12+k)=(((gi W.IE (k:Int)).used&&((gi W.IE (k:Int)).parent==g))&&(Qb W (k:Int) c).on):=by rw[Ua,eA]
     refine⟨h.g.ix gD IU,_,h.g.used gD IU,λ_=>h.g.ix gD IU,_,λ_=>h.g.parent gD IU,(Qb W (k:Int) c).on,λq=>VF h ha (used (x:=true) (by rw[q]; rfl)).1 c0 c1,λ_=>h.g.ix gD IU,_,_,_,λ_=>h.g.RF gD IU,λq=>(h.g.IG _ gD IU).ix Y7 c0 (used q).2,(Qb W (k:Int) c).v,λq=>zno.f (h.g.IG _ gD IU) c0 (used q).2 (j:=2) rfl,λq=>?_,λq=>⟨⟨Qo,Qo⟩,⟨k+1,Qs,Qo,Qo,λj hj hp hv=>?_⟩,Ze (k:=k) rfl rfl Qo⟩⟩
     ·have q2:=q;simp only[A',It] at q2;have hfk:=found (12+k) Qo (by rw[eP]; simp only[A',It]; exact q2.1) (by rw[DX]; exact q2.2) hI2;have CP6:=H8 ha hu (c:=c) Qo;have ek:QX W g c-12=(k:Int):=Qo;rw[ek] at CP6;have hdk:=G8 ha CP6.1;refine⟨_,ih _ (show (3-dep 3 W.IE (k:Int)).toNat<n by omega) (k:Int) CP6.1 rfl h,?_⟩;rw[dF,C' Qo,C' Qo,ek]
     ·by_cases iP:j<12+k
      ·exact hI2 j iP hp hv
      ·have:j=12+k:=Qo;subst this;rw[eP] at hp;rw[DX] at hv;rw[hp,hv] at q;simp at q
    ·have bS:=Ou bS;have:k=8:=Qo;subst this;rcases Zu (Zq W g c) (Zn W c) 20 with ⟨h1,_⟩ | ⟨h1,h2,h3,_,_⟩
     ·have:QX W g c = -1:=h1;omega
     ·exact Is CG1.symm (hI2 (QX W g c).toNat (by unfold QX; omega) h3)
 exact key _ g hu rfl h
theorem zf6{c:Int}(h:Xg bs w W m)(ha:WA W)(c0:0<=c)(c1:c<(W.IF.length:Int)):PX bs Mc #[.agg (Qa W m).toArray,I c] w (I (Qv W c)):=by
 refine zgv _ _ _ _ _ _ _ _ _ _ c λwr hx=>?_
 have h:=(h.ext hx).less (cs:=[]) Qs;intro _ _;refine⟨h.c.ix Ym c0 c1,_,h.c.f c0 c1 (j:=1) rfl,λ_=>h.c.ix Ym c0 c1,_,λ_=>h.c.f c0 c1 (j:=2) rfl,λg=>⟨h.c.ix Ym c0 c1,_,h.c.f c0 c1 (j:=1) rfl,?_⟩,λg=>⟨_,zf5 h ha ha.root c0 c1,?_⟩⟩
 ·simp only[A',Ik] at g;unfold Qv; rw[E' g]
 ·unfold Qv; rw[C' (λhc=>by
   rw[Ii hc.1,Ii hc.2] at g; cases g)]
end
def IV(W:Q7)(t:Int)(x:Kf):Q7:={ W with tasks:=W.tasks.set t.toNat x }
def S8(W:Q7)(c:Int)(x:MB):Q7:={ W with IF:=W.IF.set c.toNat x }
def Rf(W:Q7)(g:Int)(x:ZV):Q7:={ W with IE:=W.IE.set g.toNat x }
def Rx(W:Q7)(g c:Int)(s:KN):Q7:=Rf W g { gi W.IE g with IG:=(gi W.IE g).IG.set c.toNat s }
def RP(W:Q7)(g:Int)(b:JB):Q7:=Rf W g { gi W.IE g with IQ:=b }
theorem zb3{α:Type}[Inhabited α](l:List α)(i:Int):gi l i=gi l ((i.toNat:Nat):Int):=by unfold gi; rw[Ih]
structure Z1 (gs gs':List ZV):Prop where
 len:gs'.length=gs.length
 u:∀i:Int,(gi gs' i).used=(gi gs i).used
 p:∀i:Int,(gi gs' i).parent=(gi gs i).parent
 n:∀i:Int,(gi gs' i).name=(gi gs i).name
theorem Z1.refl(gs:List ZV):Z1 gs gs:=⟨rfl,λ_=>rfl,λ_=>rfl,λ_=>rfl⟩
theorem Z1.trans{a b c:List ZV}(h:Z1 a b)(k:Z1 b c):Z1 a c:=⟨k.len.trans h.len,λi=>(k.u i).trans (h.u i),λi=>(k.p i).trans (h.p i),λi=>(k.n i).trans (h.n i)⟩
theorem Z1.fD{gs gs':List ZV}(h:Z1 gs gs')(i:Int):Q6 gs' i=Q6 gs i:=by unfold Q6; rw[h.len,h.u]
theorem Z1.dep{gs gs':List ZV}(h:Z1 gs gs'):∀(f:Nat) (i:Int),YtnclplgaicdapaaGreatDoor.dep f gs' i=YtnclplgaicdapaaGreatDoor.dep f gs i
 | 0,i=>rfl
 | f+1,i=>by simp only[YtnclplgaicdapaaGreatDoor.dep]; rw[h.p,h.dep f]
theorem Z1.path{gs gs':List ZV}(h:Z1 gs gs'):∀(f:Nat) (i:Int),V2 f gs' i=V2 f gs i
 | 0,i=>rfl
 | f+1,i=>by simp only[V2]; rw[h.p,h.path f]
theorem Z1.tree{gs gs':List ZV}(h:Z1 gs gs')(t:Yk gs):Yk gs':=
 ⟨by rw[h.len]; exact t.len,by rw[h.u]; exact t.ru,by rw[h.p]; exact t.rp,by rw[h.n]; exact t.rn,λg a b c=>by rw[h.u] at c; rw[h.n]; exact t.nm g a b c,λg a b c=>by rw[h.u] at c; rw[h.fD,h.p]; exact t.par g a b c,
  λg a b c=>by rw[h.u] at c; rw[h.dep]; exact t.dp g a b c,λg k a b c d e=>by rw[h.u] at d e; rw[h.p,h.p,h.n,h.n]; exact t.uniq g k a b c d e⟩
theorem Yz{W:Q7}{g:Int}{x:ZV}(h0:0<=g)(h1:g<(W.IE.length:Int)){i:Int}(hi:0<=i):gi (Rf W g x).IE i=if g=i then x else gi W.IE i:=QG _ _ h0 h1 hi
theorem U5{W:Q7}{g:Int}{x:ZV}(h0:0<=g)(h1:g<(W.IE.length:Int))(u:x.used=(gi W.IE g).used)(p:x.parent=(gi W.IE g).parent)(n:x.name=(gi W.IE g).name):Z1 W.IE (Rf W g x).IE:=by
 have key:∀i:Int,gi (Rf W g x).IE i=if g=((i.toNat:Nat):Int) then x else gi W.IE i:=λi=>by
  rw[zb3,Yz h0 h1 Qo,<-zb3 W.IE i]
 refine⟨H',λi=>?_,λi=>?_,λi=>?_⟩
 all_goals
  rw[key];split
  ·rename_i e;rw[zb3 W.IE i,<-e]; assumption
  ·rfl
theorem WA.set{W:Q7}(ha:WA W){g:Int}{x:ZV}(h0:0<=g)(h1:g<8)(u:x.used=(gi W.IE g).used)(p:x.parent=(gi W.IE g).parent)(n:x.name=(gi W.IE g).name)(hN:x.used=false->ztr x)(hU:x.used=true->znq W g x):WA (Rf W g x):=by
 have hl:=ha.gl;refine⟨ha.n1,ha.n2,ha.c1,ha.c2,ha.t,(U5 h0 Qo u p n).tree ha.tree,ha.ups,λk k0 k1=>?_⟩;show MR (Rf W g x) k;unfold MR;rw[Yz h0 Qo k0]
 by_cases e:g=k
 ·subst e;rw[E' rfl];exact⟨hN,λhu=>by have:=hU hu; exact⟨this.w1,this.w2,this.m,this.m0,this.s,this.len,this.root,this.none,this.IQ⟩⟩
 ·rw[C' e];have:=ha.grp k k0 k1;exact⟨this.1,λhu=>by have:=this.2 hu; exact⟨this.w1,this.w2,this.m,this.m0,this.s,this.len,this.root,this.none,this.IQ⟩⟩
theorem WA.Rx{W:Q7}(ha:WA W){g c:Int}{s:KN}(h0:0<=g)(h1:g<8):WA (Rx W g c s):=by
 have hg:=ha.grp g h0 h1;refine ha.set h0 h1 rfl rfl rfl (λhu=>?_) λhu=>?_
 ·have:=hg.1 hu;exact⟨this.p,this.n,this.w,this.c,this.pe,this.ne,this.s,by rw[H']; exact this.l,this.b⟩
 ·have:=hg.2 hu;exact⟨this.w1,this.w2,this.m,this.m0,this.s,by rw[H']; exact this.len,this.root,this.none,this.IQ⟩
theorem Jw{W:Q7}{g c:Int}{s:KN}(h0:0<=g)(h1:g<(W.IE.length:Int))(c0:0<=c)(c1:c<((gi W.IE g).IG.length:Int)){i d:Int}(hi:0<=i)(hd:0<=d):Qb (Rx W g c s) i d=if g=i/\c=d then s else Qb W i d:=by
 unfold Qb YtnclplgaicdapaaGreatDoor.Rx;rw[Yz h0 h1 hi]
 by_cases e:g=i
 ·subst e;rw[E' rfl,QG _ _ c0 c1 hd]
  by_cases e2:c=d
  ·rw[E' e2,E' ⟨rfl,e2⟩]
  ·rw[C' e2,C' (λh=>e2 h.2)]
 ·rw[C' e,C' (λh=>e h.1)]
theorem J5{W:Q7}{g c:Int}{s:KN}(h0:0<=g)(h1:g<(W.IE.length:Int)):Z1 W.IE (Rx W g c s).IE:=U5 h0 h1 rfl rfl rfl
theorem H6{W:Q7}{g c:Int}{s:KN}(h0:0<=g)(h1:g<(W.IE.length:Int)){i d:Int}(hi:0<=i):Uq (Rx W g c s) i d=Uq W i d:=by
 unfold Uq YtnclplgaicdapaaGreatDoor.Rx;rw[Yz h0 h1 hi];split
 ·rename_i e; subst e; rfl
 ·rfl
theorem zg7{W:Q7}{g c:Int}{s:KN}(h0:0<=g)(h1:g<(W.IE.length:Int)){i:Int}(hi:0<=i):(gi (Rx W g c s).IE i).IQ=(gi W.IE i).IQ:=by
 unfold YtnclplgaicdapaaGreatDoor.Rx;rw[Yz h0 h1 hi];split
 ·rename_i e; subst e; rfl
 ·rfl
theorem NA{W:Q7}{g c:Int}{s:KN}(h0:0<=g)(h1:g<(W.IE.length:Int)){i:Int}(hi:0<=i):(gi (Rx W g c s).IE i).IG.length=(gi W.IE i).IG.length:=by
 unfold YtnclplgaicdapaaGreatDoor.Rx;rw[Yz h0 h1 hi];split
 ·rename_i e; subst e; simp
 ·rfl
structure SW (K:Int) (W:Q7):Prop where
 a:WA W
 t:∀t:Int,0<=t->t<12->(Q9 W t).state≠0->Q6 W.IE (Q9 W t).group=true/\0<=(Q9 W t).R3/\(Q9 W t).R3<(W.IF.length:Int)
 tv:∀t:Int,0<=t->t<12->0<=(Q9 W t).v/\(Q9 W t).v<=K
 s:∀k c:Int,Q6 W.IE k=true->0<=c->c<(W.IF.length:Int)->0<=(Qb W k c).floor/\(Qb W k c).floor<=K/\0<=(Qb W k c).v/\(Qb W k c).v<=K/\1<=(Qb W k c).w/\(Qb W k c).w<=20
 cu:∀c:Int,0<=c->c<(W.IF.length:Int)->-1<=(gi W.IF c).cur/\(gi W.IF c).cur<12
structure SF (F K:Int) (W:Q7):Prop where
 w:SW K W
 f:∀k c:Int,Q6 W.IE k=true->0<=c->c<(W.IF.length:Int)->(Qb W k c).floor<=F
theorem SW.mono{K K':Int}{W:Q7}(h:SW K W)(hk:K<=K'):SW K' W:=
 ⟨h.a,h.t,λt a b=>by have:=h.tv t a b; omega,λk c u a b=>by have:=h.s k c u a b; omega,h.cu⟩
theorem SW.sf{K:Int}{W:Q7}(h:SW K W):SF K K W:=⟨h,λk c u a b=>(h.s k c u a b).2.1⟩
theorem SF.mono{F K F' K':Int}{W:Q7}(h:SF F K W)(hf:F<=F')(hk:K<=K'):SF F' K' W:=⟨h.w.mono hk,λk c u a b=>by have:=h.f k c u a b; omega⟩
theorem SW.li{K:Int}{W:Q7}(h:SW K W){t:Int}(t0:0<=t)(t1:t<(W.tasks.length:Int))(hs:(Q9 W t).state=1):Q6 W.IE (Q9 W t).group=true/\0<=(Q9 W t).R3/\(Q9 W t).R3<(W.IF.length:Int):=by
 have hl:=h.a.t;exact h.t t t0 Qo Qo
theorem SF.Rx{F K:Int}{W:Q7}(h:SF F K W){g c:Int}{s:KN}(hu:Q6 W.IE g=true)(c0:0<=c)(c1:c<(W.IF.length:Int))(f0:0<=s.floor)(f1:s.floor<=F)(fk:s.floor<=K)(v0:0<=s.v)(v1:s.v<=K)(w1:1<=s.w)(w2:s.w<=20):SF F K (Rx W g c s):=by
 obtain⟨u0,u1,_⟩:=Q5.1 hu;have hl:=h.w.a.gl;have hs:=h.w.a.sl hu;have hT:=J5 (W:=W) (g:=g) (c:=c) (s:=s) u0 u1
 have e:∀k d:Int,Q6 (YtnclplgaicdapaaGreatDoor.Rx W g c s).IE k=true->0<=d->Qb (YtnclplgaicdapaaGreatDoor.Rx W g c s) k d=if g=k/\c=d then s else Qb W k d:=λk d uk hd=>by
  rw[hT.fD] at uk;exact Jw u0 u1 c0 Qo (Q5.1 uk).1 hd
 refine⟨⟨h.w.a.Rx u0 Qo,λt a b n=>by rw[hT.fD]; exact h.w.t t a b n,h.w.tv,λk d uk a b=>?_,h.w.cu⟩,λk d uk a b=>?_⟩
 ·rw[e k d uk a];rw[hT.fD] at uk;split
  ·exact⟨f0,fk,v0,v1,w1,w2⟩
  ·exact h.w.s k d uk a b
 ·rw[e k d uk a];rw[hT.fD] at uk;split
  ·exact f1
  ·exact h.f k d uk a b
def ZM(W:Q7)(k c:Int):KN:=
 { Qb W k c with
  v:=if (QV W k c && !Uq W k c)=true/\(Qb W k c).on=false then (Qb W (gi W.IE k).parent c).floor+Y1 ((Qb W k c).v-(Qb W (gi W.IE k).parent c).floor) (Qb W k c).w else (Qb W k c).v
  on:=QV W k c && !Uq W k c }
def Zi(W:Q7)(c d:Int):Nat->Q7
 | 0=>W
 | k+1=>if (gi (Zi W c d k).IE (k:Int)).used=true/\dep 3 (Zi W c d k).IE (k:Int)=d then Rx (Zi W c d k) (k:Int) c (ZM (Zi W c d k) (k:Int) c) else Zi W c d k
theorem zsk{W:Q7}{c d:Int}(h:d≠0):Zi W c d 1=W:=by
 show (if (gi W.IE ((0:Nat):Int)).used=true/\dep 3 W.IE ((0:Nat):Int)=d then _ else W)=W;refine C' λhc=>h ?_
 have:=hc.2;rw[show (((0:Nat):Int))=0 from rfl,Y4] at this;exact this.symm
def Yy(W:Q7)(c:Int):Nat->Q7
 | 0=>W
 | j+1=>Zi (Yy W c j) c (3-(j:Int)) 8
def QL(W:Q7)(c:Int):Q7:=Yy W c 3
abbrev Qj:Int:=34686091440
theorem zvh{F K:Int}{W:Q7}(h:SF F K W)(hk:F+Qj<=K){k c d:Int}(hu:Q6 W.IE k=true)(hd:dep 3 W.IE k=d)(d1:1<=d)(c0:0<=c)(c1:c<(W.IF.length:Int)):SF F K (Rx W k c (ZM W k c)):=by
 have hz:k≠0:=λe=>by subst e; rw[Y4] at hd; omega
 have hp:=h.w.a.up hu hz;have s1:=h.w.s k c hu c0 c1;have s2:=h.w.s _ c hp c0 c1;have f1:=h.f k c hu c0 c1;have f2:=h.f _ c hp c0 c1;have lc:=ZG ((Qb W k c).v-(Qb W (gi W.IE k).parent c).floor) (Qb W k c).w;have lm:=ZC (Qb W k c).w;refine h.Rx hu c0 c1 s1.1 f1 (by show (Qb W k c).floor<=K; omega) ?_ ?_ s1.2.2.2.2.1 s1.2.2.2.2.2
 ·simp only[ZM]; split <;> omega
 ·simp only[ZM]; simp only[Qj] at hk; split <;> omega
end Go.Proofs.YtnclplgaicdapaaGreatDoor
