/- Part 8 of what the law FnDropEmpty needs. -/
import Derived.Test.YtnclplgaicdapaaGreatDoorFnDropEmptyPg
import Derived.Laws.StructEq
set_option linter.unusedVariables false
set_option linter.unusedSimpArgs false
set_option maxRecDepth 100000
set_option maxHeartbeats 8000000
namespace Go.Proofs.YtnclplgaicdapaaGreatDoor
open Go.RowKit
def Ag (P:Program):List Field->Nat->List Va->List Va->Option Bool
 | [],_,[],[]=>some true
 | f :: r, k, x :: xs, y :: ys => bif decide (f.name ≠ "_") && Nat.beq f.offset k then
   (match Ag P r (k+1) xs ys with
   | some q=>(match P.underlying f.type,x,y with
    | some (.int _),.int a n,.int b m=>bif decide (a=b) then some ((n==m)&&q) else none
    | some .bool,.bool n,.bool m=>some ((n==m)&&q)
    | some .string,.string n,.string m=>some (Zw n m&&q)
    | _,_,_=>none)
   | none=>none) else none
 | _,_,_,_=>none
theorem Dj {P:Program} (d:Nat) (w:Wo) (xs ys:List Va):∀(fs:List Field) (k:Nat) (b:Bool),Ag P fs k (xs.drop k) (ys.drop k)=some b->(Op.eqFields (d+1) xs.toArray ys.toArray fs).run P w=.ok b w
 | [],k,b,h=>by
  have hb:some true=some b:=by
   cases ex:xs.drop k with
   | nil=>
    cases ey:ys.drop k with
    | nil=>rw[ex,ey] at h; exact h
    | cons y ys'=>rw[ex,ey] at h; cases h
   | cons x xs'=>rw[ex] at h; cases h
  simp only[I1] at hb
  subst hb
  simp[Op.eqFields]
 | f::r,k,b,h=>by
  have hx:∀{l:List Va} {x:Va} {q:List Va},l.drop k=x::q->l[k]? = some x/\l.drop (k+1)=q:=fun {l x q} e=>by
   have h1:l[k]? = (l.drop k)[0]? := by simp
   have h2:l.drop (k+1)=(l.drop k).drop 1:=Qs
   rw[h1,h2,e]; simp
  cases exx:xs.drop k with
  | nil=>rw[exx] at h; cases h
  | cons x xs'=>
  cases eyy:ys.drop k with
  | nil=>rw[exx,eyy] at h; cases h
  | cons y ys'=>
   rw[exx,eyy] at h
   simp only[Ag] at h
   obtain⟨gx,dx⟩:=hx exx
   obtain⟨gy,dy⟩:=hx eyy
   cases hc : (decide (f.name ≠ "_") && Nat.beq f.offset k) with
   | false=>rw[hc] at h; cases h
   | true=>
    rw[hc] at h
    simp only[cond_true] at h
    simp only[A',Ik] at hc
    have hof:=Ic hc.2
    split at h
    ·rename_i q hq
     have ih:=Dj d w xs ys r (k+1) q (by rw[dx,dy]; exact hq)
     have Br4:∀{D:TypeDesc},P.underlying f.type=some D->PA D=false->(part f.type xs.toArray f.offset).run P w=.ok x w/\(part f.type ys.toArray f.offset).run P w=.ok y w:=fun {D} hu hD=>by
      rw[hof]
      simp[part,UU hu,hD,gx,gy]
     split at h
     ·rename_i K a n b' m hu
      cases hab:decide (a=b') with
      | false=>rw[hab] at h; cases h
      | true=>
       have:=Ot hab
       subst this
       rw[hab] at h
       simp only[cond_true,I1] at h
       subst h
       obtain⟨p1,p2⟩:=Br4 hu rfl
       simp only[Op.eqFields,E' hc.1,Sem.run_bind,p1,p2,Result.andThen_ok,run_equalIn_int w d f.type a K n m hu,Sem.run_ite]
       cases n==m <;> simp[ih]
     ·rename_i n m hu
      simp only[I1] at h
      subst h
      obtain⟨p1,p2⟩:=Br4 hu rfl
      simp only[Op.eqFields,E' hc.1,Sem.run_bind,p1,p2,Result.andThen_ok,run_equalIn_bool' w d f.type n m hu,Sem.run_ite]
      cases n==m <;> simp[ih]
     ·rename_i n m hu
      simp only[I1] at h
      subst h
      obtain⟨p1,p2⟩:=Br4 hu rfl
      simp only[Op.eqFields,E' hc.1,Sem.run_bind,p1,p2,Result.andThen_ok,run_equalIn_string w d f.type n m hu,Sem.run_ite]
      unfold Zw
      cases n.toList==m.toList <;> simp[ih]
     ·cases h
    ·cases h
structure zj8 (P:Program) (t:TypeId):Prop where
 u:P.underlying t=some (.struct (P.fieldsOf t))
 s:P.stoodInHeld t=false
 g:P.eqGuardType P.depth t=false
theorem Dk{P:Program}{t:TypeId}(F:zj8 P t){xs ys:List Va}{b:Bool}(h:Ag P (P.fieldsOf t).toList 0 xs ys=some b)(w:Wo):(Op.equal t (.agg xs.toArray) (.agg ys.toArray)).run P w=.ok b w:=by
 have:=run_equalIn_struct (P:=P) w 9999 t xs.toArray ys.toArray F.u F.s;rw[Dj 9998 w xs ys _ 0 b (by simpa using h)] at this;exact this
theorem Co{P:Program}{t:TypeId}(F:zj8 P t){xs ys:List Va}{b:Bool}(h:Ag P (P.fieldsOf t).toList 0 xs ys=some b)(x y:Operand)(w:Wo):((do eqGuard .eql t x y (.agg xs.toArray) (.agg ys.toArray); binOp .eql t (.agg xs.toArray) (.agg ys.toArray)):Sem Va).run P w=.ok (.bool b) w:=by
 have:=Dk F h w;simp only[Op.equal,Op.maxDepth] at this;simp only[Sem.run_bind,run_eqGuard_agg w .eql t x y _ _ F.g,Result.andThen_ok,run_eql_struct,this]
theorem Oq:zj8 Tryz.prog QI:=⟨Qk,Qk,Qk⟩
def JI(p:Int)(n:ByteArray):Va:=.agg #[I p,.string n]
theorem zit(p q:Int)(n m:ByteArray):Ag Tryz.prog (Tryz.prog.fieldsOf QI).toList 0 [I p,.string n] [I q,.string m]=some ((p==q)&&(Zw n m&&true)):=Qk
theorem zcw(p q:Int)(n m:ByteArray)(w:Wo):(Op.equal QI (JI p n) (JI q m)).run Tryz.prog w=.ok (decide (p=q/\n=m)) w:=by
 have:=Dk Oq (zit p q n m) w
 have e:((p==q)&&(Zw n m&&true))=decide (p=q/\n=m):=by
  rw[Do,Bool.and_true]
  by_cases h1:p=q <;> by_cases h2:n=m <;> simp[h1,h2]
 rw[e] at this;exact this
theorem zhm(p:Int)(n:ByteArray)(w:Wo):∀(es:List MapEntry) (i:Nat),(∀e∈es,∃q m v,e.key=JI q m/\e.val=I v)->
  (∃(j:Nat) (v:Int),(Instr.findAsking QI (JI p n) es i).run Tryz.prog w=.ok (some (j,I v)) w/\∃e∈es,e.key=JI p n) \/
  ((Instr.findAsking QI (JI p n) es i).run Tryz.prog w=.ok none w/\∀e∈es,e.key≠JI p n)
 | [],i,_=>.inr ⟨by simp[Instr.findAsking],fun e he=>by cases he⟩
 | e::r,i,h=>by
  obtain⟨q,m,v,hk,hv⟩:=h e (Ia ..)
  by_cases hq:p=q/\n=m
  ·refine .inl ⟨i,v,?_,e,Ia ..,by rw[hk,hq.1,hq.2]⟩;simp only[Instr.findAsking,hk,Sem.run_bind,zcw,Ii hq,Result.andThen_ok,if_true,Sem.run_pure,hv]
  ·have gW:(Instr.findAsking QI (JI p n) (e::r) i).run Tryz.prog w=(Instr.findAsking QI (JI p n) r (i+1)).run Tryz.prog w:=by
    simp only[Instr.findAsking,hk,Sem.run_bind,zcw,decide_eq_false hq,Result.andThen_ok,Bool.false_eq_true,if_false]
   have gA:e.key≠JI p n:=fun e'=>by
    rw[hk] at e';simp only[JI,Value.agg.injEq,List.toArray_inj,Array.mk.injEq,I5,I6,true_and,Value.string.injEq,and_true] at e';exact hq ⟨e'.1.symm,e'.2.symm⟩
   rcases zhm p n w r (i+1) (fun x hx=>h x (I2 _ hx)) with ⟨j,v',h1,x,hx,h2⟩ | ⟨h1,h2⟩
   ·exact .inl ⟨j,v',by rw[gW]; exact h1,x,I2 _ hx,h2⟩
   ·exact .inr ⟨by rw[gW]; exact h1,fun x hx=>by
     rcases Ij.1 hx with rfl | hx
     ·exact gA
     ·exact h2 x hx⟩
theorem Fm(p:Int)(n:ByteArray)(w:Wo)(es:List MapEntry)(h:∀e∈es,∃q m v,e.key=JI q m/\e.val=I v) :
  (∃(j:Nat) (v:Int),(Instr.findKey QI (JI p n) es).run Tryz.prog w=.ok (some (j,I v)) w/\∃e∈es,e.key=JI p n) \/
  ((Instr.findKey QI (JI p n) es).run Tryz.prog w=.ok none w/\∀e∈es,e.key≠JI p n):=by
 cases es with
 | nil=>exact .inr ⟨by simp[Instr.findKey,run_underlying Oq.u,Instr.findNow],fun e he=>by cases he⟩
 | cons e r=>
  have hs:(Instr.findKey QI (JI p n) (e::r)).run Tryz.prog w=(Instr.findAsking QI (JI p n) (e::r) 0).run Tryz.prog w:=by
   simp[Instr.findKey,run_underlying Oq.u,Instr.findNow,Instr.sameNow]
  rw[hs];exact zhm p n w (e::r) 0 h
theorem Ae:∃a b:Field,(Tryz.prog.fieldsOf QI).toList=[a,b]/\a.type=Qb/\a.offset=0/\b.type=Zy/\b.offset=1:=⟨(Tryz.prog.fieldsOf QI)[0]!,(Tryz.prog.fieldsOf QI)[1]!,Qk,Qk,Qk,Qk,Qk⟩
theorem MI (em:Bool) (p:Int) (n:ByteArray) (w:Wo):(Instr.checkKey em 10000 QI (JI p n)).run Tryz.prog w=.ok () w:=by
 obtain⟨a,b,hl,a1,a2,b1,b2⟩:=Ae
 have p1:(part Qb #[.int .i64 p,.string n] 0).run Tryz.prog w=.ok (.int .i64 p) w:=by simp[part,UU zue,PA]
 have p2:(part Zy #[.int .i64 p,.string n] 1).run Tryz.prog w=.ok (.string n) w:=by simp[part,UU CA,PA]
 have c1:∀d:Nat,(Instr.checkKey em (d+1) Qb (.int .i64 p)).run Tryz.prog w=.ok () w:=fun d=>by simp[Instr.checkKey,run_underlying zue]
 have c2:∀d:Nat,(Instr.checkKey em (d+1) Zy (.string n)).run Tryz.prog w=.ok () w:=fun d=>by simp[Instr.checkKey,run_underlying CA]
 have key:∀d:Nat,(Instr.checkKey em (d+1+1) QI (JI p n)).run Tryz.prog w=.ok () w:=fun d=>by
  rw[Instr.checkKey]
  simp only[JI,Sem.run_bind,run_underlying Oq.u,Result.andThen_ok]
  rw[<-Array.forIn_toList,hl]
  by_cases ha : a.name ≠ "_" <;> by_cases hb : b.name ≠ "_" <;> simp [ha, hb, a1, a2, b1, b2, p1, p2, c1, c2]
 exact key 9998
theorem F8:Tryz.prog.underlying Zx=some (.map QI Qb):=Qk
theorem zw4(w:Wo):(zeroValue Qb).run Tryz.prog w=.ok (I 0) w:=by
 have h:(match Tryz.prog.info? Qb with | some i=>i.zero | none=>none)=some (I 0):=Qk
 cases hi:Tryz.prog.info? Qb with
 | none=>rw[hi] at h; cases h
 | some i=>
  rw[hi] at h;simp only at h;simp[zeroValue,Je hi,h]
def H5(w:Wo)(b:Nat)(es:Array MapEntry):Prop:=(∃c,w.heap[b]? = some (.map es c))/\∀e∈es.toList,∃q m v,e.key=JI q m/\e.val=I v
theorem zqo{w:Wo}{b:Nat}{es:Array MapEntry}(h:H5 w b es)(p:Int)(n:ByteArray) :
  ∃(v:Int) (ok:Bool),(Instr.lookup Zx (.map (some b)) (JI p n) true).run Tryz.prog w=.ok (.tuple #[I v,.bool ok]) w/\(ok=true↔∃e∈es.toList,e.key=JI p n):=by
 obtain⟨⟨c,hc⟩,hes⟩:=h;have hg:(getObj b).run Tryz.prog w=.ok (.map es c) w:=by simp[getObj,Sem.run,hc]
 rcases Fm p n w es.toList hes with ⟨j,v,h1,h2⟩ | ⟨h1,h2⟩
 ·exact⟨v,true,by simp[Instr.lookup,run_underlying F8,hg,MI,h1],by simpa using h2⟩
 ·exact⟨0,false,by simp[Instr.lookup,run_underlying F8,hg,MI,h1,zw4],⟨fun h=>(by cases h),fun ⟨e,he,hk⟩=>Is hk (h2 e he)⟩⟩
theorem ztk{w:Wo}{b:Nat}{es:Array MapEntry}(h:H5 w b es){p:Int}{n:ByteArray}(i':∀e∈es.toList,e.key≠JI p n)(v:Int) :
  ∃w' c,((do Instr.mapUpdate Zx (.map (some b)) (JI p n) (I v); pure undef):Sem Va).run Tryz.prog w=.ok undef w'/\Q0 [b] w w'/\H5 w' b (es.push { key:=JI p n,val:=I v,born:=c }):=by
 obtain⟨⟨c,hc⟩,hes⟩:=h;have hg:(getObj b).run Tryz.prog w=.ok (.map es c) w:=by simp[getObj,Sem.run,hc]
 have hfk:(Instr.findKey QI (JI p n) es.toList).run Tryz.prog w=.ok none w:=by
  rcases Fm p n w es.toList hes with ⟨j,v,_,e,he,hk⟩ | ⟨h1,_⟩
  ·exact Is hk (i' e he)
  ·exact h1
 have hs:(setObj b (.map (es.push { key:=JI p n,val:=I v,born:=c }) (c+1))).run Tryz.prog w=.ok () { w with heap:=w.heap.setIfInBounds b (.map (es.push { key:=JI p n,val:=I v,born:=c }) (c+1)) }:=by
  simp[setObj,Sem.run,hc]
 have IQ:=VX hc;refine⟨{ w with heap:=w.heap.setIfInBounds b (.map (es.push { key:=JI p n,val:=I v,born:=c }) (c+1)) },c,by simp[Instr.mapUpdate,run_underlying F8,hg,MI,hfk,hs],⟨rfl,rfl,rfl,Qs,fun k _ hk=>?_⟩,⟨c+1,by simp[IQ]⟩,fun e he=>?_⟩
 ·have:b≠k:=fun e=>hk (by simp[e])
  show (w.heap.setIfInBounds b _)[k]? = _;rw[Array.getElem?_setIfInBounds_ne this]
 ·rw[Array.toList_push,Io] at he;rcases he with he | he
  ·exact hes e he
  ·rw[IA] at he;subst he;exact⟨p,n,v,rfl,rfl⟩
theorem H5.ext{w w':Wo}{b:Nat}{es:Array MapEntry}{bs:List Nat}(h:H5 w b es)(hx:Q0 bs w w')(hb:b∉bs):H5 w' b es:=by
 obtain⟨⟨c,hc⟩,hes⟩:=h;exact⟨⟨c,Zg hc hx hb⟩,hes⟩
def Ab(p:OA):List Va:=[.pointer p]
theorem OG:zj7 Tryz.prog Ab 1 Y7 8 none:=Gv Qk fun _=>rfl
theorem znv:Tryz.prog.underlying Pp=some (.slice Y7):=Qk
def UB(w:Wo)(b:Nat)(g:Int)(n:ByteArray)(up:OA):Prop:=w.heap[b]? = some (.cells ([I g,.string n,.pointer up]:List Va).toArray Du (0,0))
theorem UB.ext{w w':Wo}{b:Nat}{g:Int}{n:ByteArray}{up:OA}{bs:List Nat}(h:UB w b g n up)(hx:Q0 bs w w')(hb:b∉bs):UB w' b g n up:=Zg h hx hb
theorem UB.cells{w:Wo}{b:Nat}{g:Int}{n:ByteArray}{up:OA}(h:UB w b g n up){bs:List Nat}(hb:b∉bs):Q2 bs w (some ⟨b,0,none⟩) 0 [I g,.string n,.pointer up]:=
 OE h hb fun j v hj=>by rw[Nat.zero_add,Nat.zero_add]; exact hj
def zj3(gs:List Zr)(nb:Int->Nat)(x:Int):OA:=if x=0 then none else some ⟨nb (gi gs x).parent,0,none⟩
structure Ns (bs:List Nat) (w:Wo) (gs:List Zr) (nb:Int->Nat):Prop where
 node:∀x:Int,Q6 gs x=true->Q2 bs w (some ⟨nb x,0,none⟩) 0 [I x,.string (gi gs x).name,.pointer (zj3 gs nb x)]
 par:∀x:Int,x≠0->Q6 gs x=true->Q6 gs (gi gs x).parent=true
theorem Ns.ext{bs:List Nat}{w w':Wo}{gs:List Zr}{nb:Int->Nat}(h:Ns bs w gs nb)(hx:Q0 bs w w'):Ns bs w' gs nb:=⟨fun x hu=>(h.node x hu).ext hx,h.par⟩
theorem Ns.less{bs cs:List Nat}{w:Wo}{gs:List Zr}{nb:Int->Nat}(h:Ns bs w gs nb)(hs:∀x∈cs,x∈bs):Ns cs w gs nb:=⟨fun x hu=>(h.node x hu).less hs,h.par⟩
def AO(gs:List Zr)(f:Nat)(x:Int)(s:Int):Int:=if dep f gs x<0 then -1 else s+dep f gs x
theorem zsq{gs:List Zr}{nb:Int->Nat}{w:Wo}{bs:List Nat}(h:Ns bs w gs nb){x:Int}(hu:Q6 gs x=true):PX bs UJ #[.pointer (some ⟨nb x,0,none⟩)] w (I (AO gs 3 x 0)):=
 D9 (some ⟨nb x,0,none⟩) fun wr hx=>by
  have h:=(h.ext hx).less (cs:=[]) Qs;refine⟨fun vs=>(∃(y:Int) (s:Nat),Q6 gs y=true/\s<=4/\vs=[.pointer (some ⟨nb y,0,none⟩),I (s:Int)]/\(s<=3->AO gs (3-s) y s=AO gs 3 x 0)/\(s=4->AO gs 3 x 0 = -1))\/∃s:Nat,s<=4/\vs=[.pointer none,I (s:Int)]/\AO gs 3 x 0 = -1,fun vs=>(5-Y5 1 vs).toNat,.inl ⟨x,0,hu,Qo,rfl,fun _=>rfl,fun h=>by omega⟩,?_⟩;rintro n1 st (⟨y,s,hy,hs,he,h1,h2⟩ | ⟨s,hs,he,h1⟩)
  ·simp only[I5,I6,Value.pointer.injEq,true_and,and_true] at he;obtain⟨rfl,rfl⟩:=he;refine⟨fun hc=>?_,fun hc=>?_⟩
   ·have gZ:s<=3:=by
     simp only[Option.isNone_some,Bool.not_false,Bool.true_and,Ik] at hc;omega
    have hn:=h.node y hy;refine⟨rfl,y,hn.get 0 _ rfl,fun hz=>?_,fun hz=>?_⟩
    ·have hz:y=0:=by simpa using hz
     rw[<-h1 gZ];subst hz;unfold AO;rw[Yc,C' Qo,Int.add_zero]
    ·have hz:y≠0:=by simpa using hz
     have hm:zj3 gs nb y=some ⟨nb (gi gs y).parent,0,none⟩:=by unfold zj3; rw[C' hz]
     refine⟨⟨Qo,Qo⟩,rfl,_,by have:=hn.get 2 _ rfl; exact this,.inl ⟨(gi gs y).parent,s+1,h.par y hz hy,Qo,by rw[hm]; simp,fun hs'=>?_,fun hs'=>?_⟩,?_⟩
     ·rw[<-h1 gZ];have e:3-s=(3-(s+1))+1:=Qo;rw[e];unfold AO;simp only[dep,C' hz]
      by_cases hd:dep (3-(s+1)) gs (gi gs y).parent<0
      ·rw[E' hd,E' hd,E' Qo]
      ·rw[C' hd,C' hd,C' Qo]; omega
     ·rw[<-h1 gZ];have e:3-s=0:=Qo;rw[e];unfold AO;simp only[dep,C' hz];rfl
     ·show (5-((s:Int)+1)).toNat<(5-(s:Int)).toNat;omega
   ·have fU:s=4:=by
     simp only[Option.isNone_some,Bool.not_false,Bool.true_and,decide_eq_false_iff_not] at hc;omega
    rw[h2 fU]
  ·simp only[I5,I6,Value.pointer.injEq,true_and,and_true] at he;obtain⟨rfl,rfl⟩:=he;refine⟨fun hc=>by simp at hc,fun _=>by rw[h1]⟩
section
variable {gs:List Zr}{ms:Nat->MG}{o:OA}{c:Nat}{w:Wo}{bs:List Nat}
theorem JX{g:Int}(h:Mj bs w o gs ms)(hl:gs.length<=maxLen):PX bs YK #[.slice o gs.length c,I g] w (.bool (Q6 gs g)):=
 EL o gs.length c g fun wr hx=>by
  have h:=(h.ext hx).less (cs:=[]) Qs;have:=XJ
  have e:Yx g 0 ((gs.length:Int)-1)=(decide (g>=0)&&decide (g<(gs.length:Int))):=by
   unfold Yx
   congr 1
   exact decide_eq_decide.2 Qo
  refine⟨⟨Qo,Qo⟩,_,QO,fun q=>?_,(gi gs g).used,fun q=>?_,by rw[e]; rfl⟩
  ·have q:=Qt.1 q;exact h.ix Qo Qo
  ·have q:=Qt.1 q;exact h.used Qo Qo
theorem zss(h:Mj [] w o gs ms)(hl:gs.length<=maxLen) :
  Cz Px #[.slice o gs.length c] w fun e w'=>∃(o':OA) (L C:Nat) (ok:Bool),e=.returned (.tuple #[.slice o' L C,.bool ok])/\ok=TQ gs/\Q0 [] w w'/\
   (ok=false->L=0)/\(ok=true->L=8/\∃(pl:List (OA)) (nb:Int->Nat),pl.length=8/\Rd Ab 1 [] w' o' pl/\(∀g:Int,0<=g->g<8->gi pl g=if (gi gs g).used then some ⟨nb g,0,none⟩ else none)/\Ns [] w' gs nb):=by
 refine(zd7 o gs.length c (R:=fun v w'=>∃(o':OA) (L C:Nat) (ok:Bool),v=.tuple #[.slice o' L C,.bool ok]/\ok=TQ gs/\Q0 [] w w'/\
   (ok=false->L=0)/\(ok=true->L=8/\∃(pl:List (OA)) (nb:Int->Nat),pl.length=8/\Rd Ab 1 [] w' o' pl/\(∀g:Int,0<=g->g<8->gi pl g=if (gi gs g).used then some ⟨nb g,0,none⟩ else none)/\Ns [] w' gs nb)) ?_).mono fun e w' ⟨v,he,o',L,C,ok,hv,hr⟩=>⟨o',L,C,ok,by rw[he,hv],hr⟩
 have bad:∀w',Q0 [] w w'->¬ZX gs->∃(o':OA) (L C:Nat) (ok:Bool),Value.tuple #[.slice none 0 0,.bool false]=.tuple #[.slice o' L C,.bool ok]/\ok=TQ gs/\Q0 [] w w'/\
   (ok=false->L=0)/\(ok=true->L=8/\∃(pl:List (OA)) (nb:Int->Nat),pl.length=8/\Rd Ab 1 [] w' o' pl/\(∀g:Int,0<=g->g<8->gi pl g=if (gi gs g).used then some ⟨nb g,0,none⟩ else none)/\Ns [] w' gs nb):=fun w' hx i'=>
  ⟨none,0,0,false,rfl,(Dt i').symm,hx,fun _=>rfl,fun h=>by cases h⟩
 have l8:((((gs.length:Nat):Int) != 8)=false)->gs.length=8:=fun q=>by have:=(bne_eq_false_iff_eq).1 q; omega
 have i0:∀q:(((gs.length:Nat):Int) != 8)=false,(0:Int)<(gs.length:Int):=fun q=>by have:=l8 q; omega
 refine⟨fun q=>h.ix (I3 _) (i0 q),(gi gs 0).used,fun q=>h.used (I3 _) (i0 q),fun q=>?_,(gi gs 0).parent,fun q=>?_,fun q=>?_,(gi gs 0).name,fun q=>?_,fun q=>?_,fun q=>?_⟩
 ·simp only[I0] at q; exact h.ix (I3 _) (i0 q.1)
 ·simp only[I0] at q; exact h.parent (I3 _) (i0 q.1)
 ·simp only[I0] at q; exact h.ix (I3 _) (i0 q.1.1)
 ·simp only[I0] at q; exact h.name (I3 _) (i0 q.1.1)
 ·intro w1 So;refine bad w1 So fun ht=>?_
  have e:((gs.length:Nat):Int)=8:=by have:=ht.len; omega
  rw[e,ht.ru,ht.rp,ht.rn,Do] at q;simp at q
 simp only[I0,I7,bne_eq_false_iff_eq,JZ] at q;obtain⟨⟨⟨q1,ru⟩,rp⟩,rn⟩:=q;have hl8:gs.length=8:=Qo;intro wr hx _;refine⟨some ⟨wr.heap.size,0,none⟩,8,8,wr.alloc (.cells ((List.replicate 8 none).flatMap Ab).toArray Y7),PI OG znv 8 Qd (by simp[maxLen]) wr,Ui,?_⟩;have hO0:=Uk (enc:=Ab) OG.len Y7 8 none wr;have hX0:Q0 [] wr (wr.alloc (.cells ((List.replicate 8 none).flatMap Ab).toArray Y7)):=QZ wr _;generalize wr.alloc (.cells ((List.replicate 8 (none:OA)).flatMap Ab).toArray Y7)=wv at hO0 hX0
 refine P1 8 0 rfl (fun k w1=>k<=8/\Q0 [] wr w1/\∃(pl:List (OA)) (nb:Int->Nat),pl.length=8/\XU Ab 1 Y7 wr.heap.size w1 (some ⟨wr.heap.size,0,none⟩) 8 pl/\
   (∀g:Int,0<=g->g<8->gi pl g=if g<(k:Int)/\(gi gs g).used=true then some ⟨nb g,0,none⟩ else none)/\
   (∀g:Int,0<=g->g<(k:Int)->(gi gs g).used=true->wr.heap.size<=nb g/\UB w1 (nb g) g (gi gs g).name none)/\
   (∀g g':Int,0<=g->g<(k:Int)->0<=g'->g'<(k:Int)->(gi gs g).used=true->(gi gs g').used=true->nb g=nb g'->g=g')) (fun w1 So _=>⟨Ie _,hX0.trans So,List.replicate 8 none,fun _=>0,rfl,hO0.bG So,fun g h0 h1=>?_,fun g h0 h1=>by omega,fun g g' h0 h1=>by omega⟩) fun k w1 _ ⟨hk,hX,pl,nb,hpl,hO,hP,hN,B16⟩=>⟨fun IQ=>?_,fun RH=>?_⟩
 ·rw[C' (fun hc=>by omega)];exact List.eq_of_mem_replicate (zix h0 (by simpa using h1))
 ·have IQ:=Ot IQ;have hr:=(h.ext hx).ext hX;have dW:(0:Int)<=(k:Int):=Qo;refine⟨hr.ix dW IQ,_,hr.used dW IQ,fun hu=>⟨hr.ix dW IQ,_,hr.name dW IQ,fun b wb hxb hb hhb _=>?_⟩,fun hu=>⟨⟨Qo,Qo⟩,fun w2 R6 _=>Z7 Qo ⟨Qo,hX.trans R6,pl,nb,hpl,hO.bG R6,fun g h0 h1=>?_,fun g h0 h1 hg=>?_,fun g g' h0 h1 h0' h1' hg hg'=>?_⟩⟩⟩
  ·have hOb:=hO.bG hxb;have rP:(k:Int)<(pl.length:Int):=by rw[hpl]; omega
   have Wz:=hOb.ix dW rP;rw[hpl] at Wz;refine⟨Wz,hOb.wr OG.len Qs dW rP (j:=0) (n:=1) Qo,⟨Qo,Qo⟩,fun w2 R6 _=>Z7 Qo ⟨Qo,?_,pl.set k (some ⟨b,0,none⟩),fun g=>if g=(k:Int) then b else nb g,by rw[H']; exact hpl,?_,fun g h0 h1=>?_,fun g h0 h1 hg=>?_,fun g g' h0 h1 h0' h1' hg hg' he=>?_⟩⟩
   ·exact(hOb.CZ9 _ _ (hX.trans hxb) (I8 _)).trans R6
   ·exact(hOb.RD OG.len (i:=(k:Int)) dW rP (j:=0) (vs:=[.pointer (some ⟨b,0,none⟩)]) (x:=some ⟨b,0,none⟩) rfl Qs).bG R6
   ·have:=QC pl (some ⟨b,0,none⟩) (i:=(k:Int)) (j:=g) dW rP h0;rw[Ih] at this;rw[this]
    by_cases rO:(k:Int)=g
    ·subst rO;rw[E' rfl,E' ⟨Qo,hu⟩]
     dsimp only
     rw[E' rfl]
    ·rw[C' rO,hP g h0 h1]
     dsimp only
     rw[show (if g=(k:Int) then b else nb g)=nb g from C' (fun e=>rO e.symm)]
     by_cases RU:g<(k:Int)
     ·by_cases kQ:(gi gs g).used=true
      ·rw[E' ⟨RU,kQ⟩,E' ⟨Qo,kQ⟩]
      ·rw[C' (fun hc=>kQ hc.2),C' (fun hc=>kQ hc.2)]
     ·rw[C' (fun hc=>RU hc.1),C' (fun hc=>by omega)]
   ·have mH:Q0 (Qy (some ⟨wr.heap.size,0,none⟩)) wb (RD wb (some ⟨wr.heap.size,0,none⟩) (Int.toNat (k:Int)*1) [.pointer (some ⟨b,0,none⟩)]):=hOb.rJ _ _
    have gA:∀q,UB wb q g (gi gs g).name none->q∉Qy (some (⟨wr.heap.size,0,none⟩:Addr)):=fun q hq hm=>by
     simp only[Qy,IA] at hm;subst hm;rcases hOb with ⟨hc,_⟩ | ⟨b',sp,he,_,h2,_⟩
     ·cases hc
     ·simp only[I1,Addr.mk.injEq,and_true] at he;subst he;unfold UB at hq;rw[h2] at hq;simp only[I1,Obj.cells.injEq] at hq;exact Is hq.2.1 Qd
    dsimp only
    by_cases rO:g=(k:Int)
    ·subst rO;rw[E' rfl];have hq:UB wb b (k:Int) (gi gs (k:Int)).name none:=hhb;exact⟨IB hX.size hb,((hq.ext mH (gA b hq)).ext R6 Qs)⟩
    ·rw[C' rO];obtain⟨n1,n2⟩:=hN g h0 Qo hg;have n3:=n2.ext hxb Qs;exact⟨n1,(n3.ext mH (gA _ n3)).ext R6 Qs⟩
   ·have fresh:∀q:Int,0<=q->q<(k:Int)->(gi gs q).used=true->nb q≠b:=fun q a1 a2 a3 e=>by
     have:=VX (hN q a1 a2 a3).2;omega
    dsimp only at he
    by_cases rO:g=(k:Int)
    ·by_cases hgk':g'=(k:Int)
     ·rw[rO,hgk']
     ·rw[E' rO,C' hgk'] at he;exact Is he.symm (fresh g' h0' Qo hg')
    ·by_cases hgk':g'=(k:Int)
     ·rw[C' rO,E' hgk'] at he;exact Is he (fresh g h0 Qo hg)
     ·rw[C' rO,C' hgk'] at he;exact B16 g g' h0 Qo h0' Qo hg hg' he
  ·rw[hP g h0 h1]
   by_cases rO:g=(k:Int)
   ·subst rO;rw[C' (fun hc=>by omega),C' (fun hc=>by rw[hu] at hc; exact Is hc.2 Qd)]
   ·by_cases RU:g<(k:Int)
    ·by_cases kQ:(gi gs g).used=true
     ·rw[E' ⟨RU,kQ⟩,E' ⟨Qo,kQ⟩]
     ·rw[C' (fun hc=>kQ hc.2),C' (fun hc=>kQ hc.2)]
    ·rw[C' (fun hc=>RU hc.1),C' (fun hc=>by omega)]
  ·by_cases rO:g=(k:Int)
   ·subst rO; rw[hu] at hg; cases hg
   ·obtain⟨n1,n2⟩:=hN g h0 Qo hg;exact⟨n1,n2.ext R6 Qs⟩
  ·have e1:g≠(k:Int):=fun e=>by subst e; rw[hu] at hg; cases hg
   have e2:g'≠(k:Int):=fun e=>by subst e; rw[hu] at hg'; cases hg'
   exact B16 g g' h0 Qo h0' Qo hg hg'
 ·have RH:=Ou RH;have hk8:k=8:=Qo;subst hk8;intro w2 R6 _;refine⟨.map (some w2.heap.size),w2.alloc (.map #[] 0),by simp[Instr.makeMap],Ui,?_⟩;have hM0:H5 (w2.alloc (.map #[] 0)) w2.heap.size #[]:=⟨⟨0,Array.getElem?_push_size ..⟩,fun e he=>by cases he⟩;have hX2:Q0 [] wr (w2.alloc (.map #[] 0)):=(hX.trans R6).trans (QZ w2 _);have uD:=(hO.bG R6).bG (QZ w2 (.map #[] 0))
  have hN2:∀g:Int,0<=g->g<8->(gi gs g).used=true->wr.heap.size<=nb g/\UB (w2.alloc (.map #[] 0)) (nb g) g (gi gs g).name none:=fun g h0 h1 hg=>
   ⟨(hN g h0 Qo hg).1,((hN g h0 Qo hg).2.ext R6 Qs).ext (QZ w2 _) Qs⟩
  have hP2:∀g:Int,0<=g->g<8->gi pl g=if (gi gs g).used=true then some ⟨nb g,0,none⟩ else none:=fun g h0 h1=>by
   rw[hP g h0 h1]
   by_cases kQ:(gi gs g).used=true
   ·rw[E' ⟨Qo,kQ⟩,E' kQ]
   ·rw[C' (fun hc=>kQ hc.2),C' kQ]
  have CS4:∀g g':Int,0<=g->g<8->0<=g'->g'<8->(gi gs g).used=true->(gi gs g').used=true->nb g=nb g'->g=g':=fun g g' a b c d=>B16 g g' a Qo c Qo
  have hmb:wr.heap.size<=w2.heap.size:=(hX.trans R6).size;generalize w2.heap.size=mb at hM0 hmb;generalize w2.alloc (.map #[] 0)=w3 at hM0 hX2 uD hN2;clear hX hO hN hP B16
  refine P1 8 1 rfl (fun k w1=>1<=k/\k<=8/\Q0 [] wr w1/\XU Ab 1 Y7 wr.heap.size w1 (some ⟨wr.heap.size,0,none⟩) 8 pl/\
    (∀g:Int,0<=g->g<8->(gi gs g).used=true->UB w1 (nb g) g (gi gs g).name (if g<(k:Int) then zj3 gs nb g else none))/\
    (∃es,H5 w1 mb es/\(∀e∈es.toList,∃g:Int,1<=g/\g<(k:Int)/\(gi gs g).used=true/\e.key=JI (gi gs g).parent (gi gs g).name)/\∀g:Int,1<=g->g<(k:Int)->(gi gs g).used=true->∃e∈es.toList,e.key=JI (gi gs g).parent (gi gs g).name)/\
    (∀g:Int,1<=g->g<(k:Int)->(gi gs g).used=true->JM (gi gs g).name=true/\Q6 gs (gi gs g).parent=true/\∀h:Int,1<=h->h<g->(gi gs h).used=true->¬((gi gs h).parent=(gi gs g).parent/\(gi gs h).name=(gi gs g).name)))
   (fun w4 SZ _=>⟨I8 _,Qo,hX2.trans SZ,uD.bG SZ,fun g h0 h1 hg=>?_,⟨#[],hM0.ext SZ Qs,(fun e he=>by cases he),fun g h1 h2=>by omega⟩,fun g h1 h2=>by omega⟩) fun k w4 _ ⟨hk1,hk,hX,hO,hN,⟨es,hM,hE1,hE2⟩,hT⟩=>⟨fun IQ=>?_,fun RH=>?_⟩
  ·have:=(hN2 g h0 h1 hg).2.ext SZ Qs
   by_cases hg1:g<((1:Nat):Int)
   ·rw[E' hg1];have:g=0:=Qo;subst this;exact this
   ·rw[C' hg1]; exact this
  ·have IQ:=Ot IQ;have hr:=(h.ext hx).ext hX;have dW:(0:Int)<=(k:Int):=Qo;have rP:(k:Int)<(pl.length:Int):=Qo;have bW:(k:Int)<(gs.length:Int):=Qo;have hPl:=hO.rd OG.len (bs:=[]) Qs;have Wz:=hO.ix dW rP;rw[hpl] at Wz;have hXw:Q0 [] w w4:=hx.trans hX;refine⟨Wz,gi pl (k:Int),hPl k dW rP,fun i'=>?_,fun AJ1=>?_⟩
   ·have hu:¬(gi gs (k:Int)).used=true:=fun hu=>by rw[hP2 k dW IQ,E' hu] at i'; cases i'
    refine⟨⟨Qo,Qo⟩,fun w5 SK _=>Z7 Qo ⟨Qo,Qo,hX.trans SK,hO.bG SK,fun g h0 h1 hg=>?_,⟨es,hM.ext SK Qs,fun e he=>?_,fun g h1 h2 hg=>?_⟩,fun g h1 h2 hg=>?_⟩⟩
    ·have:=(hN g h0 h1 hg).ext SK Qs;have rO:g≠(k:Int):=fun e=>hu (e▸hg)
     by_cases hg1:g<(k:Int)
     ·rw[E' hg1] at this; rw[E' Qo]; exact this
     ·rw[C' hg1] at this; rw[C' Qo]; exact this
    ·obtain⟨g,a1,a2,a3⟩:=hE1 e he;exact⟨g,a1,Qo,a3⟩
    ·have rO:g≠(k:Int):=fun e=>hu (e▸hg)
     exact hE2 g h1 Qo hg
    ·have rO:g≠(k:Int):=fun e=>hu (e▸hg)
     exact hT g h1 Qo hg
   ·have hu:(gi gs (k:Int)).used=true:=by
     cases hq:(gi gs (k:Int)).used with
     | true=>rfl
     | false=>rw[hP2 k dW IQ,hq] at AJ1; cases AJ1
    have hpk:gi pl (k:Int)=some ⟨nb (k:Int),0,none⟩:=by rw[hP2 k dW IQ,E' hu]
    refine⟨hr.ix dW bW,_,hr.name dW bW,_,zao,fun _=>hr.ix dW bW,(gi gs (k:Int)).parent,fun _=>hr.parent dW bW,Q6 gs (gi gs (k:Int)).parent,fun _=>JX hr hl,fun q=>?_,fun q=>?_⟩
    ·intro w5 SK;refine bad w5 (hXw.trans SK) fun ht=>?_
     rw[ht.nm k Qo IQ hu,ht.par k Qo IQ hu] at q;cases q
    ·simp only[I0,I7] at q;obtain⟨qn,qp⟩:=q;obtain⟨p0,p1,pu⟩:=Q5.1 qp;have p8:(gi gs (k:Int)).parent<8:=Qo;have CS6:=hO.ix p0 Qo;rw[hpl] at CS6;have hnk:=hN k dW IQ hu;rw[C' Qo] at hnk;have hpp:gi pl (gi gs (k:Int)).parent=some ⟨nb (gi gs (k:Int)).parent,0,none⟩:=by rw[hP2 _ p0 p8,E' pu]
     have hnb:nb (k:Int)∉Qy (some (⟨wr.heap.size,0,none⟩:Addr)):=fun hm=>by
      simp only[Qy,IA] at hm;rcases hO with ⟨hc,_⟩ | ⟨b',sp,he,_,h2,_⟩
      ·cases hc
      ·simp only[I1,Addr.mk.injEq,and_true] at he;subst he;unfold UB at hnk;rw[hm,h2] at hnk;simp only[I1,Obj.cells.injEq] at hnk;exact Is hnk.2.1 Qd
     have hWr:Xi [] w4 (some ⟨nb (k:Int),0,none⟩) (0+2) 1:=Np hnk Qs (by show 0+(0+2+1)<=3; omega);have hsx:Q0 [nb (k:Int)] w4 (RD w4 (some ⟨nb (k:Int),0,none⟩) (0+2) [.pointer (some ⟨nb (gi gs (k:Int)).parent,0,none⟩)]):=Pn fun a ha=>by cases ha; simp
     have hbk:wr.heap.size<=nb (k:Int):=(hN2 k dW IQ hu).1;have hXs:Q0 [] wr (RD w4 (some ⟨nb (k:Int),0,none⟩) (0+2) [.pointer (some ⟨nb (gi gs (k:Int)).parent,0,none⟩)]):=hX.fresh hsx fun x hm=>.inl (by rw[IA.1 hm]; exact hbk)
     have vD:=(h.ext hx).ext hXs;have hup:zj3 gs nb (k:Int)=some ⟨nb (gi gs (k:Int)).parent,0,none⟩:=by unfold zj3; rw[C' Qo]
     have hNs:∀g:Int,0<=g->g<8->(gi gs g).used=true->UB (RD w4 (some ⟨nb (k:Int),0,none⟩) (0+2) [.pointer (some ⟨nb (gi gs (k:Int)).parent,0,none⟩)]) (nb g) g (gi gs g).name (if g<((k+1:Nat):Int) then zj3 gs nb g else none):=fun g h0 h1 hg=>by
      by_cases rO:g=(k:Int)
      ·subst rO;rw[E' Qo,hup];exact Lq hnk
      ·have gA:nb g≠nb (k:Int):=fun e=>rO (CS4 g k h0 h1 dW IQ hg hu e)
       have:=(hN g h0 h1 hg).ext hsx (by simpa using gA)
       by_cases hg1:g<(k:Int)
       ·rw[E' hg1] at this; rw[E' Qo]; exact this
       ·rw[C' hg1] at this; rw[C' Qo]; exact this
     have hOs:XU Ab 1 Y7 wr.heap.size (RD w4 (some ⟨nb (k:Int),0,none⟩) (0+2) [.pointer (some ⟨nb (gi gs (k:Int)).parent,0,none⟩)]) (some ⟨wr.heap.size,0,none⟩) 8 pl:=hO.ext hsx fun b hm fS=>hnb (by rw[IA.1 fS] at hm; exact hm)
     have hMs:H5 (RD w4 (some ⟨nb (k:Int),0,none⟩) (0+2) [.pointer (some ⟨nb (gi gs (k:Int)).parent,0,none⟩)]) mb es:=hM.ext hsx fun hm=>by
      rw[IA] at hm;obtain⟨⟨cc,hc⟩,_⟩:=hM;unfold UB at hnk;rw[<-hm,hc] at hnk;cases hnk
     refine⟨Wz,some ⟨nb (k:Int),0,none⟩,by rw[<-hpk]; exact hPl k dW rP,hr.ix dW bW,_,hr.parent dW bW,CS6,some ⟨nb (gi gs (k:Int)).parent,0,none⟩,by rw[<-hpp]; exact hPl _ p0 Qo,rfl,hWr,?_⟩;generalize RD w4 (some ⟨nb (k:Int),0,none⟩) (0+2) [.pointer (some ⟨nb (gi gs (k:Int)).parent,0,none⟩)]=w5 at hXs vD hNs hOs hMs;refine⟨vD.ix dW bW,_,vD.parent dW bW,vD.ix dW bW,_,vD.name dW bW,fun b1 eY=>⟨vD.name dW bW,vD.parent dW bW,fun w6 cU zW=>?_⟩⟩;have hM6:=hMs.ext cU Qs;obtain⟨v,okk,CT1,hok⟩:=zqo hM6 (gi gs (k:Int)).parent (gi gs (k:Int)).name;have CE0:∀x∈[b1],wr.heap.size<=x\/x∈([]:List Nat):=fun x hm=>.inl (by rw[IA.1 hm]; exact IB hXs.size eY)
     refine⟨v,okk,w6,CT1,fun _ _=>rfl,fun Cp6=>?_,fun oA w7 lY hs7=>?_⟩
     ·intro w7 lY;refine bad w7 (hx.trans (((hXs.trans cU).fresh lY CE0))) fun ht=>?_
      obtain⟨e,he,hk⟩:=hok.1 Cp6;obtain⟨g,a1,a2,a3,a4⟩:=hE1 e he;rw[a4] at hk;simp only[JI,Value.agg.injEq,List.toArray_inj,Array.mk.injEq,I5,I6,true_and,Value.string.injEq,and_true] at hk;exact ht.uniq k g a1 a2 IQ hu a3 hk
     ·have hM7:=hM6.ext lY (fun hm=>by
       rw[IA] at hm;obtain⟨⟨cc,hc⟩,_⟩:=hMs;have:=VX hc;omega)
      have CT9:¬∃e∈es.toList,e.key=JI (gi gs (k:Int)).parent (gi gs (k:Int)).name:=fun hc=>by
       have:=hok.2 hc;rw[oA] at this; cases this
      obtain⟨w8,cc,Cv1,rH,hM8⟩:=ztk hM7 (fun e he hk=>CT9 ⟨e,he,hk⟩) (k:Int);have hmx:∀x∈[mb],wr.heap.size<=x\/x∈([]:List Nat):=fun x hm=>.inl (by rw[IA.1 hm]; exact hmb)
      have hX7:Q0 [] wr w7:=(hXs.trans cU).fresh lY CE0;have hX8:Q0 [] wr w8:=hX7.fresh rH hmx;refine⟨w8,Cv1,fun x hm=>rH.block x (hs7 x hm) (fun fS=>?_),⟨Qo,Qo⟩,fun w9 kW hs9=>Z7 Qo ⟨Qo,Qo,hX8.fresh kW CE0,?_,fun g h0 h1 hg=>?_,⟨_,hM8.ext kW ?_,fun e he=>?_,fun g h1 h2 hg=>?_⟩,fun g h1 h2 hg=>?_⟩⟩
      ·rw[IA] at hm fS;subst fS;obtain⟨⟨c2,hc⟩,_⟩:=hMs;have:=VX hc;omega
      ·have hnm:∀b∈Qy (some (⟨wr.heap.size,0,none⟩:Addr)),b∉[mb]:=fun b hm fS=>by
        simp only[Qy,IA] at hm fS;rcases hOs with ⟨hc,_⟩ | ⟨b',sp,he,_,h2,_⟩
        ·cases hc
        ·simp only[I1,Addr.mk.injEq,and_true] at he;subst he;obtain⟨⟨c2,hc⟩,_⟩:=hMs;rw[<-fS,hm,h2] at hc;cases hc
       have hn1:∀b∈Qy (some (⟨wr.heap.size,0,none⟩:Addr)),b∉[b1]:=fun b hm fS=>by
        have:=(hOs.lt b hm).2;rw[IA] at fS;omega
       exact(((hOs.bG cU).ext lY hn1).ext rH hnm).ext kW hn1
      ·have hq:=hNs g h0 h1 hg;have hql:=VX hq;have n1:nb g∉[b1]:=fun hm=>by rw[IA] at hm; omega
       have n2:nb g∉[mb]:=fun hm=>by
        rw[IA] at hm;obtain⟨⟨c2,hc⟩,_⟩:=hMs;unfold UB at hq;rw[hm,hc] at hq;cases hq
       exact(((hq.ext cU Qs).ext lY n1).ext rH n2).ext kW n1
      ·intro hm;rw[IA] at hm;obtain⟨⟨c2,hc⟩,_⟩:=hMs;have:=VX hc;omega
      ·rw[Array.toList_push,Io] at he;rcases he with he | he
       ·obtain⟨g,a1,a2,a3⟩:=hE1 e he;exact⟨g,a1,Qo,a3⟩
       ·rw[IA] at he;subst he;exact⟨k,Qo,Qo,hu,rfl⟩
      ·rw[Array.toList_push]
       by_cases rO:g=(k:Int)
       ·subst rO;exact⟨_,Iy _ (IA.2 rfl),rfl⟩
       ·obtain⟨e,he,hk⟩:=hE2 g h1 Qo hg;exact⟨e,Ib _ he,hk⟩
      ·by_cases rO:g=(k:Int)
       ·subst rO;refine⟨qn,qp,fun q a1 a2 a3 a4=>CT9 ?_⟩;obtain⟨e,he,hk⟩:=hE2 q a1 a2 a3;exact⟨e,he,by rw[hk,a4.1,a4.2]⟩
       ·exact hT g h1 Qo hg
  ·have RH:=Ou RH;have hk8:k=8:=Qo;subst hk8;have hXw:Q0 [] w w4:=hx.trans hX
   have hNs:Ns [] w4 gs nb:=⟨fun x hu=>by
     obtain⟨a1,a2,a3⟩:=Q5.1 hu;have:=hN x a1 Qo a3;rw[E' Qo] at this;exact this.cells Qs,fun x hz hu=>by
     obtain⟨a1,a2,a3⟩:=Q5.1 hu;exact(hT x Qo Qo a3).2.1⟩
   refine P1 8 0 rfl (fun j w5=>j<=8/\Q0 [] w4 w5/\∀g:Int,0<=g->g<(j:Int)->(gi gs g).used=true->0<=dep 3 gs g) (fun w5 SK _=>⟨Ie _,SK,fun g h0 h1=>by omega⟩) fun j w5 _ ⟨hj,hX5,hD⟩=>⟨fun IQ=>?_,fun RH=>?_⟩
   ·have IQ:=Ot IQ;have hj0:(0:Int)<=(j:Int):=Qo;have hjl:(j:Int)<(pl.length:Int):=Qo;have hO5:=hO.bG hX5;have Wz:=hO5.ix hj0 hjl;rw[hpl] at Wz;refine⟨Wz,gi pl (j:Int),hO5.rd OG.len Qs j hj0 hjl,AO gs 3 (j:Int) 0,fun hs=>?_,fun hb=>?_,fun hb=>⟨⟨Qo,Qo⟩,fun w6 cU _=>Z7 Qo ⟨Qo,hX5.trans cU,fun g h0 h1 hg=>?_⟩⟩⟩
    ·have hu:(gi gs (j:Int)).used=true:=by
      cases hq:(gi gs (j:Int)).used with
      | true=>rfl
      | false=>rw[hP2 j hj0 IQ,hq] at hs; cases hs
     rw[hP2 j hj0 IQ,E' hu];exact zsq (hNs.ext hX5) (Q5.2 ⟨hj0,Qo,hu⟩)
    ·intro w6 cU;refine bad w6 ((hXw.trans hX5).trans cU) fun ht=>?_
     simp only[A',Ik] at hb
     have hu:(gi gs (j:Int)).used=true:=by
      cases hq:(gi gs (j:Int)).used with
      | true=>rfl
      | false=>rw[hP2 j hj0 IQ,hq] at hb; cases hb.1
     have hd:0<=dep 3 gs (j:Int):=by
      by_cases hj0':(j:Int)=0
      ·rw[hj0',Yc]; omega
      ·exact ht.dp j Qo IQ hu
     have:=hb.2;unfold AO at this;rw[C' Qo] at this;omega
    ·by_cases hgj:g=(j:Int)
     ·subst hgj;have hpj:gi pl (j:Int)=some ⟨nb (j:Int),0,none⟩:=by rw[hP2 j hj0 IQ,E' hg]
      rw[hpj] at hb;simp only[Option.isNone_some,Bool.not_false,Bool.true_and,decide_eq_false_iff_not] at hb;unfold AO at hb;have:=VY gs 3 (j:Int)
      split at hb <;> omega
     ·exact hD g h0 Qo hg
   ·have RH:=Ou RH;have hj8:j=8:=Qo;subst hj8;have ht:ZX gs:=⟨hl8,ru,rp,rn,fun g h1 h2 hg=>(hT g h1 h2 hg).1,fun g h1 h2 hg=>(hT g h1 h2 hg).2.1,fun g h1 h2 hg=>hD g Qo h2 hg,fun g q a1 a2 a3 a4 a5=>(hT g Qo a3 a4).2.2 q a1 a2 a5⟩;intro w6 cU;refine⟨some ⟨wr.heap.size,0,none⟩,8,8,true,rfl,(XO.2 ht).symm,(hXw.trans hX5).trans cU,fun h=>(by cases h),fun _=>⟨rfl,pl,nb,hpl,?_,hP2,(hNs.ext hX5).ext cU⟩⟩;exact((hO.bG hX5).bG cU).rd OG.len Qs
theorem LW{bs:List Nat}(h:Mj bs w o gs ms)(hl:gs.length<=maxLen):PX bs Vi #[.slice o gs.length c] w (.bool (TQ gs)):=by
 refine Dd fun wr hx=>zaf o gs.length c (R:=fun v w'=>v=.bool (TQ gs)/\Q0 [] wr w') ?_
 have h:=(h.ext hx).less (cs:=[]) Qs;intro w1 So _;refine(zss (h.ext So) hl).mono fun e w2 ⟨o',L,C,ok,he,hok,R6,_⟩=>⟨_,_,_,_,he,Ui,fun w3 Rm=>⟨by rw[hok],(So.trans R6).trans Rm⟩⟩
end
theorem X7{n k:Int}{w:Wo}{bs:List Nat}:PX bs ZL #[I n,I k] w (I (Z9 n k)):=
 GO n k fun wr hx=>by
  refine⟨_,J7,_,fun _=>Qm,fun h=>?_,fun h=>?_⟩
  ·congr 1; unfold Z9; rw[C']; intro h2; simp only[A'] at h2; simp[h2] at h
  ·have h2:Yx k 1 20=true/\Yx n 0 100000000=true:=by simpa using h
   rw[Qt,Qt] at h2;have hm:=ze1 h2.2.1 h2.2.2 h2.1.1 h2.1.2;have hs:=Cw h2.1.1 h2.1.2;unfold zc3 at hm hs;refine⟨⟨Qo,Js Qo Qo⟩,Js Qo Qo,?_⟩;rw[TT h2.2.1 h2.2.2 h2.1.1 h2.1.2]; rfl
theorem OX{k:Int}{w:Wo}{bs:List Nat}:PX bs J3 #[I k] w (I (Zv k)):=
 C0 k fun wr hx=>⟨_,X7,rfl⟩
def Y1(a b:Int):Int:=if a<b then a else b
def zew(a b:Int):Int:=if a>b then a else b
theorem XY{a b:Int}{w:Wo}{bs:List Nat}:PX bs Yr #[I a,I b] w (I (Y1 a b)):=
 ze6 a b fun wr hx=>⟨fun h=>by rw[Y1,E' (Ot h)],fun h=>by rw[Y1,C' (Ou h)]⟩
theorem VA{a b:Int}{w:Wo}{bs:List Nat}:PX bs Yq #[I a,I b] w (I (zew a b)):=
 ze5 a b fun wr hx=>⟨fun h=>by rw[zew,E' (Ot h)],fun h=>by rw[zew,C' (Ou h)]⟩
def X8(l k:Int):Int:=if (if Zv k<l then Zv k else l)>0 then (if Zv k<l then Zv k else l) else 0
theorem ZU(k:Int):0<=Zv k/\Zv k<=34686091440:=by
 unfold Zv
 by_cases h:1<=k/\k<=20
 ·rw[TT Qd Qd h.1 h.2];have:=Cw h.1 h.2;omega
 ·rw[Lu Qo]; omega
theorem ZW(l k:Int):0<=X8 l k/\X8 l k<=Zv k:=by
 have:=ZU k;unfold X8; by_cases h1:Zv k<l <;> simp only[h1,if_true,if_false] <;> split <;> omega
theorem PD{l k:Int}{w:Wo}{bs:List Nat}:PX bs JE #[I l,I k] w (I (X8 l k)):=
 zbd l k fun wr hx=>by
  have hr:=ZU k;refine⟨_,J7,fun h=>?_,fun h=>⟨_,VA,_,OX,_,XY,?_⟩⟩
  ·have h:Yx k 1 20=false:=by simpa using h
   rw[zt2] at h;have h0:Zv k=0:=Lu Qo
   congr 1; unfold X8; rw[h0]; by_cases h1:0<l <;> simp only[h1,if_true,if_false] <;> (repeat' split) <;> omega
  ·congr 1; unfold X8 Y1 zew; by_cases h1:Zv k<l <;> simp only[h1,if_true,if_false] <;> by_cases h2:l>0 <;> simp only[h2,if_true,if_false] <;> (repeat' split) <;> omega
def Qf(n:Int):Int:=if Yx n (-10) 9 then 10-n else 0
theorem MP{k:Int}{w:Wo}{bs:List Nat}:PX bs JQ #[I k] w (I (Qf k)):=
 BL k fun wr hx=>by
  refine⟨_,LX,fun h=>?_,fun h=>?_⟩
  ·have h:Yx k (-10) 9=false:=by simpa using h
   rw[Qf,h]; rfl
  ·have h:Yx k (-10) 9=true:=by simpa using h
   have h2:=Qt.1 h;refine⟨Js Qo Qo,?_⟩;rw[Qf,h]; rfl
structure Jv (b:Nat) (c:OA) (L N:Nat) (w:Wo):Prop where
 hd:∃(C:Nat) (p:Int),w.heap[b]? = some (.cells [.slice c L C,I p].toArray Tz (0,0))/\0<=p/\p<=N
 bytes:∀i<L,∃(a:Addr) (x:Int),c=some a/\a.block≠b/\0<=x/\x<=255/\w.cell? (a.add i)=some (.int .u8 x)
theorem Jv.ext{b:Nat}{c:OA}{L N:Nat}{w w':Wo}{bs:List Nat}(h:Jv b c L N w)(hx:Q0 bs w w')(hb:b∉bs)(hc:∀a,c=some a->a.block∉bs\/L=0):Jv b c L N w':=by
 obtain⟨⟨C,p,h1,h2,h3⟩,hby⟩:=h;refine⟨⟨C,p,Zg h1 hx hb,h2,h3⟩,fun i hi=>?_⟩;obtain⟨a,x,ha,gA,So,R6,Rm⟩:=hby i hi;refine⟨a,x,ha,gA,So,R6,?_⟩
 have hbk:a.block∉bs:=by
  rcases hc a ha with h | h
  ·exact h
  ·omega
 obtain⟨a',e,_,h''⟩:=(show Jz bs w c i (.int .u8 x) from ⟨a,ha,hbk,Rm⟩).ext hx;rw[ha] at e; cases e; exact h''
theorem Jv.bG{b:Nat}{c:OA}{L N:Nat}{w w':Wo}(h:Jv b c L N w)(hx:Q0 [] w w'):Jv b c L N w':=h.ext hx Qs (fun _ _=>.inl Qs)
theorem Jv.mono{b:Nat}{c:OA}{L N M:Nat}{w:Wo}(h:Jv b c L N w)(hm:N<=M):Jv b c L M w:=by
 obtain⟨⟨C,p,h1,h2,h3⟩,hby⟩:=h;exact⟨⟨C,p,h1,h2,Qo⟩,hby⟩
theorem Jv.lt{b:Nat}{c:OA}{L N:Nat}{w:Wo}(h:Jv b c L N w):b<w.heap.size:=by
 obtain⟨⟨C,p,h1,h2,h3⟩,hby⟩:=h;exact VX h1
theorem Jv.ltc{b:Nat}{c:OA}{L N:Nat}{w:Wo}(h:Jv b c L N w)(a:Addr)(ha:c=some a):a.block<w.heap.size\/L=0:=by
 rcases Nat.eq_zero_or_pos L with h0 | h0
 ·exact .inr h0
 ·obtain⟨a',x,ha',gA,So,R6,Rm⟩:=h.bytes 0 h0;rw[ha] at ha'; cases ha';have:=World.block_lt_of_cell? w _ Rm;rw[ZJ] at this;exact .inl this
theorem Jv.Cl1{b:Nat}{c:OA}{L N M:Nat}{w0 w w':Wo}{bs:List Nat}(h0:Jv b c L M w0)(h:Jv b c L N w)(hx:Q0 bs w w')(hb:∀x∈bs,w0.heap.size<=x):Jv b c L N w':=
 h.ext hx (fun hm=>by have:=hb _ hm; have:=h0.lt; omega) fun a ha=>by
  rcases h0.ltc a ha with hl | hl
  ·exact .inl fun hm=>by have:=hb _ hm; omega
  ·exact .inr hl
def H6(n v:Int):Prop:=0<=v/\(n<1->v=0)/\(1<=n->v<n)
theorem zco{x n:Int}(hx:0<=x)(hn:1<=n):H6 n (Int.tmod x n):=by
 refine⟨Int.tmod_nonneg _ hx,Qo,fun _=>Int.tmod_lt_of_pos _ Qo⟩
theorem zj6{x y:Int}(h1:0<=x)(h2:x<=9223372036854775807)(h3:0<=y)(h4:y<=9223372036854775807):0<=VJ .xor .i64 x y:=by
 have IQ:(BitVec.ofInt 64 x ^^^ BitVec.ofInt 64 y).toNat<2 ^ 63:=by
  rw[BitVec.toNat_xor];refine Nat.xor_lt_two_pow ?_ ?_
  ·rw[BitVec.toNat_ofInt]; omega
  ·rw[BitVec.toNat_ofInt]; omega
 have h:=Qq.wrap (k:=.i64) (z:=((BitVec.ofInt 64 x ^^^ BitVec.ofInt 64 y).toNat:Int)) (Js Qo Qo);show 0<=IntKind.i64.wrap ((BitVec.ofInt 64 x ^^^ BitVec.ofInt 64 y).toNat:Int);rw[h]; omega
theorem GD{b:Nat}{c:OA}{L N:Nat}{w:Wo}{n:Int}(h:Jv b c L N w)(hN:N<=1000000000000) :
  Cz Q1 #[.pointer (some ⟨b,0,none⟩),I n] w fun e w'=>∃v,e=.returned (I v)/\H6 n v/\Jv b c L (N+1) w'/\Q0 [b] w w':=by
 refine(HE (some ⟨b,0,none⟩) n (R:=fun v w'=>∃x,v=I x/\H6 n x/\Jv b c L (N+1) w'/\Q0 [b] w w') ?_).mono fun e w' ⟨v,he,x,hv,h1,h2,h3⟩=>⟨x,by rw[he,hv],h1,h2,h3⟩
 obtain⟨C,p,hh,hp0,hpN⟩:=h.hd;have hs:=Lq (k:=0) (n:=1) (vs:=[I (p+1)]) hh;have hxt:Q0 [b] w (RD w (some ⟨b,0,none⟩) 1 [I (p+1)]):=Pn fun a ha=>by cases ha; exact IA.2 rfl
 generalize vE:RD w (some ⟨b,0,none⟩) 1 [I (p+1)]=w1 at hs hxt;have hs:w1.heap[b]? = some (.cells [.slice c L C,I (p+1)].toArray Tz (0,0)):=hs;have hc:Q2 [] w1 (some ⟨b,0,none⟩) (0+0) [.slice c L C]:=J9 hs Qs rfl;have hpp:Q2 [] w1 (some ⟨b,0,none⟩) (0+1) [I (p+1)]:=J9 hs Qs rfl
 have hby:∀i:Int,0<=i->i<L->∃x:Int,0<=x/\x<=255/\c.isSome=true/\Q2 [] w1 c (Int.toNat i*1) [.int .u8 x]:=fun i h0 hi=>by
  obtain⟨a,x,ha,gA,So,R6,Rm⟩:=h.bytes i.toNat Qo;refine⟨x,So,R6,by rw[ha]; rfl,?_⟩;have:=(show Jz [b] w c i.toNat (.int .u8 x) from ⟨a,ha,by simpa using gA,Rm⟩).ext hxt;rw[Nat.mul_one];exact UD (this.less Qs)
 have fin:∀(v:Int),H6 n v->∀wr,Q0 [] w1 wr->∃x,I v=I x/\H6 n x/\Jv b c L (N+1) wr/\Q0 [b] w wr:=fun v hv wr hr=>
  ⟨v,rfl,hv,Jv.bG ⟨⟨C,p+1,hs,Qo,Qo⟩,fun i hi=>by
   obtain⟨a,x,ha,gA,So,R6,Rm⟩:=h.bytes i hi;have:=(show Jz [b] w c i (.int .u8 x) from ⟨a,ha,by simpa using gA,Rm⟩).ext hxt;obtain⟨a',ha',_,hc'⟩:=this;rw[ha] at ha'; cases ha';exact⟨a,x,ha,gA,So,R6,hc'⟩⟩ hr,hxt.trans hr.of_nil⟩
 refine⟨rfl,p,J9 hh Qs rfl,Js Qo Qo,rfl,Np hh Qs Qs,?_⟩;rw[show (0+1:Nat)=1 from rfl,vE];refine⟨fun _=>rfl,c,L,C,fun _=>hc,fun h=>?_,fun h=>?_⟩
 ·simp only[Iv,Ik,It] at h;refine fin 0 ⟨Qo,Qo,fun hn=>by omega⟩
 ·have h:1<=n/\L≠0:=by simpa using h
  refine⟨rfl,p+1,hpp,Js Qo Qo,rfl,c,L,C,hc,fun IQ=>?_,fun IQ=>?_⟩
  ·have IQ:=Ot IQ;obtain⟨x,So,R6,Rm,SZ⟩:=hby (p+1-1) Qo IQ;exact⟨rfl,c,L,C,hc,⟨Qo,IQ,Rm⟩,x,SZ,Js Qo Qo,Qo,fin _ (zco So h.1)⟩
  ·have hLp:(0:Int)<(L:Int):=Qo;have hm1:=Int.tmod_nonneg (L:Int) (show 0<=p+1-1 by omega);have hm2:=Int.tmod_lt_of_pos (p+1-1) hLp;have hm3:=Int.tmod_nonneg (L:Int) (show 0<=(p+1-1)*7+3 by omega);have hm4:=Int.tmod_lt_of_pos ((p+1-1)*7+3) hLp;have hd1:0<=Int.tdiv (p+1-1) (L:Int):=Int.tdiv_nonneg Qo Qo
   have hd2:Int.tdiv (p+1-1) (L:Int)<=p+1-1:=by
    rw[Int.tdiv_eq_ediv_of_nonneg Qo]; exact Int.ediv_le_self _ Qo
   obtain⟨x1,So,R6,Rm,SZ⟩:=hby _ hm1 hm2;obtain⟨x2,cY,SL,jW,kR⟩:=hby _ hm3 hm4;have hX0:0<=(x1*131+x2*1117+(p+1-1)*29)+Int.tdiv (p+1-1) (L:Int)*53:=Qo;have hX1:(x1*131+x2*1117+(p+1-1)*29)+Int.tdiv (p+1-1) (L:Int)*53<=1000000000000000:=Qo;have hq0:=Int.tdiv_nonneg hX0 (show (0:Int)<=64 by decide)
   have hq1:Int.tdiv ((x1*131+x2*1117+(p+1-1)*29)+Int.tdiv (p+1-1) (L:Int)*53) 64<=(x1*131+x2*1117+(p+1-1)*29)+Int.tdiv (p+1-1) (L:Int)*53:=by
    rw[Int.tdiv_eq_ediv_of_nonneg hX0]; exact Int.ediv_le_self _ hX0
   refine⟨rfl,c,L,C,hc,rfl,c,L,C,hc,Qo,⟨hm1,hm2,Rm⟩,x1,SZ,Js Qo Qo,Js Qo Qo,rfl,c,L,C,hc,Js Qo Qo,Js Qo Qo,rfl,c,L,C,hc,Qo,⟨hm3,hm4,jW⟩,x2,kR,
    Js Qo Qo,Js Qo Qo,Js Qo Qo,Js Qo Qo,Js Qo Qo,rfl,c,L,C,hc,⟨Qo,Js Qo Qo⟩,Js Qo Qo,Js Qo Qo,⟨Qd,Js Qo Qo⟩,Qo,?_⟩
   exact fin _ (zco (zj6 hX0 Qo hq0 Qo) h.1)
section
open Go.RowKit Go.ChangeShapes
section
variable {H:Type}{en:TypeId×Va->H}{w:Wo}{base:Nat}{spare:Nat->Bool}{held:Bool}{fuel:Nat}{cs:List Va}{x:DataW H×List MemPlace}
structure MW where
 cO:OA
 cC:Nat
 tO:OA
 tC:Nat
 gO:OA
 gC:Nat
 ms:Nat->MG
def Qa(W:Q7)(m:MW):List Va:=[.int .i64 W.now,.slice m.cO W.IE.length m.cC,.slice m.tO W.tasks.length m.tC,.slice m.gO W.ID.length m.gC]
structure Xb (bs:List Nat) (w:Wo) (W:Q7) (m:MW):Prop where
 c:zwc bs w m.cO W.IE
 t:zrh bs w m.tO W.tasks
 g:Mj bs w m.gO W.ID m.ms
theorem Xb.ext{bs:List Nat}{w w':Wo}{W:Q7}{m:MW}(h:Xb bs w W m)(hx:Q0 bs w w'):Xb bs w' W m:=⟨h.c.ext hx,h.t.ext hx,h.g.ext hx⟩
theorem Xb.less{bs cs:List Nat}{w:Wo}{W:Q7}{m:MW}(h:Xb bs w W m)(hs:∀x∈cs,x∈bs):Xb cs w W m:=⟨h.c.less hs,h.t.less hs,h.g.less hs⟩
theorem Xb.wide{bs cs:List Nat}{w:Wo}{W:Q7}{m:MW}(h:Xb bs w W m)(hs:∀x∈cs,x∈bs\/w.heap.size<=x):Xb cs w W m:=⟨h.c.wide hs,h.t.wide hs,h.g.wide hs⟩
end
end
def Jw(k:Nat):Int:=1*2 ^ (min (Int.toNat (k:Int)) 64)
def Ow(m:Int):Bool:=Yx m 0 15
def Ze(m c:Int):Bool:=(Ow m&&Yx c 0 3)&&(Int.tmod (Int.fdiv m (2 ^ (min (Int.toNat c) 64))) 2==1)
def VB(a b:Int):Int:=if Ow a=true/\Ow b=true then VJ .and .i64 a b else 0
def NS(a b:Int):Nat->Int
 | 0=>0
 | k+1=>if (Ze a (k:Int)&&Ze b (k:Int))=true then NS a b k+Jw k else NS a b k
theorem Pl{m:Int}(h:Ow m=true):∃f:Fin 16,m=(f.val:Int):=by
 have:=Qt.1 h;exact⟨⟨m.toNat,Qo⟩,by show m=((m.toNat:Nat):Int); omega⟩
theorem zod:∀a b:Fin 16,NS (a.val:Int) (b.val:Int) 4=VJ .and .i64 (a.val:Int) (b.val:Int):=by decide +kernel
theorem zoe:∀a b:Fin 16,0<=VJ .and .i64 (a.val:Int) (b.val:Int)/\VJ .and .i64 (a.val:Int) (b.val:Int)<=15:=by decide +kernel
theorem zob:∀a b:Fin 16,VJ .and .i64 (a.val:Int) (b.val:Int)=VJ .and .i64 (b.val:Int) (a.val:Int):=by decide +kernel
theorem zoa:∀a b c:Fin 16,VJ .and .i64 (VJ .and .i64 (a.val:Int) (b.val:Int)) (c.val:Int)=VJ .and .i64 (a.val:Int) (VJ .and .i64 (b.val:Int) (c.val:Int)):=by decide +kernel
theorem zoc:∀(a b:Fin 16) (c:Fin 4),Ze (VJ .and .i64 (a.val:Int) (b.val:Int)) (c.val:Int)=(Ze (a.val:Int) (c.val:Int)&&Ze (b.val:Int) (c.val:Int)):=by decide +kernel
theorem zn9:∀a:Fin 16,VJ .and .i64 (a.val:Int) 0=0:=by decide +kernel
theorem Nh(a b:Int):Ow (VB a b)=true:=by
 unfold VB;split
 ·rename_i h;obtain⟨x,rfl⟩:=Pl h.1;obtain⟨y,rfl⟩:=Pl h.2;exact Qt.2 (zoe x y)
 ·exact Qt.2 Qd
theorem Tw{a b:Int}(ha:Ow a=true)(hb:Ow b=true):VB a b=VJ .and .i64 a b:=by unfold VB; rw[E' ⟨ha,hb⟩]
theorem X9{a b:Int}(h:Ow a=false\/Ow b=false):VB a b=0:=by
 unfold VB;rw[C'];rintro⟨h1,h2⟩;rcases h with h | h
 ·rw[h1] at h; cases h
 ·rw[h2] at h; cases h
theorem EA(a b:Int):VB a b=VB b a:=by
 cases ha:Ow a with
 | false=>rw[X9 (.inl ha),X9 (.inr ha)]
 | true=>
  cases hb:Ow b with
  | false=>rw[X9 (.inr hb),X9 (.inl hb)]
  | true=>
   rw[Tw ha hb,Tw hb ha];obtain⟨x,rfl⟩:=Pl ha;obtain⟨y,rfl⟩:=Pl hb;exact zob x y
theorem Lf(a:Int):VB a 0=0:=by
 cases ha:Ow a with
 | false=>exact X9 (.inl ha)
 | true=>
  rw[Tw ha Qd];obtain⟨x,rfl⟩:=Pl ha;exact zn9 x
theorem zi9(a b c:Int):VB (VB a b) c=VB a (VB b c):=by
 cases hb:Ow b with
 | false=>rw[X9 (a:=a) (.inr hb),X9 (b:=c) (.inl hb),EA 0 c,Lf,Lf]
 | true=>
  cases ha:Ow a with
  | false=>rw[X9 (b:=b) (.inl ha),X9 (b:=VB b c) (.inl ha),EA,Lf]
  | true=>
   cases hc:Ow c with
   | false=>rw[X9 (a:=VB a b) (.inr hc),X9 (a:=b) (.inr hc),Lf]
   | true=>
    have h1:=Nh a b;have h2:=Nh b c;rw[Tw h1 hc,Tw ha h2,Tw ha hb,Tw hb hc];obtain⟨x,rfl⟩:=Pl ha;obtain⟨y,rfl⟩:=Pl hb;obtain⟨z,rfl⟩:=Pl hc;exact zoa x y z
theorem P2{m c:Int}(h:Ze m c=true):Ow m=true/\0<=c/\c<=3:=by
 unfold Ze at h;simp only[A'] at h;exact⟨h.1.1,Qt.1 h.1.2⟩
theorem zg1{a b c:Int}(h:Ze (VB a b) c=true):Ze a c=true/\Ze b c=true:=by
 have hr:=P2 h
 have hz:Ze 0 c=false:=by
  have:c=0\/c=1\/c=2\/c=3:=Qo;rcases this with rfl | rfl | rfl | rfl <;> decide
 cases ha:Ow a with
 | false=>rw[X9 (.inl ha),hz] at h; cases h
 | true=>
  cases hb:Ow b with
  | false=>rw[X9 (.inr hb),hz] at h; cases h
  | true=>
   rw[Tw ha hb] at h;obtain⟨x,rfl⟩:=Pl ha;obtain⟨y,rfl⟩:=Pl hb;have:=zoc x y ⟨c.toNat,Qo⟩;rw[show ((⟨c.toNat,Qo⟩:Fin 4).val:Int)=c by show ((c.toNat:Nat):Int)=c; omega] at this;rw[this] at h
   simpa using h
def Up(cs:List Pf):Nat->Int
 | 0=>0
 | k+1=>if (gi cs (k:Int)).up=true then Up cs k+Jw k else Up cs k
def J8(cs:List Pf):Int:=Up cs cs.length
theorem Lr(cs:List Pf):∀k:Nat,k<=4->0<=Up cs k/\Up cs k<Jw k
 | 0,_=>by simp[Up,Jw]
 | k+1,h=>by
  have ih:=Lr cs k Qo
  have hb:Jw (k+1)=2*Jw k/\0<=Jw k:=by
   have:k=0\/k=1\/k=2\/k=3:=Qo;rcases this with rfl | rfl | rfl | rfl <;> decide
  simp only[Up]
  split <;> omega
theorem E1{k:Nat}(h:k<=4):1<=Jw k/\Jw k<=16:=by
 have:k=0\/k=1\/k=2\/k=3\/k=4:=Qo;rcases this with rfl | rfl | rfl | rfl | rfl <;> decide
theorem ztq{cs:List Pf}(h:cs.length<=4):Ow (J8 cs)=true:=by
 have:=Lr cs cs.length h;have:=E1 h;exact Qt.2 (by unfold J8; omega)
theorem zvp:∀(k:Fin 4) (s:Fin 8),(s.val:Int)<Jw k.val->VJ .or .i64 (s.val:Int) (Jw k.val)=(s.val:Int)+Jw k.val:=by decide +kernel
theorem zvo{k:Nat}{s:Int}(hk:k<4)(h0:0<=s)(h1:s<Jw k):VJ .or .i64 s (Jw k)=s+Jw k:=by
 have hb:Jw k<=8:=by
  have:k=0\/k=1\/k=2\/k=3:=Qo;rcases this with rfl | rfl | rfl | rfl <;> decide
 have:=zvp ⟨k,hk⟩ ⟨s.toNat,Qo⟩;rw[show ((⟨s.toNat,Qo⟩:Fin 8).val:Int)=s by show ((s.toNat:Nat):Int)=s; omega] at this;exact this h1
theorem zgm:∀(k:Fin 4) (s:Fin 8) (c:Fin 4),(s.val:Int)<Jw k.val->Ze ((s.val:Int)+Jw k.val) (c.val:Int)=(decide (c.val=k.val)||Ze (s.val:Int) (c.val:Int)):=by decide +kernel
theorem zfn(cs:List Pf){c:Int}:∀k:Nat,k<=4->Ze (Up cs k) c=true->c<(k:Int)/\(gi cs c).up=true
 | 0,_,h=>by
  have hr:=P2 h;have:c=0\/c=1\/c=2\/c=3:=Qo;rcases this with rfl | rfl | rfl | rfl <;> exact Is h (by simp only[Up]; decide)
 | k+1,hk,h=>by
  have hr:=P2 h;have ih:=zfn cs (c:=c) k Qo;have hl:=Lr cs k Qo
  have hb:Jw k<=8:=by
   have:k=0\/k=1\/k=2\/k=3:=Qo;rcases this with rfl | rfl | rfl | rfl <;> decide
  simp only[Up] at h
  split at h
  ·rename_i hu;have:=zgm ⟨k,Qo⟩ ⟨(Up cs k).toNat,Qo⟩ ⟨c.toNat,Qo⟩;rw[show ((⟨(Up cs k).toNat,Qo⟩:Fin 8).val:Int)=Up cs k by show (((Up cs k).toNat:Nat):Int)=Up cs k; omega,show ((⟨c.toNat,Qo⟩:Fin 4).val:Int)=c by show ((c.toNat:Nat):Int)=c; omega] at this;rw[this hl.2] at h;simp only[Iv,Ik] at h;rcases h with h | h
   ·have:c=(k:Int):=Qo;subst this;exact⟨Qo,hu⟩
   ·have:=ih h;exact⟨Qo,this.2⟩
  ·have:=ih h;exact⟨Qo,this.2⟩
def U2:Nat->List Zr->Int->List Int
 | 0,_,_=>[]
 | f+1,gs,g=>if g=0 then [] else g::U2 f gs (gi gs g).parent
abbrev Z2(gs:List Zr)(g:Int):List Int:=U2 3 gs g
theorem Zi(gs:List Zr)(f:Nat):U2 f gs 0=[]:=by cases f <;> simp[U2]
theorem zne{gs:List Zr}(ht:ZX gs):∀(f f':Nat) (h:Int),Q6 gs h=true->dep 3 gs h<=f->dep 3 gs h<=f'->U2 f gs h=U2 f' gs h:=by
 intro f
 induction f with
 | zero=>
  intro f' h hu h1 h2
  have hz:h=0:=Ir fun hz=>by
   obtain⟨_,_,_,d,e,_⟩:=Y3 ht hu hz;omega
  subst hz;rw[Zi,Zi]
 | succ f ih=>
  intro f' h hu h1 h2
  by_cases hz:h=0
  ·subst hz;rw[Zi,Zi]
  ·obtain⟨hp,_,_,d,e,e2,_⟩:=Y3 ht hu hz
   cases f' with
   | zero=>omega
   | succ f'=>
    simp only[U2];rw[C' hz,C' hz,ih f' (gi gs h).parent hp Qo Qo]
theorem Yl{gs:List Zr}(ht:ZX gs){h:Int}(hu:Q6 gs h=true)(hz:h≠0):Z2 gs h=h::Z2 gs (gi gs h).parent:=by
 obtain⟨hp,_,_,d,e,e2,hd⟩:=Y3 ht hu hz;show U2 3 gs h=_;rw[show U2 3 gs h=if h=0 then [] else h::U2 2 gs (gi gs h).parent from rfl,C' hz,zne ht 2 3 _ hp Qo Qo]
theorem P3{gs:List Zr}(ht:ZX gs){Q:Int->Prop}(h0:Q 0)(hs:∀h:Int,Q6 gs h=true->h≠0->Q (gi gs h).parent->Q h):∀h:Int,Q6 gs h=true->Q h:=by
 have key:∀(n:Nat) (h:Int),Q6 gs h=true->dep 3 gs h<=n->Q h:=by
  intro n
  induction n with
  | zero=>
   intro h hu hd
   by_cases hz:h=0
   ·subst hz; exact h0
   ·obtain⟨_,_,_,d,e,_⟩:=Y3 ht hu hz;omega
  | succ n ih=>
   intro h hu hd
   by_cases hz:h=0
   ·subst hz; exact h0
   ·obtain⟨hp,_,_,d,e,e2,_⟩:=Y3 ht hu hz;exact hs h hu hz (ih _ hp Qo)
 intro h hu;have:=VY gs 3 h;exact key 3 h hu Qo
theorem zqf{gs:List Zr}(ht:ZX gs){h:Int}(hu:Q6 gs h=true):Z2 gs h++[0]=h::(Z2 gs h).map fun x=>(gi gs x).parent:=by
 refine P3 ht (Q:=fun h=>Z2 gs h++[0]=h::(Z2 gs h).map fun x=>(gi gs x).parent) (by simp[Z2,Zi]) (fun h hu hz ih=>?_) h hu;rw[Yl ht hu hz,List.cons_append,ih,List.map_cons]
def V7(gs:List Zr)(g u:Int):Int:=(Z2 gs g++[0]).foldl (fun s x=>VB s (gi gs x).IE) u
def zhs(gs:List Zr)(g:Int):Int:=(Z2 gs g).foldl (fun s x=>VB s (gi gs (gi gs x).parent).IE) (gi gs g).IE
theorem zgh(f:Int->Int):∀(l:List Int) (m u:Int),VB (l.foldl (fun s x=>VB s (f x)) m) u=l.foldl (fun s x=>VB s (f x)) (VB u m)
 | [],m,u=>EA m u
 | x::l,m,u=>by
  simp only[List.foldl_cons];rw[zgh f l,zi9]
theorem zqu{gs:List Zr}(ht:ZX gs){g u:Int}(hu:Q6 gs g=true):VB (zhs gs g) u=V7 gs g u:=by
 unfold zhs V7;rw[zqf ht hu,List.foldl_cons,List.foldl_map,zgh (fun x=>(gi gs (gi gs x).parent).IE)]
theorem zlh{gs:List Zr}{g u c:Int}(h:Ze (V7 gs g u) c=true):Ze u c=true:=by
 unfold V7 at h
 revert h
 generalize Z2 gs g++[0]=l
 induction l generalizing u with
 | nil=>exact fun h=>h
 | cons x l ih=>
  intro h;rw[List.foldl_cons] at h;exact(zg1 (ih h)).1
def Qv(W:Q7)(g mask:Int):Int:=
 if VB mask (V7 W.ID g (J8 W.IE))≠0 then VB mask (V7 W.ID g (J8 W.IE)) else if V7 W.ID g (J8 W.IE)≠0 then V7 W.ID g (J8 W.IE) else J8 W.IE
theorem znx{W:Q7}{g mask c:Int}(h:Ze (Qv W g mask) c=true):Ze (J8 W.IE) c=true:=by
 unfold Qv at h
 split at h
 ·exact zlh (zg1 h).2
 ·split at h
  ·exact zlh h
  ·exact h
def Um(l:List Int):Nat->Int
 | 0=>0
 | k+1=>Um l k+gi l (k:Int)
def VN(p:Nat->Bool):Nat->Bool
 | 0=>false
 | k+1=>VN p k||p k
theorem Gj{p:Nat->Bool}:∀{n:Nat},VN p n=true↔∃j,j<n/\p j=true
 | 0=>by simp[VN]
 | n+1=>by
  simp only[VN,Iv,Gj (n:=n)];constructor
  ·rintro (⟨j,hj,h⟩ | h)
   ·exact⟨j,Qo,h⟩
   ·exact⟨n,Qo,h⟩
  ·rintro⟨j,hj,h⟩
   by_cases hjn:j=n
   ·subst hjn; exact .inr h
   ·exact .inl ⟨j,Qo,h⟩
theorem zdo{p:Nat->Bool}{n:Nat}(h:∀j,j<n->p j=false):VN p n=false:=by
 cases ha:VN p n with
 | false=>rfl
 | true=>
  obtain⟨j,hj,hp⟩:=Gj.1 ha;rw[h j hj] at hp; cases hp
noncomputable def XQ(P:Prop):Bool:=@decide P (Classical.propDecidable P)
theorem Qi{P:Prop}:XQ P=true↔P:=@decide_eq_true_iff P (Classical.propDecidable P)
theorem Ko{P:Prop}:XQ P=false↔¬P:=by
 constructor
 ·intro h hp;rw[Qi.2 hp] at h; cases h
 ·intro h
  cases hb:XQ P with
  | false=>rfl
  | true=>exact Is (Qi.1 hb) h
theorem Og{b:Bool}{P:Prop}(h:b=true↔P):Value.bool b=.bool (XQ P):=by
 have:b=XQ P:=by
  cases hb:XQ P with
  | true=>exact h.2 (Qi.1 hb)
  | false=>
   cases hc:b with
   | false=>rfl
   | true=>exact Is (h.1 hc) (Ko.1 hb)
 rw[this]
theorem Ka{P:Prop}(h:¬P):Value.bool false=.bool (XQ P):=by rw[Ko.2 h]
theorem zh5{P:Prop}(h:P):Value.bool true=.bool (XQ P):=by rw[Qi.2 h]
def Q8(W:Q7)(t:Int):Pi:=gi W.tasks t
def Qc(W:Q7)(g c:Int):K0:=gi (gi W.ID g).IF c
def ZF(v:Int):Bool:=Yx v 0 100000000000000000
theorem Y2{v:Int}:ZF v=true↔0<=v/\v<=100000000000000000:=Qt
def Tl(b:Jj):Bool:=((((b.I'==0)&&(b.Sp==0))&&(b.Ww==0))&&(((b.locals.length:Nat):Int)==0))&&(((b.RI.length:Nat):Int)==0)
structure VK (b:Jj):Prop where
 q1:1<=b.I'
 q2:b.I'<=10000
 l1:1<=b.locals.length
 l2:b.locals.length<=4
 dl:b.RI.length=b.locals.length
 p1:0<=b.Sp
 p2:b.Sp<=b.I'
 s1:0<=b.Ww
 s2:b.Ww<=b.I'
 each:∀c:Int,0<=c->c<(b.locals.length:Int)->0<=gi b.locals c/\gi b.locals c<=b.I'/\(gi b.RI c=true->gi b.locals c=0/\b.Sp=0)
 sum:b.Sp+b.Ww+Um b.locals b.locals.length=b.I'
structure zh8 (W:Q7) (k:Int) (g:Zr):Prop where
 w1:1<=g.weight
 w2:g.weight<=20
 m:Ow g.IE=true
 m0:g.IE≠0
 s:ZF g.sum=true
 len:g.IF.length=W.IE.length
 root:k=0->g.weight=10/\g.IE=15/\g.IT.I'=0
 none:g.IT.I'=0->Tl g.IT=true/\g.period=0/\g.next=0
 IT:g.IT.I'≠0->VK g.IT/\g.IT.locals.length=W.IE.length/\1<=g.period/\g.period<=1000/\W.now<g.next/\g.next-W.now<=g.period
structure zn4 (g:Zr):Prop where
 p:g.parent=0
 n:g.name=⟨[].toArray⟩
 w:g.weight=0
 c:g.IE=0
 pe:g.period=0
 ne:g.next=0
 s:g.sum=0
 l:g.IF.length=0
 b:Tl g.IT=true
def Pt(W:Q7)(k:Int):Prop:=((gi W.ID k).used=false->zn4 (gi W.ID k))/\((gi W.ID k).used=true->zh8 W k (gi W.ID k))
structure WA (W:Q7):Prop where
 n1:0<=W.now
 n2:W.now<=100000000000000000
 c1:1<=W.IE.length
 c2:W.IE.length<=4
 t:W.tasks.length=12
 tree:ZX W.ID
 ups:J8 W.IE≠0
 grp:∀k:Int,0<=k->k<8->Pt W k
def V4(W:Q7)(g c:Int):Bool:=decide ((gi W.ID g).IT.I'>0)&&gi (gi W.ID g).IT.RI c
def TY(W:Q7)(g c:Int)(j:Nat):Bool:=(((gi W.tasks (j:Int)).state==1)&&((gi W.tasks (j:Int)).group==g))&&((gi W.tasks (j:Int)).R9==c)
def J1(W:Q7)(g c:Int)(j:Nat):Bool:=(decide (1<=j)&&((gi W.ID (j:Int)).used&&((gi W.ID (j:Int)).parent==g)))&&(Qc W (j:Int) c).on
def QU(W:Q7)(g c:Int):Bool:=VN (TY W g c) W.tasks.length||VN (J1 W g c) W.ID.length
def Uj(W:Q7)(g c:Int):Bool:=(Z2 W.ID g).all fun x=>(Qc W x c).on
def ZE(W:Q7)(t:Int):Bool:=((Q8 W t).state==1)&&Uj W (Q8 W t).group (Q8 W t).R9
def PJ(v f k:Int):Bool:=decide (v>=f)&&decide (IntKind.i64.wrap (v-f)<=Zv k)
def VU(W:Q7)(g c WS:Int):Bool:=(Z2 W.ID g).all fun x=>decide ((Qc W x c).v-(Qc W (gi W.ID x).parent c).floor<=Z9 WS (Qc W x c).w)
def P7(W:Q7)(c:Int):Bool:=
 decide ((Q8 W (gi W.IE c).cur).v-(Qc W (Q8 W (gi W.IE c).cur).group c).floor<=Z9 (gi W.IE c).WS (Qf (Q8 W (gi W.IE c).cur).nice))&&VU W (Q8 W (gi W.IE c).cur).group c (gi W.IE c).WS
def VV:Pi:=⟨0,0,0,0,0,0,0,0,0⟩
structure zrn (W:Q7) (x:Pi):Prop where
 st:x.state=1\/x.state=2
 g:Q6 W.ID x.group=true
 n:Qf x.nice≠0
 m:Ow x.mask=true
 m0:x.mask≠0
 v:ZF x.v=true
 s:ZF x.sum=true
 u:ZF x.used=true
 l1:0<=x.load
 l2:x.load<=8000000
 c:Ze (Qv W x.group x.mask) x.R9=true
 f:x.state=1->PJ x.v (Qc W x.group x.R9).floor (Qf x.nice)=true
def Ft(W:Q7)(t:Int):Prop:=(Q8 W t).state=0/\Q8 W t=VV\/(Q8 W t).state≠0/\zrn W (Q8 W t)
structure Pu (W:Q7) (k c:Int):Prop where
 f:ZF (Qc W k c).floor=true
 v:ZF (Qc W k c).v=true
 s:ZF (Qc W k c).sum=true
 w1:1<=(Qc W k c).w
 w2:(Qc W k c).w<=20
 root:k=0->(Qc W k c).on=false/\(Qc W k c).v=0/\(Qc W k c).w=10
 on:k≠0->(Qc W k c).on=(QU W k c && !V4 W k c)
 st:k≠0->(Qc W k c).on=true->PJ (Qc W k c).v (Qc W (gi W.ID k).parent c).floor (Qc W k c).w=true
structure DC (W:Q7) (c:Int):Prop where
 b:ZF (gi W.IE c).busy=true
 i:ZF (gi W.IE c).idle=true
 c1 : -1<=(gi W.IE c).cur
 c2:(gi W.IE c).cur<(W.tasks.length:Int)
 no:(gi W.IE c).cur<0->(gi W.IE c).WS=0
 yes:0<=(gi W.IE c).cur->(gi W.IE c).up=true/\1<=(gi W.IE c).WS/\(gi W.IE c).WS<=149/\(Q8 W (gi W.IE c).cur).R9=c/\ZE W (gi W.IE c).cur=true/\P7 W c=true
structure XA (W:Q7):Prop where
 a:WA W
 t:∀t:Int,0<=t->t<12->Ft W t
 s:∀k c:Int,0<=k->k<8->0<=c->c<((gi W.ID k).IF.length:Int)->Pu W k c
 c:∀c:Int,0<=c->c<(W.IE.length:Int)->DC W c
noncomputable def Qx(W:Q7):Bool:=XQ (XA W)
section
variable {W:Q7}
theorem WA.gl(h:WA W):W.ID.length=8:=h.tree.len
theorem WA.u(h:WA W){g:Int}(hu:Q6 W.ID g=true):0<=g/\g<8/\zh8 W g (gi W.ID g):=by
 obtain⟨a,b,c⟩:=Q5.1 hu;have:=h.gl;exact⟨a,Qo,(h.grp g a Qo).2 c⟩
theorem WA.root(h:WA W):Q6 W.ID 0=true:=Q5.2 ⟨Qd,by have:=h.gl; omega,h.tree.ru⟩
theorem WA.sl(h:WA W){g:Int}(hu:Q6 W.ID g=true):(gi W.ID g).IF.length=W.IE.length:=(h.u hu).2.2.len
theorem WA.up(h:WA W){g:Int}(hu:Q6 W.ID g=true)(hz:g≠0):Q6 W.ID (gi W.ID g).parent=true:=(Y3 h.tree hu hz).1
theorem WA.dl(h:WA W){g:Int}(hu:Q6 W.ID g=true)(hq:(gi W.ID g).IT.I'≠0):(gi W.ID g).IT.RI.length=W.IE.length/\(gi W.ID g).IT.locals.length=W.IE.length:=by
 have hb:=(h.u hu).2.2.IT hq;exact⟨by rw[hb.1.dl,hb.2.1],hb.2.1⟩
end
theorem Ys{v:Int}{w:Wo}{bs:List Nat}:PX bs ZC #[I v] w (.bool (ZF v)):=zbi v fun wr hx=>⟨_,Qm,rfl⟩
theorem ZH{n:Int}{w:Wo}{bs:List Nat}:PX bs Za #[I n] w (I (Qf n)):=
 BQ n fun wr hx=>⟨_,Qm,fun g=>by
  unfold Qf; rw[C' (by simpa using g)],fun g=>by
  have g':Yx n (-10) 9=true:=by simpa using g
  have:=Qt.1 g';refine⟨⟨Qo,Qo⟩,?_⟩;unfold Qf; rw[E' g']⟩
theorem YY{m:Int}{w:Wo}{bs:List Nat}:PX bs ZS #[I m] w (.bool (Ow m)):=zbe m fun wr hx=>⟨_,Qm,rfl⟩
theorem ZT{m c:Int}{w:Wo}{bs:List Nat}:PX bs Zh #[I m,I c] w (.bool (Ze m c)):=
 C3 m c fun wr hx=>by
  have hr:(Ow m&&Yx c 0 3)=true->0<=c/\c<=3:=fun g=>by
   simp only[A'] at g;exact Qt.1 g.2
  exact⟨_,YY,_,fun _=>Qm,fun g=>by have:=hr g; exact⟨Qo,by show c<=18446744073709551615; omega⟩,fun g=>(hr g).1,fun _=>by decide,rfl⟩
theorem zkd(a b:Int):∀k:Nat,k<=4->0<=NS a b k/\NS a b k<Jw k
 | 0,_=>by simp[NS,Jw]
 | k+1,h=>by
  have ih:=zkd a b k Qo
  have hb:Jw (k+1)=2*Jw k/\0<=Jw k:=by
   have:k=0\/k=1\/k=2\/k=3:=Qo;rcases this with rfl | rfl | rfl | rfl <;> decide
  simp only[NS]
  split <;> omega
theorem zt3{k:Nat}(h:k<=64):Qq .u64 (k:Int):=⟨by show (0:Int)<=(k:Int); omega,by show (k:Int)<=18446744073709551615; omega⟩
theorem OY{a b:Int}{w:Wo}{bs:List Nat}:PX bs J4 #[I a,I b] w (I (VB a b)):=
 C2 a b fun wr hx=>by
  refine⟨_,YY,_,fun _=>YY,fun g=>?_,fun g=>?_⟩
  ·rw[X9]
   simpa using g
  ·simp only[I0,I7] at g
   have he:VB a b=NS a b 4:=by
    rw[Tw g.1 g.2];obtain⟨x,rfl⟩:=Pl g.1;obtain⟨y,rfl⟩:=Pl g.2;exact(zod x y).symm
   rw[he];refine TN 4 0 rfl (fun x k=>k<=4/\x=NS a b k) ⟨Qo,rfl⟩ fun x k ⟨hk,hx⟩=>⟨fun IQ=>?_,fun RH=>?_⟩
   ·have IQ:=Ot IQ;have hb:=E1 (k:=k) Qo;have hl:=zkd a b k hk;have nG:(1*2 ^ (min (Int.toNat (k:Int)) 64):Int)=Jw k:=rfl;refine⟨_,ZT,_,fun _=>ZT,fun h=>?_,fun h=>?_⟩
    ·rw[nG];refine⟨zt3 Qo,⟨Qo,Qo,Qo⟩,⟨Qo,Qo⟩,⟨Qo,Qo⟩,QF Qo ⟨Qo,?_⟩⟩;rw[hx]; simp only[NS]; rw[E' h]
    ·refine⟨⟨Qo,Qo⟩,QF Qo ⟨Qo,?_⟩⟩;rw[hx]; simp only[NS]; rw[C' (by rw[h]; decide)]
   ·have RH:=Ou RH;have:k=4:=Qo;subst this;rw[hx]
theorem AQ{b:Jj}(h:Tl b=true):b.I'=0/\b.Sp=0/\b.Ww=0/\b.locals.length=0/\b.RI.length=0:=by
 unfold Tl at h;simp only[A',It] at h;omega
theorem MV{b:Jj}{m:MG}{w:Wo}{bs:List Nat}:PX bs JV #[.agg (Z4 b m).toArray] w (.bool (Tl b)):=
 BZ b.I' b.Sp b.Ww m.lO b.locals.length m.lC m.dO b.RI.length m.dC fun wr hx=>fun _ _=>rfl
theorem LY{b:Jj}{m:MG}{w:Wo}{bs:List Nat}(h1:zka bs w m.lO b.locals)(h2:zrg bs w m.dO b.RI)(hl:b.locals.length<=maxLen):PX bs Vm #[.agg (Z4 b m).toArray] w (.bool (XQ (VK b))):=
 zbc b.I' b.Sp b.Ww m.lO b.locals.length m.lC m.dO b.RI.length m.dC fun wr hx=>by
  have h1:=(h1.ext hx).less (cs:=[]) Qs;have h2:=(h2.ext hx).less (cs:=[]) Qs;intro _ _;refine⟨_,Qm,_,fun _=>Qm,_,fun _=>Qm,_,fun _=>Qm,fun g=>Ka fun p=>?_,fun g=>?_⟩
  ·rw[Qt.2 ⟨p.q1,p.q2⟩,Qt.2 (by have:=p.l1; have:=p.l2; omega),Qt.2 ⟨p.p1,p.p2⟩,Qt.2 ⟨p.s1,p.s2⟩,p.dl] at g;simp at g
  ·simp only[I0,I7,bne_eq_false_iff_eq,Qt] at g;obtain⟨⟨⟨⟨g1,g2⟩,g3⟩,g4⟩,g5⟩:=g;have hdl:b.RI.length=b.locals.length:=Qo
   have all:∀{k:Nat},k<=b.locals.length->(∀c:Int,0<=c->c<(k:Int)->0<=gi b.locals c/\gi b.locals c<=b.I'/\(gi b.RI c=true->gi b.locals c=0/\b.Sp=0))->0<=Um b.locals k/\Um b.locals k<=40000:=fun {k} hk h=>by
    have key:∀j:Nat,j<=k->0<=Um b.locals j/\Um b.locals j<=(j:Int)*10000:=fun j=>by
     induction j with
     | zero=>intro _; simp[Um]
     | succ j ih=>
      intro hj;have:=ih Qo;have:=h (j:Int) Qo Qo;simp only[Um]; omega
    have:=key k (I8 _);omega
   refine⟨⟨Qo,Qo⟩,?_⟩;refine TN b.locals.length 0 rfl (fun x k=>k<=b.locals.length/\x=b.Sp+b.Ww+Um b.locals k/\∀c:Int,0<=c->c<(k:Int)->0<=gi b.locals c/\gi b.locals c<=b.I'/\(gi b.RI c=true->gi b.locals c=0/\b.Sp=0)) ⟨Ie _,by simp[Um],fun c h0 h1=>by omega⟩ fun x k ⟨hk,R6,hI⟩=>⟨fun IQ=>?_,fun RH=>?_⟩
   ·have IQ:=Ot IQ;have RU:(k:Int)<(b.RI.length:Int):=Qo;have hsr:=all hk hI;refine⟨h1.ix Vg Qo IQ,_,h1 k Qo IQ,_,Qm,fun _=>h2.ix Aa Qo RU,_,fun _=>h2 k Qo RU,fun _ _=>h1.ix Vg Qo IQ,_,fun _ _=>h1 k Qo IQ,fun g=>Ka fun p=>?_,fun g=>⟨h1.ix Vg Qo IQ,_,h1 k Qo IQ,?_⟩⟩
    ·have pe:=p.each (k:Int) Qo IQ;rw[Qt.2 ⟨pe.1,pe.2.1⟩] at g;simp only[Bool.not_true,Bool.false_or,A',Iv,Ik] at g;have:=pe.2.2 g.1;omega
    ·simp only[I0,I7,Qt] at g;obtain⟨ga,gb⟩:=g;refine⟨⟨Qo,Qo⟩,⟨Qo,Qo⟩,QF Qo ⟨Qo,by simp only[Um]; omega,fun c hc0 hc=>?_⟩⟩
     by_cases hck:c<(k:Int)
     ·exact hI c hc0 hck
     ·have:c=(k:Int):=Qo;subst this;refine⟨ga.1,ga.2,fun hd=>?_⟩;rw[hd] at gb;simp only[Bool.true_and,I0,decide_eq_false_iff_not] at gb;omega
   ·have RH:=Ou RH;have:k=b.locals.length:=Qo;subst this;refine Og ?_;rw[It,R6];constructor
    ·intro hs;exact⟨g1.1,g1.2,Qo,Qo,hdl,g4.1,g4.2,g5.1,g5.2,hI,hs⟩
    ·exact fun p=>p.sum
section
variable {W:Q7}{m:MW}{w:Wo}{bs:List Nat}
theorem Mj.S3{gs:List Zr}{ms:Nat->MG}{o:OA}(h:Mj bs w o gs ms){i:Int}(h0:0<=i)(h1:i<(gs.length:Int)):Q2 bs w o (Int.toNat i*14+13) [.slice (ms i.toNat).sO (gi gs i).IF.length (ms i.toNat).sC]:=(h.cells i h0 h1).get 13 _ rfl
theorem Mj.IE{gs:List Zr}{ms:Nat->MG}{o:OA}(h:Mj bs w o gs ms){i:Int}(h0:0<=i)(h1:i<(gs.length:Int)):Q2 bs w o (Int.toNat i*14+4) [I (gi gs i).IE]:=(h.cells i h0 h1).get 4 _ rfl
theorem Mj.IT{gs:List Zr}{ms:Nat->MG}{o:OA}(h:Mj bs w o gs ms){i:Int}(h0:0<=i)(h1:i<(gs.length:Int)):Q2 bs w o (Int.toNat i*14+8) (Z4 (gi gs i).IT (ms i.toNat)):=UY fun j v hj=>by
 have e:Yb (gi gs i) (ms i.toNat)=((Yb (gi gs i) (ms i.toNat)).take 8++Z4 (gi gs i).IT (ms i.toNat))++[.slice (ms i.toNat).sO (gi gs i).IF.length (ms i.toNat).sC]:=rfl
 have hj':j<5:=by
  have:=(I9.1 hj).1
  simpa[Z4] using this
 have:=(h.cells i h0 h1).get (8+j) v (by
  rw[e,Iq (by simp[Yb,Z4]; omega),List.getElem?_append_right (by simp[Yb])]
  simpa[Yb] using hj)
 rwa[<-Nat.add_assoc] at this
theorem zrh.f{ts:List Pi}{o:OA}(h:zrh bs w o ts){i:Int}(h0:0<=i)(h1:i<(ts.length:Int)){j:Nat}{v:Va}(hj:(YT (gi ts i))[j]? = some v):Q2 bs w o (Int.toNat i*9+j) [v]:=UD ((h i h0 h1).get j v hj)
theorem zwc.f{cs:List Pf}{o:OA}(h:zwc bs w o cs){i:Int}(h0:0<=i)(h1:i<(cs.length:Int)){j:Nat}{v:Va}(hj:(Mx (gi cs i))[j]? = some v):Q2 bs w o (Int.toNat i*5+j) [v]:=UD ((h i h0 h1).get j v hj)
theorem zh7.f{ss:List K0}{o:OA}(h:zh7 bs w o ss){i:Int}(h0:0<=i)(h1:i<(ss.length:Int)){j:Nat}{v:Va}(hj:(PS (gi ss i))[j]? = some v):Q2 bs w o (Int.toNat i*5+j) [v]:=UD ((h i h0 h1).get j v hj)
theorem MA(h:Xb bs w W m)(h4:W.IE.length<=4):PX bs Ug #[.agg (Qa W m).toArray] w (I (J8 W.IE)):=
 ze8 _ _ _ _ _ _ _ _ _ _ fun wr hx=>by
  have h:=(h.ext hx).less (cs:=[]) Qs;intro _ _;refine TN W.IE.length 0 rfl (fun x k=>k<=W.IE.length/\x=Up W.IE k) ⟨Ie _,rfl⟩ fun x k ⟨hk,R6⟩=>⟨fun IQ=>?_,fun RH=>?_⟩
  ·have IQ:=Ot IQ;have hb:=E1 (k:=k) Qo;have hl:=Lr W.IE k Qo;have nG:(1*2 ^ (min (Int.toNat (k:Int)) 64):Int)=Jw k:=rfl;refine⟨h.c.ix Y0 Qo IQ,_,h.c.f Qo IQ (j:=0) rfl,fun hu=>?_,fun hu=>?_⟩
   ·rw[nG];refine⟨zt3 Qo,⟨Qo,Qo,Qo⟩,⟨Qo,Qo⟩,⟨Qo,Qo⟩,QF Qo ⟨Qo,?_⟩⟩;rw[R6]; simp only[Up]; rw[E' hu]
   ·refine⟨⟨Qo,Qo⟩,QF Qo ⟨Qo,?_⟩⟩;rw[R6]; simp only[Up]; rw[C' (by rw[hu]; decide)]
  ·have RH:=Ou RH;have:k=W.IE.length:=Qo;subst this;rw[R6]; rfl
theorem zay{g:Int}(h:Xb bs w W m)(ht:ZX W.ID)(hu:Q6 W.ID g=true):PX bs OO #[.agg (Qa W m).toArray,I g] w (I (zhs W.ID g)):=
 zbm _ _ _ _ _ _ _ _ _ _ g fun wr hx=>by
  have h:=(h.ext hx).less (cs:=[]) Qs;intro _ _;obtain⟨u1,u2,_⟩:=Q5.1 hu;refine⟨h.g.ix u1 u2,_,h.g.IE u1 u2,fun vs=>∃(x s:Int),vs=[I x,I s]/\Q6 W.ID x=true/\(Z2 W.ID x).foldl (fun s x=>VB s (gi W.ID (gi W.ID x).parent).IE) s=zhs W.ID g,fun vs=>(dep 3 W.ID (Y5 0 vs)).toNat,⟨g,_,rfl,hu,rfl⟩,?_⟩;rintro x s ⟨x',s',he,hux,hI⟩;simp only[I5,I6,true_and,and_true] at he;obtain⟨rfl,rfl⟩:=he;refine⟨fun hz=>?_,fun hz=>?_⟩
  ·have hz:x≠0:=by simpa using hz
   obtain⟨hp,a,b,d,e,e2,hd⟩:=Y3 ht hux hz;obtain⟨v1,v2,_⟩:=Q5.1 hp;rw[Yl ht hux hz,List.foldl_cons] at hI
   exact⟨h.g.ix a b,_,h.g.parent a b,h.g.ix v1 v2,_,h.g.IE v1 v2,_,OY,⟨_,_,rfl,hp,hI⟩,by
    show (dep 3 W.ID (gi W.ID x).parent).toNat<(dep 3 W.ID x).toNat;omega⟩
  ·have hz:x=0:=by simpa using hz
   subst hz;rw[show Z2 W.ID 0=[] from Zi _ _,List.foldl_nil] at hI;rw[hI]
theorem XH{g mask:Int}(h:Xb bs w W m)(h4:W.IE.length<=4)(ht:ZX W.ID)(hu:Q6 W.ID g=true):PX bs Ya #[.agg (Qa W m).toArray,I g,I mask] w (I (Qv W g mask)):=
 Cd _ _ _ _ _ _ _ _ _ _ g mask fun wr hx=>by
  have h:=(h.ext hx).less (cs:=[]) Qs;intro _ _;have hk:=OY (a:=zhs W.ID g) (b:=J8 W.IE) (w:=wr) (bs:=[]);rw[zqu ht hu] at hk;refine⟨_,MA h h4,_,zay h ht hu,_,hk,_,OY,fun g1=>?_,fun g1=>⟨fun g2=>?_,fun g2=>?_⟩⟩
  ·unfold Qv; rw[E' (by simpa using g1)]
  ·unfold Qv; rw[C' (by simpa using g1),E' (by simpa using g2)]
  ·unfold Qv; rw[C' (by simpa using g1),C' (by simpa using g2)]
theorem Mz{g c:Int}(h:Xb bs w W m)(ha:WA W)(hu:Q6 W.ID g=true)(c0:0<=c)(c1:c<(W.IE.length:Int)):PX bs Uf #[.agg (Qa W m).toArray,I g,I c] w (.bool (V4 W g c)):=
 ze7 _ _ _ _ _ _ _ _ _ _ g c fun wr hx=>by
  have h:=(h.ext hx).less (cs:=[]) Qs;intro _ _;obtain⟨u1,u2,_⟩:=Q5.1 hu
  have hd:(decide ((gi W.ID g).IT.I'>0))=true->c<((gi W.ID g).IT.RI.length:Int):=fun g1=>by
   have:=Ot g1;rw[(ha.dl hu Qo).1]; exact c1
  exact⟨h.g.ix u1 u2,_,_,_,_,_,_,_,_,_,h.g.IT u1 u2,fun _ _=>⟨fun g1=>(h.g.RI g u1 u2).ix Aa c0 (hd g1),_,fun g1=>(h.g.RI g u1 u2) c c0 (hd g1),rfl⟩⟩
theorem Uz{g c:Int}(h:Xb bs w W m)(ha:WA W)(hu:Q6 W.ID g=true)(c0:0<=c)(c1:c<(W.IE.length:Int)):PX bs X2 #[.agg (Qa W m).toArray,I g,I c] w (.bool (Qc W g c).on):=
 N0 _ _ _ _ _ _ _ _ _ _ g c fun wr hx=>by
  have h:=(h.ext hx).less (cs:=[]) Qs;intro _ _;obtain⟨u1,u2,_⟩:=Q5.1 hu;have hs:=ha.sl hu;have c2:c<((gi W.ID g).IF.length:Int):=Qo;exact⟨h.g.ix u1 u2,_,_,_,h.g.S3 u1 u2,(h.g.IF g u1 u2).ix ZK c0 c2,_,zh7.f (h.g.IF g u1 u2) c0 c2 (j:=1) rfl,rfl⟩
theorem zfp{gs:List Zr}{k:Nat}(hk:(k:Int)<(gs.length:Int))(hu:(gi gs (k:Int)).used=true):Q6 gs (k:Int)=true:=Q5.2 ⟨Qo,hk,hu⟩
theorem Oc{g c:Int}(h:Xb bs w W m)(ha:WA W)(c0:0<=c)(c1:c<(W.IE.length:Int)):PX bs XG #[.agg (Qa W m).toArray,I g,I c] w (.bool (QU W g c)):=
 BX _ _ _ _ _ _ _ _ _ _ g c fun wr hx=>by
  have h:=(h.ext hx).less (cs:=[]) Qs;intro _ _;have bW:=ha.gl;have hm9:=Zc;refine Xg W.tasks.length 0 rfl (fun k=>k<=W.tasks.length/\∀j:Nat,j<k->TY W g c j=false) ⟨Ie _,fun j hj=>Is hj (Nat.not_lt_zero j)⟩ fun k ⟨hk,hI⟩=>⟨fun IQ=>?_,fun RH=>?_⟩
  ·have IQ:=Ot IQ;have ht:=ha.t;refine⟨h.t.ix QL Qo IQ,_,h.t.f Qo IQ (j:=0) rfl,fun _=>h.t.ix QL Qo IQ,_,fun _=>h.t.f Qo IQ (j:=1) rfl,fun _=>h.t.ix QL Qo IQ,_,fun _=>h.t.f Qo IQ (j:=2) rfl,fun hy=>?_,fun hn=>⟨⟨Qo,Qo⟩,QA Qo ⟨Qo,fun j hj=>?_⟩⟩⟩
   ·unfold QU;rw[Gj.2 ⟨k,Qo,hy⟩]; rfl
   ·by_cases gG:j<k
    ·exact hI j gG
    ·have:j=k:=Qo;subst this; exact hn
  ·have RH:=Ou RH;have i':VN (TY W g c) W.tasks.length=false:=zdo fun j hj=>hI j Qo
   refine Xg W.ID.length 1 rfl (fun k=>1<=k/\k<=W.ID.length/\∀j:Nat,j<k->J1 W g c j=false) ⟨I8 _,Qo,fun j hj=>by
    have:j=0:=Qo;subst this; simp[J1]⟩ fun k ⟨hk1,hk,hI⟩=>⟨fun IQ=>?_,fun RH=>?_⟩
   ·have IQ:=Ot IQ;refine⟨h.g.ix Qo IQ,_,h.g.used Qo IQ,fun _=>h.g.ix Qo IQ,_,fun _=>h.g.parent Qo IQ,(Qc W (k:Int) c).on,fun hu=>Uz h ha (zfp IQ (by simp only[A'] at hu; exact hu.1)) c0 c1,fun hy=>?_,fun hn=>⟨⟨Qo,Qo⟩,QA Qo ⟨Qo,Qo,fun j hj=>?_⟩⟩⟩
    ·unfold QU
     have:VN (J1 W g c) W.ID.length=true:=Gj.2 ⟨k,Qo,by
      unfold J1;rw[Ii hk1,Bool.true_and]; exact hy⟩
     rw[this,Bool.or_true]
    ·by_cases gG:j<k
     ·exact hI j gG
     ·have:j=k:=Qo;subst this;unfold J1;rw[Ii hk1,Bool.true_and]; exact hn
   ·have RH:=Ou RH;have:VN (J1 W g c) W.ID.length=false:=zdo fun j hj=>hI j Qo
    unfold QU;rw[i',this]; rfl
theorem Uy{t:Int}(h:Xb bs w W m)(ha:WA W)(t0:0<=t)(t1:t<(W.tasks.length:Int))(hu:(Q8 W t).state=1->Q6 W.ID (Q8 W t).group=true/\0<=(Q8 W t).R9/\(Q8 W t).R9<(W.IE.length:Int)) :
  PX bs Yk #[.agg (Qa W m).toArray,I t] w (.bool (ZE W t)):=
 BY _ _ _ _ _ _ _ _ _ _ t fun wr hx=>by
  have h:=(h.ext hx).less (cs:=[]) Qs;intro _ _;refine⟨h.t.ix QL t0 t1,_,_,_,_,_,_,_,_,_,h.t t t0 t1,fun _ _=>⟨fun g=>?_,fun g=>?_⟩⟩
  ·have:((Q8 W t).state==1)=false:=by simpa[Q8] using g
   unfold ZE; rw[this]; rfl
  ·have hs:(Q8 W t).state=1:=by simpa[Q8] using g
   obtain⟨hug,hc0,uS⟩:=hu hs;have hL:ZE W t=Uj W (Q8 W t).group (Q8 W t).R9:=by unfold ZE; rw[It.2 hs,Bool.true_and]
   rw[hL];refine⟨fun vs=>∃x:Int,vs=[I x]/\Q6 W.ID x=true/\Uj W x (Q8 W t).R9=Uj W (Q8 W t).group (Q8 W t).R9,fun vs=>(dep 3 W.ID (Y5 0 vs)).toNat,⟨_,rfl,hug,rfl⟩,?_⟩;rintro x ⟨x',he,hux,hI⟩;simp only[I5,I6,true_and,and_true] at he;subst he;refine⟨fun hz=>?_,fun hz=>?_⟩
   ·have hz:x≠0:=by simpa using hz
    obtain⟨hp,a,b,d,e,e2,hd⟩:=Y3 ha.tree hux hz;unfold Uj at hI;rw[Yl ha.tree hux hz,List.all_cons] at hI
    refine⟨_,Uz h ha hux hc0 uS,fun g2=>?_,fun g2=>⟨h.g.ix a b,_,h.g.parent a b,⟨_,rfl,hp,?_⟩,by
     show (dep 3 W.ID (gi W.ID x).parent).toNat<(dep 3 W.ID x).toNat;omega⟩⟩
    ·have g2:(Qc W x (Q8 W t).R9).on=false:=by simpa[Q8] using g2
     rw[g2,Bool.false_and] at hI;unfold Uj;rw[<-hI]
    ·have g2:(Qc W x (Q8 W t).R9).on=true:=by simpa[Q8] using g2
     rw[g2,Bool.true_and] at hI;exact hI
   ·have hz:x=0:=by simpa using hz
    subst hz;unfold Uj at hI;rw[show Z2 W.ID 0=[] from Zi _ _,List.all_nil] at hI;unfold Uj;rw[<-hI]
end
theorem KG{v f k:Int}{w:Wo}{bs:List Nat}:PX bs Uv #[I v,I f,I k] w (.bool (PJ v f k)):=
 Cc v f k fun wr hx=>⟨IntKind.i64.wrap (v-f),fun _ wq=>by simp[eqGuard,binOp,Op.intArith],_,fun _=>OX,rfl⟩
theorem zb5:zj8 Tryz.prog QN:=⟨Qk,Qk,Qk⟩
theorem zks(a b:Pi):Ag Tryz.prog (Tryz.prog.fieldsOf QN).toList 0 (YT a) (YT b)=some ((a.state==b.state)&&((a.group==b.group)&&((a.R9==b.R9)&&((a.nice==b.nice)&&((a.mask==b.mask)&&((a.v==b.v)&&((a.sum==b.sum)&&((a.used==b.used)&&((a.load==b.load)&&true))))))))):=Qk
theorem zfl{a b:Pi}:((a.state==b.state)&&((a.group==b.group)&&((a.R9==b.R9)&&((a.nice==b.nice)&&((a.mask==b.mask)&&((a.v==b.v)&&((a.sum==b.sum)&&((a.used==b.used)&&((a.load==b.load)&&true)))))))))=decide (a=b):=by
 cases a; cases b
 simp only[Pi.mk.injEq,Bool.and_true];rw[Bool.eq_iff_iff];simp only[A',It,Ik]
section
variable {W:Q7}{m:MW}{w:Wo}{bs:List Nat}
theorem Er{k:Int}(h:Xb bs w W m)(hn:0<=W.now)(k0:0<=k)(k1:k<(W.ID.length:Int))(hf:zdb (gi W.ID k)):PX bs Vu #[.agg (Qa W m).toArray,I k] w (.bool (XQ (Pt W k))):=
 ET _ _ _ _ _ _ _ _ _ _ k fun wr hx=>by
  have h:=(h.ext hx).less (cs:=[]) Qs;intro _ _;refine⟨h.g.ix k0 k1,_,_,_,_,_,_,_,_,_,_,_,_,_,_,_,_,_,_,_,_,h.g.cells k k0 k1,fun _ _=>⟨fun g=>?_,fun g=>?_⟩⟩
  ·have hu:(gi W.ID k).used=false:=by simpa using g
   refine⟨_,fun _=>MV (b:=(gi W.ID k).IT) (m:=m.ms k.toNat),Og ?_⟩;simp only[A',It,JZ];constructor
   ·rintro⟨⟨⟨⟨⟨⟨⟨⟨e1,e2⟩,e3⟩,e4⟩,e5⟩,e6⟩,e7⟩,e8⟩,e9⟩;exact⟨fun _=>⟨e1,e2,e3,e4,e5,e6,e7,Qo,e9⟩,fun hu'=>by rw[hu'] at hu; cases hu⟩
   ·intro p;have q:=p.1 hu;exact⟨⟨⟨⟨⟨⟨⟨⟨q.p,q.n⟩,q.w⟩,q.c⟩,q.pe⟩,q.ne⟩,q.s⟩,by have:=q.l; omega⟩,q.b⟩
  ·have hu:(gi W.ID k).used=true:=by simpa using g
   have mk:zh8 W k (gi W.ID k)->Pt W k:=fun q=>⟨fun hu'=>(by rw[hu'] at hu; cases hu),fun _=>q⟩
   refine⟨_,J7,_,fun _=>YY,_,fun _=>Ys,fun g2=>Ka fun p=>?_,fun g2=>⟨fun g3=>Ka fun p=>?_,fun g3=>⟨fun g4=>⟨_,MV (b:=(gi W.ID k).IT) (m:=m.ms k.toNat),Og ?_⟩,fun g4=>⟨_,LY (b:=(gi W.ID k).IT) (m:=m.ms k.toNat) (h.g.locals k k0 k1) (h.g.RI k k0 k1) hf.lo,_,fun _=>Qm,fun g5=>?_,Og ?_⟩⟩⟩⟩
   ·have q:=p.2 hu;have e1:Yx (gi W.ID k).weight 1 20=true:=Qt.2 ⟨q.w1,q.w2⟩;have e3:((gi W.ID k).IE==0)=false:=by simpa using q.m0
    have e5:(((gi W.ID k).IF.length:Nat):Int)=((W.IE.length:Nat):Int):=by have:=q.len; omega
    rw[e1,q.m,e3,q.s,e5] at g2;simp at g2
   ·have q:=p.2 hu;simp only[A',It] at g3;have r:=q.root g3.1;rw[r.1,r.2.1,r.2.2] at g3;simp at g3
   all_goals
    simp only[I0,I7,bne_eq_false_iff_eq,Qt,beq_eq_false_iff_ne] at g2;obtain⟨⟨⟨⟨a1,a2⟩,a3⟩,a4⟩,a5⟩:=g2;have hlen:(gi W.ID k).IF.length=W.IE.length:=Qo
    have B85:k=0->(gi W.ID k).weight=10/\(gi W.ID k).IE=15/\(gi W.ID k).IT.I'=0:=fun hk=>by
     rw[It.2 hk,Bool.true_and] at g3;simp only[I0,bne_eq_false_iff_eq] at g3;exact⟨g3.1.1,g3.1.2,g3.2⟩
   ·have q0:(gi W.ID k).IT.I'=0:=by simpa using g4
    simp only[A',It];constructor
    ·rintro⟨⟨e1,e2⟩,e3⟩;exact mk ⟨a1.1,a1.2,a2,a3,a4,hlen,B85,fun _=>⟨e1,e2,e3⟩,fun gA=>Is q0 gA⟩
    ·intro p;have q:=(p.2 hu).none q0;exact⟨⟨q.1,q.2.1⟩,q.2.2⟩
   ·simp only[A',It,Ik] at g5;have:=hf.nx;exact⟨by have:=this.1; omega,by have:=this.2; omega⟩
   ·have q0:(gi W.ID k).IT.I'≠0:=by simpa using g4
    simp only[A',It,Ik,Qi,Qt];constructor
    ·rintro⟨⟨⟨⟨e1,e2⟩,e3⟩,e4⟩,e5⟩;exact mk ⟨a1.1,a1.2,a2,a3,a4,hlen,B85,fun gA=>Is gA q0,fun _=>⟨e1,Qo,e3.1,e3.2,e4,e5⟩⟩
    ·intro p;have q:=(p.2 hu).IT q0;exact⟨⟨⟨⟨q.1,by have:=q.2.1; omega⟩,q.2.2.1,q.2.2.2.1⟩,q.2.2.2.2.1⟩,q.2.2.2.2.2⟩
theorem Kn{W:Q7}(ha:WA W){g mask c:Int}(hc:Ze (Qv W g mask) c=true):0<=c/\c<(W.IE.length:Int):=by
 have h1:=znx hc;exact⟨(P2 h1).2.1,(zfn W.IE _ ha.c2 h1).1⟩
theorem BJ{t:Int}(h:Xb bs w W m)(ha:WA W)(t0:0<=t)(t1:t<(W.tasks.length:Int)):PX bs Tf #[.agg (Qa W m).toArray,I t] w (.bool (XQ (Ft W t))):=
 N2 _ _ _ _ _ _ _ _ _ _ t fun wr hx=>by
  have h:=(h.ext hx).less (cs:=[]) Qs;intro _ _;have bW:=ha.gl;have hm9:=Zc;refine⟨h.t.ix QL t0 t1,_,_,_,_,_,_,_,_,_,h.t t t0 t1,fun _ _=>⟨fun g=>?_,fun g=>?_⟩⟩
  ·have hs:(gi W.tasks t).state=0:=by simpa using g
   refine⟨_,fun wq=>Co zb5 (zks (gi W.tasks t) VV) _ _ wq,Og ?_⟩;rw[zfl,Ik];constructor
   ·exact fun e=>.inl ⟨hs,e⟩
   ·rintro (⟨_,e⟩ | ⟨e,_⟩)
    ·exact e
    ·exact Is hs e
  ·have hs:(gi W.tasks t).state≠0:=by simpa using g
   have no:∀{q:Ft W t},zrn W (gi W.tasks t):=fun {q}=>by
    rcases q with ⟨e,_⟩ | ⟨_,q⟩
    ·exact Is e hs
    ·exact q
   refine⟨_,fun _=>Yt (c:=m.gC) h.g,_,fun _=>ZH,_,fun _=>YY,fun g2=>Ka fun p=>?_,fun g2=>?_⟩
   ·have q:=no (q:=p);have e3:(Qf (gi W.tasks t).nice==0)=false:=by simpa using q.n
    have e4:((gi W.tasks t).mask==0)=false:=by simpa using q.m0
    rw[q.g,e3,q.m,e4] at g2;simp only[Bool.not_true,Bool.or_false,A',Iu] at g2;have:=q.st;omega
   ·simp only[I0,I7,beq_eq_false_iff_ne] at g2;obtain⟨⟨⟨⟨a1,a2⟩,a3⟩,a4⟩,a5⟩:=g2
    have st:(gi W.tasks t).state=1\/(gi W.tasks t).state=2:=by
     by_cases h1:(gi W.tasks t).state=1
     ·exact .inl h1
     ·refine .inr ?_;have:((gi W.tasks t).state != 1)=true:=by simpa using h1
      rw[this,Bool.true_and] at a1
      simpa using a1
    refine⟨_,Ys,_,fun _=>Ys,_,fun _=>Ys,_,fun _=>Qm,Qv W (gi W.tasks t).group (gi W.tasks t).mask,fun _=>XH h ha.c2 ha.tree a2,_,fun _=>ZT,fun g3=>Ka fun p=>?_,fun g3=>?_⟩
    ·have q:=no (q:=p);have e4:Yx (gi W.tasks t).load 0 8000000=true:=Qt.2 ⟨q.l1,q.l2⟩;rw[q.v,q.s,q.u,e4,q.c] at g3;simp at g3
    ·simp only[I0,I7,Qt] at g3;obtain⟨⟨⟨⟨b1,b2⟩,b3⟩,b4⟩,b5⟩:=g3;obtain⟨u1,u2,_⟩:=Q5.1 a2;obtain⟨c0,c1⟩:=Kn ha b5;have hsl:=ha.sl a2;have c2:(gi W.tasks t).R9<((gi W.ID (gi W.tasks t).group).IF.length:Int):=Qo;refine⟨fun _=>h.g.ix u1 u2,_,_,_,fun _=>h.g.S3 u1 u2,fun _=>(h.g.IF _ u1 u2).ix ZK c0 c2,_,fun _=>zh7.f (h.g.IF _ u1 u2) c0 c2 (j:=0) rfl,_,fun _=>ZH,_,fun _=>KG,Og ?_⟩;simp only[Iv,It];constructor
     ·intro e
      exact .inr ⟨hs,⟨st,a2,a3,a4,a5,b1,b2,b3,b4.1,b4.2,b5,fun e1=>by
       rcases e with e | e
       ·have e:(gi W.tasks t).state=2:=e;have e1:(gi W.tasks t).state=1:=e1;omega
       ·exact e⟩⟩
     ·intro p;have q:=no (q:=p);rcases st with e | e
      ·exact .inr (q.f e)
      ·exact .inl e
theorem Es{k c:Int}(h:Xb bs w W m)(ha:WA W)(k0:0<=k)(k1:k<(W.ID.length:Int))(c0:0<=c)(c2:c<((gi W.ID k).IF.length:Int)):PX bs Vv #[.agg (Qa W m).toArray,I k,I c] w (.bool (XQ (Pu W k c))):=
 EU _ _ _ _ _ _ _ _ _ _ k c fun wr hx=>by
  have h:=(h.ext hx).less (cs:=[]) Qs;intro _ _;have bW:=ha.gl
  have hus:(gi W.ID k).used=true:=by
   cases hu:(gi W.ID k).used with
   | true=>rfl
   | false=>
    have:=((ha.grp k k0 Qo).1 hu).l;omega
  have hu:Q6 W.ID k=true:=Q5.2 ⟨k0,k1,hus⟩;have hsl:=ha.sl hu;have c1:c<(W.IE.length:Int):=Qo;refine⟨h.g.ix k0 k1,_,_,_,_,_,_,_,_,_,_,_,_,_,_,_,_,_,_,_,_,h.g.cells k k0 k1,fun _ _=>⟨(h.g.IF k k0 k1).ix ZK c0 c2,_,_,_,_,_,(h.g.IF k k0 k1) c c0 c2,fun _ _=>⟨_,Ys,_,fun _=>Ys,_,fun _=>Ys,_,fun _=>J7,fun g=>Ka fun p=>?_,fun g=>⟨fun g2=>Og ?_,fun g2=>⟨_,Oc h ha c0 c1,_,fun _=>Mz h ha hu c0 c1,fun g3=>Ka fun p=>?_,fun g3=>?_⟩⟩⟩⟩⟩
  ·have e1:=p.f;have e2:=p.v;have e3:=p.s;have e4:Yx (Qc W k c).w 1 20=true:=Qt.2 ⟨p.w1,p.w2⟩;have g':(((!ZF (Qc W k c).floor || !ZF (Qc W k c).v) || !ZF (Qc W k c).sum) || !Yx (Qc W k c).w 1 20)=true:=g;rw[e1,e2,e3,e4] at g'
   cases g'
  ·have g':(((!ZF (Qc W k c).floor || !ZF (Qc W k c).v) || !ZF (Qc W k c).sum) || !Yx (Qc W k c).w 1 20)=false:=g;simp only[I0,I7,Qt] at g';obtain⟨⟨⟨a1,a2⟩,a3⟩,a4⟩:=g';have hk:k=0:=by simpa using g2
   show ((!(Qc W k c).on&&((Qc W k c).v==0))&&((Qc W k c).w==10))=true↔_;simp only[A',IC,It];constructor
   ·rintro⟨⟨e1,e2⟩,e3⟩;exact⟨a1,a2,a3,a4.1,a4.2,fun _=>⟨e1,e2,e3⟩,fun gA=>Is hk gA,fun gA=>Is hk gA⟩
   ·intro p;have q:=p.root hk;exact⟨⟨q.1,q.2.1⟩,q.2.2⟩
  ·have hk:k≠0:=by simpa using g2
   have g3':(!((Qc W k c).on==(QU W k c && !V4 W k c)))=true:=g3;rw[p.on hk] at g3';simp at g3'
  ·have g':(((!ZF (Qc W k c).floor || !ZF (Qc W k c).v) || !ZF (Qc W k c).sum) || !Yx (Qc W k c).w 1 20)=false:=g;simp only[I0,I7,Qt] at g';obtain⟨⟨⟨a1,a2⟩,a3⟩,a4⟩:=g';have hk:k≠0:=by simpa using g2
   have hon:(Qc W k c).on=(QU W k c && !V4 W k c):=by
    have g3':(!((Qc W k c).on==(QU W k c && !V4 W k c)))=false:=g3
    simpa using g3'
   have hp:=ha.up hu hk;obtain⟨v1,v2,_⟩:=Q5.1 hp;have hpl:=ha.sl hp;have c3:c<((gi W.ID (gi W.ID k).parent).IF.length:Int):=Qo;refine⟨fun _=>h.g.ix v1 v2,_,_,_,fun _=>h.g.S3 v1 v2,fun _=>(h.g.IF _ v1 v2).ix ZK c0 c3,_,fun _=>zh7.f (h.g.IF _ v1 v2) c0 c3 (j:=0) rfl,_,fun _=>KG,Og ?_⟩;show (!(Qc W k c).on||PJ (Qc W k c).v (Qc W (gi W.ID k).parent c).floor (Qc W k c).w)=true↔_;simp only[Iv,IC];constructor
   ·intro e
    exact⟨a1,a2,a3,a4.1,a4.2,fun e0=>Is e0 hk,fun _=>hon,fun _ ho=>by
     rcases e with e | e
     ·rw[ho] at e; cases e
     ·exact e⟩
   ·intro p
    cases ho:(Qc W k c).on with
    | false=>exact .inl rfl
    | true=>exact .inr (p.st hk ho)
theorem zev{t:Int}(ht:Ft W t)(hl:ZE W t=true):zrn W (Q8 W t)/\(Q8 W t).state=1:=by
 have hs:(Q8 W t).state=1:=by
  unfold ZE at hl;simp only[A',It] at hl;exact hl.1
 rcases ht with ⟨e,_⟩ | ⟨_,q⟩
 ·omega
 ·exact⟨q,hs⟩
theorem Eh{a b:Int}(ha:ZF a=true)(hb:ZF b=true):Qq .i64 (a-b):=by
 have:=Y2.1 ha;have:=Y2.1 hb;exact⟨Qo,Qo⟩
theorem BI{c:Int}(h:Xb bs w W m)(ha:WA W)(hts:∀t:Int,0<=t->t<12->Ft W t)(hss:∀k c:Int,0<=k->k<8->0<=c->c<((gi W.ID k).IF.length:Int)->Pu W k c)(c0:0<=c)(c1:c<(W.IE.length:Int))(t0:0<=(gi W.IE c).cur)(t1:(gi W.IE c).cur<(W.tasks.length:Int))(hl:ZE W (gi W.IE c).cur=true) :
  PX bs Te #[.agg (Qa W m).toArray,I c] w (.bool (P7 W c)):=
 N1 _ _ _ _ _ _ _ _ _ _ c fun wr hx=>by
  have h:=(h.ext hx).less (cs:=[]) Qs;intro _ _;have jV:=ha.t;have bW:=ha.gl;obtain⟨q,_⟩:=zev (hts _ t0 Qo) hl;have a2:=q.g;obtain⟨u1,u2,_⟩:=Q5.1 a2
  have sl:∀{x:Int},Q6 W.ID x=true->0<=x/\x<(W.ID.length:Int)/\c<((gi W.ID x).IF.length:Int)/\Pu W x c:=fun {x} hx=>by
   obtain⟨v1,v2,_⟩:=Q5.1 hx;have e:=ha.sl hx;have c3:c<((gi W.ID x).IF.length:Int):=Qo;exact⟨v1,v2,c3,hss x c v1 Qo c0 c3⟩
  obtain⟨_,_,c2,sp⟩:=sl a2;refine⟨h.c.ix Y0 c0 c1,_,_,_,_,_,h.c c c0 c1,fun _ _=>⟨h.t.ix QL t0 t1,_,_,_,_,_,_,_,_,_,h.t _ t0 t1,fun _ _=>⟨h.g.ix u1 u2,_,_,_,h.g.S3 u1 u2,(h.g.IF _ u1 u2).ix ZK c0 c2,_,zh7.f (h.g.IF _ u1 u2) c0 c2 (j:=0) rfl,Eh q.v sp.f,_,ZH,_,X7,fun g=>?_,fun g=>?_⟩⟩⟩
  ·have g:=Ot g;have hd:¬((Q8 W (gi W.IE c).cur).v-(Qc W (Q8 W (gi W.IE c).cur).group c).floor<=Z9 (gi W.IE c).WS (Qf (Q8 W (gi W.IE c).cur).nice)):=Int.not_le.2 g;unfold P7;rw[decide_eq_false hd];rfl
  ·have g:=Ou g
   have hS:P7 W c=VU W (Q8 W (gi W.IE c).cur).group c (gi W.IE c).WS:=by
    have hd:(Q8 W (gi W.IE c).cur).v-(Qc W (Q8 W (gi W.IE c).cur).group c).floor<=Z9 (gi W.IE c).WS (Qf (Q8 W (gi W.IE c).cur).nice):=Int.not_lt.1 g;unfold P7;rw[Ii hd,Bool.true_and]
   rw[hS];refine⟨fun vs=>∃x:Int,vs=[I x]/\Q6 W.ID x=true/\VU W x c (gi W.IE c).WS=VU W (Q8 W (gi W.IE c).cur).group c (gi W.IE c).WS,fun vs=>(dep 3 W.ID (Y5 0 vs)).toNat,⟨_,rfl,a2,rfl⟩,?_⟩;rintro x ⟨x',he,hux,hI⟩;simp only[I5,I6,true_and,and_true] at he;subst he;refine⟨fun hz=>?_,fun hz=>?_⟩
   ·have hz:x≠0:=by simpa using hz
    obtain⟨hp,a,b,d,e,e2,hd⟩:=Y3 ha.tree hux hz;obtain⟨x1,x2,x3,xs⟩:=sl hux;obtain⟨p1,p2,p3,ps⟩:=sl hp;unfold VU at hI;rw[Yl ha.tree hux hz,List.all_cons] at hI
    refine⟨h.g.ix x1 x2,_,_,_,h.g.S3 x1 x2,(h.g.IF _ x1 x2).ix ZK c0 x3,_,_,_,_,_,(h.g.IF _ x1 x2) c c0 x3,fun _ _=>⟨h.g.ix x1 x2,_,h.g.parent x1 x2,h.g.ix p1 p2,_,_,_,h.g.S3 p1 p2,(h.g.IF _ p1 p2).ix ZK c0 p3,_,zh7.f (h.g.IF _ p1 p2) c0 p3 (j:=0) rfl,Eh xs.v ps.f,_,X7,fun g2=>?_,fun g2=>⟨h.g.ix x1 x2,_,h.g.parent x1 x2,⟨_,rfl,hp,?_⟩,by
     show (dep 3 W.ID (gi W.ID x).parent).toNat<(dep 3 W.ID x).toNat;omega⟩⟩⟩
    ·have g2:=Ot g2;have hd:¬((Qc W x c).v-(Qc W (gi W.ID x).parent c).floor<=Z9 (gi W.IE c).WS (Qc W x c).w):=Int.not_le.2 g2;rw[decide_eq_false hd,Bool.false_and] at hI;unfold VU;rw[<-hI]
    ·have g2:=Ou g2;have hd:(Qc W x c).v-(Qc W (gi W.ID x).parent c).floor<=Z9 (gi W.IE c).WS (Qc W x c).w:=Int.not_lt.1 g2;rw[Ii hd,Bool.true_and] at hI;exact hI
   ·have hz:x=0:=by simpa using hz
    subst hz;unfold VU at hI;rw[show Z2 W.ID 0=[] from Zi _ _,List.all_nil] at hI;unfold VU;rw[<-hI]
theorem HY{t:Int}(ha:WA W)(ht:Ft W t)(hs:(Q8 W t).state=1):Q6 W.ID (Q8 W t).group=true/\0<=(Q8 W t).R9/\(Q8 W t).R9<(W.IE.length:Int):=by
 rcases ht with ⟨e,_⟩ | ⟨_,q⟩
 ·omega
 ·exact⟨q.g,Kn ha q.c⟩
theorem AC{c:Int}(h:Xb bs w W m)(ha:WA W)(hts:∀t:Int,0<=t->t<12->Ft W t)(hss:∀k c:Int,0<=k->k<8->0<=c->c<((gi W.ID k).IF.length:Int)->Pu W k c)(c0:0<=c)(c1:c<(W.IE.length:Int)) :
  PX bs O7 #[.agg (Qa W m).toArray,I c] w (.bool (XQ (DC W c))):=
 C9 _ _ _ _ _ _ _ _ _ _ c fun wr hx=>by
  have h:=(h.ext hx).less (cs:=[]) Qs;intro _ _;have jV:=ha.t;refine⟨h.c.ix Y0 c0 c1,_,_,_,_,_,h.c c c0 c1,fun _ _=>⟨_,Ys,_,fun _=>Ys,fun _=>⟨Qo,Qo⟩,_,fun _=>Qm,fun g=>Ka fun p=>?_,fun g=>⟨fun g2=>Og ?_,fun g2=>?_⟩⟩⟩
  ·have e3:Yx (gi W.IE c).cur (-1) (((W.tasks.length:Nat):Int)-1)=true:=Qt.2 (by have:=p.c1; have:=p.c2; omega);rw[p.b,p.i,e3] at g;cases g
  ·simp only[I0,I7,Qt] at g;obtain⟨⟨a1,a2⟩,a3⟩:=g;have g2:=Ot g2;rw[It];exact⟨fun e=>⟨a1,a2,a3.1,Qo,fun _=>e,fun hc=>by omega⟩,fun p=>p.no g2⟩
  ·simp only[I0,I7,Qt] at g;obtain⟨⟨a1,a2⟩,a3⟩:=g;have g2:=Ou g2;have t0:0<=(gi W.IE c).cur:=Qo;have t1:(gi W.IE c).cur<(W.tasks.length:Int):=Qo;refine⟨_,fun _=>Qm,fun _=>h.t.ix QL t0 t1,_,fun _=>h.t.f t0 t1 (j:=2) rfl,ZE W (gi W.IE c).cur,fun _=>Uy h ha t0 t1 fun hs=>HY ha (hts _ t0 Qo) hs,P7 W c,fun g3=>BI h ha hts hss c0 c1 t0 t1 (by simp only[A'] at g3; exact g3.2),Og ?_⟩;simp only[A',It,Qt];constructor
   ·rintro⟨⟨⟨⟨e1,e2⟩,e3⟩,e4⟩,e5⟩;exact⟨a1,a2,a3.1,Qo,fun hc=>by omega,fun _=>⟨e1,e2.1,e2.2,e3,e4,e5⟩⟩
   ·intro p;have q:=p.yes t0;exact⟨⟨⟨⟨q.1,q.2.1,q.2.2.1⟩,q.2.2.2.1⟩,q.2.2.2.2.1⟩,q.2.2.2.2.2⟩
theorem JH(h:Xb bs w W m)(lc:W.IE.length<=maxLen)(lt:W.tasks.length<=maxLen)(lg:W.ID.length<=maxLen)(hf:∀i:Int,0<=i->i<(W.ID.length:Int)->zdb (gi W.ID i)) :
  PX bs YM #[.agg (Qa W m).toArray] w (.bool (Qx W)):=
 C4 _ _ _ _ _ _ _ _ _ _ fun wr hx=>by
  have h:=(h.ext hx).less (cs:=[]) Qs;intro _ _;have hm9:=XJ;refine⟨_,Qm,_,fun _=>Qm,TQ W.ID,fun _=>PE h.g lg,J8 W.IE,fun g=>MA h ?_,fun g=>Ka fun p=>?_,fun g=>?_⟩
  ·simp only[I0,I7,Qt] at g;omega
  ·have a:=p.a;have e1:Yx W.now 0 100000000000000000=true:=Qt.2 ⟨a.n1,a.n2⟩;have e2:Yx ((W.IE.length:Nat):Int) 1 4=true:=Qt.2 (by have:=a.c1; have:=a.c2; omega);have e3:((W.tasks.length:Nat):Int)=12:=by have:=a.t; omega
   have e5:(J8 W.IE==0)=false:=by simpa using a.ups
   rw[e1,e2,e3,XO.2 a.tree,e5] at g;simp at g
  simp only[I0,I7,Qt,bne_eq_false_iff_eq,beq_eq_false_iff_ne] at g;obtain⟨⟨⟨⟨g1,g2⟩,g3⟩,g4⟩,g5⟩:=g;have ht:=XO.1 g4;have bW:=ht.len;refine Xg W.ID.length 0 rfl (fun k=>k<=W.ID.length/\∀j:Int,0<=j->j<(k:Int)->Pt W j) ⟨Ie _,fun j h0 h1=>by omega⟩ fun k ⟨hk,hI⟩=>⟨fun IQ=>?_,fun RH=>?_⟩
  ·have IQ:=Ot IQ;refine⟨_,Er h g1.1 Qo IQ (hf _ Qo IQ),fun g6=>Ka fun p=>?_,fun g6=>⟨⟨Qo,Qo⟩,QA Qo ⟨Qo,fun j h0 h1=>?_⟩⟩⟩
   ·have g6:XQ (Pt W (k:Int))=false:=by simpa using g6
    exact Ko.1 g6 (p.a.grp _ Qo Qo)
   ·by_cases gG:j<(k:Int)
    ·exact hI j h0 gG
    ·have:j=(k:Int):=Qo;subst this;exact Qi.1 (by simpa using g6)
  have RH:=Ou RH;have ha:WA W:=⟨g1.1,g1.2,Qo,Qo,Qo,ht,g5,fun j h0 h1=>hI j h0 Qo⟩;refine Xg W.tasks.length 0 rfl (fun k=>k<=W.tasks.length/\∀j:Int,0<=j->j<(k:Int)->Ft W j) ⟨Ie _,fun j h0 h1=>by omega⟩ fun k2 ⟨uG,hI2⟩=>⟨fun IQ=>?_,fun bU=>?_⟩
  ·have IQ:=Ot IQ;refine⟨_,BJ h ha Qo IQ,fun g6=>Ka fun p=>?_,fun g6=>⟨⟨Qo,Qo⟩,QA Qo ⟨Qo,fun j h0 h1=>?_⟩⟩⟩
   ·have g6:XQ (Ft W (k2:Int))=false:=by simpa using g6
    exact Ko.1 g6 (p.t _ Qo Qo)
   ·by_cases gG:j<(k2:Int)
    ·exact hI2 j h0 gG
    ·have:j=(k2:Int):=Qo;subst this;exact Qi.1 (by simpa using g6)
  have bU:=Ou bU;have hts:∀t:Int,0<=t->t<12->Ft W t:=fun t h0 h1=>hI2 t h0 Qo
  refine Xg W.ID.length 0 rfl (fun k=>k<=W.ID.length/\∀j c:Int,0<=j->j<(k:Int)->0<=c->c<((gi W.ID j).IF.length:Int)->Pu W j c) ⟨Ie _,fun j c h0 h1=>by omega⟩ fun k3 ⟨uH,hI3⟩=>⟨fun IQ=>?_,fun Bq7=>?_⟩
  ·have IQ:=Ot IQ;have k30:(0:Int)<=(k3:Int):=Qo;refine Xg (gi W.ID (k3:Int)).IF.length 0 rfl (fun c=>c<=(gi W.ID (k3:Int)).IF.length/\∀d:Int,0<=d->d<(c:Int)->Pu W (k3:Int) d) ⟨Ie _,fun j h0 h1=>by omega⟩ fun c ⟨hc,hJ⟩=>⟨h.g.ix k30 IQ,_,_,_,h.g.S3 k30 IQ,fun qA=>?_,fun A87=>?_⟩
   ·have qA:=Ot qA;have hsm:(gi W.ID (k3:Int)).IF.length<=maxLen:=(hf _ k30 IQ).sh;refine⟨_,Es h ha k30 IQ Qo qA,fun g6=>Ka fun p=>?_,fun g6=>⟨⟨Qo,Qo⟩,QA Qo ⟨Qo,fun d h0 h1=>?_⟩⟩⟩
    ·have g6:XQ (Pu W (k3:Int) (c:Int))=false:=by simpa using g6
     exact Ko.1 g6 (p.s _ _ Qo Qo Qo qA)
    ·by_cases gG:d<(c:Int)
     ·exact hJ d h0 gG
     ·have:d=(c:Int):=Qo;subst this;exact Qi.1 (by simpa using g6)
   ·have A87:=Ou A87;refine⟨⟨Qo,Qo⟩,QA Qo ⟨Qo,fun j d h0 h1 h2 h3=>?_⟩⟩
    by_cases gG:j<(k3:Int)
    ·exact hI3 j d h0 gG h2 h3
    ·have:j=(k3:Int):=Qo;subst this;exact hJ d h2 Qo
  have Bq7:=Ou Bq7;have hss:∀k c:Int,0<=k->k<8->0<=c->c<((gi W.ID k).IF.length:Int)->Pu W k c:=fun k c h0 h1 h2 h3=>hI3 k c h0 Qo h2 h3
  refine Xg W.IE.length 0 rfl (fun k=>k<=W.IE.length/\∀j:Int,0<=j->j<(k:Int)->DC W j) ⟨Ie _,fun j h0 h1=>by omega⟩ fun k4 ⟨hk4,hI4⟩=>⟨fun IQ=>?_,fun CR8=>?_⟩
  ·have IQ:=Ot IQ;refine⟨_,AC h ha hts hss Qo IQ,fun g6=>Ka fun p=>?_,fun g6=>⟨⟨Qo,Qo⟩,QA Qo ⟨Qo,fun j h0 h1=>?_⟩⟩⟩
   ·have g6:XQ (DC W (k4:Int))=false:=by simpa using g6
    exact Ko.1 g6 (p.c _ Qo IQ)
   ·by_cases gG:j<(k4:Int)
    ·exact hI4 j h0 gG
    ·have:j=(k4:Int):=Qo;subst this;exact Qi.1 (by simpa using g6)
  ·have CR8:=Ou CR8;exact zh5 ⟨ha,hts,hss,fun c h0 h1=>hI4 c h0 Qo⟩
end
theorem QS{n p:Nat}{vs us:List Va}{k:Nat}(h1:Y5 p vs=(k:Int)+1)(h2:Y5 p us=(k:Int))(hk:k<n):Xl n p vs<Xl n p us:=by
 unfold Xl;rw[h1,h2];omega
theorem N8{α:Type}[Inhabited α]{l:List α}{p:α->Bool}:l.all p=true↔∀k:Nat,k<l.length->p (gi l (k:Int))=true:=by
 rw[List.all_eq_true];constructor
 ·intro h k hk; exact h _ (zix Qo Qo)
 ·intro h x hx;obtain⟨k,hk,rfl⟩:=List.getElem_of_mem hx;rw[<-Jr hk]; exact h k hk
theorem Mc{bs:List Nat}{w:Wo}{b:Nat}{l:List Int}{t:TypeId}{fz:Nat×Nat}(h:w.heap[b]? = some (.cells (l.flatMap YR).toArray t fz))(hb:b∉bs):zka bs w (some ⟨b,0,none⟩) l:=fun i h0 hi=>by
 have IQ:i.toNat<l.length:=Qo;refine J9 h hb (k0:=0) ?_;have:=HI (enc:=YR) (z:=1) (fun _=>rfl) l i.toNat 0 IQ Qd;rw[Nat.add_zero] at this;rw[Nat.zero_add,this]
 have e:gi l i=l[i.toNat]:=by
  have:=Jr IQ
  rwa[show ((i.toNat:Nat):Int)=i by omega] at this
 rw[e]; rfl
theorem Et{l:List Int}{o:OA}{c:Nat}{w:Wo}{bs:List Nat}(h:zka bs w o l)(hl:l.length<=maxLen):PX bs ZA #[.slice o l.length c] w (.bool (l.all ZF)):=
 zbb o l.length c fun wr hx=>by
  have h:=(h.ext hx).less (cs:=[]) Qs;refine Xg l.length 0 rfl (fun k=>k<=l.length/\∀j:Nat,j<k->ZF (gi l (j:Int))=true) ⟨Ie _,fun j hj=>Is hj (Nat.not_lt_zero j)⟩ fun k ⟨hk,hI⟩=>⟨fun IQ=>?_,fun RH=>?_⟩
  ·have IQ:=Ot IQ;refine⟨h.ix Vg Qo IQ,_,h k Qo IQ,_,QO,fun g=>?_,fun g=>⟨zem IQ hl,QA Qo ⟨Qo,fun j hj=>?_⟩⟩⟩
   ·have:l.all ZF=false:=by
     cases hb:l.all ZF with
     | false=>rfl
     | true=>
      have:=N8.1 hb k Qo;unfold ZF at this;rw[this] at g;cases g
    rw[this]
   ·by_cases gG:j<k
    ·exact hI j gG
    ·have:j=k:=Qo;subst this;unfold ZF
     simpa using g
  ·have RH:=Ou RH;have hk:k=l.length:=Qo;subst hk;rw[N8.2 hI]
theorem zxg{a:Int}{w:Wo}{b:Nat}{t:TypeId}{fz:Nat×Nat}(h:w.heap[b]? = some (.cells ([I a]:List Va).toArray t fz)):PX [] ZA #[.slice (some ⟨b,0,none⟩) 1 1] w (.bool (ZF a)):=by
 have:=Et (l:=[a]) (c:=1) (bs:=[]) (Mc h Qs) (by simp[maxLen])
 simpa using this
theorem zx1{a b2:Int}{w:Wo}{b:Nat}{t:TypeId}{fz:Nat×Nat}(h:w.heap[b]? = some (.cells ([I a,I b2]:List Va).toArray t fz)):PX [] ZA #[.slice (some ⟨b,0,none⟩) 2 2] w (.bool (ZF a&&ZF b2)):=by
 have:=Et (l:=[a,b2]) (c:=2) (bs:=[]) (Mc h Qs) (by simp[maxLen])
 simpa using this
theorem zxq{a b2 b3:Int}{w:Wo}{b:Nat}{t:TypeId}{fz:Nat×Nat}(h:w.heap[b]? = some (.cells ([I a,I b2,I b3]:List Va).toArray t fz)):PX [] ZA #[.slice (some ⟨b,0,none⟩) 3 3] w (.bool (ZF a&&(ZF b2&&ZF b3))):=by
 have:=Et (l:=[a,b2,b3]) (c:=3) (bs:=[]) (Mc h Qs) (by simp[maxLen])
 simpa using this
theorem Av{m:Int}{w:Wo}{bs:List Nat}:PX bs Jl #[I m] w (.bool (Ow m)):=EK m fun wr hx=>rfl
theorem PB{m:Int}{w:Wo}{bs:List Nat}:PX bs JC #[I m] w (.bool (Ow m)):=za7 m fun wr hx=>⟨_,Av,rfl⟩
theorem MR{m:Int}{w:Wo}{bs:List Nat}:PX bs JS #[I m] w (.bool ((m != 0)&&Ow m)):=BO m fun wr hx=>⟨_,fun _=>PB,rfl⟩
theorem zsb:∀(m:Fin 16) (c:Fin 4),(VJ .and .i64 (Int.fdiv (m.val:Int) (2 ^ (min (Int.toNat (c.val:Int)) 64))) 1==1)=(Int.tmod (Int.fdiv (m.val:Int) (2 ^ (min (Int.toNat (c.val:Int)) 64))) 2==1):=by decide +kernel
theorem zi3{m c:Int}{w:Wo}{bs:List Nat}:PX bs UH #[I m,I c] w (.bool (Ze m c)):=
 D6 m c fun wr hx=>by
  refine⟨_,Av,_,fun _=>QO,fun g=>?_,?_⟩
  ·simp only[A'] at g;exact(Qt.1 g.2).1
  ·unfold Ze
   cases h1:Ow m with
   | false=>rfl
   | true=>
    cases h2:Yx c 0 3 with
    | false=>rfl
    | true=>
     obtain⟨x,rfl⟩:=Pl h1;have:=Qt.1 h2;have e:=zsb x ⟨c.toNat,Qo⟩;rw[show ((⟨c.toNat,Qo⟩:Fin 4).val:Int)=c by show ((c.toNat:Nat):Int)=c; omega] at e;rw[e]
theorem As{m c:Int}{w:Wo}{bs:List Nat}:PX bs O1 #[I m,I c] w (.bool (Ze m c)):=AW m c fun wr hx=>⟨_,zi3,rfl⟩
theorem OV{a b:Int}{w:Wo}{bs:List Nat}:PX bs J2 #[I a,I b] w (I (VB a b)):=
 AV a b fun wr hx=>by
  refine⟨_,PB,_,fun _=>PB,fun g=>?_,fun g=>?_⟩
  ·rw[X9]; simpa using g
  ·simp only[I0,I7] at g;rw[Tw g.1 g.2]
theorem MQ{b:Jj}{m:MG}{w:Wo}{bs:List Nat}:PX bs JR #[.agg (Z4 b m).toArray] w (.bool (Tl b)):=
 BM b.I' b.Sp b.Ww m.lO b.locals.length m.lC m.dO b.RI.length m.dC fun wr hx=>fun _ _=>rfl
theorem Ek{g:Zr}{m:MG}{w:Wo}{bs:List Nat}(hu:g.used=false):PX bs Vj #[.agg (Yb g m).toArray] w (.bool (XQ (zn4 g))):=
 EM g.used g.parent g.name g.weight g.IE g.period g.next g.sum g.IT.I' g.IT.Sp g.IT.Ww m.lO g.IT.locals.length m.lC m.dO g.IT.RI.length m.dC m.sO g.IF.length m.sC fun wr hx=>by
  intro _ _;refine⟨_,fun _=>MQ (b:=g.IT) (m:=m),Og ?_⟩;simp only[hu,Bool.not_false,Bool.true_and,A',It,JZ];constructor
  ·rintro⟨⟨⟨⟨⟨⟨⟨⟨e1,e2⟩,e3⟩,e4⟩,e5⟩,e6⟩,e7⟩,e9⟩,e8⟩;exact⟨e1,e2,e3,e4,e5,e6,e7,Qo,e9⟩
  ·intro q;exact⟨⟨⟨⟨⟨⟨⟨⟨q.p,q.n⟩,q.w⟩,q.c⟩,q.pe⟩,q.ne⟩,q.s⟩,q.b⟩,by have:=q.l; omega⟩
theorem zan{b:Jj}{m:MG}{w:Wo}{bs:List Nat}(h1:zka bs w m.lO b.locals)(h2:zrg bs w m.dO b.RI)(hl:b.locals.length<=maxLen):PX bs OI #[.agg (Z4 b m).toArray] w (.bool (XQ (VK b))):=
 za6 b.I' b.Sp b.Ww m.lO b.locals.length m.lC m.dO b.RI.length m.dC fun wr hx=>by
  have h1:=(h1.ext hx).less (cs:=[]) Qs;have h2:=(h2.ext hx).less (cs:=[]) Qs;intro _ _;refine⟨_,QO,_,fun _=>QO,fun g=>Ka fun p=>?_,fun g=>⟨_,QO,_,fun _=>QO,fun g'=>Ka fun p=>?_,fun g'=>?_⟩⟩
  ·rw[Qt.2 ⟨p.q1,p.q2⟩,Qt.2 (by have:=p.l1; have:=p.l2; omega),p.dl] at g;simp at g
  ·rw[Qt.2 ⟨p.p1,p.p2⟩,Qt.2 ⟨p.s1,p.s2⟩] at g'
   cases g'
  ·simp only[I0,I7,bne_eq_false_iff_eq,Qt] at g g';obtain⟨⟨g1,g2⟩,g3⟩:=g;obtain⟨g4,g5⟩:=g';have hdl:b.RI.length=b.locals.length:=Qo
   have all:∀{k:Nat},k<=b.locals.length->(∀c:Int,0<=c->c<(k:Int)->0<=gi b.locals c/\gi b.locals c<=b.I'/\(gi b.RI c=true->gi b.locals c=0/\b.Sp=0))->0<=Um b.locals k/\Um b.locals k<=40000:=fun {k} hk h=>by
    have key:∀j:Nat,j<=k->0<=Um b.locals j/\Um b.locals j<=(j:Int)*10000:=fun j=>by
     induction j with
     | zero=>intro _; simp[Um]
     | succ j ih=>
      intro hj;have:=ih Qo;have:=h (j:Int) Qo Qo;simp only[Um]; omega
    have:=key k (I8 _);omega
   refine⟨⟨Qo,Qo⟩,?_⟩;refine TN b.locals.length 0 rfl (fun x k=>k<=b.locals.length/\x=b.Sp+b.Ww+Um b.locals k/\∀c:Int,0<=c->c<(k:Int)->0<=gi b.locals c/\gi b.locals c<=b.I'/\(gi b.RI c=true->gi b.locals c=0/\b.Sp=0)) ⟨Ie _,by simp[Um],fun c h0 h1=>by omega⟩ fun x k ⟨hk,R6,hI⟩=>⟨fun IQ=>?_,fun RH=>?_⟩
   ·have IQ:=Ot IQ;have RU:(k:Int)<(b.RI.length:Int):=Qo;have hsr:=all hk hI;refine⟨h1.ix Vg Qo IQ,_,h1 k Qo IQ,_,QO,fun _=>h2.ix Aa Qo RU,_,fun _=>h2 k Qo RU,fun g=>Ka fun p=>?_,fun g=>?_⟩
    ·have pe:=p.each (k:Int) Qo IQ;rw[Qt.2 ⟨pe.1,pe.2.1⟩] at g;simp only[Bool.not_true,Bool.false_or,A',Iv,Iu] at g;have:=pe.2.2 g.1;rcases g.2 with h | h
     ·exact h this.1
     ·exact h this.2
    ·simp only[I0,I7,Qt] at g;obtain⟨ga,gb⟩:=g;refine⟨⟨Qo,Qo⟩,⟨Qo,Qo⟩,QF Qo ⟨Qo,by simp only[Um]; omega,fun c hc0 hc=>?_⟩⟩
     by_cases hck:c<(k:Int)
     ·exact hI c hc0 hck
     ·have:c=(k:Int):=Qo;subst this;refine⟨ga.1,ga.2,fun hd=>?_⟩;rw[hd] at gb;simp only[Bool.true_and,I0,bne_eq_false_iff_eq] at gb;exact gb
   ·have RH:=Ou RH;have:k=b.locals.length:=Qo;subst this;refine Og ?_;rw[It,R6];constructor
    ·intro hs;exact⟨g1.1,g1.2,Qo,Qo,hdl,g4.1,g4.2,g5.1,g5.2,hI,hs⟩
    ·exact fun p=>p.sum
def zqx(v f k:Int):Bool:=decide (v>=f)&&decide (v-f<=Zv k)
theorem ztt{a b:Int}(ha:ZF a=true)(hb:ZF b=true):IntKind.i64.wrap (a-b)=a-b:=(Eh ha hb).wrap
theorem zqy{v f k:Int}(hv:ZF v=true)(hf:ZF f=true):PJ v f k=zqx v f k:=by unfold PJ zqx; rw[ztt hv hf]
theorem KA{v f k:Int}{w:Wo}{bs:List Nat}(h:ZF v=true)(hf:ZF f=true):PX bs Vl #[I v,I f,I k] w (.bool (PJ v f k)):=by
 rw[zqy h hf];exact zba v f k fun wr hx=>⟨fun _=>Eh h hf,_,fun _=>Ar,rfl⟩
theorem zas{n:Int}{w:Wo}{bs:List Nat}:PX bs OK #[I n] w (.bool (Yx n 0 8000000)):=za8 n fun wr hx=>⟨_,QO,rfl⟩
structure Mk (bs:List Nat) (w:Wo) (p:OA) (W:Q7) (m:MW):Prop where
 cs:Q2 bs w p 0 (Qa W m)
 rd:Xb bs w W m
theorem zop{bs:List Nat}{w:Wo}{o:OA}{n:Nat}{vs:List Va}(h:Q2 bs w o n vs){j:Nat}{v:Va}(hj:vs[j]? = some v):Q2 bs w (o.map (·.add n)) (0+j) [v]:=by
 obtain⟨a,ha,hb,hc⟩:=h.get j v hj;refine UD ⟨a.add n,by rw[ha]; rfl,by rw[ZJ]; exact hb,?_⟩;rw[Ue,Nat.zero_add]; exact hc
theorem zqr{bs:List Nat}{w:Wo}{o:OA}{n k:Nat}{v:Va}{r:List Va}(h:Q2 bs w o k (v::r)):(o.map (·.add n)).isSome=true:=by
 have:=h.some
 cases o with
 | none=>cases this
 | some a=>rfl
section
variable {W:Q7}{m:MW}{w w':Wo}{bs cs:List Nat}{p:OA}
theorem Mk.ext(h:Mk bs w p W m)(hx:Q0 bs w w'):Mk bs w' p W m:=⟨h.cs.ext hx,h.rd.ext hx⟩
theorem Mk.less(h:Mk bs w p W m)(hs:∀x∈cs,x∈bs):Mk cs w p W m:=⟨h.cs.less hs,h.rd.less hs⟩
theorem Mk.some(h:Mk bs w p W m):p.isSome=true:=by
 have h1:=h.cs.get 0 _ (rfl:(Qa W m)[0]? = Option.some (I W.now));obtain⟨a,rfl,_⟩:=h1;rfl
theorem Mk.c(h:Mk bs w p W m){j:Nat}{v:Va}(hj:(Qa W m)[j]? = Option.some v):Q2 bs w p (0+j) [v]:=UD (h.cs.get j v hj)
theorem Mk.now(h:Mk bs w p W m):Q2 bs w p (0+0) [I W.now]:=h.c rfl
theorem Mk.IE(h:Mk bs w p W m):Q2 bs w p (0+1) [.slice m.cO W.IE.length m.cC]:=h.c rfl
theorem Mk.tasks(h:Mk bs w p W m):Q2 bs w p (0+2) [.slice m.tO W.tasks.length m.tC]:=h.c rfl
theorem Mk.ID(h:Mk bs w p W m):Q2 bs w p (0+3) [.slice m.gO W.ID.length m.gC]:=h.c rfl
def zw9(m:MW)(g c:Int):OA:=(m.ms g.toNat).sO.map (·.add (Int.toNat c*5))
theorem Mk.sh(h:Mk bs w p W m){g c:Int}(g0:0<=g)(g1:g<(W.ID.length:Int))(c0:0<=c)(c1:c<((gi W.ID g).IF.length:Int)):(zw9 m g c).isSome=true/\∀{j:Nat} {v:Va},(PS (Qc W g c))[j]? = Option.some v->Q2 bs w (zw9 m g c) (0+j) [v]:=
 ⟨zqr (h.rd.g.IF g g0 g1 c c0 c1),fun {j v} hj=>zop (h.rd.g.IF g g0 g1 c c0 c1) hj⟩
theorem Kz{c:Int}:PX bs X4 #[.pointer p,I c] w (.agg #[.pointer p,I c]):=D3 p c fun wr hx=>fun _ _=>rfl
theorem YW{g c:Int}(h:Mk bs w p W m)(g0:0<=g)(g1:g<(W.ID.length:Int))(c0:0<=c)(c1:c<((gi W.ID g).IF.length:Int)):PX bs Z6 #[.agg #[.pointer p,I c],I g] w (.pointer (zw9 m g c)):=
 D8 p c g fun wr hx=>by
  have h:=(h.ext hx).less (cs:=[]) Qs;exact fun _ _=>⟨h.some,_,_,_,h.ID,h.rd.g.ix g0 g1,_,_,_,h.rd.g.S3 g0 g1,(h.rd.g.IF g g0 g1).ix ZK c0 c1,rfl⟩
theorem Em{t:Int}(h:Mk bs w p W m)(hl:W.tasks.length<=maxLen):PX bs XD #[.pointer p,I t] w (.bool (Yx t 0 ((W.tasks.length:Int)-1)&&((Q8 W t).state != 0))):=
 MF p t fun wr hx=>by
  have h:=(h.ext hx).less (cs:=[]) Qs;have:=XJ;have hr:Yx t 0 ((W.tasks.length:Int)-1)=true->0<=t/\t<(W.tasks.length:Int):=fun g=>by have:=Qt.1 g; omega
  exact⟨h.some,_,_,_,h.tasks,⟨Qo,Qo⟩,_,QO,fun _=>h.some,_,_,_,fun _=>h.tasks,fun g=>h.rd.t.ix QL (hr g).1 (hr g).2,_,fun g=>h.rd.t.f (hr g).1 (hr g).2 (j:=0) rfl,rfl⟩
theorem PC(h:Mk bs w p W m)(h4:W.IE.length<=4):PX bs YA #[.pointer p] w (I (J8 W.IE)):=
 LL p fun wr hx=>by
  have h:=(h.ext hx).less (cs:=[]) Qs;refine⟨h.some,_,_,_,h.IE,?_⟩;refine TN W.IE.length 0 rfl (fun x k=>k<=W.IE.length/\x=Up W.IE k) ⟨Ie _,rfl⟩ fun x k ⟨hk,R6⟩=>⟨fun IQ=>?_,fun RH=>?_⟩
  ·have IQ:=Ot IQ;have hb:=E1 (k:=k) Qo;have hl:=Lr W.IE k Qo;have nG:(1*2 ^ (min (Int.toNat (k:Int)) 64):Int)=Jw k:=rfl;refine⟨h.rd.c.ix Y0 Qo IQ,_,_,_,_,_,h.rd.c k Qo IQ,fun _ _=>⟨fun hu=>?_,fun hu=>?_⟩⟩
   ·rw[nG,R6,zvo Qo hl.1 hl.2];refine⟨⟨Qo,Qo,Qo⟩,⟨Qo,Qo⟩,QF Qo ⟨Qo,?_⟩⟩;simp only[Up]; rw[E' hu]
   ·refine⟨⟨Qo,Qo⟩,QF Qo ⟨Qo,?_⟩⟩;rw[R6]; simp only[Up]; rw[C' (by rw[hu]; decide)]
  ·have RH:=Ou RH;have:k=W.IE.length:=Qo;subst this;rw[R6]; rfl
theorem zgt{g:Int}(h:Mk bs w p W m)(h4:W.IE.length<=4)(ht:ZX W.ID)(hu:Q6 W.ID g=true):PX bs UF #[.pointer p,I g] w (I (V7 W.ID g (J8 W.IE))):=
 D4 p g fun wr hx=>by
  have h:=(h.ext hx).less (cs:=[]) Qs;have hr:Q6 W.ID 0=true:=Q5.2 ⟨Qd,by have:=ht.len; omega,ht.ru⟩;obtain⟨r1,r2,_⟩:=Q5.1 hr;refine⟨_,PC h h4,fun vs=>∃(x s:Int),vs=[I x,I s]/\Q6 W.ID x=true/\V7 W.ID x s=V7 W.ID g (J8 W.IE),fun vs=>(dep 3 W.ID (Y5 0 vs)).toNat,⟨g,_,rfl,hu,rfl⟩,?_⟩;rintro x s ⟨x',s',he,hux,hI⟩;simp only[I5,I6,true_and,and_true] at he;obtain⟨rfl,rfl⟩:=he;refine⟨fun hz=>?_,fun hz=>?_⟩
  ·have hz:x≠0:=by simpa using hz
   obtain⟨hp,a,b,d,e,e2,hd⟩:=Y3 ht hux hz;unfold V7 at hI;rw[Yl ht hux hz,List.cons_append,List.foldl_cons] at hI
   exact⟨h.some,_,_,_,h.ID,h.rd.g.ix a b,_,h.rd.g.IE a b,_,OV,h.some,_,_,_,h.ID,h.rd.g.ix a b,_,h.rd.g.parent a b,⟨_,_,rfl,hp,hI⟩,by
    show (dep 3 W.ID (gi W.ID x).parent).toNat<(dep 3 W.ID x).toNat;omega⟩
  ·have hz:x=0:=by simpa using hz
   subst hz;unfold V7 at hI;rw[show Z2 W.ID 0=[] from Zi _ _] at hI;refine⟨h.some,_,_,_,h.ID,h.rd.g.ix r1 r2,_,h.rd.g.IE r1 r2,_,OV,?_⟩;unfold V7;rw[<-hI]; rfl
theorem Ej{g mask:Int}(h:Mk bs w p W m)(h4:W.IE.length<=4)(ht:ZX W.ID)(hu:Q6 W.ID g=true):PX bs XC #[.pointer p,I mask,I g] w (I (Qv W g mask)):=
 MD p mask g fun wr hx=>by
  have h:=(h.ext hx).less (cs:=[]) Qs;refine⟨_,zgt h h4 ht hu,_,OV,fun g1=>?_,fun g1=>⟨fun g2=>?_,fun g2=>⟨_,PC h h4,?_⟩⟩⟩
  ·unfold Qv; rw[E' (by simpa using g1)]
  ·unfold Qv; rw[C' (by simpa using g1),E' (by simpa using g2)]
  ·unfold Qv; rw[C' (by simpa using g1),C' (by simpa using g2)]
theorem Au{t:Int}(h:Mk bs w p W m)(h4:W.IE.length<=4)(ht:ZX W.ID)(t0:0<=t)(t1:t<(W.tasks.length:Int))(hu:Q6 W.ID (Q8 W t).group=true):PX bs Jh #[.pointer p,I t] w (I (Qv W (Q8 W t).group (Q8 W t).mask)):=
 KQ p t fun wr hx=>by
  have h:=(h.ext hx).less (cs:=[]) Qs;exact⟨h.some,_,_,_,h.tasks,h.rd.t.ix QL t0 t1,_,h.rd.t.f t0 t1 (j:=4) rfl,h.some,_,_,_,h.tasks,h.rd.t.ix QL t0 t1,_,h.rd.t.f t0 t1 (j:=1) rfl,_,Ej h h4 ht hu,rfl⟩
theorem zat{t c g:Int}(h:Mk bs w p W m)(t0:0<=t)(t1:t<(W.tasks.length:Int)):PX bs U8 #[.agg #[.pointer p,I c],I t,I g] w (.bool (TY W g c t.toNat)):=
 GM p c t g fun wr hx=>by
  have h:=(h.ext hx).less (cs:=[]) Qs;refine fun _ _=>⟨h.some,_,_,_,h.tasks,h.rd.t.ix QL t0 t1,_,_,_,_,_,_,_,_,_,h.rd.t t t0 t1,fun _ _=>?_⟩
  unfold TY;rw[show ((t.toNat:Nat):Int)=t by omega]
theorem zeo{k c g:Int}(h:Mk bs w p W m)(ha:WA W)(k0:0<=k)(k1:k<(W.ID.length:Int))(c0:0<=c)(c1:c<(W.IE.length:Int)):PX bs UI #[.agg #[.pointer p,I c],I k,I g] w (.bool (J1 W g c k.toNat)):=
 D7 p c k g fun wr hx=>by
  have h:=(h.ext hx).less (cs:=[]) Qs
  have hc:(((k != 0)&&(gi W.ID k).used)&&((gi W.ID k).parent==g))=true->c<((gi W.ID k).IF.length:Int):=fun q=>by
   simp only[A'] at q;rw[ha.sl (Q5.2 ⟨k0,k1,q.1.2⟩)]; exact c1
  refine fun _ _=>⟨fun _=>h.some,_,_,_,fun _=>h.ID,fun _=>h.rd.g.ix k0 k1,_,fun _=>h.rd.g.used k0 k1,fun _=>h.some,_,_,_,fun _=>h.ID,fun _=>h.rd.g.ix k0 k1,_,fun _=>h.rd.g.parent k0 k1,zw9 m k c,fun q=>YW h k0 k1 c0 (hc q),fun q=>(h.sh k0 k1 c0 (hc q)).1,(Qc W k c).on,fun q=>(h.sh k0 k1 c0 (hc q)).2 (j:=1) rfl,?_⟩
  unfold J1;rw[show ((k.toNat:Nat):Int)=k by omega]
  have e:decide (1<=k.toNat)=(k != 0):=by
   by_cases hk:k=0
   ·subst hk; rfl
   ·rw[Ii Qo,Iu.2 hk]
  rw[e,Bool.and_assoc,Bool.and_assoc,Bool.and_assoc,Bool.and_assoc]
theorem zap{g c:Int}(h:Mk bs w p W m)(ha:WA W)(c0:0<=c)(c1:c<(W.IE.length:Int)):PX bs U6 #[.agg #[.pointer p,I c],I g] w (.bool (QU W g c)):=
 GK p c g fun wr hx=>by
  have h:=(h.ext hx).less (cs:=[]) Qs;have bW:=ha.gl;have ht:=ha.t;refine fun _ _=>⟨h.some,_,_,_,h.tasks,?_⟩
  refine Xg W.tasks.length 0 rfl (fun k=>k<=W.tasks.length/\∀j:Nat,j<k->TY W g c j=false) ⟨Ie _,fun j hj=>Is hj (Nat.not_lt_zero j)⟩ fun k ⟨hk,hI⟩=>⟨fun IQ=>?_,fun RH=>?_⟩
  ·have IQ:=Ot IQ;refine⟨_,zat h Qo IQ,fun hy=>?_,fun hn=>⟨⟨Qo,Qo⟩,QA Qo ⟨Qo,fun j hj=>?_⟩⟩⟩
   ·rw[Ih] at hy;unfold QU;rw[Gj.2 ⟨k,Qo,hy⟩]; rfl
   ·by_cases gG:j<k
    ·exact hI j gG
    ·have:j=k:=Qo;subst this
     rwa[Ih] at hn
  ·have RH:=Ou RH;have i':VN (TY W g c) W.tasks.length=false:=zdo fun j hj=>hI j Qo
   refine⟨h.some,_,_,_,h.ID,?_⟩;refine Xg W.ID.length 0 rfl (fun k=>k<=W.ID.length/\∀j:Nat,j<k->J1 W g c j=false) ⟨Ie _,fun j hj=>Is hj (Nat.not_lt_zero j)⟩ fun k ⟨hk,hI⟩=>⟨fun IQ=>?_,fun RH=>?_⟩
   ·have IQ:=Ot IQ;refine⟨_,zeo h ha Qo IQ c0 c1,fun hy=>?_,fun hn=>⟨⟨Qo,Qo⟩,QA Qo ⟨Qo,fun j hj=>?_⟩⟩⟩
    ·rw[Ih] at hy;unfold QU;rw[Gj.2 ⟨k,Qo,hy⟩,Bool.or_true]
    ·by_cases gG:j<k
     ·exact hI j gG
     ·have:j=k:=Qo;subst this
      rwa[Ih] at hn
   ·have RH:=Ou RH;have:VN (J1 W g c) W.ID.length=false:=zdo fun j hj=>hI j Qo
    unfold QU;rw[i',this]; rfl
theorem zi2{g c:Int}(h:Mk bs w p W m)(ha:WA W)(hu:Q6 W.ID g=true)(c0:0<=c)(c1:c<(W.IE.length:Int)):PX bs T1 #[.agg #[.pointer p,I c],I g] w (.bool (V4 W g c)):=
 BN p c g fun wr hx=>by
  have h:=(h.ext hx).less (cs:=[]) Qs;obtain⟨u1,u2,_⟩:=Q5.1 hu
  have hd:(decide ((gi W.ID g).IT.I'>0))=true->c<((gi W.ID g).IT.RI.length:Int):=fun g1=>by
   have:=Ot g1;rw[(ha.dl hu Qo).1]; exact c1
  exact fun _ _=>⟨h.some,_,_,_,h.ID,h.rd.g.ix u1 u2,_,_,_,_,_,_,_,_,_,h.rd.g.IT u1 u2,fun _ _=>⟨fun g1=>(h.rd.g.RI g u1 u2).ix Aa c0 (hd g1),_,fun g1=>(h.rd.g.RI g u1 u2) c c0 (hd g1),rfl⟩⟩
theorem zar{t c:Int}(h:Mk bs w p W m)(ha:WA W)(t0:0<=t)(t1:t<(W.tasks.length:Int))(c0:0<=c)(c1:c<(W.IE.length:Int))(hu:(Q8 W t).state=1->Q6 W.ID (Q8 W t).group=true) :
  PX bs U7 #[.agg #[.pointer p,I c],I t] w (.bool (((Q8 W t).R9==c)&&ZE W t)):=
 GL p c t fun wr hx=>by
  have h:=(h.ext hx).less (cs:=[]) Qs;refine fun _ _=>⟨h.some,_,_,_,h.tasks,h.rd.t.ix QL t0 t1,_,_,_,_,_,_,_,_,_,h.rd.t t t0 t1,fun _ _=>⟨fun g=>?_,fun g=>?_⟩⟩
  ·have g':(((Q8 W t).state != 1)||((Q8 W t).R9 != c))=true:=g
   have:(((Q8 W t).R9==c)&&ZE W t)=false:=by
    unfold ZE;simp only[Iv,Iu] at g';rcases g' with e | e
    ·rw[beq_eq_false_iff_ne.2 e,Bool.false_and,Bool.and_false]
    ·rw[beq_eq_false_iff_ne.2 e,Bool.false_and]
   rw[this]
  ·have g':(((Q8 W t).state != 1)||((Q8 W t).R9 != c))=false:=g;simp only[I0,bne_eq_false_iff_eq] at g';obtain⟨hs,hc⟩:=g';have hug:=hu hs
   have hL:(((Q8 W t).R9==c)&&ZE W t)=Uj W (Q8 W t).group c:=by
    unfold ZE; rw[It.2 hs,It.2 hc,Bool.true_and,Bool.true_and,hc]
   rw[hL];refine⟨fun vs=>∃x:Int,vs=[I x]/\Q6 W.ID x=true/\Uj W x c=Uj W (Q8 W t).group c,fun vs=>(dep 3 W.ID (Y5 0 vs)).toNat,⟨_,rfl,hug,rfl⟩,?_⟩;rintro x ⟨x',he,hux,hI⟩;simp only[I5,I6,true_and,and_true] at he;subst he;refine⟨fun hz=>?_,fun hz=>?_⟩
   ·have hz:x≠0:=by simpa using hz
    obtain⟨hp,a,b,d,e,e2,hd⟩:=Y3 ha.tree hux hz;have uS:c<((gi W.ID x).IF.length:Int):=by rw[ha.sl hux]; exact c1
    unfold Uj at hI;rw[Yl ha.tree hux hz,List.all_cons] at hI
    refine⟨_,YW h a b c0 uS,(h.sh a b c0 uS).1,_,(h.sh a b c0 uS).2 (j:=1) rfl,fun g2=>?_,fun g2=>⟨h.some,_,_,_,h.ID,h.rd.g.ix a b,_,h.rd.g.parent a b,⟨_,rfl,hp,?_⟩,by
     show (dep 3 W.ID (gi W.ID x).parent).toNat<(dep 3 W.ID x).toNat;omega⟩⟩
    ·have g2:(Qc W x c).on=false:=by simpa using g2
     rw[g2,Bool.false_and] at hI;unfold Uj;rw[<-hI]
    ·have g2:(Qc W x c).on=true:=by simpa using g2
     rw[g2,Bool.true_and] at hI;exact hI
   ·have hz:x=0:=by simpa using hz
    subst hz;unfold Uj at hI;rw[show Z2 W.ID 0=[] from Zi _ _,List.all_nil] at hI;unfold Uj;rw[<-hI]
end
structure zri (W:Q7):Prop where
 n1:0<=W.now
 n2:W.now<=100000000000000000
 c1:1<=W.IE.length
 c2:W.IE.length<=4
 t:W.tasks.length=12
 tree:ZX W.ID
 ups:J8 W.IE≠0
structure zwb (W:Q7) (g:Zr):Prop where
 none:g.IT.I'=0->Tl g.IT=true/\g.period=0/\g.next=0
 IT:g.IT.I'≠0->VK g.IT/\g.IT.locals.length=W.IE.length/\1<=g.period/\g.period<=1000/\W.now<g.next/\g.next-W.now<=g.period
structure zv9 (W:Q7) (g:Zr):Prop where
 w1:1<=g.weight
 w2:g.weight<=20
 m:Ow g.IE=true
 m0:g.IE≠0
 s:ZF g.sum=true
 len:g.IF.length=W.IE.length
 q:zwb W g
def zrl(W:Q7)(k:Int):Prop:=((gi W.ID k).used=false->zn4 (gi W.ID k))/\((gi W.ID k).used=true->zv9 W (gi W.ID k))
theorem HL{W:Q7}{k:Int}:Pt W k↔zrl W k/\((gi W.ID k).used=true->k=0->(gi W.ID k).weight=10/\(gi W.ID k).IE=15/\(gi W.ID k).IT.I'=0):=by
 constructor
 ·intro p;exact⟨⟨p.1,fun hu=>by have q:=p.2 hu; exact⟨q.w1,q.w2,q.m,q.m0,q.s,q.len,⟨q.none,q.IT⟩⟩⟩,fun hu=>(p.2 hu).root⟩
 ·rintro⟨p,r⟩;exact⟨p.1,fun hu=>by have q:=p.2 hu; exact⟨q.w1,q.w2,q.m,q.m0,q.s,q.len,r hu,q.q.none,q.q.IT⟩⟩
section
variable {W:Q7}{m:MW}{w:Wo}{bs:List Nat}{p:OA}
theorem Aw{k:Int}(h:Mk bs w p W m)(n1:0<=W.now)(n2:W.now<=100000000000000000)(k0:0<=k)(k1:k<(W.ID.length:Int))(hf:zdb (gi W.ID k)) :
  PX bs Xc #[.pointer p,.agg (Yb (gi W.ID k) (m.ms k.toNat)).toArray] w (.bool (XQ (zwb W (gi W.ID k)))):=
 KR p (gi W.ID k).used (gi W.ID k).parent (gi W.ID k).name (gi W.ID k).weight (gi W.ID k).IE (gi W.ID k).period (gi W.ID k).next (gi W.ID k).sum (gi W.ID k).IT.I' (gi W.ID k).IT.Sp (gi W.ID k).IT.Ww (m.ms k.toNat).lO (gi W.ID k).IT.locals.length (m.ms k.toNat).lC (m.ms k.toNat).dO (gi W.ID k).IT.RI.length (m.ms k.toNat).dC (m.ms k.toNat).sO (gi W.ID k).IF.length (m.ms k.toNat).sC fun wr hx=>by
  have h:=(h.ext hx).less (cs:=[]) Qs
  have hp:((XQ (VK (gi W.ID k).IT)&&(((gi W.ID k).IT.locals.length:Nat):Int)==((W.IE.length:Nat):Int))&&Yx (gi W.ID k).period 1 1000)=true->1<=(gi W.ID k).period/\(gi W.ID k).period<=1000:=fun q=>by
   simp only[A'] at q;exact Qt.1 q.2
  refine fun _ _=>⟨_,MQ (b:=(gi W.ID k).IT) (m:=m.ms k.toNat),fun g=>Og ?_,fun g=>⟨_,zan (b:=(gi W.ID k).IT) (m:=m.ms k.toNat) (h.rd.g.locals k k0 k1) (h.rd.g.RI k k0 k1) hf.lo,fun _=>h.some,_,_,_,fun _=>h.IE,_,fun _=>QO,fun _=>h.some,_,fun _=>h.now,fun _=>⟨Qo,Qo⟩,fun _=>h.some,_,fun _=>h.now,fun q=>⟨by have:=hp q; omega,by have:=hp q; omega⟩,_,fun _=>QO,Og ?_⟩⟩
  ·have q0:=(AQ g).1;simp only[A',It];exact⟨fun e=>⟨fun _=>⟨g,e.1,e.2⟩,fun gA=>Is q0 gA⟩,fun q=>(q.none q0).2⟩
  ·simp only[A',It,Qi,Qt];constructor
   ·rintro⟨⟨⟨e1,e2⟩,e3⟩,e4⟩;have:=e1.q1;exact⟨fun hz=>by omega,fun _=>⟨e1,Qo,e3.1,e3.2,Qo,Qo⟩⟩
   ·intro q
    have hq:(gi W.ID k).IT.I'≠0:=fun e=>by
     have:=(q.none e).1;rw[this] at g; cases g
    have r:=q.IT hq;exact⟨⟨⟨r.1,by have:=r.2.1; omega⟩,r.2.2.1,r.2.2.2.1⟩,by have:=r.2.2.2.2.1; omega,by have:=r.2.2.2.2.2; omega⟩
theorem Bt(h:Mk bs w p W m)(hs:zri W)(hf:∀i:Int,0<=i->i<(W.ID.length:Int)->zdb (gi W.ID i)):PX bs YU #[.pointer p] w (.bool (XQ (∀k:Int,0<=k->k<8->Pt W k))):=
 Kb p fun wr hx=>by
  have h:=(h.ext hx).less (cs:=[]) Qs;have bW:=hs.tree.len;refine⟨h.some,_,_,_,h.ID,?_⟩;refine Xg W.ID.length 0 rfl (fun k=>k<=W.ID.length/\∀j:Int,0<=j->j<(k:Int)->zrl W j) ⟨Ie _,fun j h0 h1=>by omega⟩ fun k ⟨hk,hI⟩=>⟨fun IQ=>?_,fun RH=>?_⟩
  ·have IQ:=Ot IQ;have k0:(0:Int)<=(k:Int):=Qo
   have nxt:zrl W (k:Int)->∀j:Int,0<=j->j<((k+1:Nat):Int)->zrl W j:=fun hq j h0 h1=>by
    by_cases gG:j<(k:Int)
    ·exact hI j h0 gG
    ·have:j=(k:Int):=Qo;subst this; exact hq
   refine⟨h.rd.g.ix k0 IQ,_,_,_,_,_,_,_,_,_,_,_,_,_,_,_,_,_,_,_,_,h.rd.g.cells k k0 IQ,fun _ _=>⟨fun g=>?_,fun g=>?_⟩⟩
   ·have hu:(gi W.ID (k:Int)).used=false:=by simpa using g
    refine⟨_,Ek (g:=gi W.ID (k:Int)) (m:=m.ms (k:Int).toNat) hu,fun g2=>Ka fun pp=>?_,fun g2=>⟨⟨Qo,Qo⟩,QA Qo ⟨Qo,nxt ⟨fun _=>Qi.1 (by simpa using g2),fun hu'=>by rw[hu'] at hu; cases hu⟩⟩⟩⟩;have g2:XQ (zn4 (gi W.ID (k:Int)))=false:=by simpa using g2
    exact Ko.1 g2 ((HL.1 (pp (k:Int) k0 Qo)).1.1 hu)
   ·have hu:(gi W.ID (k:Int)).used=true:=by simpa using g
    have bad:¬zv9 W (gi W.ID (k:Int))->¬∀k:Int,0<=k->k<8->Pt W k:=fun hn pp=>hn ((HL.1 (pp (k:Int) k0 Qo)).1.2 hu)
    refine⟨_,O9,_,fun _=>MR,fun g2 b1 eY=>⟨ZF (gi W.ID (k:Int)).sum,fun _ wx hxw hcx=>zxg hcx,fun _=>h.some,_,_,_,fun _=>h.IE,_,fun _=>Aw h hs.n1 hs.n2 k0 IQ (hf _ k0 IQ),fun g3=>Ka (bad fun q=>?_),fun g3=>⟨⟨Qo,Qo⟩,QA Qo ⟨Qo,nxt ⟨fun hu'=>(by rw[hu'] at hu; cases hu),fun _=>?_⟩⟩⟩⟩,fun g2=>⟨fun e=>(by cases e),none,0,0,fun e=>(by cases e),false,fun e=>(by simp at e),fun g3=>Ka (bad fun q=>g2 ?_),fun g3=>(by simp at g3)⟩⟩
    ·have e1:Yx (gi W.ID (k:Int)).weight 1 20=true:=Qt.2 ⟨q.w1,q.w2⟩;have e2:((gi W.ID (k:Int)).IE != 0)=true:=by simpa using q.m0
     have e5:(((gi W.ID (k:Int)).IF.length:Nat):Int)=((W.IE.length:Nat):Int):=by have:=q.len; omega
     rw[e1,e2,q.m,q.s,e5,Qi.2 q.q] at g3;simp at g3
    ·simp only[I0,I7,bne_eq_false_iff_eq,Qt,A',Iu,Qi] at g3;obtain⟨⟨⟨⟨a1,a2⟩,a3⟩,a4⟩,a5⟩:=g3;exact⟨a1.1,a1.2,a2.2,a2.1,a3,Qo,a5⟩
    ·have e1:Yx (gi W.ID (k:Int)).weight 1 20=true:=Qt.2 ⟨q.w1,q.w2⟩;have e2:((gi W.ID (k:Int)).IE != 0)=true:=by simpa using q.m0
     rw[e1,e2,q.m]; rfl
  ·have RH:=Ou RH;have h0:(0:Int)<(W.ID.length:Int):=Qo;refine⟨h.some,_,_,_,h.ID,h.rd.g.ix Qd h0,_,_,_,_,_,_,_,_,_,_,_,_,_,_,_,_,_,_,_,_,h.rd.g.cells 0 Qd h0,fun _ _=>Og ?_⟩;simp only[A',It];constructor
   ·rintro⟨⟨e1,e2⟩,e3⟩ j j0 j1;exact HL.2 ⟨hI j j0 Qo,fun _ hj=>by subst hj; exact⟨e1,e2,e3⟩⟩
   ·intro pp;have r:=(HL.1 (pp 0 Qd Qd)).2 hs.tree.ru rfl;exact⟨⟨r.1,r.2.1⟩,r.2.2⟩
theorem zri.wa(hs:zri W)(hg:∀k:Int,0<=k->k<8->Pt W k):WA W:=⟨hs.n1,hs.n2,hs.c1,hs.c2,hs.t,hs.tree,hs.ups,hg⟩
theorem zp7{n:Int}:Yx n (-10) 9=true↔Qf n≠0:=by
 unfold Qf
 cases h:Yx n (-10) 9 with
 | true=>
  have:=Qt.1 h;simp; omega
 | false=>simp
def Nt(W:Q7)(t:Int):Prop:=Ft W t/\((Q8 W t).state=1->ZF (Qc W (Q8 W t).group (Q8 W t).R9).floor=true)
theorem Ay(h:Mk bs w p W m)(ha:WA W)(lg:W.ID.length<=maxLen):PX bs Xe #[.pointer p] w (.bool (XQ (∀t:Int,0<=t->t<12->Nt W t))):=
 KT p fun wr hx=>by
  have h:=(h.ext hx).less (cs:=[]) Qs;have bW:=ha.gl;have jV:=ha.t;refine⟨h.some,_,_,_,h.tasks,?_⟩;refine Xg W.tasks.length 0 rfl (fun k=>k<=W.tasks.length/\∀j:Int,0<=j->j<(k:Int)->Nt W j) ⟨Ie _,fun j h0 h1=>by omega⟩ fun k ⟨hk,hI⟩=>⟨fun IQ=>?_,fun RH=>?_⟩
  ·have IQ:=Ot IQ;have k0:(0:Int)<=(k:Int):=Qo
   have nxt:Nt W (k:Int)->Qq .i64 ((k:Int)+1)/\zmf (fun k=>k<=W.tasks.length/\∀j:Int,0<=j->j<(k:Int)->Nt W j) [I ((k:Int)+1)]/\Xl W.tasks.length 0 [I ((k:Int)+1)]<Xl W.tasks.length 0 [I (k:Int)]:=fun hq=>⟨⟨Qo,Qo⟩,QA Qo ⟨Qo,fun j h0 h1=>by
    by_cases gG:j<(k:Int)
    ·exact hI j h0 gG
    ·have:j=(k:Int):=Qo;subst this; exact hq⟩⟩
   have bad:¬Nt W (k:Int)->¬∀t:Int,0<=t->t<12->Nt W t:=fun hn pp=>hn (pp (k:Int) k0 Qo)
   refine⟨h.rd.t.ix QL k0 IQ,_,_,_,_,_,_,_,_,_,h.rd.t k k0 IQ,fun _ _=>⟨_,fun wq=>Co zb5 (zks (gi W.tasks (k:Int)) VV) _ _ wq,fun g=>?_,fun g=>?_⟩⟩
   ·rw[zfl,Ik] at g;have hz:Q8 W (k:Int)=VV:=g;exact nxt ⟨.inl ⟨by rw[hz]; rfl,hz⟩,fun e=>by rw[hz] at e; cases e⟩
   ·rw[zfl,decide_eq_false_iff_not] at g;have hz:¬Q8 W (k:Int)=VV:=g
    have get:Nt W (k:Int)->zrn W (gi W.tasks (k:Int)):=fun q=>by
     rcases q.1 with ⟨_,e⟩ | ⟨_,q⟩
     ·exact Is e hz
     ·exact q
    refine⟨fun _=>h.some,_,_,_,fun _=>h.ID,_,fun _=>JX (c:=m.gC) h.rd.g lg,_,fun _=>LX,_,fun _=>MR,fun g2=>Ka (bad fun q=>?_),fun g2 b1 eY=>?_⟩
    ·have q:=get q;have e3:Yx (gi W.tasks (k:Int)).nice (-10) 9=true:=zp7.2 q.n;have e4:((gi W.tasks (k:Int)).mask != 0)=true:=by simpa using q.m0
     rw[q.g,e3,q.m,e4] at g2;simp only[Bool.not_true,Bool.or_false,Bool.and_true,A',Iu] at g2;have:=q.st;omega
    ·simp only[I0,I7,A',Iu] at g2;obtain⟨⟨⟨a1,a2⟩,a3⟩,a4⟩:=g2
     have st:(gi W.tasks (k:Int)).state=1\/(gi W.tasks (k:Int)).state=2:=by
      by_cases h1:(gi W.tasks (k:Int)).state=1
      ·exact .inl h1
      ·refine .inr ?_;have:((gi W.tasks (k:Int)).state != 1)=true:=by simpa using h1
       rw[this,Bool.true_and] at a1
       simpa using a1
     refine⟨_,fun wx hxw hcx=>zxq hcx,_,fun _=>zas,_,fun _=>Au h ha.c2 ha.tree k0 IQ a2,_,fun _=>As,fun g3=>Ka (bad fun q=>?_),fun g3=>?_⟩
     ·have q:=get q;have e4:Yx (gi W.tasks (k:Int)).load 0 8000000=true:=Qt.2 ⟨q.l1,q.l2⟩;have e5:Ze (Qv W (Q8 W (k:Int)).group (Q8 W (k:Int)).mask) (gi W.tasks (k:Int)).R9=true:=q.c;rw[q.v,q.s,q.u,e4,e5] at g3;cases g3
     ·simp only[I0,I7,Qt,A'] at g3;obtain⟨⟨b1',b2⟩,b3⟩:=g3;obtain⟨u1,u2,_⟩:=Q5.1 a2;obtain⟨c0,c1⟩:=Kn ha b3;have hsl:=ha.sl a2;have c2:(gi W.tasks (k:Int)).R9<((gi W.ID (gi W.tasks (k:Int)).group).IF.length:Int):=Qo;have sh:=h.sh (g:=(gi W.tasks (k:Int)).group) u1 u2 c0 c2
      have mk:(((Q8 W (k:Int)).state=1->ZF (Qc W (Q8 W (k:Int)).group (Q8 W (k:Int)).R9).floor=true/\PJ (gi W.tasks (k:Int)).v (Qc W (gi W.tasks (k:Int)).group (gi W.tasks (k:Int)).R9).floor (Qf (gi W.tasks (k:Int)).nice)=true))->Nt W (k:Int):=fun hf=>⟨.inr ⟨fun e=>by
        have e:(gi W.tasks (k:Int)).state=0:=e;omega,⟨st,a2,zp7.1 a3,a4.2,a4.1,b1'.1,b1'.2.1,b1'.2.2,b2.1,b2.2,b3,fun e=>(hf e).2⟩⟩,fun e=>(hf e).1⟩
      refine⟨_,_,Kz,_,YW h u1 u2 c0 c2,sh.1,_,sh.2 (j:=0) rfl,fun _ b2 cD=>⟨ZF (Qc W (gi W.tasks (k:Int)).group (gi W.tasks (k:Int)).R9).floor,fun _ wx hxw hcx=>zxg hcx,_,fun _ _=>MP,_,fun g4 _=>KA b1'.1 (by simpa using g4),fun g4=>Ka (bad fun q=>?_),fun g4=>nxt (mk fun e=>?_)⟩,fun g4=>⟨fun e=>(by cases e),fun _=>nxt (mk fun e=>Is (It.2 e) g4)⟩⟩
      ·simp only[A',It,Iv,IC] at g4;have e1:=(get q).f g4.1;have e2:=q.2 g4.1;rcases g4.2 with g5 | g5
       ·have e2:ZF (Qc W (gi W.tasks (k:Int)).group (gi W.tasks (k:Int)).R9).floor=true:=e2;rw[e2] at g5; cases g5
       ·rw[e1] at g5; cases g5
      ·have e':((gi W.tasks (k:Int)).state==1)=true:=It.2 e;rw[e',Bool.true_and] at g4;simp only[I0,I7] at g4;exact g4
  ·have RH:=Ou RH;exact zh5 fun t h0 h1=>hI t h0 Qo
theorem El(h:Mk bs w p W m)(ha:WA W)(hf:∀i:Int,0<=i->i<(W.ID.length:Int)->zdb (gi W.ID i)):PX bs YJ #[.pointer p] w (.bool (XQ (∀k c:Int,0<=k->k<8->0<=c->c<((gi W.ID k).IF.length:Int)->Pu W k c))):=
 ME p fun wr hx=>by
  have h:=(h.ext hx).less (cs:=[]) Qs;have bW:=ha.gl;have qW:=ha.c2
  let TS:=fun (k c:Int)=>ZF (Qc W k c).floor=true/\ZF (Qc W k c).v=true/\ZF (Qc W k c).sum=true/\1<=(Qc W k c).w/\(Qc W k c).w<=20
  have ts:(∀k c:Int,0<=k->k<8->0<=c->c<((gi W.ID k).IF.length:Int)->Pu W k c)->∀k c:Int,0<=k->k<8->0<=c->c<((gi W.ID k).IF.length:Int)->TS k c:=fun q k c h0 h1 h2 h3=>by
   have r:=q k c h0 h1 h2 h3;exact⟨r.f,r.v,r.s,r.w1,r.w2⟩
  refine⟨h.some,_,_,_,h.ID,?_⟩;refine Xg W.ID.length 0 rfl (fun k=>k<=W.ID.length/\∀j c:Int,0<=j->j<(k:Int)->0<=c->c<((gi W.ID j).IF.length:Int)->TS j c) ⟨Ie _,fun j c h0 h1=>by omega⟩ fun k ⟨hk,hI⟩=>⟨fun IQ=>?_,fun RH=>?_⟩
  ·have IQ:=Ot IQ;have k0:(0:Int)<=(k:Int):=Qo;have hsm:(gi W.ID (k:Int)).IF.length<=maxLen:=(hf _ k0 IQ).sh;refine⟨h.rd.g.ix k0 IQ,_,_,_,_,_,_,_,_,_,_,_,_,_,_,_,_,_,_,_,_,h.rd.g.cells k k0 IQ,fun _ _=>?_⟩;refine Xg (gi W.ID (k:Int)).IF.length 0 rfl (fun c=>c<=(gi W.ID (k:Int)).IF.length/\∀d:Int,0<=d->d<(c:Int)->TS (k:Int) d) ⟨Ie _,fun j h0 h1=>by omega⟩ fun c ⟨hc,hJ⟩=>⟨fun qA=>?_,fun A87=>?_⟩
   ·have qA:=Ot qA;have c0:(0:Int)<=(c:Int):=Qo;have rs:=h.rd.g.IF (k:Int) k0 IQ;refine⟨rs.ix ZK c0 qA,_,_,_,_,_,rs c c0 qA,fun _ _ b2 cD=>⟨_,fun wx hxw hcx=>zxq hcx,_,fun _=>O9,fun g=>Ka fun q=>?_,fun g=>⟨zem qA hsm,QA Qo ⟨Qo,fun d h0 h1=>?_⟩⟩⟩⟩
    ·have r:=ts q (k:Int) (c:Int) k0 Qo c0 qA;have e4:Yx (Qc W (k:Int) (c:Int)).w 1 20=true:=Qt.2 ⟨r.2.2.2.1,r.2.2.2.2⟩;have g':((!(ZF (Qc W (k:Int) (c:Int)).floor&&(ZF (Qc W (k:Int) (c:Int)).v&&ZF (Qc W (k:Int) (c:Int)).sum))) || !Yx (Qc W (k:Int) (c:Int)).w 1 20)=true:=g;rw[r.1,r.2.1,r.2.2.1,e4] at g'
     cases g'
    ·by_cases gG:d<(c:Int)
     ·exact hJ d h0 gG
     ·have:d=(c:Int):=Qo;subst this;have g':((!(ZF (Qc W (k:Int) (c:Int)).floor&&(ZF (Qc W (k:Int) (c:Int)).v&&ZF (Qc W (k:Int) (c:Int)).sum))) || !Yx (Qc W (k:Int) (c:Int)).w 1 20)=false:=g;simp only[I0,I7,A',Qt] at g';exact⟨g'.1.1,g'.1.2.1,g'.1.2.2,g'.2.1,g'.2.2⟩
   ·have A87:=Ou A87;refine⟨⟨Qo,Qo⟩,QA Qo ⟨Qo,fun j d h0 h1 h2 h3=>?_⟩⟩
    by_cases gG:j<(k:Int)
    ·exact hI j d h0 gG h2 h3
    ·have:j=(k:Int):=Qo;subst this;exact hJ d h2 Qo
  have RH:=Ou RH;have hT:∀j c:Int,0<=j->j<8->0<=c->c<((gi W.ID j).IF.length:Int)->TS j c:=fun j c h0 h1=>hI j c h0 Qo
  refine⟨h.some,_,_,_,h.IE,?_⟩;refine Xg W.IE.length 0 rfl (fun c=>c<=W.IE.length/\∀d k:Int,0<=d->d<(c:Int)->0<=k->k<8->d<((gi W.ID k).IF.length:Int)->Pu W k d) ⟨Ie _,fun j k h0 h1=>by omega⟩ fun c ⟨hc,hJ⟩=>⟨fun qA=>?_,fun A87=>?_⟩
  ·have qA:=Ot qA;have c0:(0:Int)<=(c:Int):=Qo;obtain⟨r1,r2,_⟩:=Q5.1 ha.root;have hrc:(c:Int)<((gi W.ID 0).IF.length:Int):=by rw[ha.sl ha.root]; exact qA
   have sh:=h.sh (g:=0) r1 r2 c0 hrc;have tr:=hT 0 (c:Int) Qd Qd c0 hrc;refine⟨_,_,Kz,fun _ _=>⟨_,YW h r1 r2 c0 hrc,sh.1,(Qc W 0 (c:Int)).on,sh.2 (j:=1) rfl,fun _=>sh.1,(Qc W 0 (c:Int)).v,fun _=>sh.2 (j:=2) rfl,fun _=>sh.1,(Qc W 0 (c:Int)).w,fun _=>sh.2 (j:=3) rfl,fun g=>Ka fun q=>?_,fun g=>?_⟩⟩
   ·have r:=(q 0 (c:Int) Qd Qd c0 hrc).root rfl;rw[r.1,r.2.1,r.2.2] at g;simp at g
   simp only[I0,bne_eq_false_iff_eq] at g;have root:Pu W 0 (c:Int):=⟨tr.1,tr.2.1,tr.2.2.1,tr.2.2.2.1,tr.2.2.2.2,fun _=>⟨g.1.1,g.1.2,g.2⟩,fun gA=>Is rfl gA,fun gA=>Is rfl gA⟩
   refine Xg 8 1 rfl (fun k=>1<=k/\k<=8/\∀j:Int,0<=j->j<(k:Int)->(c:Int)<((gi W.ID j).IF.length:Int)->Pu W j (c:Int)) ⟨I8 _,Qo,fun j h0 h1 _=>by
    have:j=0:=Qo;subst this; exact root⟩ fun k ⟨hk1,hk,hK⟩=>⟨fun IQ=>?_,fun bU=>?_⟩
   ·have IQ:=Ot IQ;have k0:(0:Int)<=(k:Int):=Qo;have kl:(k:Int)<(W.ID.length:Int):=Qo
    have nxt:((c:Int)<((gi W.ID (k:Int)).IF.length:Int)->Pu W (k:Int) (c:Int))->Qq .i64 ((k:Int)+1)/\zmf (fun k=>1<=k/\k<=8/\∀j:Int,0<=j->j<(k:Int)->(c:Int)<((gi W.ID j).IF.length:Int)->Pu W j (c:Int)) [I ((k:Int)+1)]/\Xl 8 0 [I ((k:Int)+1)]<Xl 8 0 [I (k:Int)]:=fun hq=>⟨⟨Qo,Qo⟩,QA Qo ⟨Qo,Qo,fun j h0 h1 h2=>by
     by_cases gG:j<(k:Int)
     ·exact hK j h0 gG h2
     ·have:j=(k:Int):=Qo;subst this; exact hq h2⟩⟩
    refine⟨h.some,_,_,_,h.ID,h.rd.g.ix k0 kl,_,h.rd.g.used k0 kl,fun g2=>nxt fun hh=>?_,fun g2=>?_⟩
    ·have hu:(gi W.ID (k:Int)).used=false:=by simpa using g2
     have:=((ha.grp (k:Int) k0 Qo).1 hu).l;omega
    ·have hus:(gi W.ID (k:Int)).used=true:=by simpa using g2
     have hu:Q6 W.ID (k:Int)=true:=Q5.2 ⟨k0,kl,hus⟩;have hkc:(c:Int)<((gi W.ID (k:Int)).IF.length:Int):=by rw[ha.sl hu]; exact qA
     have hp:=ha.up hu Qo;obtain⟨v1,v2,_⟩:=Q5.1 hp;have nX:(c:Int)<((gi W.ID (gi W.ID (k:Int)).parent).IF.length:Int):=by rw[ha.sl hp]; exact qA
     have sk:=h.sh (g:=(k:Int)) k0 kl c0 hkc;have sp:=h.sh (g:=(gi W.ID (k:Int)).parent) v1 v2 c0 nX;have tk:=hT (k:Int) (c:Int) k0 Qo c0 hkc;have tp:=hT (gi W.ID (k:Int)).parent (c:Int) v1 Qo c0 nX;refine⟨_,YW h k0 kl c0 hkc,sk.1,(Qc W (k:Int) (c:Int)).on,sk.2 (j:=1) rfl,_,zap h ha c0 qA,_,fun _=>zi2 h ha hu c0 qA,fun _=>sk.1,(Qc W (k:Int) (c:Int)).on,fun _=>sk.2 (j:=1) rfl,fun _ _=>sk.1,(Qc W (k:Int) (c:Int)).v,fun _ _=>sk.2 (j:=2) rfl,fun _ _=>h.some,_,_,_,fun _ _=>h.ID,fun _ _=>h.rd.g.ix k0 kl,_,fun _ _=>h.rd.g.parent k0 kl,_,fun _ _=>YW h v1 v2 c0 nX,fun _ _=>sp.1,(Qc W (gi W.ID (k:Int)).parent (c:Int)).floor,fun _ _=>sp.2 (j:=0) rfl,fun _ _=>sk.1,(Qc W (k:Int) (c:Int)).w,fun _ _=>sk.2 (j:=3) rfl,_,fun _ _=>KA tk.2.1 tp.1,fun g3=>Ka fun q=>?_,fun g3=>nxt fun _=>?_⟩
     ·have r:=q (k:Int) (c:Int) k0 Qo c0 hkc;have r1:=r.on Qo;simp only[Iv,A',IC,beq_eq_false_iff_ne] at g3;rcases g3 with g3 | g3
      ·exact g3 r1
      ·have:=r.st Qo g3.1;rw[this] at g3
       cases g3.2
     ·simp only[I0,I7,It] at g3;refine⟨tk.1,tk.2.1,tk.2.2.1,tk.2.2.2.1,tk.2.2.2.2,fun e=>by omega,fun _=>g3.1,fun _ ho=>?_⟩;have:=g3.2;rw[ho,Bool.true_and] at this
      simpa using this
   ·have bU:=Ou bU;refine⟨⟨Qo,Qo⟩,QA Qo ⟨Qo,fun d k' h0 h1 h2 h3 h4=>?_⟩⟩
    by_cases hdc:d<(c:Int)
    ·exact hJ d k' h0 hdc h2 h3 h4
    ·have:d=(c:Int):=Qo;subst this;exact hK k' h2 Qo h4
  ·have A87:=Ou A87;refine zh5 fun k d h0 h1 h2 h3=>hJ d k h2 ?_ h0 h1 h3
   have hus:(gi W.ID k).used=true:=by
    cases hu:(gi W.ID k).used with
    | true=>rfl
    | false=>
     have:=((ha.grp k h0 h1).1 hu).l;omega
   have:=ha.sl (Q5.2 ⟨h0,Qo,hus⟩);omega
theorem zaq(h:Mk bs w p W m)(ha:WA W)(hts:∀t:Int,0<=t->t<12->Ft W t)(hss:∀k c:Int,0<=k->k<8->0<=c->c<((gi W.ID k).IF.length:Int)->Pu W k c):PX bs Xm #[.pointer p] w (.bool (XQ (∀c:Int,0<=c->c<(W.IE.length:Int)->DC W c))):=
 LK p fun wr hx=>by
  have h:=(h.ext hx).less (cs:=[]) Qs;have bW:=ha.gl;have jV:=ha.t;have qW:=ha.c2;have hm9:=Zc;refine⟨h.some,_,_,_,h.IE,?_⟩;refine Xg W.IE.length 0 rfl (fun c=>c<=W.IE.length/\∀j:Int,0<=j->j<(c:Int)->DC W j) ⟨Ie _,fun j h0 h1=>by omega⟩ fun c ⟨hc,hI⟩=>⟨fun IQ=>?_,fun RH=>?_⟩
  ·have IQ:=Ot IQ;have c0:(0:Int)<=(c:Int):=Qo
   have nxt:DC W (c:Int)->Qq .i64 ((c:Int)+1)/\zmf (fun c=>c<=W.IE.length/\∀j:Int,0<=j->j<(c:Int)->DC W j) [I ((c:Int)+1)]/\Xl W.IE.length 0 [I ((c:Int)+1)]<Xl W.IE.length 0 [I (c:Int)]:=fun hq=>⟨⟨Qo,Qo⟩,QA Qo ⟨Qo,fun j h0 h1=>by
    by_cases gG:j<(c:Int)
    ·exact hI j h0 gG
    ·have:j=(c:Int):=Qo;subst this; exact hq⟩⟩
   have bad:¬DC W (c:Int)->¬∀c:Int,0<=c->c<(W.IE.length:Int)->DC W c:=fun hn pp=>hn (pp (c:Int) c0 IQ)
   refine⟨h.rd.c.ix Y0 c0 IQ,_,_,_,_,_,h.rd.c c c0 IQ,fun _ _ b1 eY=>⟨_,fun wx hxw hcx=>zx1 hcx,fun g=>Ka (bad fun q=>?_),fun g=>⟨fun g2=>nxt ?_,fun g2=>?_⟩⟩⟩
   ·rw[q.b,q.i] at g; cases g
   ·simp only[I7,A'] at g;simp only[A',It] at g2;exact⟨g.1,g.2,Qo,Qo,fun _=>g2.2,fun hh=>by omega⟩
   ·simp only[I7,A'] at g
    have ne:DC W (c:Int)->0<=(gi W.IE (c:Int)).cur:=fun q=>by
     rcases Int.lt_or_le (gi W.IE (c:Int)).cur 0 with Cs5 | Br6
     ·have e1:=q.c1;have e2:=q.no Cs5;have e3:(gi W.IE (c:Int)).cur = -1:=Qo;rw[e3,e2] at g2;simp at g2
     ·exact Br6
    have there:(Yx (gi W.IE (c:Int)).cur 0 ((W.tasks.length:Int)-1)&&((Q8 W (gi W.IE (c:Int)).cur).state != 0))=true->0<=(gi W.IE (c:Int)).cur/\(gi W.IE (c:Int)).cur<(W.tasks.length:Int):=fun q=>by
     simp only[A'] at q;have:=Qt.1 q.1;omega
    have lu:0<=(gi W.IE (c:Int)).cur/\(gi W.IE (c:Int)).cur<(W.tasks.length:Int)->(Q8 W (gi W.IE (c:Int)).cur).state=1->Q6 W.ID (Q8 W (gi W.IE (c:Int)).cur).group=true:=fun q hs=>(HY ha (hts _ q.1 Qo) hs).1
    refine⟨_,_,Kz,fun _ _=>⟨_,fun _=>Em h Qo,((Q8 W (gi W.IE (c:Int)).cur).R9==(c:Int))&&ZE W (gi W.IE (c:Int)).cur,fun q=>?_,_,fun _=>QO,fun g3=>Ka (bad fun q=>?_),fun g3=>?_⟩⟩
    ·simp only[I0,I7] at q;have:=there q.2;exact zar h ha this.1 this.2 c0 IQ (lu this)
    ·have t0:=ne q;have t1:=q.c2;have y:=q.yes t0;have e2:Yx (gi W.IE (c:Int)).cur 0 ((W.tasks.length:Int)-1)=true:=Qt.2 Qo;have qB:(Q8 W (gi W.IE (c:Int)).cur).state=1:=(zev (hts _ t0 Qo) y.2.2.2.2.1).2;have e4:Yx (gi W.IE (c:Int)).WS 1 149=true:=Qt.2 ⟨y.2.1,y.2.2.1⟩;rw[y.1,e2,qB,y.2.2.2.1,y.2.2.2.2.1,e4] at g3;simp at g3
    ·simp only[I0,I7] at g3;obtain⟨⟨⟨a1,a2⟩,a3⟩,a4⟩:=g3;obtain⟨t0,t1⟩:=there a2;have a4:=Qt.1 a4;simp only[A',It] at a3;obtain⟨Cp4,mR⟩:=a3;obtain⟨q,_⟩:=zev (hts _ t0 Qo) mR;have au:=q.g;obtain⟨u1,u2,_⟩:=Q5.1 au
     have sl:∀{x:Int},Q6 W.ID x=true->0<=x/\x<(W.ID.length:Int)/\(c:Int)<((gi W.ID x).IF.length:Int)/\Pu W x (c:Int):=fun {x} hx=>by
      obtain⟨v1,v2,_⟩:=Q5.1 hx;have c3:(c:Int)<((gi W.ID x).IF.length:Int):=by rw[ha.sl hx]; exact IQ
      exact⟨v1,v2,c3,hss x (c:Int) v1 Qo c0 c3⟩
     obtain⟨_,_,c2,sp⟩:=sl au;have sh:=h.sh (g:=(Q8 W (gi W.IE (c:Int)).cur).group) u1 u2 c0 c2;have mk:P7 W (c:Int)=true->DC W (c:Int):=fun qB=>⟨g.1,g.2,Qo,t1,fun hh=>by omega,fun _=>⟨a1,a4.1,a4.2,Cp4,mR,qB⟩⟩
     refine⟨h.some,_,_,_,h.tasks,h.rd.t.ix QL t0 t1,_,_,_,_,_,_,_,_,_,h.rd.t _ t0 t1,fun _ _=>⟨h.rd.t _ t0 t1,rfl,h.tasks,_,YW h u1 u2 c0 c2,sh.1,_,sh.2 (j:=0) rfl,Eh q.v sp.f,_,MP,_,US,fun g4=>Ka (bad fun qq=>?_),fun g4=>?_⟩⟩
     ·have g4:=Ot g4;have hd:¬((Q8 W (gi W.IE (c:Int)).cur).v-(Qc W (Q8 W (gi W.IE (c:Int)).cur).group (c:Int)).floor<=Z9 (gi W.IE (c:Int)).WS (Qf (Q8 W (gi W.IE (c:Int)).cur).nice)):=Int.not_le.2 g4;have:=(qq.yes t0).2.2.2.2.2;unfold P7 at this;rw[decide_eq_false hd] at this;cases this
     ·have g4:=Ou g4;have hd:(Q8 W (gi W.IE (c:Int)).cur).v-(Qc W (Q8 W (gi W.IE (c:Int)).cur).group (c:Int)).floor<=Z9 (gi W.IE (c:Int)).WS (Qf (Q8 W (gi W.IE (c:Int)).cur).nice):=Int.not_lt.1 g4
      have hS:P7 W (c:Int)=VU W (Q8 W (gi W.IE (c:Int)).cur).group (c:Int) (gi W.IE (c:Int)).WS:=by
       unfold P7;rw[Ii hd,Bool.true_and]
      refine⟨fun vs=>∃x:Int,vs=[I x]/\Q6 W.ID x=true/\VU W x (c:Int) (gi W.IE (c:Int)).WS=VU W (Q8 W (gi W.IE (c:Int)).cur).group (c:Int) (gi W.IE (c:Int)).WS,fun vs=>(dep 3 W.ID (Y5 0 vs)).toNat,⟨_,rfl,au,rfl⟩,?_⟩;rintro x ⟨x',he,hux,hJ⟩;simp only[I5,I6,true_and,and_true] at he;subst he;refine⟨fun hz=>?_,fun hz=>?_⟩
      ·have hz:x≠0:=by simpa using hz
       obtain⟨hp,a,b,d,e,e2,hd⟩:=Y3 ha.tree hux hz;obtain⟨x1,x2,x3,xs⟩:=sl hux;obtain⟨p1,p2,p3,ps⟩:=sl hp;have sx:=h.sh (g:=x) x1 x2 c0 x3;have spp:=h.sh (g:=(gi W.ID x).parent) p1 p2 c0 p3;unfold VU at hJ;rw[Yl ha.tree hux hz,List.all_cons] at hJ
       refine⟨_,YW h x1 x2 c0 x3,sx.1,_,sx.2 (j:=2) rfl,h.some,_,_,_,h.ID,h.rd.g.ix x1 x2,_,h.rd.g.parent x1 x2,_,YW h p1 p2 c0 p3,spp.1,_,spp.2 (j:=0) rfl,Eh xs.v ps.f,sx.1,_,sx.2 (j:=3) rfl,_,US,fun g5=>Ka (bad fun qq=>?_),fun g5=>⟨h.some,_,_,_,h.ID,h.rd.g.ix x1 x2,_,h.rd.g.parent x1 x2,⟨_,rfl,hp,?_⟩,by
        show (dep 3 W.ID (gi W.ID x).parent).toNat<(dep 3 W.ID x).toNat;omega⟩⟩
       ·have g5:=Ot g5;have hd:¬((Qc W x (c:Int)).v-(Qc W (gi W.ID x).parent (c:Int)).floor<=Z9 (gi W.IE (c:Int)).WS (Qc W x (c:Int)).w):=Int.not_le.2 g5;rw[decide_eq_false hd,Bool.false_and] at hJ;have:=(qq.yes t0).2.2.2.2.2;rw[hS] at this;unfold VU at this;rw[<-hJ] at this;cases this
       ·have g5:=Ou g5;have hd:(Qc W x (c:Int)).v-(Qc W (gi W.ID x).parent (c:Int)).floor<=Z9 (gi W.IE (c:Int)).WS (Qc W x (c:Int)).w:=Int.not_lt.1 g5;rw[Ii hd,Bool.true_and] at hJ;exact hJ
      ·have hz:x=0:=by simpa using hz
       subst hz;refine nxt (mk ?_);rw[hS,<-hJ];unfold VU;rw[show Z2 W.ID 0=[] from Zi _ _,List.all_nil]
  ·have RH:=Ou RH;exact zh5 fun t h0 h1=>hI t h0 Qo
theorem Ax(h:Mk bs w p W m)(lc:W.IE.length<=maxLen)(lg:W.ID.length<=maxLen):PX bs Xd #[.pointer p] w (.bool (XQ (zri W))):=
 KS p fun wr hx=>by
  have h:=(h.ext hx).less (cs:=[]) Qs;refine⟨h.some,_,h.now,fun b hb=>⟨ZF W.now,fun wx hxw hcx=>zxg hcx,fun _=>h.some,_,_,_,fun _=>h.IE,_,fun _=>QO,J8 W.IE,fun g=>PC h ?_,fun _=>h.some,_,_,_,fun _=>h.tasks,fun _=>h.some,_,_,_,fun _=>h.ID,TQ W.ID,fun _=>LW h.rd.g lg,Og ?_⟩⟩
  ·simp only[A',Qt] at g;omega
  ·simp only[A',Qt,It,Iu,Y2,XO];constructor
   ·rintro⟨⟨⟨⟨e1,e2⟩,e3⟩,e4⟩,e5⟩;exact⟨e1.1,e1.2,Qo,Qo,Qo,e5,e3⟩
   ·intro q;have:=q.t;have:=q.c1;have:=q.c2;exact⟨⟨⟨⟨⟨q.n1,q.n2⟩,Qo⟩,q.ups⟩,Qo⟩,q.tree⟩
theorem At(h:Xb bs w W m)(lc:W.IE.length<=maxLen)(lg:W.ID.length<=maxLen)(hf:∀i:Int,0<=i->i<(W.ID.length:Int)->zdb (gi W.ID i)) :
  PX bs O2 #[.agg (Qa W m).toArray] w (.bool (Qx W)):=by
 refine Dd fun wr0 uV=>A0 _ _ _ _ _ _ _ _ _ _ (R:=fun v w'=>v=.bool (Qx W)/\Q0 [] wr0 w') ?_
 have h:=(h.ext uV).less (cs:=[]) Qs;intro b wb hxb hb aO _ b1 eY
 have hP:∀{bs:List Nat} {w1:Wo},Q0 [] wb w1->(∀x∈bs,wb.heap.size<=x)->Mk bs w1 (some ⟨b,0,none⟩) W m:=fun {bs w1} hx hbs=>by
  have hbn:b∉bs:=fun hm=>by
   have:=hbs b hm;have:=VX aO;omega
  have hrd:Xb bs w1 W m:=((h.ext hxb).wide (cs:=bs) fun x hm=>.inr (hbs x hm)).ext hx.of_nil;exact⟨OE (Zg aO hx Qs) hbn (k0:=0) fun j v hj=>by rw[Nat.zero_add,Nat.zero_add]; exact hj,hrd⟩
 let Cn:=fun (k:Nat)=>match k with
  | 0=>zri W
  | 1=>∀k:Int,0<=k->k<8->Pt W k
  | 2=>∀t:Int,0<=t->t<12->Nt W t
  | 3=>∀k c:Int,0<=k->k<8->0<=c->c<((gi W.ID k).IF.length:Int)->Pu W k c
  | _=>∀c:Int,0<=c->c<(W.IE.length:Int)->DC W c
 have all:XA W->∀k:Nat,k<5->Cn k:=fun q k hk=>by
  have:k=0\/k=1\/k=2\/k=3\/k=4:=Qo;rcases this with rfl | rfl | rfl | rfl | rfl
  ·exact⟨q.a.n1,q.a.n2,q.a.c1,q.a.c2,q.a.t,q.a.tree,q.a.ups⟩
  ·exact q.a.grp
  ·refine fun t h0 h1=>⟨q.t t h0 h1,fun hs=>?_⟩
   have hu:=HY q.a (q.t t h0 h1) hs;obtain⟨u1,u2,_⟩:=Q5.1 hu.1;have:=q.a.gl;exact(q.s _ _ u1 Qo hu.2.1 (by rw[q.a.sl hu.1]; exact hu.2.2)).f
  ·exact q.s
  ·exact q.c
 have back:(∀k:Nat,k<5->Cn k)->XA W:=fun q=>by
  have q0:zri W:=q 0 Qd;have q1:∀k:Int,0<=k->k<8->Pt W k:=q 1 Qd;have q2:∀t:Int,0<=t->t<12->Nt W t:=q 2 Qd;exact⟨q0.wa q1,fun t h0 h1=>(q2 t h0 h1).1,q 3 Qd,q 4 Qd⟩
 have cond:∀k:Nat,k<5->(∀j:Nat,j<k->Cn j)->∀{w1:Wo},Q0 [] wb w1->∃F:FuncId,(#[.func (.func Xd) #[] #[],.func (.func YU) #[] #[],.func (.func Xe) #[] #[],.func (.func YJ) #[] #[],.func (.func Xm) #[] #[]]:Array Va)[k]? = some (.func (.func F) #[] #[])/\(∀(w:Wo) (x:Va),(zf3 (.func (.func F) #[] #[]) [x]).run Tryz.prog w=.ok (.enter F #[x]) w)/\∃rv:Bool,(rv=true↔Cn k)/\PX [b1] F #[.pointer (some ⟨b,0,none⟩)] w1 (.bool rv):=fun k hk hj {w1} hx=>by
  have hp:=hP (bs:=[b1]) hx (by simpa using eY);have:k=0\/k=1\/k=2\/k=3\/k=4:=Qo;rcases this with rfl | rfl | rfl | rfl | rfl
  ·exact⟨_,rfl,fun _ _=>rfl,_,Qi,Ax hp lc lg⟩
  ·have q0:zri W:=hj 0 Qd;exact⟨_,rfl,fun _ _=>rfl,_,Qi,Bt hp q0 hf⟩
  ·have q0:zri W:=hj 0 Qd;have q1:∀k:Int,0<=k->k<8->Pt W k:=hj 1 Qd;exact⟨_,rfl,fun _ _=>rfl,_,Qi,Ay hp (q0.wa q1) lg⟩
  ·have q0:zri W:=hj 0 Qd;have q1:∀k:Int,0<=k->k<8->Pt W k:=hj 1 Qd;exact⟨_,rfl,fun _ _=>rfl,_,Qi,El hp (q0.wa q1) hf⟩
  ·have q0:zri W:=hj 0 Qd;have q1:∀k:Int,0<=k->k<8->Pt W k:=hj 1 Qd;have q2:∀t:Int,0<=t->t<12->Nt W t:=hj 2 Qd;have q3:∀k c:Int,0<=k->k<8->0<=c->c<((gi W.ID k).IF.length:Int)->Pu W k c:=hj 3 Qd;exact⟨_,rfl,fun _ _=>rfl,_,Qi,zaq hp (q0.wa q1) (fun t h0 h1=>(q2 t h0 h1).1) q3⟩
 refine⟨fun vs w1=>∃k:Nat,vs=[.bool true,I (k:Int)]/\k<=5/\Q0 [] wb w1/\∀j:Nat,j<k->Cn j,Zo 5 1,fun wr hx _=>⟨0,rfl,Qo,hx,fun j hj=>Is hj (Nat.not_lt_zero j)⟩,?_⟩;rintro ok x w1 dX ⟨k,he,hk,hX,hI⟩;simp only[I5,I6,Value.bool.injEq,true_and,and_true] at he;obtain⟨rfl,rfl⟩:=he
 have fr:∀{w2:Wo},Q0 [b1] w1 w2->Q0 [] wb w2:=fun {w2} hx=>hX.fresh hx fun y hm=>.inl (by
  have:y=b1:=by simpa using hm
  omega)
 refine⟨fun IQ=>?_,fun RH wr hx=>⟨?_,hxb.trans (fr hx)⟩⟩
 ·have IQ:=Ot IQ;obtain⟨F,hF,_⟩:=cond k Qo hI hX;refine⟨.func F,#[],#[],⟨Qo,Qo,by rw[Ih]; exact hF⟩,fun R2 So SY=>?_⟩;obtain⟨F',hF',hcv,rv,hrv,hpu⟩:=cond k Qo hI (fr So);rw[hF] at hF';simp only[I1,Value.func.injEq,Fn.func.injEq,and_self,and_true] at hF';subst hF';refine .inl ⟨F,#[.pointer (some ⟨b,0,none⟩)],?_,?_⟩
  ·exact hcv _ _
  ·refine(hpu R2 (Q0.refl _ _)).mono fun e w3 ⟨he,Rm⟩=>⟨rv,he,Qe Rm SY,fun g O' SZ=>⟨?_,hxb.trans ((fr So).trans Rm |>.fresh SZ fun y hm=>.inl (by
    have:y=b1:=by simpa using hm
    omega))⟩,fun g=>⟨⟨Qo,Qo⟩,fun Rt SZ _=>⟨⟨k+1,Qs,Qo,((fr So).trans Rm).fresh SZ fun y hm=>.inl (by
    have:y=b1:=by simpa using hm
    omega),fun j hj=>?_⟩,QS (k:=k) rfl rfl Qo⟩⟩⟩
   ·have g:rv=false:=by simpa using g
    exact Ka fun q=>by
     rw[hrv.2 (all q k Qo)] at g; cases g
   ·by_cases gG:j<k
    ·exact hI j gG
    ·have:j=k:=Qo;subst this;exact hrv.1 (by simpa using g)
 ·have RH:=Ou RH;have:k=5:=Qo;subst this;exact zh5 (back hI)
end
theorem Mw:zj7 Tryz.prog Mx 5 Zq 40 (⟨false,0,0,0,0⟩:Pf):=Gv Qk fun _=>rfl
theorem PK:Tryz.prog.underlying Zj=some (.slice Zq):=Qk
theorem TG:zj7 Tryz.prog YT 9 QN 72 (⟨0,0,0,0,0,0,0,0,0⟩:Pi):=Gv Qk fun _=>rfl
theorem Pa:Tryz.prog.underlying QT=some (.slice QN):=Qk
section
variable {W:Q7}{m:MW}{w w':Wo}
structure zui (base:Nat) (w:Wo) (W:Q7) (m:MW):Prop where
 c:XU Mx 5 Zq base w m.cO m.cC W.IE
 t:XU YT 9 QN base w m.tO m.tC W.tasks
 g:∃ps:List (Zr×MG),ps.map (·.1)=W.ID/\(fun k:Nat=>(gi ps (k:Int)).2)=m.ms/\Mo base w m.gO m.gC ps
theorem zui.mono{base aF:Nat}(h:zui base w W m)(hb:aF<=base):zui aF w W m:=
 ⟨h.c.mono hb,h.t.mono hb,by
  obtain⟨ps,h1,h2,h3⟩:=h.g;exact⟨ps,h1,h2,h3.mono hb⟩⟩
end
theorem zet{x bt n:Nat}(hm:x∈[bt])(h:n<=bt):n<=x:=by
 have:x=bt:=by simpa using hm
 omega
structure Sc (w0:Wo) (bs:List Nat) (w:Wo):Prop where
 ext:Q0 [] w0 w
 new:∀x∈bs,w0.heap.size<=x
theorem Sc.start(w:Wo):Sc w [] w:=⟨Q0.refl _ _,Qs⟩
theorem Sc.step{w0:Wo}{bs:List Nat}{w w':Wo}(h:Sc w0 bs w)(hx:Q0 bs w w'):Sc w0 bs w':=⟨h.ext.fresh hx fun x hm=>.inl (h.new x hm),h.new⟩
theorem Sc.call{w0:Wo}{bs cs:List Nat}{w w':Wo}(h:Sc w0 bs w)(hx:Q0 cs w w')(hc:∀x∈cs,w0.heap.size<=x):Sc w0 bs w':=⟨h.ext.fresh hx fun x hm=>.inl (hc x hm),h.new⟩
theorem Sc.R4{w0:Wo}{bs:List Nat}{w w':Wo}(h:Sc w0 bs w)(hx:Q0 [] w w'):Sc w0 bs w':=⟨h.ext.trans hx,h.new⟩
theorem Sc.add{w0:Wo}{bs:List Nat}{w:Wo}{b:Nat}(h:Sc w0 bs w)(hb:w.heap.size<=b):Sc w0 (bs++[b]) w:=⟨h.ext,fun x hm=>by
 rcases Io.1 hm with hm | hm
 ·exact h.new x hm
 ·have:x=b:=by simpa using hm
  have:=h.ext.size;omega⟩
theorem Sc.sub{w0:Wo}{bs cs:List Nat}{w:Wo}(h:Sc w0 bs w)(hs:∀x∈cs,x∈bs):Sc w0 cs w:=⟨h.ext,fun x hm=>h.new x (hs x hm)⟩
theorem Sc.put{w0:Wo}{bs:List Nat}{w w':Wo}{b:Nat}(h:Sc w0 bs w)(hx:Q0 bs w w')(hb:w.heap.size<=b):Sc w0 (bs++[b]) w':=⟨(h.step hx).ext,(h.add hb).new⟩
structure Ob {α:Type} (enc:α->List Va) (z:Nat) (ty:TypeId) (base:Nat) (bs:List Nat) (w:Wo) (o:OA) (cap:Nat) (l:List α):Prop where
 own:XU enc z ty base w o cap l
 nb:∀x∈Qy o,x∉bs
section
variable {α:Type}{enc:α->List Va}{z:Nat}{ty:TypeId}{base:Nat}{bs cs:List Nat}{w w':Wo}{o:OA}{cap:Nat}{l:List α}{b:Nat}
theorem Ob.of(h:XU enc z ty base w o cap l)(hs:∀x∈bs,x<base):Ob enc z ty base bs w o cap l:=⟨h,fun x hx hm=>by
 have:=(h.lt x hx).1;have:=hs x hm;omega⟩
theorem Ob.step(h:Ob enc z ty base bs w o cap l)(hx:Q0 bs w w'):Ob enc z ty base bs w' o cap l:=⟨h.own.ext hx h.nb,h.nb⟩
theorem Ob.R4(h:Ob enc z ty base bs w o cap l)(hx:Q0 [] w w'):Ob enc z ty base bs w' o cap l:=⟨h.own.bG hx,h.nb⟩
theorem Ob.call(h:Ob enc z ty base bs w o cap l)(hx:Q0 cs w w')(hd:∀x∈Qy o,x∉cs):Ob enc z ty base bs w' o cap l:=⟨h.own.ext hx hd,h.nb⟩
theorem Ob.add(h:Ob enc z ty base bs w o cap l)(hb:w.heap.size<=b):Ob enc z ty base (bs++[b]) w o cap l:=⟨h.own,fun x hx hm=>by
 rcases Io.1 hm with hm | hm
 ·exact h.nb x hx hm
 ·have:x=b:=by simpa using hm
  have:=(h.own.lt x hx).2;omega⟩
theorem Ob.put(h:Ob enc z ty base bs w o cap l)(hx:Q0 bs w w')(hb:w.heap.size<=b):Ob enc z ty base (bs++[b]) w' o cap l:=⟨(h.step hx).own,(h.add hb).nb⟩
theorem Ob.sub(h:Ob enc z ty base bs w o cap l)(hs:∀x∈cs,x∈bs):Ob enc z ty base cs w o cap l:=⟨h.own,fun x hx hm=>h.nb x hx (hs x hm)⟩
theorem Ob.mono{aF:Nat}(h:Ob enc z ty base bs w o cap l)(hb:aF<=base):Ob enc z ty aF bs w o cap l:=⟨h.own.mono hb,h.nb⟩
theorem Ob.rd[Inhabited α](h:Ob enc z ty base bs w o cap l)(hz:∀x,(enc x).length=z):Rd enc z bs w o l:=h.own.rd hz h.nb
end
theorem Rd.scb{α:Type}[Inhabited α]{enc:α->List Va}{z:Nat}{w0:Wo}{bs:List Nat}{w:Wo}{o:OA}{l:List α}(h:Rd enc z [] w0 o l)(hs:Sc w0 bs w):Rd enc z bs w o l:=(h.wide (cs:=bs) fun x hm=>.inr (hs.new x hm)).ext hs.ext.of_nil
theorem KH{bs cs:List Nat}{w w':Wo}(hx:Q0 cs w w')(hs:∀b∈bs,b<w.heap.size)(hd:∀x∈cs,x∉bs):Q9 bs w w':=fun x hm=>hx.block x (hs x hm) fun fS=>hd x fS hm
theorem Ob.AD2{α:Type}[Inhabited α]{P:Program}{enc:α->List Va}{z:Nat}{ty t:TypeId}{bytes:Nat}{zero:α}(E:zj7 P enc z ty bytes zero)(ht:P.underlying t=some (.slice ty)){base:Nat}{bs:List Nat}{w:Wo}{o:OA}{cap:Nat}{l:List α}(hO:Ob enc z ty base bs w o cap l)(hs:∀x∈bs,x<w.heap.size)(sG:base<=w.heap.size){x:α}{b:Nat}{t':TypeId}{fz:Nat×Nat}(hb:w.heap[b]? = some (.cells (enc x).toArray t' fz))(h1:Zd (enc x)=true)(hl:l.length<=1048576)(hby:bytes<=1000)(tr:TypeId)(cs:Array Bool) :
  ∃o' mC w',(builtin .append #[t,t] tr cs #[.slice o l.length cap,.slice (some ⟨b,0,none⟩) 1 1]).run P w=.ok (.value (.slice o' (l++[x]).length mC)) w'/\Q9 bs w w'/\Ob enc z ty base bs w' o' mC (l++[x])/\Q0 (Qy o) w w':=by
 have hbb:(2*(l.length+1))*bytes<=281474976710656:=IB (Nat.mul_le_mul (show 2*(l.length+1)<=2097154 by omega) hby) Qd;obtain⟨o2,c2,w2,U',uD,R6,ho2⟩:=zhk E ht hO.own hb h1 hbb Qo tr cs sG;refine⟨o2,c2,w2,U',fun y hm=>R6.block y (hs y hm) fun fS=>hO.nb y fS hm,⟨uD,fun y hy hm=>?_⟩,R6⟩;rcases ho2 with rfl | rfl
 ·exact hO.nb y hy hm
 ·have:y=w.heap.size:=by simpa[Qy] using hy
  have:=hs y hm;omega
def XR(f:Nat->Int):Nat->Int
 | 0=>0
 | k+1=>XR f k+f k
theorem UX{f:Nat->Int}{B:Int}(h:∀j,0<=f j/\f j<=B):∀k:Nat,0<=XR f k/\XR f k<=(k:Int)*B
 | 0=>by simp[XR]
 | k+1=>by
  have ih:=UX h k;have:=h k;simp only[XR];rw[show ((k+1:Nat):Int)*B=(k:Int)*B+B by rw[show ((k+1:Nat):Int)=(k:Int)+1 by omega,Int.add_mul,Int.one_mul]];omega
theorem XP(n:Int):0<=Qf n/\Qf n<=20:=by
 unfold Qf;split
 ·rename_i h;have:=Qt.1 h;omega
 ·omega
def zce(W:Q7)(c:Int)(j:Nat):Int:=if (((Q8 W (j:Int)).R9==c)&&ZE W (j:Int))=true then Qf (Q8 W (j:Int)).nice else 0
def zgr(W:Q7)(g c:Int)(j:Nat):Int:=if ((((Q8 W (j:Int)).state==1)&&((Q8 W (j:Int)).R9==c))&&VQ 3 W.ID g (Q8 W (j:Int)).group)=true then Qf (Q8 W (j:Int)).nice else 0
theorem zu3{W:Q7}{g c:Int}{k:Nat}(h:((((Q8 W (k:Int)).state==1)&&((Q8 W (k:Int)).R9==c))&&VQ 3 W.ID g (Q8 W (k:Int)).group)=true):zgr W g c k=Qf (Q8 W (k:Int)).nice:=E' h
theorem zu2{W:Q7}{g c:Int}{k:Nat}(h:((((Q8 W (k:Int)).state==1)&&((Q8 W (k:Int)).R9==c))&&VQ 3 W.ID g (Q8 W (k:Int)).group)=false):zgr W g c k=0:=C' (by rw[h]; decide)
def HZ(W:Q7)(c:Int):Int:=XR (zce W c) W.tasks.length
def Aq(W:Q7)(g c:Int):Int:=XR (zgr W g c) W.tasks.length
theorem Fi(W:Q7)(c:Int)(j:Nat):0<=zce W c j/\zce W c j<=20:=by
 unfold zce;split
 ·exact XP _
 ·omega
theorem Ap(W:Q7)(g c:Int)(j:Nat):0<=zgr W g c j/\zgr W g c j<=20:=by
 unfold zgr;split
 ·exact XP _
 ·omega
def Xf(W:Q7)(c:Int):Bool:=Yx c 0 ((W.IE.length:Int)-1)
theorem Tt{W:Q7}{c:Int}(h:Xf W c=true):0<=c/\c<(W.IE.length:Int):=by have:=Qt.1 h; omega
theorem XA.li{W:Q7}(wp:XA W){t:Int}(t0:0<=t)(t1:t<(W.tasks.length:Int))(hs:(Q8 W t).state=1):Q6 W.ID (Q8 W t).group=true/\0<=(Q8 W t).R9/\(Q8 W t).R9<(W.IE.length:Int):=by
 have:=wp.a.t;exact HY wp.a (wp.t t t0 Qo) hs
structure TU (W:Q7):Prop where
 a:WA W
 li:∀{t:Int},0<=t->t<(W.tasks.length:Int)->(Q8 W t).state=1->Q6 W.ID (Q8 W t).group=true/\0<=(Q8 W t).R9/\(Q8 W t).R9<(W.IE.length:Int)
structure Xh (W:Q7):Prop where
 c:W.IE.length<=maxLen
 t:W.tasks.length<=maxLen
 g:W.ID.length<=maxLen
 f:∀i:Int,0<=i->i<(W.ID.length:Int)->zdb (gi W.ID i)
section
variable {W:Q7}{m:MW}{w:Wo}{bs:List Nat}{p:OA}
theorem Vz{c:Int}(h:Xb bs w W m)(wp:XA W):PX bs Xj #[.agg (Qa W m).toArray,I c] w (I (HZ W c)):=
 C6 _ _ _ _ _ _ _ _ _ _ c fun wr hx=>by
  have h:=(h.ext hx).less (cs:=[]) Qs;have jV:=wp.a.t;intro _ _;refine TN W.tasks.length 0 rfl (fun x k=>k<=W.tasks.length/\x=XR (zce W c) k) ⟨Ie _,rfl⟩ fun x k ⟨hk,R6⟩=>⟨fun IQ=>?_,fun RH=>?_⟩
  ·have IQ:=Ot IQ;have hr:=UX (Fi W c) k;have hw:=XP (Q8 W (k:Int)).nice;have eF:zce W c k=if (((Q8 W (k:Int)).R9==c)&&ZE W (k:Int))=true then Qf (Q8 W (k:Int)).nice else 0:=rfl;refine⟨h.t.ix QL Qo IQ,_,h.t.f Qo IQ (j:=0) rfl,fun _=>h.t.ix QL Qo IQ,_,fun _=>h.t.f Qo IQ (j:=2) rfl,ZE W (k:Int),fun _=>Uy h wp.a Qo IQ fun hs=>wp.li Qo IQ hs,fun g2=>⟨h.t.ix QL Qo IQ,_,h.t.f Qo IQ (j:=3) rfl,Qf (Q8 W (k:Int)).nice,ZH,⟨Qo,Qo⟩,⟨Qo,Qo⟩,QF Qo ⟨Qo,?_⟩⟩,fun g2=>⟨⟨Qo,Qo⟩,QF Qo ⟨Qo,?_⟩⟩⟩
   ·have g2:((((Q8 W (k:Int)).state==1)&&((Q8 W (k:Int)).R9==c))&&ZE W (k:Int))=true:=g2;simp only[A'] at g2;simp only[XR]; rw[eF,E' (by rw[g2.1.2,g2.2]; rfl),R6]
   ·have g2:((((Q8 W (k:Int)).state==1)&&((Q8 W (k:Int)).R9==c))&&ZE W (k:Int))=false:=g2
    simp only[XR]; rw[eF,C' (fun hc=>by
     simp only[A'] at hc;have hl:=hc.2;unfold ZE at hl;simp only[A'] at hl;rw[hc.1,hc.2,hl.1] at g2
     cases g2),R6]; omega
  ·have RH:=Ou RH;have:k=W.tasks.length:=Qo;subst this;rw[R6]; rfl
theorem M3{g c:Int}(h:Xb bs w W m)(wp:TU W)(hl:Xh W)(hu:Q6 W.ID g=true):PX bs Jq #[.agg (Qa W m).toArray,I g,I c] w (I (Aq W g c)):=
 ES _ _ _ _ _ _ _ _ _ _ g c fun wr hx=>by
  have h:=(h.ext hx).less (cs:=[]) Qs;have jV:=wp.a.t;intro _ _;refine TN W.tasks.length 0 rfl (fun x k=>k<=W.tasks.length/\x=XR (zgr W g c) k) ⟨Ie _,rfl⟩ fun x k ⟨hk,R6⟩=>⟨fun IQ=>?_,fun RH=>?_⟩
  ·have IQ:=Ot IQ;have hr:=UX (Ap W g c) k;have hw:=XP (Q8 W (k:Int)).nice
   have hun:(((Q8 W (k:Int)).state==1)&&((Q8 W (k:Int)).R9==c))=true->Of W.ID g (Q8 W (k:Int)).group=VQ 3 W.ID g (Q8 W (k:Int)).group:=fun q=>by
    simp only[A',It] at q;unfold Of;rw[XO.2 wp.a.tree,hu,(wp.li Qo IQ q.1).1]; rfl
   have eF:zgr W g c k=if ((((Q8 W (k:Int)).state==1)&&((Q8 W (k:Int)).R9==c))&&VQ 3 W.ID g (Q8 W (k:Int)).group)=true then Qf (Q8 W (k:Int)).nice else 0:=rfl
   have e2:((((Q8 W (k:Int)).state==1)&&((Q8 W (k:Int)).R9==c))&&VQ 3 W.ID g (Q8 W (k:Int)).group)=((((Q8 W (k:Int)).state==1)&&((Q8 W (k:Int)).R9==c))&&Of W.ID g (Q8 W (k:Int)).group):=by
    cases hq:(((Q8 W (k:Int)).state==1)&&((Q8 W (k:Int)).R9==c)) with
    | false=>rfl
    | true=>rw[hun hq]
   refine⟨h.t.ix QL Qo IQ,_,_,_,_,_,_,_,_,_,h.t k Qo IQ,fun _ _=>⟨Of W.ID g (Q8 W (k:Int)).group,fun _=>Ti h.g hl.g,fun g2=>⟨Qf (Q8 W (k:Int)).nice,ZH,⟨Qo,Qo⟩,⟨Qo,Qo⟩,QF Qo ⟨Qo,?_⟩⟩,fun g2=>⟨⟨Qo,Qo⟩,QF Qo ⟨Qo,?_⟩⟩⟩⟩
   ·simp only[XR]; rw[zu3 (W:=W) (g:=g) (c:=c) (k:=k) (e2.trans g2),R6]
   ·simp only[XR]; rw[zu2 (W:=W) (g:=g) (c:=c) (k:=k) (e2.trans g2),R6]; omega
  ·have RH:=Ou RH;have:k=W.tasks.length:=Qo;subst this;rw[R6]; rfl
end
def QQ(p:Nat->Bool)(v:Nat->Int):Nat->Int
 | 0 => -1
 | k+1=>if (p k&&(decide (QQ p v k<0)||decide (v k<v (QQ p v k).toNat)))=true then (k:Int) else QQ p v k
theorem Zl(p:Nat->Bool)(v:Nat->Int):∀k:Nat,(QQ p v k = -1/\∀j,j<k->p j=false) \/
  (0<=QQ p v k/\QQ p v k<(k:Int)/\p (QQ p v k).toNat=true/\(∀j,j<k->p j=true->v (QQ p v k).toNat<=v j)/\∀j:Nat,(j:Int)<QQ p v k->p j=true->v (QQ p v k).toNat<v j)
 | 0=>.inl ⟨rfl,fun j hj=>Is hj (Nat.not_lt_zero j)⟩
 | k+1=>by
  simp only[QQ];split
  ·rename_i h;simp only[A',Iv,Ik] at h;refine .inr ⟨Qo,Qo,by simpa using h.1,fun j hj hp=>?_,fun j hj hp=>?_⟩
   ·rw[Ih]
    by_cases gG:j=k
    ·subst gG; exact I3 _
    ·rcases Zl p v k with ⟨_,h2⟩ | ⟨h1,_,_,h4,_⟩
     ·rw[h2 j Qo] at hp; cases hp
     ·have:=h4 j Qo hp;rcases h.2 with h5 | h5 <;> omega
   ·rw[Ih];rcases Zl p v k with ⟨_,h2⟩ | ⟨h1,_,_,h4,_⟩
    ·rw[h2 j Qo] at hp; cases hp
    ·have:=h4 j Qo hp;rcases h.2 with h5 | h5 <;> omega
  ·rename_i h;rcases Zl p v k with ⟨h1,h2⟩ | ⟨h1,h2,h3,h4,h5⟩
   ·refine .inl ⟨h1,fun j hj=>?_⟩
    by_cases gG:j=k
    ·subst gG
     cases hp:p j with
     | false=>rfl
     | true=>
      exfalso; apply h
      rw[hp,h1]; rfl
    ·exact h2 j Qo
   ·refine .inr ⟨h1,Qo,h3,fun j hj hp=>?_,h5⟩
    by_cases gG:j=k
    ·subst gG;rcases Int.lt_or_le (v j) (v (QQ p v j).toNat) with h6 | h6
     ·exfalso; apply h
      rw[hp,Ii h6]; simp
     ·exact h6
    ·exact h4 j Qo hp
theorem zi6{p:Nat->Bool}{v:Nat->Int}{n k:Nat}(hk:k<n)(hp:p k=true)(h0:0<=QQ p v n)(hv:v k=v (QQ p v n).toNat)(hb:∀j,j<k->p j=true->v j≠v (QQ p v n).toNat):QQ p v n=(k:Int):=by
 rcases Zl p v n with ⟨h1,_⟩ | ⟨_,h2,h3,h4,h5⟩
 ·omega
 ·by_cases IQ:(k:Int)<QQ p v n
  ·have:=h5 k IQ hp; omega
  ·by_cases hgt:QQ p v n<(k:Int)
   ·exact Is rfl (hb _ Qo h3)
   ·omega
def Zm(W:Q7)(g c:Int)(i:Nat):Bool:=if i<12 then TY W g c i else J1 W g c (i-12)
def Zn(W:Q7)(c:Int)(i:Nat):Int:=if i<12 then (Q8 W (i:Int)).v else (Qc W ((i-12:Nat):Int) c).v
def QM(W:Q7)(g c:Int):Int:=QQ (Zm W g c) (Zn W c) 20
def zlb:Nat->Q7->Int->Int->Int
 | 0,_,_,_ => -1
 | f+1,W,g,c=>if QM W g c<0 then -1 else if QM W g c<12 then QM W g c else zlb f W (QM W g c-12) c
def M7(W:Q7)(g c:Int):Int:=zlb (4-dep 3 W.ID g).toNat W g c
def Qr(W:Q7)(c:Int):Int:=if (gi W.IE c).cur>=0/\(gi W.IE c).WS<50 then (gi W.IE c).cur else M7 W 0 c
theorem VC{W:Q7}{g c:Int}{i:Nat}(h:i<12):Zm W g c i=TY W g c i:=E' h
theorem JK{W:Q7}{g c:Int}{i:Nat}:Zm W g c (12+i)=J1 W g c i:=by
 unfold Zm;rw[C' Qo,show 12+i-12=i by omega]
theorem EC{W:Q7}{c:Int}{i:Nat}(h:i<12):Zn W c i=(Q8 W (i:Int)).v:=E' h
theorem EB{W:Q7}{c:Int}{i:Nat}:Zn W c (12+i)=(Qc W (i:Int) c).v:=by
 unfold Zn;rw[C' Qo,show 12+i-12=i by omega]
theorem zk7(W:Q7)(g c:Int):Zm W g c 12=false:=by
 rw[show (12:Nat)=12+0 from rfl,JK]; rfl
theorem Lc{W:Q7}{g c:Int}(ha:WA W)(hu:Q6 W.ID g=true)(h:12<=QM W g c):Q6 W.ID (QM W g c-12)=true/\QM W g c-12≠0/\dep 3 W.ID (QM W g c-12)=dep 3 W.ID g+1/\QM W g c<20:=by
 unfold QM at *;rcases Zl (Zm W g c) (Zn W c) 20 with ⟨h1,_⟩ | ⟨h1,h2,h3,_,_⟩
 ·omega
 ·have e:(QQ (Zm W g c) (Zn W c) 20).toNat=12+((QQ (Zm W g c) (Zn W c) 20).toNat-12):=Qo;rw[e,JK] at h3;unfold J1 at h3;simp only[A',Ik,It] at h3;obtain⟨⟨k1,k2,k3⟩,_⟩:=h3;have ek:(((QQ (Zm W g c) (Zn W c) 20).toNat-12:Nat):Int)=QQ (Zm W g c) (Zn W c) 20-12:=Qo;rw[ek] at k2 k3;have bW:=ha.gl;have hk:Q6 W.ID (QQ (Zm W g c) (Zn W c) 20-12)=true:=Q5.2 ⟨Qo,Qo,k2⟩;have hz:QQ (Zm W g c) (Zn W c) 20-12≠0:=Qo;obtain⟨_,_,_,d,e1,e2,_⟩:=Y3 ha.tree hk hz;rw[k3] at e2;exact⟨hk,hz,Qo,Qo⟩
theorem Kp{W:Q7}(ha:WA W){g:Int}(hu:Q6 W.ID g=true):0<=dep 3 W.ID g/\dep 3 W.ID g<=3:=by
 have hr:=VY W.ID 3 g
 by_cases hz:g=0
 ·subst hz; rw[Yc]; omega
 ·obtain⟨_,_,_,d,e1,_⟩:=Y3 ha.tree hu hz;omega
theorem EH{W:Q7}(ha:WA W){g c:Int}(hu:Q6 W.ID g=true):M7 W g c=if QM W g c<0 then -1 else if QM W g c<12 then QM W g c else M7 W (QM W g c-12) c:=by
 have hd:=Kp ha hu;have e:(4-dep 3 W.ID g).toNat=(3-dep 3 W.ID g).toNat+1:=Qo;show zlb (4-dep 3 W.ID g).toNat W g c=_;rw[e];simp only[zlb];split
 ·rfl
 ·split
  ·rfl
  ·obtain⟨_,_,hk,_⟩:=Lc ha hu (c:=c) Qo;unfold M7;rw[hk,show (4-(dep 3 W.ID g+1))=3-dep 3 W.ID g by omega]
section
variable {W:Q7}{m:MW}{w:Wo}{bs:List Nat}{p:OA}
def Zf(W:Q7)(g c:Int)(k:Nat):Int:=if QQ (Zm W g c) (Zn W c) k<0 then 0 else Zn W c (QQ (Zm W g c) (Zn W c) k).toNat
def ZN(W:Q7)(g c:Int)(k:Nat):Bool:=decide (0<=QQ (Zm W g c) (Zn W c) k)
theorem zby{W:Q7}{g c:Int}{k:Nat}:(decide (QQ (Zm W g c) (Zn W c) k<0)||decide (Zn W c k<Zn W c (QQ (Zm W g c) (Zn W c) k).toNat))=(!ZN W g c k||decide (Zn W c k<Zf W g c k)):=by
 unfold ZN Zf
 by_cases h:QQ (Zm W g c) (Zn W c) k<0
 ·have h2:decide (0<=QQ (Zm W g c) (Zn W c) k)=false:=decide_eq_false Qo;rw[E' h,Ii h,h2]; rfl
 ·have h2:decide (0<=QQ (Zm W g c) (Zn W c) k)=true:=Ii Qo;rw[C' h,decide_eq_false h,h2]; rfl
theorem zf0{W:Q7}{g c:Int}{k:Nat}(h:(Zm W g c k&&(!ZN W g c k||decide (Zn W c k<Zf W g c k)))=true):Zf W g c (k+1)=Zn W c k/\ZN W g c (k+1)=true:=by
 rw[<-zby] at h
 have e:QQ (Zm W g c) (Zn W c) (k+1)=(k:Int):=by
  simp only[QQ]; rw[E' h]
 unfold Zf ZN;rw[e,C' Qo,Ih];exact⟨rfl,Ii Qo⟩
theorem zdv{W:Q7}{g c:Int}{k:Nat}(h:(Zm W g c k&&(!ZN W g c k||decide (Zn W c k<Zf W g c k)))=false):Zf W g c (k+1)=Zf W g c k/\ZN W g c (k+1)=ZN W g c k:=by
 rw[<-zby] at h
 have e:QQ (Zm W g c) (Zn W c) (k+1)=QQ (Zm W g c) (Zn W c) k:=by
  simp only[QQ]; rw[C' (by rw[h]; decide)]
 unfold Zf ZN;rw[e];exact⟨rfl,rfl⟩
theorem KE{g c:Int}(h:Xb bs w W m)(ha:WA W)(c0:0<=c)(c1:c<(W.IE.length:Int)):PX bs Ut #[.agg (Qa W m).toArray,I g,I c] w (.tuple #[I (Zf W g c 20),.bool (ZN W g c 20)]):=
 Cb _ _ _ _ _ _ _ _ _ _ g c fun wr hx=>by
  have h:=(h.ext hx).less (cs:=[]) Qs;have bW:=ha.gl;have jV:=ha.t;intro _ _;refine⟨fun vs=>∃k:Nat,k<=12/\vs=[I (Zf W g c k),.bool (ZN W g c k),I (k:Int)],Xl 12 2,⟨0,Qo,rfl⟩,?_⟩;rintro aK some t ⟨k,hk,he⟩;simp only[I5,I6,Value.bool.injEq,true_and,and_true] at he;obtain⟨rfl,rfl,rfl⟩:=he;refine⟨fun IQ=>?_,fun RH=>?_⟩
  ·have IQ:=Ot IQ;have uF:k<12:=Qo;refine⟨h.t.ix QL Qo IQ,_,_,_,_,_,_,_,_,_,h.t k Qo IQ,fun _ _=>⟨fun q=>⟨⟨Qo,Qo⟩,⟨k+1,Qo,?_⟩,QS (k:=k) rfl rfl uF⟩,fun q=>⟨⟨Qo,Qo⟩,⟨k+1,Qo,?_⟩,QS (k:=k) rfl rfl uF⟩⟩⟩
   ·have q':(Zm W g c k&&(!ZN W g c k||decide (Zn W c k<Zf W g c k)))=true:=by rw[VC uF,EC uF]; exact q
    obtain⟨e1,e2⟩:=zf0 q';rw[e1,e2,EC uF]; simp[Q8]
   ·have q':(Zm W g c k&&(!ZN W g c k||decide (Zn W c k<Zf W g c k)))=false:=by rw[VC uF,EC uF]; exact q
    obtain⟨e1,e2⟩:=zdv q';rw[e1,e2]; simp
  ·have RH:=Ou RH;have:k=12:=Qo;subst this;have e12:Zf W g c 13=Zf W g c 12/\ZN W g c 13=ZN W g c 12:=zdv (by rw[zk7]; rfl);refine⟨fun vs=>∃k:Nat,1<=k/\k<=8/\vs=[I (Zf W g c (12+k)),.bool (ZN W g c (12+k)),I (k:Int)],Xl 8 2,⟨1,Qo,Qo,by rw[show 12+1=13 from rfl,e12.1,e12.2]; rfl⟩,?_⟩;rintro jD C81 t1 ⟨k,hk1,hk,he⟩;simp only[I5,I6,Value.bool.injEq,true_and,and_true] at he;obtain⟨rfl,rfl,rfl⟩:=he;refine⟨fun IQ=>?_,fun RH=>?_⟩
   ·have IQ:=Ot IQ;have dW:(0:Int)<=(k:Int):=Qo
    have used:∀{x:Bool},(((gi W.ID (k:Int)).used&&((gi W.ID (k:Int)).parent==g))&&x)=true->Q6 W.ID (k:Int)=true/\c<((gi W.ID (k:Int)).IF.length:Int):=fun {x} q=>by
     simp only[A'] at q;have hu:=zfp IQ q.1.1;exact⟨hu,by rw[ha.sl hu]; exact c1⟩
    have eA:J1 W g c k=(((gi W.ID (k:Int)).used&&((gi W.ID (k:Int)).parent==g))&&(Qc W (k:Int) c).on):=by
     unfold J1; rw[Ii hk1,Bool.true_and]
    have eP:Zm W g c (12+k)=(((gi W.ID (k:Int)).used&&((gi W.ID (k:Int)).parent==g))&&(Qc W (k:Int) c).on):=by rw[JK,eA]
    refine⟨h.g.ix dW IQ,_,h.g.used dW IQ,fun _=>h.g.ix dW IQ,_,fun _=>h.g.parent dW IQ,(Qc W (k:Int) c).on,fun q=>Uz h ha (used (x:=true) (by rw[q]; rfl)).1 c0 c1,fun _ _=>h.g.ix dW IQ,_,_,_,fun _ _=>h.g.S3 dW IQ,fun _ q=>(h.g.IF _ dW IQ).ix ZK c0 (used q).2,(Qc W (k:Int) c).v,fun _ q=>zh7.f (h.g.IF _ dW IQ) c0 (used q).2 (j:=2) rfl,fun q=>?_,fun q=>⟨⟨Qo,Qo⟩,⟨k+1,Qo,Qo,?_⟩,QS (k:=k) rfl rfl Qo⟩⟩
    ·have q2:=q;simp only[A'] at q2;have hu:=used (x:=(Qc W (k:Int) c).on) (by simp only[A']; exact q2.1);have q':(Zm W g c (12+k)&&(!ZN W g c (12+k)||decide (Zn W c (12+k)<Zf W g c (12+k))))=true:=by rw[eP,EB]; exact q
     obtain⟨e1,e2⟩:=zf0 q';refine⟨h.g.ix dW IQ,_,_,_,h.g.S3 dW IQ,(h.g.IF _ dW IQ).ix ZK c0 hu.2,_,zh7.f (h.g.IF _ dW IQ) c0 hu.2 (j:=2) rfl,⟨Qo,Qo⟩,⟨k+1,Qo,Qo,?_⟩,QS (k:=k) rfl rfl Qo⟩;rw[show 12+(k+1)=12+k+1 from rfl,e1,e2,EB]; simp[Qc]
    ·have q':(Zm W g c (12+k)&&(!ZN W g c (12+k)||decide (Zn W c (12+k)<Zf W g c (12+k))))=false:=by rw[eP,EB]; exact q
     obtain⟨e1,e2⟩:=zdv q';rw[show 12+(k+1)=12+k+1 from rfl,e1,e2]; simp
   ·have RH:=Ou RH;have:k=8:=Qo;subst this;rfl
theorem za0{g c:Int}(h:Xb bs w W m)(ha:WA W)(hu:Q6 W.ID g=true)(c0:0<=c)(c1:c<(W.IE.length:Int)):PX bs JG #[.agg (Qa W m).toArray,I g,I c] w (I (M7 W g c)):=by
 have bW:=ha.gl;have jV:=ha.t
 have key:∀(n:Nat) (g:Int),Q6 W.ID g=true->(3-dep 3 W.ID g).toNat=n->∀{bs:List Nat} {w:Wo},Xb bs w W m->PX bs JG #[.agg (Qa W m).toArray,I g,I c] w (I (M7 W g c)):=by
  intro n
  induction n using Nat.strongRecOn with
  | ind n ih=>
   intro g hu hn bs w h;refine zbp _ _ _ _ _ _ _ _ _ _ g c fun wr hx=>?_
   have h:=(h.ext hx).less (cs:=[]) Qs;have gW:=EH ha hu (c:=c);have hd:=Kp ha hu;intro _ _;refine⟨_,_,KE h ha c0 c1,fun q=>?_,fun q=>?_⟩
   ·have q:¬0<=QQ (Zm W g c) (Zn W c) 20:=by
     unfold ZN at q
     simpa using q
    have q:¬0<=QM W g c:=q;rw[gW,E' Qo]
   have hF0:0<=QQ (Zm W g c) (Zn W c) 20:=by
    unfold ZN at q
    simpa using q
   have hF:0<=QM W g c:=hF0
   have B66:Zf W g c 20=Zn W c (QM W g c).toNat:=by
    show (if QM W g c<0 then 0 else Zn W c (QM W g c).toNat)=_;rw[C' (show ¬QM W g c<0 by omega)]
   have found:∀k:Nat,k<20->Zm W g c k=true->Zn W c k=Zf W g c 20->(∀j,j<k->Zm W g c j=true->Zn W c j≠Zf W g c 20)->QM W g c=(k:Int):=fun k hk hp hv hb=>by
    rw[B66] at hv hb;exact zi6 hk hp hF hv hb
   refine⟨fun vs=>∃k:Nat,vs=[I (k:Int)]/\k<=12/\∀j,j<k->Zm W g c j=true->Zn W c j≠Zf W g c 20,Xl 12 0,⟨0,rfl,Qo,fun j hj=>Is hj (Nat.not_lt_zero j)⟩,?_⟩;rintro t ⟨k,he,hk,hI⟩;simp only[I5,I6,true_and,and_true] at he;subst he;refine⟨fun IQ=>?_,fun RH=>?_⟩
   ·have IQ:=Ot IQ;have uF:k<12:=Qo;refine⟨h.t.ix QL Qo IQ,_,_,_,_,_,_,_,_,_,h.t k Qo IQ,fun b1 eY=>⟨fun q2=>?_,fun q2=>⟨⟨Qo,Qo⟩,⟨k+1,Qs,Qo,fun j hj hp hv=>?_⟩,QS (k:=k) rfl rfl uF⟩⟩⟩
    ·have q2':(TY W g c k&&((Q8 W (k:Int)).v==Zf W g c 20))=true:=q2;simp only[A',It] at q2';have:=found k Qo (by rw[VC uF]; exact q2'.1) (by rw[EC uF]; exact q2'.2) hI;rw[gW,C' Qo,E' Qo,this]
    ·by_cases gG:j<k
     ·exact hI j gG hp hv
     ·have:j=k:=Qo;subst this;rw[VC uF] at hp;rw[EC uF] at hv;have q2':(TY W g c j&&((Q8 W (j:Int)).v==Zf W g c 20))=false:=q2;rw[hp,hv] at q2';simp at q2'
   ·have RH:=Ou RH;have:k=12:=Qo;subst this
    refine⟨fun vs=>∃k:Nat,vs=[I (k:Int)]/\1<=k/\k<=8/\∀j,j<12+k->Zm W g c j=true->Zn W c j≠Zf W g c 20,Xl 8 0,⟨1,rfl,Qo,Qo,fun j hj hp=>by
     by_cases uE:j<12
     ·exact hI j uE hp
     ·have:j=12:=Qo;subst this;rw[zk7] at hp; cases hp⟩,?_⟩
    rintro t2 ⟨k,he,hk1,hk,hI2⟩;simp only[I5,I6,true_and,and_true] at he;subst he;refine⟨fun IQ=>?_,fun bU=>?_⟩
    ·have IQ:=Ot IQ;have dW:(0:Int)<=(k:Int):=Qo
     have used:∀{x:Bool},(((gi W.ID (k:Int)).used&&((gi W.ID (k:Int)).parent==g))&&x)=true->Q6 W.ID (k:Int)=true/\c<((gi W.ID (k:Int)).IF.length:Int):=fun {x} q=>by
      simp only[A'] at q;have hu:=zfp IQ q.1.1;exact⟨hu,by rw[ha.sl hu]; exact c1⟩
     have eA:J1 W g c k=(((gi W.ID (k:Int)).used&&((gi W.ID (k:Int)).parent==g))&&(Qc W (k:Int) c).on):=by
      unfold J1; rw[Ii hk1,Bool.true_and]
     have eP:Zm W g c (12+k)=(((gi W.ID (k:Int)).used&&((gi W.ID (k:Int)).parent==g))&&(Qc W (k:Int) c).on):=by rw[JK,eA]
     refine⟨h.g.ix dW IQ,_,h.g.used dW IQ,fun _=>h.g.ix dW IQ,_,fun _=>h.g.parent dW IQ,(Qc W (k:Int) c).on,fun q=>Uz h ha (used (x:=true) (by rw[q]; rfl)).1 c0 c1,fun _=>h.g.ix dW IQ,_,_,_,fun _=>h.g.S3 dW IQ,fun q=>(h.g.IF _ dW IQ).ix ZK c0 (used q).2,(Qc W (k:Int) c).v,fun q=>zh7.f (h.g.IF _ dW IQ) c0 (used q).2 (j:=2) rfl,fun q=>?_,fun q=>⟨⟨Qo,Qo⟩,⟨k+1,Qs,Qo,Qo,fun j hj hp hv=>?_⟩,QS (k:=k) rfl rfl Qo⟩⟩
     ·have q2:=q;simp only[A',It] at q2;have hfk:=found (12+k) Qo (by rw[eP]; simp only[A',It]; exact q2.1) (by rw[EB]; exact q2.2) hI2;have CF7:=Lc ha hu (c:=c) Qo;have ek:QM W g c-12=(k:Int):=Qo;rw[ek] at CF7;have hdk:=Kp ha CF7.1;refine⟨_,ih _ (show (3-dep 3 W.ID (k:Int)).toNat<n by omega) (k:Int) CF7.1 rfl h,?_⟩;rw[gW,C' Qo,C' Qo,ek]
     ·by_cases gG:j<12+k
      ·exact hI2 j gG hp hv
      ·have:j=12+k:=Qo;subst this;rw[eP] at hp;rw[EB] at hv;rw[hp,hv] at q;simp at q
    ·have bU:=Ou bU;have:k=8:=Qo;subst this;rcases Zl (Zm W g c) (Zn W c) 20 with ⟨h1,_⟩ | ⟨h1,h2,h3,_,_⟩
     ·have:QM W g c = -1:=h1;omega
     ·exact Is B66.symm (hI2 (QM W g c).toNat (by unfold QM; omega) h3)
 exact key _ g hu rfl h
theorem za1{c:Int}(h:Xb bs w W m)(ha:WA W)(c0:0<=c)(c1:c<(W.IE.length:Int)):PX bs OQ #[.agg (Qa W m).toArray,I c] w (I (Qr W c)):=by
 refine zbq _ _ _ _ _ _ _ _ _ _ c fun wr hx=>?_
 have h:=(h.ext hx).less (cs:=[]) Qs;intro _ _;refine⟨h.c.ix Y0 c0 c1,_,h.c.f c0 c1 (j:=1) rfl,fun _=>h.c.ix Y0 c0 c1,_,fun _=>h.c.f c0 c1 (j:=2) rfl,fun g=>⟨h.c.ix Y0 c0 c1,_,h.c.f c0 c1 (j:=1) rfl,?_⟩,fun g=>⟨_,za0 h ha ha.root c0 c1,?_⟩⟩
 ·simp only[A',Ik] at g;unfold Qr; rw[E' g]
 ·unfold Qr; rw[C' (fun hc=>by
   rw[Ii hc.1,Ii hc.2] at g; cases g)]
end
def IU(W:Q7)(t:Int)(x:Pi):Q7:={ W with tasks:=W.tasks.set t.toNat x }
def RW(W:Q7)(c:Int)(x:Pf):Q7:={ W with IE:=W.IE.set c.toNat x }
def Rp(W:Q7)(g:Int)(x:Zr):Q7:={ W with ID:=W.ID.set g.toNat x }
def RM(W:Q7)(g c:Int)(s:K0):Q7:=Rp W g { gi W.ID g with IF:=(gi W.ID g).IF.set c.toNat s }
def WQ(W:Q7)(g:Int)(b:Jj):Q7:=Rp W g { gi W.ID g with IT:=b }
theorem Ak{α:Type}[Inhabited α](l:List α)(i:Int):gi l i=gi l ((i.toNat:Nat):Int):=by unfold gi; rw[Ih]
structure QX (gs gs':List Zr):Prop where
 len:gs'.length=gs.length
 u:∀i:Int,(gi gs' i).used=(gi gs i).used
 p:∀i:Int,(gi gs' i).parent=(gi gs i).parent
 n:∀i:Int,(gi gs' i).name=(gi gs i).name
theorem QX.refl(gs:List Zr):QX gs gs:=⟨rfl,fun _=>rfl,fun _=>rfl,fun _=>rfl⟩
theorem QX.trans{a b c:List Zr}(h:QX a b)(k:QX b c):QX a c:=⟨k.len.trans h.len,fun i=>(k.u i).trans (h.u i),fun i=>(k.p i).trans (h.p i),fun i=>(k.n i).trans (h.n i)⟩
theorem QX.dT{gs gs':List Zr}(h:QX gs gs')(i:Int):Q6 gs' i=Q6 gs i:=by unfold Q6; rw[h.len,h.u]
theorem QX.dep{gs gs':List Zr}(h:QX gs gs'):∀(f:Nat) (i:Int),YtnclplgaicdapaaGreatDoor.dep f gs' i=YtnclplgaicdapaaGreatDoor.dep f gs i
 | 0,i=>rfl
 | f+1,i=>by simp only[YtnclplgaicdapaaGreatDoor.dep]; rw[h.p,h.dep f]
theorem QX.path{gs gs':List Zr}(h:QX gs gs'):∀(f:Nat) (i:Int),U2 f gs' i=U2 f gs i
 | 0,i=>rfl
 | f+1,i=>by simp only[U2]; rw[h.p,h.path f]
theorem QX.tree{gs gs':List Zr}(h:QX gs gs')(t:ZX gs):ZX gs':=
 ⟨by rw[h.len]; exact t.len,by rw[h.u]; exact t.ru,by rw[h.p]; exact t.rp,by rw[h.n]; exact t.rn,fun g a b c=>by rw[h.u] at c; rw[h.n]; exact t.nm g a b c,fun g a b c=>by rw[h.u] at c; rw[h.dT,h.p]; exact t.par g a b c,
  fun g a b c=>by rw[h.u] at c; rw[h.dep]; exact t.dp g a b c,fun g k a b c d e=>by rw[h.u] at d e; rw[h.p,h.p,h.n,h.n]; exact t.uniq g k a b c d e⟩
theorem Ym{W:Q7}{g:Int}{x:Zr}(h0:0<=g)(h1:g<(W.ID.length:Int)){i:Int}(hi:0<=i):gi (Rp W g x).ID i=if g=i then x else gi W.ID i:=QC _ _ h0 h1 hi
theorem Jg{W:Q7}{g:Int}{x:Zr}(h0:0<=g)(h1:g<(W.ID.length:Int))(u:x.used=(gi W.ID g).used)(p:x.parent=(gi W.ID g).parent)(n:x.name=(gi W.ID g).name):QX W.ID (Rp W g x).ID:=by
 have key:∀i:Int,gi (Rp W g x).ID i=if g=((i.toNat:Nat):Int) then x else gi W.ID i:=fun i=>by
  rw[Ak,Ym h0 h1 Qo,<-Ak W.ID i]
 refine⟨H',fun i=>?_,fun i=>?_,fun i=>?_⟩
 all_goals
  rw[key];split
  ·rename_i e;rw[Ak W.ID i,<-e]; assumption
  ·rfl
theorem WA.set{W:Q7}(ha:WA W){g:Int}{x:Zr}(h0:0<=g)(h1:g<8)(u:x.used=(gi W.ID g).used)(p:x.parent=(gi W.ID g).parent)(n:x.name=(gi W.ID g).name)(hN:x.used=false->zn4 x)(hU:x.used=true->zh8 W g x):WA (Rp W g x):=by
 have hl:=ha.gl;refine⟨ha.n1,ha.n2,ha.c1,ha.c2,ha.t,(Jg h0 Qo u p n).tree ha.tree,ha.ups,fun k k0 k1=>?_⟩;show Pt (Rp W g x) k;unfold Pt;rw[Ym h0 Qo k0]
 by_cases e:g=k
 ·subst e;rw[E' rfl];exact⟨hN,fun hu=>by have:=hU hu; exact⟨this.w1,this.w2,this.m,this.m0,this.s,this.len,this.root,this.none,this.IT⟩⟩
 ·rw[C' e];have:=ha.grp k k0 k1;exact⟨this.1,fun hu=>by have:=this.2 hu; exact⟨this.w1,this.w2,this.m,this.m0,this.s,this.len,this.root,this.none,this.IT⟩⟩
theorem WA.RM{W:Q7}(ha:WA W){g c:Int}{s:K0}(h0:0<=g)(h1:g<8):WA (RM W g c s):=by
 have hg:=ha.grp g h0 h1;refine ha.set h0 h1 rfl rfl rfl (fun hu=>?_) fun hu=>?_
 ·have:=hg.1 hu;exact⟨this.p,this.n,this.w,this.c,this.pe,this.ne,this.s,by rw[H']; exact this.l,this.b⟩
 ·have:=hg.2 hu;exact⟨this.w1,this.w2,this.m,this.m0,this.s,by rw[H']; exact this.len,this.root,this.none,this.IT⟩
theorem Jf{W:Q7}{g c:Int}{s:K0}(h0:0<=g)(h1:g<(W.ID.length:Int))(c0:0<=c)(c1:c<((gi W.ID g).IF.length:Int)){i d:Int}(hi:0<=i)(hd:0<=d):Qc (RM W g c s) i d=if g=i/\c=d then s else Qc W i d:=by
 unfold Qc YtnclplgaicdapaaGreatDoor.RM;rw[Ym h0 h1 hi]
 by_cases e:g=i
 ·subst e;rw[E' rfl,QC _ _ c0 c1 hd]
  by_cases e2:c=d
  ·rw[E' e2,E' ⟨rfl,e2⟩]
  ·rw[C' e2,C' (fun h=>e2 h.2)]
 ·rw[C' e,C' (fun h=>e h.1)]
theorem Xu{W:Q7}{g c:Int}{s:K0}(h0:0<=g)(h1:g<(W.ID.length:Int)):QX W.ID (RM W g c s).ID:=Jg h0 h1 rfl rfl rfl
theorem Lb{W:Q7}{g c:Int}{s:K0}(h0:0<=g)(h1:g<(W.ID.length:Int)){i d:Int}(hi:0<=i):V4 (RM W g c s) i d=V4 W i d:=by
 unfold V4 YtnclplgaicdapaaGreatDoor.RM;rw[Ym h0 h1 hi];split
 ·rename_i e; subst e; rfl
 ·rfl
theorem zbz{W:Q7}{g c:Int}{s:K0}(h0:0<=g)(h1:g<(W.ID.length:Int)){i:Int}(hi:0<=i):(gi (RM W g c s).ID i).IT=(gi W.ID i).IT:=by
 unfold YtnclplgaicdapaaGreatDoor.RM;rw[Ym h0 h1 hi];split
 ·rename_i e; subst e; rfl
 ·rfl
theorem zcz{W:Q7}{g c:Int}{s:K0}(h0:0<=g)(h1:g<(W.ID.length:Int)){i:Int}(hi:0<=i):(gi (RM W g c s).ID i).IF.length=(gi W.ID i).IF.length:=by
 unfold YtnclplgaicdapaaGreatDoor.RM;rw[Ym h0 h1 hi];split
 ·rename_i e; subst e; simp
 ·rfl
structure SW (K:Int) (W:Q7):Prop where
 a:WA W
 t:∀t:Int,0<=t->t<12->(Q8 W t).state≠0->Q6 W.ID (Q8 W t).group=true/\0<=(Q8 W t).R9/\(Q8 W t).R9<(W.IE.length:Int)
 tv:∀t:Int,0<=t->t<12->0<=(Q8 W t).v/\(Q8 W t).v<=K
 s:∀k c:Int,Q6 W.ID k=true->0<=c->c<(W.IE.length:Int)->0<=(Qc W k c).floor/\(Qc W k c).floor<=K/\0<=(Qc W k c).v/\(Qc W k c).v<=K/\1<=(Qc W k c).w/\(Qc W k c).w<=20
 cu:∀c:Int,0<=c->c<(W.IE.length:Int)->-1<=(gi W.IE c).cur/\(gi W.IE c).cur<12
structure SF (F K:Int) (W:Q7):Prop where
 w:SW K W
 f:∀k c:Int,Q6 W.ID k=true->0<=c->c<(W.IE.length:Int)->(Qc W k c).floor<=F
theorem SW.mono{K K':Int}{W:Q7}(h:SW K W)(hk:K<=K'):SW K' W:=
 ⟨h.a,h.t,fun t a b=>by have:=h.tv t a b; omega,fun k c u a b=>by have:=h.s k c u a b; omega,h.cu⟩
theorem SW.sf{K:Int}{W:Q7}(h:SW K W):SF K K W:=⟨h,fun k c u a b=>(h.s k c u a b).2.1⟩
theorem SF.mono{F K F' K':Int}{W:Q7}(h:SF F K W)(hf:F<=F')(hk:K<=K'):SF F' K' W:=⟨h.w.mono hk,fun k c u a b=>by have:=h.f k c u a b; omega⟩
theorem SW.li{K:Int}{W:Q7}(h:SW K W){t:Int}(t0:0<=t)(t1:t<(W.tasks.length:Int))(hs:(Q8 W t).state=1):Q6 W.ID (Q8 W t).group=true/\0<=(Q8 W t).R9/\(Q8 W t).R9<(W.IE.length:Int):=by
 have hl:=h.a.t;exact h.t t t0 Qo Qo
theorem SF.RM{F K:Int}{W:Q7}(h:SF F K W){g c:Int}{s:K0}(hu:Q6 W.ID g=true)(c0:0<=c)(c1:c<(W.IE.length:Int))(f0:0<=s.floor)(f1:s.floor<=F)(fk:s.floor<=K)(v0:0<=s.v)(v1:s.v<=K)(w1:1<=s.w)(w2:s.w<=20):SF F K (RM W g c s):=by
 obtain⟨u0,u1,_⟩:=Q5.1 hu;have hl:=h.w.a.gl;have hs:=h.w.a.sl hu;have hT:=Xu (W:=W) (g:=g) (c:=c) (s:=s) u0 u1
 have e:∀k d:Int,Q6 (YtnclplgaicdapaaGreatDoor.RM W g c s).ID k=true->0<=d->Qc (YtnclplgaicdapaaGreatDoor.RM W g c s) k d=if g=k/\c=d then s else Qc W k d:=fun k d uk hd=>by
  rw[hT.dT] at uk;exact Jf u0 u1 c0 Qo (Q5.1 uk).1 hd
 refine⟨⟨h.w.a.RM u0 Qo,fun t a b n=>by rw[hT.dT]; exact h.w.t t a b n,h.w.tv,fun k d uk a b=>?_,h.w.cu⟩,fun k d uk a b=>?_⟩
 ·rw[e k d uk a];rw[hT.dT] at uk;split
  ·exact⟨f0,fk,v0,v1,w1,w2⟩
  ·exact h.w.s k d uk a b
 ·rw[e k d uk a];rw[hT.dT] at uk;split
  ·exact f1
  ·exact h.f k d uk a b
def Yo(W:Q7)(k c:Int):K0:=
 { Qc W k c with
  v:=if (QU W k c && !V4 W k c)=true/\(Qc W k c).on=false then (Qc W (gi W.ID k).parent c).floor+X8 ((Qc W k c).v-(Qc W (gi W.ID k).parent c).floor) (Qc W k c).w else (Qc W k c).v
  on:=QU W k c && !V4 W k c }
def ZV(W:Q7)(c d:Int):Nat->Q7
 | 0=>W
 | k+1=>if (gi (ZV W c d k).ID (k:Int)).used=true/\dep 3 (ZV W c d k).ID (k:Int)=d then RM (ZV W c d k) (k:Int) c (Yo (ZV W c d k) (k:Int) c) else ZV W c d k
theorem zm3{W:Q7}{c d:Int}(h:d≠0):ZV W c d 1=W:=by
 show (if (gi W.ID ((0:Nat):Int)).used=true/\dep 3 W.ID ((0:Nat):Int)=d then _ else W)=W;refine C' fun hc=>h ?_
 have:=hc.2;rw[show (((0:Nat):Int))=0 from rfl,Yc] at this;exact this.symm
def XI(W:Q7)(c:Int):Nat->Q7
 | 0=>W
 | j+1=>ZV (XI W c j) c (3-(j:Int)) 8
def QR(W:Q7)(c:Int):Q7:=XI W c 3
abbrev Qn:Int:=34686091440
theorem zpt{F K:Int}{W:Q7}(h:SF F K W)(hk:F+Qn<=K){k c d:Int}(hu:Q6 W.ID k=true)(hd:dep 3 W.ID k=d)(d1:1<=d)(c0:0<=c)(c1:c<(W.IE.length:Int)):SF F K (RM W k c (Yo W k c)):=by
 have hz:k≠0:=fun e=>by subst e; rw[Yc] at hd; omega
 have hp:=h.w.a.up hu hz;have s1:=h.w.s k c hu c0 c1;have s2:=h.w.s _ c hp c0 c1;have f1:=h.f k c hu c0 c1;have f2:=h.f _ c hp c0 c1;have lc:=ZW ((Qc W k c).v-(Qc W (gi W.ID k).parent c).floor) (Qc W k c).w;have lm:=ZU (Qc W k c).w;refine h.RM hu c0 c1 s1.1 f1 (by show (Qc W k c).floor<=K; omega) ?_ ?_ s1.2.2.2.2.1 s1.2.2.2.2.2
 ·simp only[Yo]; split <;> omega
 ·simp only[Yo]; simp only[Qn] at hk; split <;> omega
structure JB (W W':Q7):Prop where
 n:W'.now=W.now
 c:W'.IE=W.IE
 t:W'.tasks=W.tasks
 g:QX W.ID W'.ID
 b:∀i:Int,0<=i->(gi W'.ID i).IT=(gi W.ID i).IT
 l:∀i:Int,0<=i->(gi W'.ID i).IF.length=(gi W.ID i).IF.length
theorem JB.refl(W:Q7):JB W W:=⟨rfl,rfl,rfl,QX.refl _,fun _ _=>rfl,fun _ _=>rfl⟩
theorem JB.trans{A B C:Q7}(h:JB A B)(k:JB B C):JB A C:=⟨k.n.trans h.n,k.c.trans h.c,k.t.trans h.t,h.g.trans k.g,fun i hi=>(k.b i hi).trans (h.b i hi),fun i hi=>(k.l i hi).trans (h.l i hi)⟩
theorem M9{W:Q7}{g c:Int}{s:K0}(h0:0<=g)(h1:g<(W.ID.length:Int)):JB W (RM W g c s):=⟨rfl,rfl,rfl,Xu h0 h1,fun _ hi=>zbz h0 h1 hi,fun _ hi=>zcz h0 h1 hi⟩
end Go.Proofs.YtnclplgaicdapaaGreatDoor
