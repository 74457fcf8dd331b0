/- Part 8 of what the law FnWake needs. -/
import Derived.Test.YtnclplgaicdapaaGreatDoorFnWakePg
import Derived.Laws.StructEq
set_option linter.unusedVariables false
set_option linter.unusedSimpArgs false
set_option maxRecDepth 100000
set_option maxHeartbeats 8000000
namespace Go.Proofs.YtnclplgaicdapaaGreatDoor
open Go.RowKit
def zdq (P:Program):List Field->Nat->List Va->List Va->Option Bool
 | [],_,[],[]=>some true
 | f :: r, k, x :: xs, y :: ys => bif decide (f.name ≠ "_") && Nat.beq f.offset k then
   (match zdq P r (k+1) xs ys with
   | some q=>(match P.underlying f.type,x,y with
    | some (.int _),.int a n,.int b m=>bif decide (a=b) then some ((n==m)&&q) else none
    | some .bool,.bool n,.bool m=>some ((n==m)&&q)
    | some .string,.string n,.string m=>some (ZI n m&&q)
    | _,_,_=>none)
   | none=>none) else none
 | _,_,_,_=>none
theorem N0 {P:Program} (d:Nat) (w:Wo) (xs ys:List Va):∀(fs:List Field) (k:Nat) (b:Bool),zdq P fs k (xs.drop k) (ys.drop k)=some b->(Op.eqFields (d+1) xs.toArray ys.toArray fs).run P w=.ok b w
 | [],k,b,h=>by
  have hb:some true=some b:=by
   cases ex:xs.drop k with
   | nil=>
    cases ey:ys.drop k with
    | nil=>rw[ex,ey] at h; exact h
    | cons y ys'=>rw[ex,ey] at h; cases h
   | cons x xs'=>rw[ex] at h; cases h
  simp only[I0] at hb
  subst hb
  simp[Op.eqFields]
 | f::r,k,b,h=>by
  have hx:∀{l:List Va} {x:Va} {q:List Va},l.drop k=x::q->l[k]? = some x/\l.drop (k+1)=q:=λ{l x q} e=>by
   have h1:l[k]? = (l.drop k)[0]? := by simp
   have h2:l.drop (k+1)=(l.drop k).drop 1:=Qs
   rw[h1,h2,e]; simp
  cases exx:xs.drop k with
  | nil=>rw[exx] at h; cases h
  | cons x xs'=>
  cases eyy:ys.drop k with
  | nil=>rw[exx,eyy] at h; cases h
  | cons y ys'=>
   rw[exx,eyy] at h
   simp only[zdq] at h
   obtain⟨gx,dx⟩:=hx exx
   obtain⟨gy,dy⟩:=hx eyy
   cases hc : (decide (f.name ≠ "_") && Nat.beq f.offset k) with
   | false=>rw[hc] at h; cases h
   | true=>
    rw[hc] at h
    simp only[cond_true] at h
    simp only[A',Ij] at hc
    have hof:=Ib hc.2
    split at h
    ·rename_i q hq
     have ih:=N0 d w xs ys r (k+1) q (by rw[dx,dy]; exact hq)
     have Bh1:∀{D:TypeDesc},P.underlying f.type=some D->KJ D=false->(part f.type xs.toArray f.offset).run P w=.ok x w/\(part f.type ys.toArray f.offset).run P w=.ok y w:=λ{D} hu hD=>by
      rw[hof]
      simp[part,Tf hu,hD,gx,gy]
     split at h
     ·rename_i K a n b' m hu
      cases hab:decide (a=b') with
      | false=>rw[hab] at h; cases h
      | true=>
       have:=Ot hab
       subst this
       rw[hab] at h
       simp only[cond_true,I0] at h
       subst h
       obtain⟨p1,p2⟩:=Bh1 hu rfl
       simp only[Op.eqFields,C' hc.1,Sem.run_bind,p1,p2,Result.andThen_ok,run_equalIn_int w d f.type a K n m hu,Sem.run_ite]
       cases n==m <;> simp[ih]
     ·rename_i n m hu
      simp only[I0] at h
      subst h
      obtain⟨p1,p2⟩:=Bh1 hu rfl
      simp only[Op.eqFields,C' hc.1,Sem.run_bind,p1,p2,Result.andThen_ok,run_equalIn_bool' w d f.type n m hu,Sem.run_ite]
      cases n==m <;> simp[ih]
     ·rename_i n m hu
      simp only[I0] at h
      subst h
      obtain⟨p1,p2⟩:=Bh1 hu rfl
      simp only[Op.eqFields,C' hc.1,Sem.run_bind,p1,p2,Result.andThen_ok,run_equalIn_string w d f.type n m hu,Sem.run_ite]
      unfold ZI
      cases n.toList==m.toList <;> simp[ih]
     ·cases h
    ·cases h
structure zrh (P:Program) (t:TypeId):Prop where
 u:P.underlying t=some (.struct (P.fieldsOf t))
 s:P.stoodInHeld t=false
 g:P.eqGuardType P.depth t=false
theorem N1{P:Program}{t:TypeId}(F:zrh P t){xs ys:List Va}{b:Bool}(h:zdq P (P.fieldsOf t).toList 0 xs ys=some b)(w:Wo):(Op.equal t (.agg xs.toArray) (.agg ys.toArray)).run P w=.ok b w:=by
 have:=run_equalIn_struct (P:=P) w 9999 t xs.toArray ys.toArray F.u F.s;rw[N0 9998 w xs ys _ 0 b (by simpa using h)] at this;exact this
theorem zft{P:Program}{t:TypeId}(F:zrh P t){xs ys:List Va}{b:Bool}(h:zdq P (P.fieldsOf t).toList 0 xs ys=some b)(x y:Operand)(w:Wo):((do eqGuard .eql t x y (.agg xs.toArray) (.agg ys.toArray); binOp .eql t (.agg xs.toArray) (.agg ys.toArray)):Sem Va).run P w=.ok (.bool b) w:=by
 have:=N1 F h w;simp only[Op.equal,Op.maxDepth] at this;simp only[Sem.run_bind,run_eqGuard_agg w .eql t x y _ _ F.g,Result.andThen_ok,run_eql_struct,this]
theorem Mo:zrh Tryz.prog QU:=⟨Qk,Qk,Qk⟩
def UT(p:Int)(n:ByteArray):Va:=.agg #[I p,.string n]
theorem zp3(p q:Int)(n m:ByteArray):zdq Tryz.prog (Tryz.prog.fieldsOf QU).toList 0 [I p,.string n] [I q,.string m]=some ((p==q)&&(ZI n m&&true)):=Qk
theorem zjz(p q:Int)(n m:ByteArray)(w:Wo):(Op.equal QU (UT p n) (UT q m)).run Tryz.prog w=.ok (decide (p=q/\n=m)) w:=by
 have:=N1 Mo (zp3 p q n m) w
 have e:((p==q)&&(ZI n m&&true))=decide (p=q/\n=m):=by
  rw[N2,Bool.and_true]
  by_cases h1:p=q <;> by_cases h2:n=m <;> simp[h1,h2]
 rw[e] at this;exact this
theorem zov(p:Int)(n:ByteArray)(w:Wo):∀(es:List MapEntry) (i:Nat),(∀e∈es,∃q m v,e.key=UT q m/\e.val=I v)->
  (∃(j:Nat) (v:Int),(Instr.findAsking QU (UT p n) es i).run Tryz.prog w=.ok (some (j,I v)) w/\∃e∈es,e.key=UT p n) \/
  ((Instr.findAsking QU (UT p n) es i).run Tryz.prog w=.ok none w/\∀e∈es,e.key≠UT p n)
 | [],i,_=>.inr ⟨by simp[Instr.findAsking],λe he=>by cases he⟩
 | e::r,i,h=>by
  obtain⟨q,m,v,hk,hv⟩:=h e (I9 ..)
  by_cases hq:p=q/\n=m
  ·refine .inl ⟨i,v,?_,e,I9 ..,by rw[hk,hq.1,hq.2]⟩;simp only[Instr.findAsking,hk,Sem.run_bind,zjz,Ih hq,Result.andThen_ok,if_true,Sem.run_pure,hv]
  ·have cX:(Instr.findAsking QU (UT p n) (e::r) i).run Tryz.prog w=(Instr.findAsking QU (UT p n) r (i+1)).run Tryz.prog w:=by
    simp only[Instr.findAsking,hk,Sem.run_bind,zjz,decide_eq_false hq,Result.andThen_ok,Bool.false_eq_true,if_false]
   have fI:e.key≠UT p n:=λe'=>by
    rw[hk] at e';simp only[UT,Value.agg.injEq,List.toArray_inj,Array.mk.injEq,I4,I5,true_and,Value.string.injEq,and_true] at e';exact hq ⟨e'.1.symm,e'.2.symm⟩
   rcases zov p n w r (i+1) (λx hx=>h x (I1 _ hx)) with ⟨j,v',h1,x,hx,h2⟩ | ⟨h1,h2⟩
   ·exact .inl ⟨j,v',by rw[cX]; exact h1,x,I1 _ hx,h2⟩
   ·exact .inr ⟨by rw[cX]; exact h1,λx hx=>by
     rcases Ii.1 hx with rfl | hx
     ·exact fI
     ·exact h2 x hx⟩
theorem C0(p:Int)(n:ByteArray)(w:Wo)(es:List MapEntry)(h:∀e∈es,∃q m v,e.key=UT q m/\e.val=I v) :
  (∃(j:Nat) (v:Int),(Instr.findKey QU (UT p n) es).run Tryz.prog w=.ok (some (j,I v)) w/\∃e∈es,e.key=UT p n) \/
  ((Instr.findKey QU (UT p n) es).run Tryz.prog w=.ok none w/\∀e∈es,e.key≠UT p n):=by
 cases es with
 | nil=>exact .inr ⟨by simp[Instr.findKey,run_underlying Mo.u,Instr.findNow],λe he=>by cases he⟩
 | cons e r=>
  have hs:(Instr.findKey QU (UT p n) (e::r)).run Tryz.prog w=(Instr.findAsking QU (UT p n) (e::r) 0).run Tryz.prog w:=by
   simp[Instr.findKey,run_underlying Mo.u,Instr.findNow,Instr.sameNow]
  rw[hs];exact zov p n w (e::r) 0 h
theorem zdo:∃a b:Field,(Tryz.prog.fieldsOf QU).toList=[a,b]/\a.type=Qa/\a.offset=0/\b.type=ZN/\b.offset=1:=⟨(Tryz.prog.fieldsOf QU)[0]!,(Tryz.prog.fieldsOf QU)[1]!,Qk,Qk,Qk,Qk,Qk⟩
theorem G5 (em:Bool) (p:Int) (n:ByteArray) (w:Wo):(Instr.checkKey em 10000 QU (UT p n)).run Tryz.prog w=.ok () w:=by
 obtain⟨a,b,hl,a1,a2,b1,b2⟩:=zdo
 have p1:(part Qa #[.int .i64 p,.string n] 0).run Tryz.prog w=.ok (.int .i64 p) w:=by simp[part,Tf z1c,KJ]
 have p2:(part ZN #[.int .i64 p,.string n] 1).run Tryz.prog w=.ok (.string n) w:=by simp[part,Tf zf7,KJ]
 have c1:∀d:Nat,(Instr.checkKey em (d+1) Qa (.int .i64 p)).run Tryz.prog w=.ok () w:=λd=>by simp[Instr.checkKey,run_underlying z1c]
 have c2:∀d:Nat,(Instr.checkKey em (d+1) ZN (.string n)).run Tryz.prog w=.ok () w:=λd=>by simp[Instr.checkKey,run_underlying zf7]
 have key:∀d:Nat,(Instr.checkKey em (d+1+1) QU (UT p n)).run Tryz.prog w=.ok () w:=λd=>by
  rw[Instr.checkKey]
  simp only[UT,Sem.run_bind,run_underlying Mo.u,Result.andThen_ok]
  rw[<-Array.forIn_toList,hl]
  by_cases ha : a.name ≠ "_" <;> by_cases hb : b.name ≠ "_" <;> simp [ha, hb, a1, a2, b1, b2, p1, p2, c1, c2]
 exact key 9998
theorem AH:Tryz.prog.underlying ZM=some (.map QU Qa):=Qk
theorem z35(w:Wo):(zeroValue Qa).run Tryz.prog w=.ok (I 0) w:=by
 have h:(match Tryz.prog.info? Qa with | some i=>i.zero | none=>none)=some (I 0):=Qk
 cases hi:Tryz.prog.info? Qa with
 | none=>rw[hi] at h; cases h
 | some i=>
  rw[hi] at h;simp only at h;simp[zeroValue,Ui hi,h]
def Ft(w:Wo)(b:Nat)(es:Array MapEntry):Prop:=(∃c,w.heap[b]? = some (.map es c))/\∀e∈es.toList,∃q m v,e.key=UT q m/\e.val=I v
theorem zxp{w:Wo}{b:Nat}{es:Array MapEntry}(h:Ft w b es)(p:Int)(n:ByteArray) :
  ∃(v:Int) (ok:Bool),(Instr.lookup ZM (.map (some b)) (UT p n) true).run Tryz.prog w=.ok (.tuple #[I v,.bool ok]) w/\(ok=true↔∃e∈es.toList,e.key=UT p n):=by
 obtain⟨⟨c,hc⟩,hes⟩:=h;have hg:(getObj b).run Tryz.prog w=.ok (.map es c) w:=by simp[getObj,Sem.run,hc]
 rcases C0 p n w es.toList hes with ⟨j,v,h1,h2⟩ | ⟨h1,h2⟩
 ·exact⟨v,true,by simp[Instr.lookup,run_underlying AH,hg,G5,h1],by simpa using h2⟩
 ·exact⟨0,false,by simp[Instr.lookup,run_underlying AH,hg,G5,h1,z35],⟨λh=>(by cases h),λ⟨e,he,hk⟩=>Ir hk (h2 e he)⟩⟩
theorem z0h{w:Wo}{b:Nat}{es:Array MapEntry}(h:Ft w b es){p:Int}{n:ByteArray}(iQ:∀e∈es.toList,e.key≠UT p n)(v:Int) :
  ∃w' c,((do Instr.mapUpdate ZM (.map (some b)) (UT p n) (I v); pure undef):Sem Va).run Tryz.prog w=.ok undef w'/\Q0 [b] w w'/\Ft w' b (es.push { key:=UT p n,val:=I v,born:=c }):=by
 obtain⟨⟨c,hc⟩,hes⟩:=h;have hg:(getObj b).run Tryz.prog w=.ok (.map es c) w:=by simp[getObj,Sem.run,hc]
 have hfk:(Instr.findKey QU (UT p n) es.toList).run Tryz.prog w=.ok none w:=by
  rcases C0 p n w es.toList hes with ⟨j,v,_,e,he,hk⟩ | ⟨h1,_⟩
  ·exact Ir hk (iQ e he)
  ·exact h1
 have hs:(setObj b (.map (es.push { key:=UT p n,val:=I v,born:=c }) (c+1))).run Tryz.prog w=.ok () { w with heap:=w.heap.setIfInBounds b (.map (es.push { key:=UT p n,val:=I v,born:=c }) (c+1)) }:=by
  simp[setObj,Sem.run,hc]
 have IT:=Yt hc;refine⟨{ w with heap:=w.heap.setIfInBounds b (.map (es.push { key:=UT p n,val:=I v,born:=c }) (c+1)) },c,by simp[Instr.mapUpdate,run_underlying AH,hg,G5,hfk,hs],⟨rfl,rfl,rfl,Qs,λk _ hk=>?_⟩,⟨c+1,by simp[IT]⟩,λe he=>?_⟩
 ·have:b≠k:=λe=>hk (by simp[e])
  show (w.heap.setIfInBounds b _)[k]? = _;rw[Array.getElem?_setIfInBounds_ne this]
 ·rw[Array.toList_push,Im] at he;rcases he with he | he
  ·exact hes e he
  ·rw[Iz] at he;subst he;exact⟨p,n,v,rfl,rfl⟩
theorem Ft.ext{w w':Wo}{b:Nat}{es:Array MapEntry}{bs:List Nat}(h:Ft w b es)(hx:Q0 bs w w')(hb:b∉bs):Ft w' b es:=by
 obtain⟨⟨c,hc⟩,hes⟩:=h;exact⟨⟨c,Qg hc hx hb⟩,hes⟩
def zdl(p:OA):List Va:=[.pointer p]
theorem ME:zrf Tryz.prog zdl 1 Yx 8 none:=EN Qk λ_=>rfl
theorem zu3:Tryz.prog.underlying Kv=some (.slice Yx):=Qk
def VY(w:Wo)(b:Nat)(g:Int)(n:ByteArray)(up:OA):Prop:=w.heap[b]? = some (.cells ([I g,.string n,.pointer up]:List Va).toArray N7 (0,0))
theorem VY.ext{w w':Wo}{b:Nat}{g:Int}{n:ByteArray}{up:OA}{bs:List Nat}(h:VY w b g n up)(hx:Q0 bs w w')(hb:b∉bs):VY w' b g n up:=Qg h hx hb
theorem VY.cells{w:Wo}{b:Nat}{g:Int}{n:ByteArray}{up:OA}(h:VY w b g n up){bs:List Nat}(hb:b∉bs):Q1 bs w (some ⟨b,0,none⟩) 0 [I g,.string n,.pointer up]:=
 MC h hb λj v hj=>by rw[Nat.zero_add,Nat.zero_add]; exact hj
def zra(gs:List ZX)(nb:Int->Nat)(x:Int):OA:=if x=0 then none else some ⟨nb (gi gs x).parent,0,none⟩
structure Ns (bs:List Nat) (w:Wo) (gs:List ZX) (nb:Int->Nat):Prop where
 node:∀x:Int,Q7 gs x=true->Q1 bs w (some ⟨nb x,0,none⟩) 0 [I x,.string (gi gs x).name,.pointer (zra gs nb x)]
 par:∀x:Int,x≠0->Q7 gs x=true->Q7 gs (gi gs x).parent=true
theorem Ns.ext{bs:List Nat}{w w':Wo}{gs:List ZX}{nb:Int->Nat}(h:Ns bs w gs nb)(hx:Q0 bs w w'):Ns bs w' gs nb:=⟨λx hu=>(h.node x hu).ext hx,h.par⟩
theorem Ns.less{bs cs:List Nat}{w:Wo}{gs:List ZX}{nb:Int->Nat}(h:Ns bs w gs nb)(hs:∀x∈cs,x∈bs):Ns cs w gs nb:=⟨λx hu=>(h.node x hu).less hs,h.par⟩
def ze0(gs:List ZX)(f:Nat)(x:Int)(s:Int):Int:=if dep f gs x<0 then -1 else s+dep f gs x
theorem zzr{gs:List ZX}{nb:Int->Nat}{w:Wo}{bs:List Nat}(h:Ns bs w gs nb){x:Int}(hu:Q7 gs x=true):PX bs T3 #[.pointer (some ⟨nb x,0,none⟩)] w (I (ze0 gs 3 x 0)):=
 BN (some ⟨nb x,0,none⟩) λwr hx=>by
  have h:=(h.ext hx).less (cs:=[]) Qs;refine⟨λvs=>(∃(y:Int) (s:Nat),Q7 gs y=true/\s<=4/\vs=[.pointer (some ⟨nb y,0,none⟩),I (s:Int)]/\(s<=3->ze0 gs (3-s) y s=ze0 gs 3 x 0)/\(s=4->ze0 gs 3 x 0 = -1))\/∃s:Nat,s<=4/\vs=[.pointer none,I (s:Int)]/\ze0 gs 3 x 0 = -1,λvs=>(5-ZP 1 vs).toNat,.inl ⟨x,0,hu,Qo,rfl,λ_=>rfl,λh=>by omega⟩,?_⟩;rintro n1 st (⟨y,s,hy,hs,he,h1,h2⟩ | ⟨s,hs,he,h1⟩)
  ·simp only[I4,I5,Value.pointer.injEq,true_and,and_true] at he;obtain⟨rfl,rfl⟩:=he;refine⟨λhc=>?_,λhc=>?_⟩
   ·have gI:s<=3:=by
     simp only[Option.isNone_some,Bool.not_false,Bool.true_and,Ij] at hc;omega
    have hn:=h.node y hy;refine⟨rfl,y,hn.get 0 _ rfl,λhz=>?_,λhz=>?_⟩
    ·have hz:y=0:=by simpa using hz
     rw[<-h1 gI];subst hz;unfold ze0;rw[Y6,B' Qo,Int.add_zero]
    ·have hz:y≠0:=by simpa using hz
     have hm:zra gs nb y=some ⟨nb (gi gs y).parent,0,none⟩:=by unfold zra; rw[B' hz]
     refine⟨⟨Qo,Qo⟩,rfl,_,by have:=hn.get 2 _ rfl; exact this,.inl ⟨(gi gs y).parent,s+1,h.par y hz hy,Qo,by rw[hm]; simp,λhs'=>?_,λhs'=>?_⟩,?_⟩
     ·rw[<-h1 gI];have e:3-s=(3-(s+1))+1:=Qo;rw[e];unfold ze0;simp only[dep,B' hz]
      by_cases hd:dep (3-(s+1)) gs (gi gs y).parent<0
      ·rw[C' hd,C' hd,C' Qo]
      ·rw[B' hd,B' hd,B' Qo]; omega
     ·rw[<-h1 gI];have e:3-s=0:=Qo;rw[e];unfold ze0;simp only[dep,B' hz];rfl
     ·show (5-((s:Int)+1)).toNat<(5-(s:Int)).toNat;omega
   ·have fT:s=4:=by
     simp only[Option.isNone_some,Bool.not_false,Bool.true_and,decide_eq_false_iff_not] at hc;omega
    rw[h2 fT]
  ·simp only[I4,I5,Value.pointer.injEq,true_and,and_true] at he;obtain⟨rfl,rfl⟩:=he;refine⟨λhc=>by simp at hc,λ_=>by rw[h1]⟩
section
variable {gs:List ZX}{ms:Nat->MG}{o:OA}{c:Nat}{w:Wo}{bs:List Nat}
theorem Ve{g:Int}(h:G9 bs w o gs ms)(hl:gs.length<=maxLen):PX bs Xk #[.slice o gs.length c,I g] w (.bool (Q7 gs g)):=
 Am o gs.length c g λwr hx=>by
  have h:=(h.ext hx).less (cs:=[]) Qs;have:=J5
  have e:X6 g 0 ((gs.length:Int)-1)=(decide (g>=0)&&decide (g<(gs.length:Int))):=by
   unfold X6
   congr 1
   exact decide_eq_decide.2 Qo
  refine⟨⟨Qo,Qo⟩,_,QQ,λq=>?_,(gi gs g).used,λq=>?_,by rw[e]; rfl⟩
  ·have q:=Qx.1 q;exact h.ix Qo Qo
  ·have q:=Qx.1 q;exact h.used Qo Qo
theorem zzs(h:G9 [] w o gs ms)(hl:gs.length<=maxLen) :
  Cz KG #[.slice o gs.length c] w λe w'=>∃(o':OA) (L C:Nat) (ok:Bool),e=.returned (.tuple #[.slice o' L C,.bool ok])/\ok=Ku gs/\Q0 [] w w'/\
   (ok=false->L=0)/\(ok=true->L=8/\∃(pl:List (OA)) (nb:Int->Nat),pl.length=8/\Rd zdl 1 [] w' o' pl/\(∀g:Int,0<=g->g<8->gi pl g=if (gi gs g).used then some ⟨nb g,0,none⟩ else none)/\Ns [] w' gs nb):=by
 refine(zld o gs.length c (R:=λv w'=>∃(o':OA) (L C:Nat) (ok:Bool),v=.tuple #[.slice o' L C,.bool ok]/\ok=Ku gs/\Q0 [] w w'/\
   (ok=false->L=0)/\(ok=true->L=8/\∃(pl:List (OA)) (nb:Int->Nat),pl.length=8/\Rd zdl 1 [] w' o' pl/\(∀g:Int,0<=g->g<8->gi pl g=if (gi gs g).used then some ⟨nb g,0,none⟩ else none)/\Ns [] w' gs nb)) ?_).mono λe w' ⟨v,he,o',L,C,ok,hv,hr⟩=>⟨o',L,C,ok,by rw[he,hv],hr⟩
 have bad:∀w',Q0 [] w w'->¬Ye gs->∃(o':OA) (L C:Nat) (ok:Bool),Value.tuple #[.slice none 0 0,.bool false]=.tuple #[.slice o' L C,.bool ok]/\ok=Ku gs/\Q0 [] w w'/\
   (ok=false->L=0)/\(ok=true->L=8/\∃(pl:List (OA)) (nb:Int->Nat),pl.length=8/\Rd zdl 1 [] w' o' pl/\(∀g:Int,0<=g->g<8->gi pl g=if (gi gs g).used then some ⟨nb g,0,none⟩ else none)/\Ns [] w' gs nb):=λw' hx iQ=>
  ⟨none,0,0,false,rfl,(N6 iQ).symm,hx,λ_=>rfl,λh=>by cases h⟩
 have l8:((((gs.length:Nat):Int) != 8)=false)->gs.length=8:=λq=>by have:=(bne_eq_false_iff_eq).1 q; omega
 have i0:∀q:(((gs.length:Nat):Int) != 8)=false,(0:Int)<(gs.length:Int):=λq=>by have:=l8 q; omega
 refine⟨λq=>h.ix (I2 _) (i0 q),(gi gs 0).used,λq=>h.used (I2 _) (i0 q),λq=>?_,(gi gs 0).parent,λq=>?_,λq=>?_,(gi gs 0).name,λq=>?_,λq=>?_,λq=>?_⟩
 ·simp only[H'] at q; exact h.ix (I2 _) (i0 q.1)
 ·simp only[H'] at q; exact h.parent (I2 _) (i0 q.1)
 ·simp only[H'] at q; exact h.ix (I2 _) (i0 q.1.1)
 ·simp only[H'] at q; exact h.name (I2 _) (i0 q.1.1)
 ·intro w1 RR;refine bad w1 RR λht=>?_
  have e:((gs.length:Nat):Int)=8:=by have:=ht.len; omega
  rw[e,ht.ru,ht.rp,ht.rn,N2] at q;simp at q
 simp only[H',I6,bne_eq_false_iff_eq,Vg] at q;obtain⟨⟨⟨q1,ru⟩,rp⟩,rn⟩:=q;have hl8:gs.length=8:=Qo;intro wr hx _;refine⟨some ⟨wr.heap.size,0,none⟩,8,8,wr.alloc (.cells ((List.replicate 8 none).flatMap zdl).toArray Yx),KS ME zu3 8 Qd (by simp[maxLen]) wr,Z3,?_⟩;have hO0:=VD (enc:=zdl) ME.len Yx 8 none wr;have hX0:Q0 [] wr (wr.alloc (.cells ((List.replicate 8 none).flatMap zdl).toArray Yx)):=Z9 wr _;generalize wr.alloc (.cells ((List.replicate 8 (none:OA)).flatMap zdl).toArray Yx)=wv at hO0 hX0
 refine XL 8 0 rfl (λk w1=>k<=8/\Q0 [] wr w1/\∃(pl:List (OA)) (nb:Int->Nat),pl.length=8/\Vi zdl 1 Yx wr.heap.size w1 (some ⟨wr.heap.size,0,none⟩) 8 pl/\
   (∀g:Int,0<=g->g<8->gi pl g=if g<(k:Int)/\(gi gs g).used=true then some ⟨nb g,0,none⟩ else none)/\
   (∀g:Int,0<=g->g<(k:Int)->(gi gs g).used=true->wr.heap.size<=nb g/\VY w1 (nb g) g (gi gs g).name none)/\
   (∀g g':Int,0<=g->g<(k:Int)->0<=g'->g'<(k:Int)->(gi gs g).used=true->(gi gs g').used=true->nb g=nb g'->g=g')) (λw1 RR _=>⟨Ic _,hX0.trans RR,List.replicate 8 none,λ_=>0,rfl,hO0.Wu RR,λg h0 h1=>?_,λg h0 h1=>by omega,λg g' h0 h1=>by omega⟩) λk w1 _ ⟨hk,hX,pl,nb,hpl,hO,hP,hN,Bs8⟩=>⟨λIT=>?_,λRC=>?_⟩
 ·rw[B' (λhc=>by omega)];exact List.eq_of_mem_replicate (zp9 h0 (by simpa using h1))
 ·have IT:=Ot IT;have hr:=(h.ext hx).ext hX;have fH:(0:Int)<=(k:Int):=Qo;refine⟨hr.ix fH IT,_,hr.used fH IT,λhu=>⟨hr.ix fH IT,_,hr.name fH IT,λb wb hxb hb hhb _=>?_⟩,λhu=>⟨⟨Qo,Qo⟩,λw2 R0 _=>Qp Qo ⟨Qo,hX.trans R0,pl,nb,hpl,hO.Wu R0,λg h0 h1=>?_,λg h0 h1 hg=>?_,λg g' h0 h1 h0' h1' hg hg'=>?_⟩⟩⟩
  ·have hOb:=hO.Wu hxb;have tY:(k:Int)<(pl.length:Int):=by rw[hpl]; omega
   have W8:=hOb.ix fH tY;rw[hpl] at W8;refine⟨W8,hOb.wr ME.len Qs fH tY (j:=0) (n:=1) Qo,⟨Qo,Qo⟩,λw2 R0 _=>Qp Qo ⟨Qo,?_,pl.set k (some ⟨b,0,none⟩),λg=>if g=(k:Int) then b else nb g,by rw[E']; exact hpl,?_,λg h0 h1=>?_,λg h0 h1 hg=>?_,λg g' h0 h1 h0' h1' hg hg' he=>?_⟩⟩
   ·exact(hOb.CW5 _ _ (hX.trans hxb) (I7 _)).trans R0
   ·exact(hOb.R5 ME.len (i:=(k:Int)) fH tY (j:=0) (vs:=[.pointer (some ⟨b,0,none⟩)]) (x:=some ⟨b,0,none⟩) rfl Qs).Wu R0
   ·have:=QO pl (some ⟨b,0,none⟩) (i:=(k:Int)) (j:=g) fH tY h0;rw[Ig] at this;rw[this]
    by_cases tX:(k:Int)=g
    ·subst tX;rw[C' rfl,C' ⟨Qo,hu⟩]
     dsimp only
     rw[C' rfl]
    ·rw[B' tX,hP g h0 h1]
     dsimp only
     rw[show (if g=(k:Int) then b else nb g)=nb g from B' (λe=>tX e.symm)]
     by_cases Rw:g<(k:Int)
     ·by_cases kF:(gi gs g).used=true
      ·rw[C' ⟨Rw,kF⟩,C' ⟨Qo,kF⟩]
      ·rw[B' (λhc=>kF hc.2),B' (λhc=>kF hc.2)]
     ·rw[B' (λhc=>Rw hc.1),B' (λhc=>by omega)]
   ·have tB:Q0 (QM (some ⟨wr.heap.size,0,none⟩)) wb (R5 wb (some ⟨wr.heap.size,0,none⟩) (Int.toNat (k:Int)*1) [.pointer (some ⟨b,0,none⟩)]):=hOb.sV _ _
    have fI:∀q,VY wb q g (gi gs g).name none->q∉QM (some (⟨wr.heap.size,0,none⟩:Addr)):=λq hq hm=>by
     simp only[QM,Iz] at hm;subst hm;rcases hOb with ⟨hc,_⟩ | ⟨b',sp,he,_,h2,_⟩
     ·cases hc
     ·simp only[I0,Addr.mk.injEq,and_true] at he;subst he;unfold VY at hq;rw[h2] at hq;simp only[I0,Obj.cells.injEq] at hq;exact Ir hq.2.1 Qd
    dsimp only
    by_cases tX:g=(k:Int)
    ·subst tX;rw[C' rfl];have hq:VY wb b (k:Int) (gi gs (k:Int)).name none:=hhb;exact⟨IA hX.size hb,((hq.ext tB (fI b hq)).ext R0 Qs)⟩
    ·rw[B' tX];obtain⟨n1,n2⟩:=hN g h0 Qo hg;have n3:=n2.ext hxb Qs;exact⟨n1,(n3.ext tB (fI _ n3)).ext R0 Qs⟩
   ·have fresh:∀q:Int,0<=q->q<(k:Int)->(gi gs q).used=true->nb q≠b:=λq a1 a2 a3 e=>by
     have:=Yt (hN q a1 a2 a3).2;omega
    dsimp only at he
    by_cases tX:g=(k:Int)
    ·by_cases hgk':g'=(k:Int)
     ·rw[tX,hgk']
     ·rw[C' tX,B' hgk'] at he;exact Ir he.symm (fresh g' h0' Qo hg')
    ·by_cases hgk':g'=(k:Int)
     ·rw[B' tX,C' hgk'] at he;exact Ir he (fresh g h0 Qo hg)
     ·rw[B' tX,B' hgk'] at he;exact Bs8 g g' h0 Qo h0' Qo hg hg' he
  ·rw[hP g h0 h1]
   by_cases tX:g=(k:Int)
   ·subst tX;rw[B' (λhc=>by omega),B' (λhc=>by rw[hu] at hc; exact Ir hc.2 Qd)]
   ·by_cases Rw:g<(k:Int)
    ·by_cases kF:(gi gs g).used=true
     ·rw[C' ⟨Rw,kF⟩,C' ⟨Qo,kF⟩]
     ·rw[B' (λhc=>kF hc.2),B' (λhc=>kF hc.2)]
    ·rw[B' (λhc=>Rw hc.1),B' (λhc=>by omega)]
  ·by_cases tX:g=(k:Int)
   ·subst tX; rw[hu] at hg; cases hg
   ·obtain⟨n1,n2⟩:=hN g h0 Qo hg;exact⟨n1,n2.ext R0 Qs⟩
  ·have e1:g≠(k:Int):=λe=>by subst e; rw[hu] at hg; cases hg
   have e2:g'≠(k:Int):=λe=>by subst e; rw[hu] at hg'; cases hg'
   exact Bs8 g g' h0 Qo h0' Qo hg hg'
 ·have RC:=Ou RC;have hk8:k=8:=Qo;subst hk8;intro w2 R0 _;refine⟨.map (some w2.heap.size),w2.alloc (.map #[] 0),by simp[Instr.makeMap],Z3,?_⟩;have hM0:Ft (w2.alloc (.map #[] 0)) w2.heap.size #[]:=⟨⟨0,Array.getElem?_push_size ..⟩,λe he=>by cases he⟩;have tW:Q0 [] wr (w2.alloc (.map #[] 0)):=(hX.trans R0).trans (Z9 w2 _);have nN:=(hO.Wu R0).Wu (Z9 w2 (.map #[] 0))
  have hN2:∀g:Int,0<=g->g<8->(gi gs g).used=true->wr.heap.size<=nb g/\VY (w2.alloc (.map #[] 0)) (nb g) g (gi gs g).name none:=λg h0 h1 hg=>
   ⟨(hN g h0 Qo hg).1,((hN g h0 Qo hg).2.ext R0 Qs).ext (Z9 w2 _) Qs⟩
  have hP2:∀g:Int,0<=g->g<8->gi pl g=if (gi gs g).used=true then some ⟨nb g,0,none⟩ else none:=λg h0 h1=>by
   rw[hP g h0 h1]
   by_cases kF:(gi gs g).used=true
   ·rw[C' ⟨Qo,kF⟩,C' kF]
   ·rw[B' (λhc=>kF hc.2),B' kF]
  have CN8:∀g g':Int,0<=g->g<8->0<=g'->g'<8->(gi gs g).used=true->(gi gs g').used=true->nb g=nb g'->g=g':=λg g' a b c d=>Bs8 g g' a Qo c Qo
  have hmb:wr.heap.size<=w2.heap.size:=(hX.trans R0).size;generalize w2.heap.size=mb at hM0 hmb;generalize w2.alloc (.map #[] 0)=w3 at hM0 tW nN hN2;clear hX hO hN hP Bs8
  refine XL 8 1 rfl (λk w1=>1<=k/\k<=8/\Q0 [] wr w1/\Vi zdl 1 Yx wr.heap.size w1 (some ⟨wr.heap.size,0,none⟩) 8 pl/\
    (∀g:Int,0<=g->g<8->(gi gs g).used=true->VY w1 (nb g) g (gi gs g).name (if g<(k:Int) then zra gs nb g else none))/\
    (∃es,Ft w1 mb es/\(∀e∈es.toList,∃g:Int,1<=g/\g<(k:Int)/\(gi gs g).used=true/\e.key=UT (gi gs g).parent (gi gs g).name)/\∀g:Int,1<=g->g<(k:Int)->(gi gs g).used=true->∃e∈es.toList,e.key=UT (gi gs g).parent (gi gs g).name)/\
    (∀g:Int,1<=g->g<(k:Int)->(gi gs g).used=true->UW (gi gs g).name=true/\Q7 gs (gi gs g).parent=true/\∀h:Int,1<=h->h<g->(gi gs h).used=true->¬((gi gs h).parent=(gi gs g).parent/\(gi gs h).name=(gi gs g).name)))
   (λw4 Si _=>⟨I7 _,Qo,tW.trans Si,nN.Wu Si,λg h0 h1 hg=>?_,⟨#[],hM0.ext Si Qs,(λe he=>by cases he),λg h1 h2=>by omega⟩,λg h1 h2=>by omega⟩) λk w4 _ ⟨hk1,hk,hX,hO,hN,⟨es,hM,hE1,hE2⟩,hT⟩=>⟨λIT=>?_,λRC=>?_⟩
  ·have:=(hN2 g h0 h1 hg).2.ext Si Qs
   by_cases hg1:g<((1:Nat):Int)
   ·rw[C' hg1];have:g=0:=Qo;subst this;exact this
   ·rw[B' hg1]; exact this
  ·have IT:=Ot IT;have hr:=(h.ext hx).ext hX;have fH:(0:Int)<=(k:Int):=Qo;have tY:(k:Int)<(pl.length:Int):=Qo;have dD:(k:Int)<(gs.length:Int):=Qo;have hPl:=hO.rd ME.len (bs:=[]) Qs;have W8:=hO.ix fH tY;rw[hpl] at W8;have hXw:Q0 [] w w4:=hx.trans hX;refine⟨W8,gi pl (k:Int),hPl k fH tY,λiQ=>?_,λAO2=>?_⟩
   ·have hu:¬(gi gs (k:Int)).used=true:=λhu=>by rw[hP2 k fH IT,C' hu] at iQ; cases iQ
    refine⟨⟨Qo,Qo⟩,λw5 Sb _=>Qp Qo ⟨Qo,Qo,hX.trans Sb,hO.Wu Sb,λg h0 h1 hg=>?_,⟨es,hM.ext Sb Qs,λe he=>?_,λg h1 h2 hg=>?_⟩,λg h1 h2 hg=>?_⟩⟩
    ·have:=(hN g h0 h1 hg).ext Sb Qs;have tX:g≠(k:Int):=λe=>hu (e▸hg)
     by_cases hg1:g<(k:Int)
     ·rw[C' hg1] at this; rw[C' Qo]; exact this
     ·rw[B' hg1] at this; rw[B' Qo]; exact this
    ·obtain⟨g,a1,a2,a3⟩:=hE1 e he;exact⟨g,a1,Qo,a3⟩
    ·have tX:g≠(k:Int):=λe=>hu (e▸hg)
     exact hE2 g h1 Qo hg
    ·have tX:g≠(k:Int):=λe=>hu (e▸hg)
     exact hT g h1 Qo hg
   ·have hu:(gi gs (k:Int)).used=true:=by
     cases hq:(gi gs (k:Int)).used with
     | true=>rfl
     | false=>rw[hP2 k fH IT,hq] at AO2; cases AO2
    have hpk:gi pl (k:Int)=some ⟨nb (k:Int),0,none⟩:=by rw[hP2 k fH IT,C' hu]
    refine⟨hr.ix fH dD,_,hr.name fH dD,_,zhp,λ_=>hr.ix fH dD,(gi gs (k:Int)).parent,λ_=>hr.parent fH dD,Q7 gs (gi gs (k:Int)).parent,λ_=>Ve hr hl,λq=>?_,λq=>?_⟩
    ·intro w5 Sb;refine bad w5 (hXw.trans Sb) λht=>?_
     rw[ht.nm k Qo IT hu,ht.par k Qo IT hu] at q;cases q
    ·simp only[H',I6] at q;obtain⟨qn,qp⟩:=q;obtain⟨p0,p1,pu⟩:=Q4.1 qp;have p8:(gi gs (k:Int)).parent<8:=Qo;have CO1:=hO.ix p0 Qo;rw[hpl] at CO1;have hnk:=hN k fH IT hu;rw[B' Qo] at hnk;have hpp:gi pl (gi gs (k:Int)).parent=some ⟨nb (gi gs (k:Int)).parent,0,none⟩:=by rw[hP2 _ p0 p8,C' pu]
     have hnb:nb (k:Int)∉QM (some (⟨wr.heap.size,0,none⟩:Addr)):=λhm=>by
      simp only[QM,Iz] at hm;rcases hO with ⟨hc,_⟩ | ⟨b',sp,he,_,h2,_⟩
      ·cases hc
      ·simp only[I0,Addr.mk.injEq,and_true] at he;subst he;unfold VY at hnk;rw[hm,h2] at hnk;simp only[I0,Obj.cells.injEq] at hnk;exact Ir hnk.2.1 Qd
     have hWr:YK [] w4 (some ⟨nb (k:Int),0,none⟩) (0+2) 1:=U7 hnk Qs (by show 0+(0+2+1)<=3; omega);have hsx:Q0 [nb (k:Int)] w4 (R5 w4 (some ⟨nb (k:Int),0,none⟩) (0+2) [.pointer (some ⟨nb (gi gs (k:Int)).parent,0,none⟩)]):=X3 λa ha=>by cases ha; simp
     have hbk:wr.heap.size<=nb (k:Int):=(hN2 k fH IT hu).1;have hXs:Q0 [] wr (R5 w4 (some ⟨nb (k:Int),0,none⟩) (0+2) [.pointer (some ⟨nb (gi gs (k:Int)).parent,0,none⟩)]):=hX.fresh hsx λx hm=>.inl (by rw[Iz.1 hm]; exact hbk)
     have hrs:=(h.ext hx).ext hXs;have hup:zra gs nb (k:Int)=some ⟨nb (gi gs (k:Int)).parent,0,none⟩:=by unfold zra; rw[B' Qo]
     have hNs:∀g:Int,0<=g->g<8->(gi gs g).used=true->VY (R5 w4 (some ⟨nb (k:Int),0,none⟩) (0+2) [.pointer (some ⟨nb (gi gs (k:Int)).parent,0,none⟩)]) (nb g) g (gi gs g).name (if g<((k+1:Nat):Int) then zra gs nb g else none):=λg h0 h1 hg=>by
      by_cases tX:g=(k:Int)
      ·subst tX;rw[C' Qo,hup];exact U6 hnk
      ·have fI:nb g≠nb (k:Int):=λe=>tX (CN8 g k h0 h1 fH IT hg hu e)
       have:=(hN g h0 h1 hg).ext hsx (by simpa using fI)
       by_cases hg1:g<(k:Int)
       ·rw[C' hg1] at this; rw[C' Qo]; exact this
       ·rw[B' hg1] at this; rw[B' Qo]; exact this
     have hOs:Vi zdl 1 Yx wr.heap.size (R5 w4 (some ⟨nb (k:Int),0,none⟩) (0+2) [.pointer (some ⟨nb (gi gs (k:Int)).parent,0,none⟩)]) (some ⟨wr.heap.size,0,none⟩) 8 pl:=hO.ext hsx λb hm iP=>hnb (by rw[Iz.1 iP] at hm; exact hm)
     have hMs:Ft (R5 w4 (some ⟨nb (k:Int),0,none⟩) (0+2) [.pointer (some ⟨nb (gi gs (k:Int)).parent,0,none⟩)]) mb es:=hM.ext hsx λhm=>by
      rw[Iz] at hm;obtain⟨⟨cc,hc⟩,_⟩:=hM;unfold VY at hnk;rw[<-hm,hc] at hnk;cases hnk
     refine⟨W8,some ⟨nb (k:Int),0,none⟩,by rw[<-hpk]; exact hPl k fH tY,hr.ix fH dD,_,hr.parent fH dD,CO1,some ⟨nb (gi gs (k:Int)).parent,0,none⟩,by rw[<-hpp]; exact hPl _ p0 Qo,rfl,hWr,?_⟩;generalize R5 w4 (some ⟨nb (k:Int),0,none⟩) (0+2) [.pointer (some ⟨nb (gi gs (k:Int)).parent,0,none⟩)]=w5 at hXs hrs hNs hOs hMs;refine⟨hrs.ix fH dD,_,hrs.parent fH dD,hrs.ix fH dD,_,hrs.name fH dD,λb1 fQ=>⟨hrs.name fH dD,hrs.parent fH dD,λw6 Wt tP=>?_⟩⟩;have rZ:=hMs.ext Wt Qs;obtain⟨v,okk,CO9,hok⟩:=zxp rZ (gi gs (k:Int)).parent (gi gs (k:Int)).name;have B80:∀x∈[b1],wr.heap.size<=x\/x∈([]:List Nat):=λx hm=>.inl (by rw[Iz.1 hm]; exact IA hXs.size fQ)
     refine⟨v,okk,w6,CO9,λ_ _=>rfl,λCm5=>?_,λAr0 w7 dK hs7=>?_⟩
     ·intro w7 dK;refine bad w7 (hx.trans (((hXs.trans Wt).fresh dK B80))) λht=>?_
      obtain⟨e,he,hk⟩:=hok.1 Cm5;obtain⟨g,a1,a2,a3,a4⟩:=hE1 e he;rw[a4] at hk;simp only[UT,Value.agg.injEq,List.toArray_inj,Array.mk.injEq,I4,I5,true_and,Value.string.injEq,and_true] at hk;exact ht.uniq k g a1 a2 IT hu a3 hk
     ·have uD:=rZ.ext dK (λhm=>by
       rw[Iz] at hm;obtain⟨⟨cc,hc⟩,_⟩:=hMs;have:=Yt hc;omega)
      have CP8:¬∃e∈es.toList,e.key=UT (gi gs (k:Int)).parent (gi gs (k:Int)).name:=λhc=>by
       have:=hok.2 hc;rw[Ar0] at this; cases this
      obtain⟨w8,cc,Cr7,nQ,hM8⟩:=z0h uD (λe he hk=>CP8 ⟨e,he,hk⟩) (k:Int);have hmx:∀x∈[mb],wr.heap.size<=x\/x∈([]:List Nat):=λx hm=>.inl (by rw[Iz.1 hm]; exact hmb)
      have hX7:Q0 [] wr w7:=(hXs.trans Wt).fresh dK B80;have hX8:Q0 [] wr w8:=hX7.fresh nQ hmx;refine⟨w8,Cr7,λx hm=>nQ.block x (hs7 x hm) (λiP=>?_),⟨Qo,Qo⟩,λw9 kS hs9=>Qp Qo ⟨Qo,Qo,hX8.fresh kS B80,?_,λg h0 h1 hg=>?_,⟨_,hM8.ext kS ?_,λe he=>?_,λg h1 h2 hg=>?_⟩,λg h1 h2 hg=>?_⟩⟩
      ·rw[Iz] at hm iP;subst iP;obtain⟨⟨c2,hc⟩,_⟩:=hMs;have:=Yt hc;omega
      ·have hnm:∀b∈QM (some (⟨wr.heap.size,0,none⟩:Addr)),b∉[mb]:=λb hm iP=>by
        simp only[QM,Iz] at hm iP;rcases hOs with ⟨hc,_⟩ | ⟨b',sp,he,_,h2,_⟩
        ·cases hc
        ·simp only[I0,Addr.mk.injEq,and_true] at he;subst he;obtain⟨⟨c2,hc⟩,_⟩:=hMs;rw[<-iP,hm,h2] at hc;cases hc
       have hn1:∀b∈QM (some (⟨wr.heap.size,0,none⟩:Addr)),b∉[b1]:=λb hm iP=>by
        have:=(hOs.lt b hm).2;rw[Iz] at iP;omega
       exact(((hOs.Wu Wt).ext dK hn1).ext nQ hnm).ext kS hn1
      ·have hq:=hNs g h0 h1 hg;have hql:=Yt hq;have n1:nb g∉[b1]:=λhm=>by rw[Iz] at hm; omega
       have n2:nb g∉[mb]:=λhm=>by
        rw[Iz] at hm;obtain⟨⟨c2,hc⟩,_⟩:=hMs;unfold VY at hq;rw[hm,hc] at hq;cases hq
       exact(((hq.ext Wt Qs).ext dK n1).ext nQ n2).ext kS n1
      ·intro hm;rw[Iz] at hm;obtain⟨⟨c2,hc⟩,_⟩:=hMs;have:=Yt hc;omega
      ·rw[Array.toList_push,Im] at he;rcases he with he | he
       ·obtain⟨g,a1,a2,a3⟩:=hE1 e he;exact⟨g,a1,Qo,a3⟩
       ·rw[Iz] at he;subst he;exact⟨k,Qo,Qo,hu,rfl⟩
      ·rw[Array.toList_push]
       by_cases tX:g=(k:Int)
       ·subst tX;exact⟨_,Iw _ (Iz.2 rfl),rfl⟩
       ·obtain⟨e,he,hk⟩:=hE2 g h1 Qo hg;exact⟨e,Ia _ he,hk⟩
      ·by_cases tX:g=(k:Int)
       ·subst tX;refine⟨qn,qp,λq a1 a2 a3 a4=>CP8 ?_⟩;obtain⟨e,he,hk⟩:=hE2 q a1 a2 a3;exact⟨e,he,by rw[hk,a4.1,a4.2]⟩
       ·exact hT g h1 Qo hg
  ·have RC:=Ou RC;have hk8:k=8:=Qo;subst hk8;have hXw:Q0 [] w w4:=hx.trans hX
   have hNs:Ns [] w4 gs nb:=⟨λx hu=>by
     obtain⟨a1,a2,a3⟩:=Q4.1 hu;have:=hN x a1 Qo a3;rw[C' Qo] at this;exact this.cells Qs,λx hz hu=>by
     obtain⟨a1,a2,a3⟩:=Q4.1 hu;exact(hT x Qo Qo a3).2.1⟩
   refine XL 8 0 rfl (λj w5=>j<=8/\Q0 [] w4 w5/\∀g:Int,0<=g->g<(j:Int)->(gi gs g).used=true->0<=dep 3 gs g) (λw5 Sb _=>⟨Ic _,Sb,λg h0 h1=>by omega⟩) λj w5 _ ⟨hj,hX5,hD⟩=>⟨λIT=>?_,λRC=>?_⟩
   ·have IT:=Ot IT;have hj0:(0:Int)<=(j:Int):=Qo;have hjl:(j:Int)<(pl.length:Int):=Qo;have hO5:=hO.Wu hX5;have W8:=hO5.ix hj0 hjl;rw[hpl] at W8;refine⟨W8,gi pl (j:Int),hO5.rd ME.len Qs j hj0 hjl,ze0 gs 3 (j:Int) 0,λhs=>?_,λhb=>?_,λhb=>⟨⟨Qo,Qo⟩,λw6 Wt _=>Qp Qo ⟨Qo,hX5.trans Wt,λg h0 h1 hg=>?_⟩⟩⟩
    ·have hu:(gi gs (j:Int)).used=true:=by
      cases hq:(gi gs (j:Int)).used with
      | true=>rfl
      | false=>rw[hP2 j hj0 IT,hq] at hs; cases hs
     rw[hP2 j hj0 IT,C' hu];exact zzr (hNs.ext hX5) (Q4.2 ⟨hj0,Qo,hu⟩)
    ·intro w6 Wt;refine bad w6 ((hXw.trans hX5).trans Wt) λht=>?_
     simp only[A',Ij] at hb
     have hu:(gi gs (j:Int)).used=true:=by
      cases hq:(gi gs (j:Int)).used with
      | true=>rfl
      | false=>rw[hP2 j hj0 IT,hq] at hb; cases hb.1
     have hd:0<=dep 3 gs (j:Int):=by
      by_cases hj0':(j:Int)=0
      ·rw[hj0',Y6]; omega
      ·exact ht.dp j Qo IT hu
     have:=hb.2;unfold ze0 at this;rw[B' Qo] at this;omega
    ·by_cases hgj:g=(j:Int)
     ·subst hgj;have hpj:gi pl (j:Int)=some ⟨nb (j:Int),0,none⟩:=by rw[hP2 j hj0 IT,C' hg]
      rw[hpj] at hb;simp only[Option.isNone_some,Bool.not_false,Bool.true_and,decide_eq_false_iff_not] at hb;unfold ze0 at hb;have:=Oy gs 3 (j:Int)
      split at hb <;> omega
     ·exact hD g h0 Qo hg
   ·have RC:=Ou RC;have hj8:j=8:=Qo;subst hj8;have ht:Ye gs:=⟨hl8,ru,rp,rn,λg h1 h2 hg=>(hT g h1 h2 hg).1,λg h1 h2 hg=>(hT g h1 h2 hg).2.1,λg h1 h2 hg=>hD g Qo h2 hg,λg q a1 a2 a3 a4 a5=>(hT g Qo a3 a4).2.2 q a1 a2 a5⟩;intro w6 Wt;refine⟨some ⟨wr.heap.size,0,none⟩,8,8,true,rfl,(Tq.2 ht).symm,(hXw.trans hX5).trans Wt,λh=>(by cases h),λ_=>⟨rfl,pl,nb,hpl,?_,hP2,(hNs.ext hX5).ext Wt⟩⟩;exact((hO.Wu hX5).Wu Wt).rd ME.len Qs
theorem zhq{bs:List Nat}(h:G9 bs w o gs ms)(hl:gs.length<=maxLen):PX bs MK #[.slice o gs.length c] w (.bool (Ku gs)):=by
 refine BT λwr hx=>zhg o gs.length c (R:=λv w'=>v=.bool (Ku gs)/\Q0 [] wr w') ?_
 have h:=(h.ext hx).less (cs:=[]) Qs;intro w1 RR _;refine(zzs (h.ext RR) hl).mono λe w2 ⟨o',L,C,ok,he,hok,R0,_⟩=>⟨_,_,_,_,he,Z3,λw3 R3=>⟨by rw[hok],(RR.trans R0).trans R3⟩⟩
end
theorem XK{n k:Int}{w:Wo}{bs:List Nat}:PX bs Y1 #[I n,I k] w (I (Zh n k)):=
 Fe n k λwr hx=>by
  refine⟨_,Ud,_,λ_=>Qu,λh=>?_,λh=>?_⟩
  ·congr 1; unfold Zh; rw[B']; intro h2; simp only[A'] at h2; simp[h2] at h
  ·have h2:X6 k 1 20=true/\X6 n 0 100000000=true:=by simpa using h
   rw[Qx,Qx] at h2;have hm:=zl7 h2.2.1 h2.2.2 h2.1.1 h2.1.2;have hs:=zf2 h2.1.1 h2.1.2;unfold zj7 at hm hs;refine⟨⟨Qo,Uy Qo Qo⟩,Uy Qo Qo,?_⟩;rw[PI h2.2.1 h2.2.2 h2.1.1 h2.1.2]; rfl
theorem Hm{k:Int}{w:Wo}{bs:List Nat}:PX bs VK #[I k] w (I (Zw k)):=
 ze7 k λwr hx=>⟨_,XK,rfl⟩
def ZH(a b:Int):Int:=if a<b then a else b
def zl2(a b:Int):Int:=if a>b then a else b
theorem U5{a b:Int}{w:Wo}{bs:List Nat}:PX bs YZ #[I a,I b] w (I (ZH a b)):=
 zme a b λwr hx=>⟨λh=>by rw[ZH,C' (Ot h)],λh=>by rw[ZH,B' (Ou h)]⟩
theorem TZ{a b:Int}{w:Wo}{bs:List Nat}:PX bs YY #[I a,I b] w (I (zl2 a b)):=
 zmd a b λwr hx=>⟨λh=>by rw[zl2,C' (Ot h)],λh=>by rw[zl2,B' (Ou h)]⟩
def Yk(l k:Int):Int:=if (if Zw k<l then Zw k else l)>0 then (if Zw k<l then Zw k else l) else 0
theorem Yb(k:Int):0<=Zw k/\Zw k<=34686091440:=by
 unfold Zw
 by_cases h:1<=k/\k<=20
 ·rw[PI Qd Qd h.1 h.2];have:=zf2 h.1 h.2;omega
 ·rw[Dq Qo]; omega
theorem ZY(l k:Int):0<=Yk l k/\Yk l k<=Zw k:=by
 have:=Yb k;unfold Yk; by_cases h1:Zw k<l <;> simp only[h1,if_true,if_false] <;> split <;> omega
theorem KK{l k:Int}{w:Wo}{bs:List Nat}:PX bs UN #[I l,I k] w (I (Yk l k)):=
 zh6 l k λwr hx=>⟨_,K0,rfl⟩
theorem KO{l k:Int}{w:Wo}{bs:List Nat}:PX bs UP #[I l,I k] w (I (Yk l k)):=
 zie l k λwr hx=>by
  have hr:=Yb k;refine⟨_,Ud,λh=>?_,λh=>⟨_,TZ,_,Hm,_,U5,?_⟩⟩
  ·have h:X6 k 1 20=false:=by simpa using h
   rw[z0y] at h;have h0:Zw k=0:=Dq Qo
   congr 1; unfold Yk; rw[h0]; by_cases h1:0<l <;> simp only[h1,if_true,if_false] <;> (repeat' split) <;> omega
  ·congr 1; unfold Yk ZH zl2; by_cases h1:Zw k<l <;> simp only[h1,if_true,if_false] <;> by_cases h2:l>0 <;> simp only[h2,if_true,if_false] <;> (repeat' split) <;> omega
def Qe(n:Int):Int:=if X6 n (-10) 9 then 10-n else 0
theorem PZ{k:Int}{w:Wo}{bs:List Nat}:PX bs JE #[I k] w (I (Qe k)):=
 zau k λwr hx=>by
  refine⟨_,Pa,λh=>?_,λh=>?_⟩
  ·have h:X6 k (-10) 9=false:=by simpa using h
   rw[Qe,h]; rfl
  ·have h:X6 k (-10) 9=true:=by simpa using h
   have h2:=Qx.1 h;refine⟨Uy Qo Qo,?_⟩;rw[Qe,h]; rfl
structure P7 (b:Nat) (c:OA) (L N:Nat) (w:Wo):Prop where
 hd:∃(C:Nat) (p:Int),w.heap[b]? = some (.cells [.slice c L C,I p].toArray Pe (0,0))/\0<=p/\p<=N
 bytes:∀i<L,∃(a:Addr) (x:Int),c=some a/\a.block≠b/\0<=x/\x<=255/\w.cell? (a.add i)=some (.int .u8 x)
theorem P7.ext{b:Nat}{c:OA}{L N:Nat}{w w':Wo}{bs:List Nat}(h:P7 b c L N w)(hx:Q0 bs w w')(hb:b∉bs)(hc:∀a,c=some a->a.block∉bs\/L=0):P7 b c L N w':=by
 obtain⟨⟨C,p,h1,h2,h3⟩,hby⟩:=h;refine⟨⟨C,p,Qg h1 hx hb,h2,h3⟩,λi hi=>?_⟩;obtain⟨a,x,ha,fI,RR,R0,R3⟩:=hby i hi;refine⟨a,x,ha,fI,RR,R0,?_⟩
 have hbk:a.block∉bs:=by
  rcases hc a ha with h | h
  ·exact h
  ·omega
 obtain⟨a',e,_,h''⟩:=(show JO bs w c i (.int .u8 x) from ⟨a,ha,hbk,R3⟩).ext hx;rw[ha] at e; cases e; exact h''
theorem P7.Wu{b:Nat}{c:OA}{L N:Nat}{w w':Wo}(h:P7 b c L N w)(hx:Q0 [] w w'):P7 b c L N w':=h.ext hx Qs (λ_ _=>.inl Qs)
theorem P7.mono{b:Nat}{c:OA}{L N M:Nat}{w:Wo}(h:P7 b c L N w)(hm:N<=M):P7 b c L M w:=by
 obtain⟨⟨C,p,h1,h2,h3⟩,hby⟩:=h;exact⟨⟨C,p,h1,h2,Qo⟩,hby⟩
theorem P7.lt{b:Nat}{c:OA}{L N:Nat}{w:Wo}(h:P7 b c L N w):b<w.heap.size:=by
 obtain⟨⟨C,p,h1,h2,h3⟩,hby⟩:=h;exact Yt h1
theorem P7.ltc{b:Nat}{c:OA}{L N:Nat}{w:Wo}(h:P7 b c L N w)(a:Addr)(ha:c=some a):a.block<w.heap.size\/L=0:=by
 rcases Nat.eq_zero_or_pos L with h0 | h0
 ·exact .inr h0
 ·obtain⟨a',x,ha',fI,RR,R0,R3⟩:=h.bytes 0 h0;rw[ha] at ha'; cases ha';have:=World.block_lt_of_cell? w _ R3;rw[ZK] at this;exact .inl this
theorem P7.Ci8{b:Nat}{c:OA}{L N M:Nat}{w0 w w':Wo}{bs:List Nat}(h0:P7 b c L M w0)(h:P7 b c L N w)(hx:Q0 bs w w')(hb:∀x∈bs,w0.heap.size<=x):P7 b c L N w':=
 h.ext hx (λhm=>by have:=hb _ hm; have:=h0.lt; omega) λa ha=>by
  rcases h0.ltc a ha with hl | hl
  ·exact .inl λhm=>by have:=hb _ hm; omega
  ·exact .inr hl
def zb9(n v:Int):Prop:=0<=v/\(n<1->v=0)/\(1<=n->v<n)
theorem zjr{x n:Int}(hx:0<=x)(hn:1<=n):zb9 n (Int.tmod x n):=by
 refine⟨Int.tmod_nonneg _ hx,Qo,λ_=>Int.tmod_lt_of_pos _ Qo⟩
theorem zrd{x y:Int}(h1:0<=x)(h2:x<=9223372036854775807)(h3:0<=y)(h4:y<=9223372036854775807):0<=O9 .xor .i64 x y:=by
 have IT:(BitVec.ofInt 64 x ^^^ BitVec.ofInt 64 y).toNat<2 ^ 63:=by
  rw[BitVec.toNat_xor];refine Nat.xor_lt_two_pow ?_ ?_
  ·rw[BitVec.toNat_ofInt]; omega
  ·rw[BitVec.toNat_ofInt]; omega
 have h:=Qr.wrap (k:=.i64) (z:=((BitVec.ofInt 64 x ^^^ BitVec.ofInt 64 y).toNat:Int)) (Uy Qo Qo);show 0<=IntKind.i64.wrap ((BitVec.ofInt 64 x ^^^ BitVec.ofInt 64 y).toNat:Int);rw[h]; omega
theorem zei{b:Nat}{c:OA}{L N:Nat}{w:Wo}{n:Int}(h:P7 b c L N w)(hN:N<=1000000000000) :
  Cz Q3 #[.pointer (some ⟨b,0,none⟩),I n] w λe w'=>∃v,e=.returned (I v)/\zb9 n v/\P7 b c L (N+1) w'/\Q0 [b] w w':=by
 refine(Bc (some ⟨b,0,none⟩) n (R:=λv w'=>∃x,v=I x/\zb9 n x/\P7 b c L (N+1) w'/\Q0 [b] w w') ?_).mono λe w' ⟨v,he,x,hv,h1,h2,h3⟩=>⟨x,by rw[he,hv],h1,h2,h3⟩
 obtain⟨C,p,hh,hp0,hpN⟩:=h.hd;have hs:=U6 (k:=0) (n:=1) (vs:=[I (p+1)]) hh;have hxt:Q0 [b] w (R5 w (some ⟨b,0,none⟩) 1 [I (p+1)]):=X3 λa ha=>by cases ha; exact Iz.2 rfl
 generalize wR:R5 w (some ⟨b,0,none⟩) 1 [I (p+1)]=w1 at hs hxt;have hs:w1.heap[b]? = some (.cells [.slice c L C,I (p+1)].toArray Pe (0,0)):=hs;have hc:Q1 [] w1 (some ⟨b,0,none⟩) (0+0) [.slice c L C]:=Ym hs Qs rfl;have hpp:Q1 [] w1 (some ⟨b,0,none⟩) (0+1) [I (p+1)]:=Ym hs Qs rfl
 have hby:∀i:Int,0<=i->i<L->∃x:Int,0<=x/\x<=255/\c.isSome=true/\Q1 [] w1 c (Int.toNat i*1) [.int .u8 x]:=λi h0 hi=>by
  obtain⟨a,x,ha,fI,RR,R0,R3⟩:=h.bytes i.toNat Qo;refine⟨x,RR,R0,by rw[ha]; rfl,?_⟩;have:=(show JO [b] w c i.toNat (.int .u8 x) from ⟨a,ha,by simpa using fI,R3⟩).ext hxt;rw[Nat.mul_one];exact XG (this.less Qs)
 have fin:∀(v:Int),zb9 n v->∀wr,Q0 [] w1 wr->∃x,I v=I x/\zb9 n x/\P7 b c L (N+1) wr/\Q0 [b] w wr:=λv hv wr hr=>
  ⟨v,rfl,hv,P7.Wu ⟨⟨C,p+1,hs,Qo,Qo⟩,λi hi=>by
   obtain⟨a,x,ha,fI,RR,R0,R3⟩:=h.bytes i hi;have:=(show JO [b] w c i (.int .u8 x) from ⟨a,ha,by simpa using fI,R3⟩).ext hxt;obtain⟨a',ha',_,hc'⟩:=this;rw[ha] at ha'; cases ha';exact⟨a,x,ha,fI,RR,R0,hc'⟩⟩ hr,hxt.trans hr.of_nil⟩
 refine⟨rfl,p,Ym hh Qs rfl,Uy Qo Qo,rfl,U7 hh Qs Qs,?_⟩;rw[show (0+1:Nat)=1 from rfl,wR];refine⟨λ_=>rfl,c,L,C,λ_=>hc,λh=>?_,λh=>?_⟩
 ·simp only[Iu,Ij,Is] at h;refine fin 0 ⟨Qo,Qo,λhn=>by omega⟩
 ·have h:1<=n/\L≠0:=by simpa using h
  refine⟨rfl,p+1,hpp,Uy Qo Qo,rfl,c,L,C,hc,λIT=>?_,λIT=>?_⟩
  ·have IT:=Ot IT;obtain⟨x,RR,R0,R3,Si⟩:=hby (p+1-1) Qo IT;exact⟨rfl,c,L,C,hc,⟨Qo,IT,R3⟩,x,Si,Uy Qo Qo,Qo,fin _ (zjr RR h.1)⟩
  ·have hLp:(0:Int)<(L:Int):=Qo;have hm1:=Int.tmod_nonneg (L:Int) (show 0<=p+1-1 by omega);have hm2:=Int.tmod_lt_of_pos (p+1-1) hLp;have hm3:=Int.tmod_nonneg (L:Int) (show 0<=(p+1-1)*7+3 by omega);have hm4:=Int.tmod_lt_of_pos ((p+1-1)*7+3) hLp;have hd1:0<=Int.tdiv (p+1-1) (L:Int):=Int.tdiv_nonneg Qo Qo
   have hd2:Int.tdiv (p+1-1) (L:Int)<=p+1-1:=by
    rw[Int.tdiv_eq_ediv_of_nonneg Qo]; exact Int.ediv_le_self _ Qo
   obtain⟨x1,RR,R0,R3,Si⟩:=hby _ hm1 hm2;obtain⟨x2,aR,Sm,dG,fL⟩:=hby _ hm3 hm4;have hX0:0<=(x1*131+x2*1117+(p+1-1)*29)+Int.tdiv (p+1-1) (L:Int)*53:=Qo;have hX1:(x1*131+x2*1117+(p+1-1)*29)+Int.tdiv (p+1-1) (L:Int)*53<=1000000000000000:=Qo;have hq0:=Int.tdiv_nonneg hX0 (show (0:Int)<=64 by decide)
   have hq1:Int.tdiv ((x1*131+x2*1117+(p+1-1)*29)+Int.tdiv (p+1-1) (L:Int)*53) 64<=(x1*131+x2*1117+(p+1-1)*29)+Int.tdiv (p+1-1) (L:Int)*53:=by
    rw[Int.tdiv_eq_ediv_of_nonneg hX0]; exact Int.ediv_le_self _ hX0
   refine⟨rfl,c,L,C,hc,rfl,c,L,C,hc,Qo,⟨hm1,hm2,R3⟩,x1,Si,Uy Qo Qo,Uy Qo Qo,rfl,c,L,C,hc,Uy Qo Qo,Uy Qo Qo,rfl,c,L,C,hc,Qo,⟨hm3,hm4,dG⟩,x2,fL,
    Uy Qo Qo,Uy Qo Qo,Uy Qo Qo,Uy Qo Qo,Uy Qo Qo,rfl,c,L,C,hc,⟨Qo,Uy Qo Qo⟩,Uy Qo Qo,Uy Qo Qo,⟨Qd,Uy Qo Qo⟩,Qo,?_⟩
   exact fin _ (zjr (zrd hX0 Qo hq0 Qo) h.1)
section
open Go.RowKit Go.ChangeShapes
section
variable {H:Type}{en:TypeId×Va->H}{w:Wo}{base:Nat}{spare:Nat->Bool}{held:Bool}{fuel:Nat}{cs:List Va}{x:DataW H×List MemPlace}
structure MW where
 cO:OA
 cC:Nat
 tO:OA
 tC:Nat
 gO:OA
 gC:Nat
 ms:Nat->MG
def Qb(W:Q8)(m:MW):List Va:=[.int .i64 W.now,.slice m.cO W.ID.length m.cC,.slice m.tO W.tasks.length m.tC,.slice m.gO W.IC.length m.gC]
structure XF (bs:List Nat) (w:Wo) (W:Q8) (m:MW):Prop where
 c:z28 bs w m.cO W.ID
 t:zu6 bs w m.tO W.tasks
 g:G9 bs w m.gO W.IC m.ms
theorem XF.ext{bs:List Nat}{w w':Wo}{W:Q8}{m:MW}(h:XF bs w W m)(hx:Q0 bs w w'):XF bs w' W m:=⟨h.c.ext hx,h.t.ext hx,h.g.ext hx⟩
theorem XF.less{bs cs:List Nat}{w:Wo}{W:Q8}{m:MW}(h:XF bs w W m)(hs:∀x∈cs,x∈bs):XF cs w W m:=⟨h.c.less hs,h.t.less hs,h.g.less hs⟩
theorem XF.wide{bs cs:List Nat}{w:Wo}{W:Q8}{m:MW}(h:XF bs w W m)(hs:∀x∈cs,x∈bs\/w.heap.size<=x):XF cs w W m:=⟨h.c.wide hs,h.t.wide hs,h.g.wide hs⟩
end
end
def UC(k:Nat):Int:=1*2 ^ (min (Int.toNat (k:Int)) 64)
def O7(m:Int):Bool:=X6 m 0 15
def Z1(m c:Int):Bool:=(O7 m&&X6 c 0 3)&&(Int.tmod (Int.fdiv m (2 ^ (min (Int.toNat c) 64))) 2==1)
def O2(a b:Int):Int:=if O7 a=true/\O7 b=true then O9 .and .i64 a b else 0
def zc0(a b:Int):Nat->Int
 | 0=>0
 | k+1=>if (Z1 a (k:Int)&&Z1 b (k:Int))=true then zc0 a b k+UC k else zc0 a b k
theorem Kq{m:Int}(h:O7 m=true):∃f:Fin 16,m=(f.val:Int):=by
 have:=Qx.1 h;exact⟨⟨m.toNat,Qo⟩,by show m=((m.toNat:Nat):Int); omega⟩
theorem zvl:∀a b:Fin 16,zc0 (a.val:Int) (b.val:Int) 4=O9 .and .i64 (a.val:Int) (b.val:Int):=by decide +kernel
theorem zvm:∀a b:Fin 16,0<=O9 .and .i64 (a.val:Int) (b.val:Int)/\O9 .and .i64 (a.val:Int) (b.val:Int)<=15:=by decide +kernel
theorem zvj:∀a b:Fin 16,O9 .and .i64 (a.val:Int) (b.val:Int)=O9 .and .i64 (b.val:Int) (a.val:Int):=by decide +kernel
theorem zvi:∀a b c:Fin 16,O9 .and .i64 (O9 .and .i64 (a.val:Int) (b.val:Int)) (c.val:Int)=O9 .and .i64 (a.val:Int) (O9 .and .i64 (b.val:Int) (c.val:Int)):=by decide +kernel
theorem zvk:∀(a b:Fin 16) (c:Fin 4),Z1 (O9 .and .i64 (a.val:Int) (b.val:Int)) (c.val:Int)=(Z1 (a.val:Int) (c.val:Int)&&Z1 (b.val:Int) (c.val:Int)):=by decide +kernel
theorem zvh:∀a:Fin 16,O9 .and .i64 (a.val:Int) 0=0:=by decide +kernel
theorem zbt(a b:Int):O7 (O2 a b)=true:=by
 unfold O2;split
 ·rename_i h;obtain⟨x,rfl⟩:=Kq h.1;obtain⟨y,rfl⟩:=Kq h.2;exact Qx.2 (zvm x y)
 ·exact Qx.2 Qd
theorem Pb{a b:Int}(ha:O7 a=true)(hb:O7 b=true):O2 a b=O9 .and .i64 a b:=by unfold O2; rw[C' ⟨ha,hb⟩]
theorem XM{a b:Int}(h:O7 a=false\/O7 b=false):O2 a b=0:=by
 unfold O2;rw[B'];rintro⟨h1,h2⟩;rcases h with h | h
 ·rw[h1] at h; cases h
 ·rw[h2] at h; cases h
theorem Ad(a b:Int):O2 a b=O2 b a:=by
 cases ha:O7 a with
 | false=>rw[XM (.inl ha),XM (.inr ha)]
 | true=>
  cases hb:O7 b with
  | false=>rw[XM (.inr hb),XM (.inl hb)]
  | true=>
   rw[Pb ha hb,Pb hb ha];obtain⟨x,rfl⟩:=Kq ha;obtain⟨y,rfl⟩:=Kq hb;exact zvj x y
theorem De(a:Int):O2 a 0=0:=by
 cases ha:O7 a with
 | false=>exact XM (.inl ha)
 | true=>
  rw[Pb ha Qd];obtain⟨x,rfl⟩:=Kq ha;exact zvh x
theorem zqi(a b c:Int):O2 (O2 a b) c=O2 a (O2 b c):=by
 cases hb:O7 b with
 | false=>rw[XM (a:=a) (.inr hb),XM (b:=c) (.inl hb),Ad 0 c,De,De]
 | true=>
  cases ha:O7 a with
  | false=>rw[XM (b:=b) (.inl ha),XM (b:=O2 b c) (.inl ha),Ad,De]
  | true=>
   cases hc:O7 c with
   | false=>rw[XM (a:=O2 a b) (.inr hc),XM (a:=b) (.inr hc),De]
   | true=>
    have h1:=zbt a b;have h2:=zbt b c;rw[Pb h1 hc,Pb ha h2,Pb ha hb,Pb hb hc];obtain⟨x,rfl⟩:=Kq ha;obtain⟨y,rfl⟩:=Kq hb;obtain⟨z,rfl⟩:=Kq hc;exact zvi x y z
theorem OX{m c:Int}(h:Z1 m c=true):O7 m=true/\0<=c/\c<=3:=by
 unfold Z1 at h;simp only[A'] at h;exact⟨h.1.1,Qx.1 h.1.2⟩
theorem zob{a b c:Int}(h:Z1 (O2 a b) c=true):Z1 a c=true/\Z1 b c=true:=by
 have hr:=OX h
 have hz:Z1 0 c=false:=by
  have:c=0\/c=1\/c=2\/c=3:=Qo;rcases this with rfl | rfl | rfl | rfl <;> decide
 cases ha:O7 a with
 | false=>rw[XM (.inl ha),hz] at h; cases h
 | true=>
  cases hb:O7 b with
  | false=>rw[XM (.inr hb),hz] at h; cases h
  | true=>
   rw[Pb ha hb] at h;obtain⟨x,rfl⟩:=Kq ha;obtain⟨y,rfl⟩:=Kq hb;have:=zvk x y ⟨c.toNat,Qo⟩;rw[show ((⟨c.toNat,Qo⟩:Fin 4).val:Int)=c by show ((c.toNat:Nat):Int)=c; omega] at this;rw[this] at h
   simpa using h
def VI(cs:List KV):Nat->Int
 | 0=>0
 | k+1=>if (gi cs (k:Int)).up=true then VI cs k+UC k else VI cs k
def Ue(cs:List KV):Int:=VI cs cs.length
theorem Do(cs:List KV):∀k:Nat,k<=4->0<=VI cs k/\VI cs k<UC k
 | 0,_=>by simp[VI,UC]
 | k+1,h=>by
  have ih:=Do cs k Qo
  have hb:UC (k+1)=2*UC k/\0<=UC k:=by
   have:k=0\/k=1\/k=2\/k=3:=Qo;rcases this with rfl | rfl | rfl | rfl <;> decide
  simp only[VI]
  split <;> omega
theorem NI{k:Nat}(h:k<=4):1<=UC k/\UC k<=16:=by
 have:k=0\/k=1\/k=2\/k=3\/k=4:=Qo;rcases this with rfl | rfl | rfl | rfl | rfl <;> decide
theorem z0p{cs:List KV}(h:cs.length<=4):O7 (Ue cs)=true:=by
 have:=Do cs cs.length h;have:=NI h;exact Qx.2 (by unfold Ue; omega)
theorem z2n:∀(k:Fin 4) (s:Fin 8),(s.val:Int)<UC k.val->O9 .or .i64 (s.val:Int) (UC k.val)=(s.val:Int)+UC k.val:=by decide +kernel
theorem z2m{k:Nat}{s:Int}(hk:k<4)(h0:0<=s)(h1:s<UC k):O9 .or .i64 s (UC k)=s+UC k:=by
 have hb:UC k<=8:=by
  have:k=0\/k=1\/k=2\/k=3:=Qo;rcases this with rfl | rfl | rfl | rfl <;> decide
 have:=z2n ⟨k,hk⟩ ⟨s.toNat,Qo⟩;rw[show ((⟨s.toNat,Qo⟩:Fin 8).val:Int)=s by show ((s.toNat:Nat):Int)=s; omega] at this;exact this h1
theorem znt:∀(k:Fin 4) (s:Fin 8) (c:Fin 4),(s.val:Int)<UC k.val->Z1 ((s.val:Int)+UC k.val) (c.val:Int)=(decide (c.val=k.val)||Z1 (s.val:Int) (c.val:Int)):=by decide +kernel
theorem zb4(cs:List KV){c:Int}:∀k:Nat,k<=4->Z1 (VI cs k) c=true->c<(k:Int)/\(gi cs c).up=true
 | 0,_,h=>by
  have hr:=OX h;have:c=0\/c=1\/c=2\/c=3:=Qo;rcases this with rfl | rfl | rfl | rfl <;> exact Ir h (by simp only[VI]; decide)
 | k+1,hk,h=>by
  have hr:=OX h;have ih:=zb4 cs (c:=c) k Qo;have hl:=Do cs k Qo
  have hb:UC k<=8:=by
   have:k=0\/k=1\/k=2\/k=3:=Qo;rcases this with rfl | rfl | rfl | rfl <;> decide
  simp only[VI] at h
  split at h
  ·rename_i hu;have:=znt ⟨k,Qo⟩ ⟨(VI cs k).toNat,Qo⟩ ⟨c.toNat,Qo⟩;rw[show ((⟨(VI cs k).toNat,Qo⟩:Fin 8).val:Int)=VI cs k by show (((VI cs k).toNat:Nat):Int)=VI cs k; omega,show ((⟨c.toNat,Qo⟩:Fin 4).val:Int)=c by show ((c.toNat:Nat):Int)=c; omega] at this;rw[this hl.2] at h;simp only[Iu,Ij] at h;rcases h with h | h
   ·have:c=(k:Int):=Qo;subst this;exact⟨Qo,hu⟩
   ·have:=ih h;exact⟨Qo,this.2⟩
  ·have:=ih h;exact⟨Qo,this.2⟩
def Vj:Nat->List ZX->Int->List Int
 | 0,_,_=>[]
 | f+1,gs,g=>if g=0 then [] else g::Vj f gs (gi gs g).parent
abbrev Zd(gs:List ZX)(g:Int):List Int:=Vj 3 gs g
theorem Zs(gs:List ZX)(f:Nat):Vj f gs 0=[]:=by cases f <;> simp[Vj]
theorem zuj{gs:List ZX}(ht:Ye gs):∀(f f':Nat) (h:Int),Q7 gs h=true->dep 3 gs h<=f->dep 3 gs h<=f'->Vj f gs h=Vj f' gs h:=by
 intro f
 induction f with
 | zero=>
  intro f' h hu h1 h2
  have hz:h=0:=Iq λhz=>by
   obtain⟨_,_,_,d,e,_⟩:=Yf ht hu hz;omega
  subst hz;rw[Zs,Zs]
 | succ f ih=>
  intro f' h hu h1 h2
  by_cases hz:h=0
  ·subst hz;rw[Zs,Zs]
  ·obtain⟨hp,_,_,d,e,e2,_⟩:=Yf ht hu hz
   cases f' with
   | zero=>omega
   | succ f'=>
    simp only[Vj];rw[B' hz,B' hz,ih f' (gi gs h).parent hp Qo Qo]
theorem YU{gs:List ZX}(ht:Ye gs){h:Int}(hu:Q7 gs h=true)(hz:h≠0):Zd gs h=h::Zd gs (gi gs h).parent:=by
 obtain⟨hp,_,_,d,e,e2,hd⟩:=Yf ht hu hz;show Vj 3 gs h=_;rw[show Vj 3 gs h=if h=0 then [] else h::Vj 2 gs (gi gs h).parent from rfl,B' hz,zuj ht 2 3 _ hp Qo Qo]
theorem K7{gs:List ZX}(ht:Ye gs){Q:Int->Prop}(h0:Q 0)(hs:∀h:Int,Q7 gs h=true->h≠0->Q (gi gs h).parent->Q h):∀h:Int,Q7 gs h=true->Q h:=by
 have key:∀(n:Nat) (h:Int),Q7 gs h=true->dep 3 gs h<=n->Q h:=by
  intro n
  induction n with
  | zero=>
   intro h hu hd
   by_cases hz:h=0
   ·subst hz; exact h0
   ·obtain⟨_,_,_,d,e,_⟩:=Yf ht hu hz;omega
  | succ n ih=>
   intro h hu hd
   by_cases hz:h=0
   ·subst hz; exact h0
   ·obtain⟨hp,_,_,d,e,e2,_⟩:=Yf ht hu hz;exact hs h hu hz (ih _ hp Qo)
 intro h hu;have:=Oy gs 3 h;exact key 3 h hu Qo
theorem zxg{gs:List ZX}(ht:Ye gs){h:Int}(hu:Q7 gs h=true):Zd gs h++[0]=h::(Zd gs h).map λx=>(gi gs x).parent:=by
 refine K7 ht (Q:=λh=>Zd gs h++[0]=h::(Zd gs h).map λx=>(gi gs x).parent) (by simp[Zd,Zs]) (λh hu hz ih=>?_) h hu;rw[YU ht hu hz,List.cons_append,ih,List.map_cons]
def Ts(gs:List ZX)(g u:Int):Int:=(Zd gs g++[0]).foldl (λs x=>O2 s (gi gs x).ID) u
def zo0(gs:List ZX)(g:Int):Int:=(Zd gs g).foldl (λs x=>O2 s (gi gs (gi gs x).parent).ID) (gi gs g).ID
theorem znn(f:Int->Int):∀(l:List Int) (m u:Int),O2 (l.foldl (λs x=>O2 s (f x)) m) u=l.foldl (λs x=>O2 s (f x)) (O2 u m)
 | [],m,u=>Ad m u
 | x::l,m,u=>by
  simp only[List.foldl_cons];rw[znn f l,zqi]
theorem zxw{gs:List ZX}(ht:Ye gs){g u:Int}(hu:Q7 gs g=true):O2 (zo0 gs g) u=Ts gs g u:=by
 unfold zo0 Ts;rw[zxg ht hu,List.foldl_cons,List.foldl_map,znn (λx=>(gi gs (gi gs x).parent).ID)]
theorem zsj{gs:List ZX}{g u c:Int}(h:Z1 (Ts gs g u) c=true):Z1 u c=true:=by
 unfold Ts at h
 revert h
 generalize Zd gs g++[0]=l
 induction l generalizing u with
 | nil=>exact λh=>h
 | cons x l ih=>
  intro h;rw[List.foldl_cons] at h;exact(zob (ih h)).1
def Qn(W:Q8)(g mask:Int):Int:=
 if O2 mask (Ts W.IC g (Ue W.ID))≠0 then O2 mask (Ts W.IC g (Ue W.ID)) else if Ts W.IC g (Ue W.ID)≠0 then Ts W.IC g (Ue W.ID) else Ue W.ID
theorem zkg{W:Q8}{g mask c:Int}(h:Z1 (Qn W g mask) c=true):Z1 (Ue W.ID) c=true:=by
 unfold Qn at h
 split at h
 ·exact zsj (zob h).2
 ·split at h
  ·exact zsj h
  ·exact h
def VH(l:List Int):Nat->Int
 | 0=>0
 | k+1=>VH l k+gi l (k:Int)
def Oe(p:Nat->Bool):Nat->Bool
 | 0=>false
 | k+1=>Oe p k||p k
theorem ED{p:Nat->Bool}:∀{n:Nat},Oe p n=true↔∃j,j<n/\p j=true
 | 0=>by simp[Oe]
 | n+1=>by
  simp only[Oe,Iu,ED (n:=n)];constructor
  ·rintro (⟨j,hj,h⟩ | h)
   ·exact⟨j,Qo,h⟩
   ·exact⟨n,Qo,h⟩
  ·rintro⟨j,hj,h⟩
   by_cases hjn:j=n
   ·subst hjn; exact .inr h
   ·exact .inl ⟨j,Qo,h⟩
theorem zkw{p:Nat->Bool}{n:Nat}(h:∀j,j<n->p j=false):Oe p n=false:=by
 cases ha:Oe p n with
 | false=>rfl
 | true=>
  obtain⟨j,hj,hp⟩:=ED.1 ha;rw[h j hj] at hp; cases hp
noncomputable def Ul(P:Prop):Bool:=@decide P (Classical.propDecidable P)
theorem Qm{P:Prop}:Ul P=true↔P:=@decide_eq_true_iff P (Classical.propDecidable P)
theorem H1{P:Prop}:Ul P=false↔¬P:=by
 constructor
 ·intro h hp;rw[Qm.2 hp] at h; cases h
 ·intro h
  cases hb:Ul P with
  | false=>rfl
  | true=>exact Ir (Qm.1 hb) h
theorem Ma{b:Bool}{P:Prop}(h:b=true↔P):Value.bool b=.bool (Ul P):=by
 have:b=Ul P:=by
  cases hb:Ul P with
  | true=>exact h.2 (Qm.1 hb)
  | false=>
   cases hc:b with
   | false=>rfl
   | true=>exact Ir (h.1 hc) (H1.1 hb)
 rw[this]
theorem GB{P:Prop}(h:¬P):Value.bool false=.bool (Ul P):=by rw[H1.2 h]
theorem zpd{P:Prop}(h:P):Value.bool true=.bool (Ul P):=by rw[Qm.2 h]
def Q6(W:Q8)(t:Int):KW:=gi W.tasks t
def Qc(W:Q8)(g c:Int):GO:=gi (gi W.IC g).IE c
def ZO(v:Int):Bool:=X6 v 0 100000000000000000
theorem YV{v:Int}:ZO v=true↔0<=v/\v<=100000000000000000:=Qx
def OY(b:Vv):Bool:=((((b.IX==0)&&(b.Rx==0))&&(b.Sr==0))&&(((b.locals.length:Nat):Int)==0))&&(((b.Rz.length:Nat):Int)==0)
structure Pg (b:Vv):Prop where
 q1:1<=b.IX
 q2:b.IX<=10000
 l1:1<=b.locals.length
 l2:b.locals.length<=4
 dl:b.Rz.length=b.locals.length
 p1:0<=b.Rx
 p2:b.Rx<=b.IX
 s1:0<=b.Sr
 s2:b.Sr<=b.IX
 each:∀c:Int,0<=c->c<(b.locals.length:Int)->0<=gi b.locals c/\gi b.locals c<=b.IX/\(gi b.Rz c=true->gi b.locals c=0/\b.Rx=0)
 sum:b.Rx+b.Sr+VH b.locals b.locals.length=b.IX
structure zpj (W:Q8) (k:Int) (g:ZX):Prop where
 w1:1<=g.weight
 w2:g.weight<=20
 m:O7 g.ID=true
 m0:g.ID≠0
 s:ZO g.sum=true
 len:g.IE.length=W.ID.length
 root:k=0->g.weight=10/\g.ID=15/\g.IS.IX=0
 none:g.IS.IX=0->OY g.IS=true/\g.period=0/\g.next=0
 IS:g.IS.IX≠0->Pg g.IS/\g.IS.locals.length=W.ID.length/\1<=g.period/\g.period<=1000/\W.now<g.next/\g.next-W.now<=g.period
structure zva (g:ZX):Prop where
 p:g.parent=0
 n:g.name=⟨[].toArray⟩
 w:g.weight=0
 c:g.ID=0
 pe:g.period=0
 ne:g.next=0
 s:g.sum=0
 l:g.IE.length=0
 b:OY g.IS=true
def Kz(W:Q8)(k:Int):Prop:=((gi W.IC k).used=false->zva (gi W.IC k))/\((gi W.IC k).used=true->zpj W k (gi W.IC k))
structure WA (W:Q8):Prop where
 n1:0<=W.now
 n2:W.now<=100000000000000000
 c1:1<=W.ID.length
 c2:W.ID.length<=4
 t:W.tasks.length=12
 tree:Ye W.IC
 ups:Ue W.ID≠0
 grp:∀k:Int,0<=k->k<8->Kz W k
def UD(W:Q8)(g c:Int):Bool:=decide ((gi W.IC g).IS.IX>0)&&gi (gi W.IC g).IS.Rz c
def Pp(W:Q8)(g c:Int)(j:Nat):Bool:=(((gi W.tasks (j:Int)).state==1)&&((gi W.tasks (j:Int)).group==g))&&((gi W.tasks (j:Int)).J'==c)
def Jy(W:Q8)(g c:Int)(j:Nat):Bool:=(decide (1<=j)&&((gi W.IC (j:Int)).used&&((gi W.IC (j:Int)).parent==g)))&&(Qc W (j:Int) c).on
def QX(W:Q8)(g c:Int):Bool:=Oe (Pp W g c) W.tasks.length||Oe (Jy W g c) W.IC.length
def VC(W:Q8)(g c:Int):Bool:=(Zd W.IC g).all λx=>(Qc W x c).on
def ZL(W:Q8)(t:Int):Bool:=((Q6 W t).state==1)&&VC W (Q6 W t).group (Q6 W t).J'
def KT(v f k:Int):Bool:=decide (v>=f)&&decide (IntKind.i64.wrap (v-f)<=Zw k)
def Ov(W:Q8)(g c WV:Int):Bool:=(Zd W.IC g).all λx=>decide ((Qc W x c).v-(Qc W (gi W.IC x).parent c).floor<=Zh WV (Qc W x c).w)
def Kc(W:Q8)(c:Int):Bool:=
 decide ((Q6 W (gi W.ID c).cur).v-(Qc W (Q6 W (gi W.ID c).cur).group c).floor<=Zh (gi W.ID c).WV (Qe (Q6 W (gi W.ID c).cur).nice))&&Ov W (Q6 W (gi W.ID c).cur).group c (gi W.ID c).WV
def Ow:KW:=⟨0,0,0,0,0,0,0,0,0⟩
structure zyt (W:Q8) (x:KW):Prop where
 st:x.state=1\/x.state=2
 g:Q7 W.IC x.group=true
 n:Qe x.nice≠0
 m:O7 x.mask=true
 m0:x.mask≠0
 v:ZO x.v=true
 s:ZO x.sum=true
 u:ZO x.used=true
 l1:0<=x.load
 l2:x.load<=8000000
 c:Z1 (Qn W x.group x.mask) x.J'=true
 f:x.state=1->KT x.v (Qc W x.group x.J').floor (Qe x.nice)=true
def C4(W:Q8)(t:Int):Prop:=(Q6 W t).state=0/\Q6 W t=Ow\/(Q6 W t).state≠0/\zyt W (Q6 W t)
structure KA (W:Q8) (k c:Int):Prop where
 f:ZO (Qc W k c).floor=true
 v:ZO (Qc W k c).v=true
 s:ZO (Qc W k c).sum=true
 w1:1<=(Qc W k c).w
 w2:(Qc W k c).w<=20
 root:k=0->(Qc W k c).on=false/\(Qc W k c).v=0/\(Qc W k c).w=10
 on:k≠0->(Qc W k c).on=(QX W k c && !UD W k c)
 st:k≠0->(Qc W k c).on=true->KT (Qc W k c).v (Qc W (gi W.IC k).parent c).floor (Qc W k c).w=true
structure Nf (W:Q8) (c:Int):Prop where
 b:ZO (gi W.ID c).busy=true
 i:ZO (gi W.ID c).idle=true
 c1 : -1<=(gi W.ID c).cur
 c2:(gi W.ID c).cur<(W.tasks.length:Int)
 no:(gi W.ID c).cur<0->(gi W.ID c).WV=0
 yes:0<=(gi W.ID c).cur->(gi W.ID c).up=true/\1<=(gi W.ID c).WV/\(gi W.ID c).WV<=149/\(Q6 W (gi W.ID c).cur).J'=c/\ZL W (gi W.ID c).cur=true/\Kc W c=true
structure Jq (W:Q8):Prop where
 a:WA W
 t:∀t:Int,0<=t->t<12->C4 W t
 s:∀k c:Int,0<=k->k<8->0<=c->c<((gi W.IC k).IE.length:Int)->KA W k c
 c:∀c:Int,0<=c->c<(W.ID.length:Int)->Nf W c
noncomputable def QB(W:Q8):Bool:=Ul (Jq W)
section
variable {W:Q8}
theorem WA.gl(h:WA W):W.IC.length=8:=h.tree.len
theorem WA.u(h:WA W){g:Int}(hu:Q7 W.IC g=true):0<=g/\g<8/\zpj W g (gi W.IC g):=by
 obtain⟨a,b,c⟩:=Q4.1 hu;have:=h.gl;exact⟨a,Qo,(h.grp g a Qo).2 c⟩
theorem WA.root(h:WA W):Q7 W.IC 0=true:=Q4.2 ⟨Qd,by have:=h.gl; omega,h.tree.ru⟩
theorem WA.sl(h:WA W){g:Int}(hu:Q7 W.IC g=true):(gi W.IC g).IE.length=W.ID.length:=(h.u hu).2.2.len
theorem WA.up(h:WA W){g:Int}(hu:Q7 W.IC g=true)(hz:g≠0):Q7 W.IC (gi W.IC g).parent=true:=(Yf h.tree hu hz).1
theorem WA.dl(h:WA W){g:Int}(hu:Q7 W.IC g=true)(hq:(gi W.IC g).IS.IX≠0):(gi W.IC g).IS.Rz.length=W.ID.length/\(gi W.IC g).IS.locals.length=W.ID.length:=by
 have hb:=(h.u hu).2.2.IS hq;exact⟨by rw[hb.1.dl,hb.2.1],hb.2.1⟩
end
theorem X0{v:Int}{w:Wo}{bs:List Nat}:PX bs ZS #[I v] w (.bool (ZO v)):=zij v λwr hx=>⟨_,Qu,rfl⟩
theorem ZA{n:Int}{w:Wo}{bs:List Nat}:PX bs Za #[I n] w (I (Qe n)):=
 za0 n λwr hx=>⟨_,Qu,λg=>by
  unfold Qe; rw[B' (by simpa using g)],λg=>by
  have g':X6 n (-10) 9=true:=by simpa using g
  have:=Qx.1 g';refine⟨⟨Qo,Qo⟩,?_⟩;unfold Qe; rw[C' g']⟩
theorem XA{m:Int}{w:Wo}{bs:List Nat}:PX bs Y7 #[I m] w (.bool (O7 m)):=zif m λwr hx=>⟨_,Qu,rfl⟩
theorem Ya{m c:Int}{w:Wo}{bs:List Nat}:PX bs Zo #[I m,I c] w (.bool (Z1 m c)):=
 ze9 m c λwr hx=>by
  have hr:(O7 m&&X6 c 0 3)=true->0<=c/\c<=3:=λg=>by
   simp only[A'] at g;exact Qx.1 g.2
  exact⟨_,XA,_,λ_=>Qu,λg=>by have:=hr g; exact⟨Qo,by show c<=18446744073709551615; omega⟩,λg=>(hr g).1,λ_=>by decide,rfl⟩
theorem zrl(a b:Int):∀k:Nat,k<=4->0<=zc0 a b k/\zc0 a b k<UC k
 | 0,_=>by simp[zc0,UC]
 | k+1,h=>by
  have ih:=zrl a b k Qo
  have hb:UC (k+1)=2*UC k/\0<=UC k:=by
   have:k=0\/k=1\/k=2\/k=3:=Qo;rcases this with rfl | rfl | rfl | rfl <;> decide
  simp only[zc0]
  split <;> omega
theorem z0z{k:Nat}(h:k<=64):Qr .u64 (k:Int):=⟨by show (0:Int)<=(k:Int); omega,by show (k:Int)<=18446744073709551615; omega⟩
theorem K5{a b:Int}{w:Wo}{bs:List Nat}:PX bs Ub #[I a,I b] w (I (O2 a b)):=
 ze8 a b λwr hx=>by
  refine⟨_,XA,_,λ_=>XA,λg=>?_,λg=>?_⟩
  ·rw[XM]
   simpa using g
  ·simp only[H',I6] at g
   have he:O2 a b=zc0 a b 4:=by
    rw[Pb g.1 g.2];obtain⟨x,rfl⟩:=Kq g.1;obtain⟨y,rfl⟩:=Kq g.2;exact(zvl x y).symm
   rw[he];refine PF 4 0 rfl (λx k=>k<=4/\x=zc0 a b k) ⟨Qo,rfl⟩ λx k ⟨hk,hx⟩=>⟨λIT=>?_,λRC=>?_⟩
   ·have IT:=Ot IT;have hb:=NI (k:=k) Qo;have hl:=zrl a b k hk;have fR:(1*2 ^ (min (Int.toNat (k:Int)) 64):Int)=UC k:=rfl;refine⟨_,Ya,_,λ_=>Ya,λh=>?_,λh=>?_⟩
    ·rw[fR];refine⟨z0z Qo,⟨Qo,Qo,Qo⟩,⟨Qo,Qo⟩,⟨Qo,Qo⟩,QP Qo ⟨Qo,?_⟩⟩;rw[hx]; simp only[zc0]; rw[C' h]
    ·refine⟨⟨Qo,Qo⟩,QP Qo ⟨Qo,?_⟩⟩;rw[hx]; simp only[zc0]; rw[B' (by rw[h]; decide)]
   ·have RC:=Ou RC;have:k=4:=Qo;subst this;rw[hx]
theorem Hy{b:Vv}(h:OY b=true):b.IX=0/\b.Rx=0/\b.Sr=0/\b.locals.length=0/\b.Rz.length=0:=by
 unfold OY at h;simp only[A',Is] at h;omega
theorem Gj{b:Vv}{m:MG}{w:Wo}{bs:List Nat}:PX bs Vc #[.agg (ZF b m).toArray] w (.bool (OY b)):=
 za9 b.IX b.Rx b.Sr m.lO b.locals.length m.lC m.dO b.Rz.length m.dC λwr hx=>λ_ _=>rfl
theorem Ee{b:Vv}{m:MG}{w:Wo}{bs:List Nat}(h1:zs8 bs w m.lO b.locals)(h2:z1g bs w m.dO b.Rz)(hl:b.locals.length<=maxLen):PX bs TH #[.agg (ZF b m).toArray] w (.bool (Ul (Pg b))):=
 zid b.IX b.Rx b.Sr m.lO b.locals.length m.lC m.dO b.Rz.length m.dC λwr hx=>by
  have h1:=(h1.ext hx).less (cs:=[]) Qs;have h2:=(h2.ext hx).less (cs:=[]) Qs;intro _ _;refine⟨_,Qu,_,λ_=>Qu,_,λ_=>Qu,_,λ_=>Qu,λg=>GB λp=>?_,λg=>?_⟩
  ·rw[Qx.2 ⟨p.q1,p.q2⟩,Qx.2 (by have:=p.l1; have:=p.l2; omega),Qx.2 ⟨p.p1,p.p2⟩,Qx.2 ⟨p.s1,p.s2⟩,p.dl] at g;simp at g
  ·simp only[H',I6,bne_eq_false_iff_eq,Qx] at g;obtain⟨⟨⟨⟨g1,g2⟩,g3⟩,g4⟩,g5⟩:=g;have hdl:b.Rz.length=b.locals.length:=Qo
   have all:∀{k:Nat},k<=b.locals.length->(∀c:Int,0<=c->c<(k:Int)->0<=gi b.locals c/\gi b.locals c<=b.IX/\(gi b.Rz c=true->gi b.locals c=0/\b.Rx=0))->0<=VH b.locals k/\VH b.locals k<=40000:=λ{k} hk h=>by
    have key:∀j:Nat,j<=k->0<=VH b.locals j/\VH b.locals j<=(j:Int)*10000:=λj=>by
     induction j with
     | zero=>intro _; simp[VH]
     | succ j ih=>
      intro hj;have:=ih Qo;have:=h (j:Int) Qo Qo;simp only[VH]; omega
    have:=key k (I7 _);omega
   refine⟨⟨Qo,Qo⟩,?_⟩;refine PF b.locals.length 0 rfl (λx k=>k<=b.locals.length/\x=b.Rx+b.Sr+VH b.locals k/\∀c:Int,0<=c->c<(k:Int)->0<=gi b.locals c/\gi b.locals c<=b.IX/\(gi b.Rz c=true->gi b.locals c=0/\b.Rx=0)) ⟨Ic _,by simp[VH],λc h0 h1=>by omega⟩ λx k ⟨hk,R0,hI⟩=>⟨λIT=>?_,λRC=>?_⟩
   ·have IT:=Ot IT;have Rw:(k:Int)<(b.Rz.length:Int):=Qo;have hsr:=all hk hI;refine⟨h1.ix JU Qo IT,_,h1 k Qo IT,_,Qu,λ_=>h2.ix EO Qo Rw,_,λ_=>h2 k Qo Rw,λ_ _=>h1.ix JU Qo IT,_,λ_ _=>h1 k Qo IT,λg=>GB λp=>?_,λg=>⟨h1.ix JU Qo IT,_,h1 k Qo IT,?_⟩⟩
    ·have pe:=p.each (k:Int) Qo IT;rw[Qx.2 ⟨pe.1,pe.2.1⟩] at g;simp only[Bool.not_true,Bool.false_or,A',Iu,Ij] at g;have:=pe.2.2 g.1;omega
    ·simp only[H',I6,Qx] at g;obtain⟨ga,gb⟩:=g;refine⟨⟨Qo,Qo⟩,⟨Qo,Qo⟩,QP Qo ⟨Qo,by simp only[VH]; omega,λc hc0 hc=>?_⟩⟩
     by_cases hck:c<(k:Int)
     ·exact hI c hc0 hck
     ·have:c=(k:Int):=Qo;subst this;refine⟨ga.1,ga.2,λhd=>?_⟩;rw[hd] at gb;simp only[Bool.true_and,H',decide_eq_false_iff_not] at gb;omega
   ·have RC:=Ou RC;have:k=b.locals.length:=Qo;subst this;refine Ma ?_;rw[Is,R0];constructor
    ·intro hs;exact⟨g1.1,g1.2,Qo,Qo,hdl,g4.1,g4.2,g5.1,g5.2,hI,hs⟩
    ·exact λp=>p.sum
section
variable {W:Q8}{m:MW}{w:Wo}{bs:List Nat}
theorem G9.Ry{gs:List ZX}{ms:Nat->MG}{o:OA}(h:G9 bs w o gs ms){i:Int}(h0:0<=i)(h1:i<(gs.length:Int)):Q1 bs w o (Int.toNat i*14+13) [.slice (ms i.toNat).sO (gi gs i).IE.length (ms i.toNat).sC]:=(h.cells i h0 h1).get 13 _ rfl
theorem G9.ID{gs:List ZX}{ms:Nat->MG}{o:OA}(h:G9 bs w o gs ms){i:Int}(h0:0<=i)(h1:i<(gs.length:Int)):Q1 bs w o (Int.toNat i*14+4) [I (gi gs i).ID]:=(h.cells i h0 h1).get 4 _ rfl
theorem G9.IS{gs:List ZX}{ms:Nat->MG}{o:OA}(h:G9 bs w o gs ms){i:Int}(h0:0<=i)(h1:i<(gs.length:Int)):Q1 bs w o (Int.toNat i*14+8) (ZF (gi gs i).IS (ms i.toNat)):=Mt λj v hj=>by
 have e:YE (gi gs i) (ms i.toNat)=((YE (gi gs i) (ms i.toNat)).take 8++ZF (gi gs i).IS (ms i.toNat))++[.slice (ms i.toNat).sO (gi gs i).IE.length (ms i.toNat).sC]:=rfl
 have hj':j<5:=by
  have:=(I8.1 hj).1
  simpa[ZF] using this
 have:=(h.cells i h0 h1).get (8+j) v (by
  rw[e,Ip (by simp[YE,ZF]; omega),List.getElem?_append_right (by simp[YE])]
  simpa[YE] using hj)
 rwa[<-Nat.add_assoc] at this
theorem zu6.f{ts:List KW}{o:OA}(h:zu6 bs w o ts){i:Int}(h0:0<=i)(h1:i<(ts.length:Int)){j:Nat}{v:Va}(hj:(Xq (gi ts i))[j]? = some v):Q1 bs w o (Int.toNat i*9+j) [v]:=XG ((h i h0 h1).get j v hj)
theorem z28.f{cs:List KV}{o:OA}(h:z28 bs w o cs){i:Int}(h0:0<=i)(h1:i<(cs.length:Int)){j:Nat}{v:Va}(hj:(DJ (gi cs i))[j]? = some v):Q1 bs w o (Int.toNat i*5+j) [v]:=XG ((h i h0 h1).get j v hj)
theorem zpf.f{ss:List GO}{o:OA}(h:zpf bs w o ss){i:Int}(h0:0<=i)(h1:i<(ss.length:Int)){j:Nat}{v:Va}(hj:(MH (gi ss i))[j]? = some v):Q1 bs w o (Int.toNat i*5+j) [v]:=XG ((h i h0 h1).get j v hj)
theorem LU(h:XF bs w W m)(h4:W.ID.length<=4):PX bs Vz #[.agg (Qb W m).toArray] w (I (Ue W.ID)):=
 zmg _ _ _ _ _ _ _ _ _ _ λwr hx=>by
  have h:=(h.ext hx).less (cs:=[]) Qs;intro _ _;refine PF W.ID.length 0 rfl (λx k=>k<=W.ID.length/\x=VI W.ID k) ⟨Ic _,rfl⟩ λx k ⟨hk,R0⟩=>⟨λIT=>?_,λRC=>?_⟩
  ·have IT:=Ot IT;have hb:=NI (k:=k) Qo;have hl:=Do W.ID k Qo;have fR:(1*2 ^ (min (Int.toNat (k:Int)) 64):Int)=UC k:=rfl;refine⟨h.c.ix Yh Qo IT,_,h.c.f Qo IT (j:=0) rfl,λhu=>?_,λhu=>?_⟩
   ·rw[fR];refine⟨z0z Qo,⟨Qo,Qo,Qo⟩,⟨Qo,Qo⟩,⟨Qo,Qo⟩,QP Qo ⟨Qo,?_⟩⟩;rw[R0]; simp only[VI]; rw[C' hu]
   ·refine⟨⟨Qo,Qo⟩,QP Qo ⟨Qo,?_⟩⟩;rw[R0]; simp only[VI]; rw[B' (by rw[hu]; decide)]
  ·have RC:=Ou RC;have:k=W.ID.length:=Qo;subst this;rw[R0]; rfl
theorem zhz{g:Int}(h:XF bs w W m)(ht:Ye W.IC)(hu:Q7 W.IC g=true):PX bs MQ #[.agg (Qb W m).toArray,I g] w (I (zo0 W.IC g)):=
 zin _ _ _ _ _ _ _ _ _ _ g λwr hx=>by
  have h:=(h.ext hx).less (cs:=[]) Qs;intro _ _;obtain⟨u1,u2,_⟩:=Q4.1 hu;refine⟨h.g.ix u1 u2,_,h.g.ID u1 u2,λvs=>∃(x s:Int),vs=[I x,I s]/\Q7 W.IC x=true/\(Zd W.IC x).foldl (λs x=>O2 s (gi W.IC (gi W.IC x).parent).ID) s=zo0 W.IC g,λvs=>(dep 3 W.IC (ZP 0 vs)).toNat,⟨g,_,rfl,hu,rfl⟩,?_⟩;rintro x s ⟨x',s',he,hux,hI⟩;simp only[I4,I5,true_and,and_true] at he;obtain⟨rfl,rfl⟩:=he;refine⟨λhz=>?_,λhz=>?_⟩
  ·have hz:x≠0:=by simpa using hz
   obtain⟨hp,a,b,d,e,e2,hd⟩:=Yf ht hux hz;obtain⟨v1,v2,_⟩:=Q4.1 hp;rw[YU ht hux hz,List.foldl_cons] at hI
   exact⟨h.g.ix a b,_,h.g.parent a b,h.g.ix v1 v2,_,h.g.ID v1 v2,_,K5,⟨_,_,rfl,hp,hI⟩,by
    show (dep 3 W.IC (gi W.IC x).parent).toNat<(dep 3 W.IC x).toNat;omega⟩
  ·have hz:x=0:=by simpa using hz
   subst hz;rw[show Zd W.IC 0=[] from Zs _ _,List.foldl_nil] at hI;rw[hI]
theorem JK{g mask:Int}(h:XF bs w W m)(h4:W.ID.length<=4)(ht:Ye W.IC)(hu:Q7 W.IC g=true):PX bs YB #[.agg (Qb W m).toArray,I g,I mask] w (I (Qn W g mask)):=
 zfi _ _ _ _ _ _ _ _ _ _ g mask λwr hx=>by
  have h:=(h.ext hx).less (cs:=[]) Qs;intro _ _;have hk:=K5 (a:=zo0 W.IC g) (b:=Ue W.ID) (w:=wr) (bs:=[]);rw[zxw ht hu] at hk;refine⟨_,LU h h4,_,zhz h ht hu,_,hk,_,K5,λg1=>?_,λg1=>⟨λg2=>?_,λg2=>?_⟩⟩
  ·unfold Qn; rw[C' (by simpa using g1)]
  ·unfold Qn; rw[B' (by simpa using g1),C' (by simpa using g2)]
  ·unfold Qn; rw[B' (by simpa using g1),B' (by simpa using g2)]
theorem LS{g c:Int}(h:XF bs w W m)(ha:WA W)(hu:Q7 W.IC g=true)(c0:0<=c)(c1:c<(W.ID.length:Int)):PX bs Vy #[.agg (Qb W m).toArray,I g,I c] w (.bool (UD W g c)):=
 zmf _ _ _ _ _ _ _ _ _ _ g c λwr hx=>by
  have h:=(h.ext hx).less (cs:=[]) Qs;intro _ _;obtain⟨u1,u2,_⟩:=Q4.1 hu
  have hd:(decide ((gi W.IC g).IS.IX>0))=true->c<((gi W.IC g).IS.Rz.length:Int):=λg1=>by
   have:=Ot g1;rw[(ha.dl hu Qo).1]; exact c1
  exact⟨h.g.ix u1 u2,_,_,_,_,_,_,_,_,_,h.g.IS u1 u2,λ_ _=>⟨λg1=>(h.g.Rz g u1 u2).ix EO c0 (hd g1),_,λg1=>(h.g.Rz g u1 u2) c c0 (hd g1),rfl⟩⟩
theorem VW{g c:Int}(h:XF bs w W m)(ha:WA W)(hu:Q7 W.IC g=true)(c0:0<=c)(c1:c<(W.ID.length:Int)):PX bs XE #[.agg (Qb W m).toArray,I g,I c] w (.bool (Qc W g c).on):=
 zba _ _ _ _ _ _ _ _ _ _ g c λwr hx=>by
  have h:=(h.ext hx).less (cs:=[]) Qs;intro _ _;obtain⟨u1,u2,_⟩:=Q4.1 hu;have hs:=ha.sl hu;have c2:c<((gi W.IC g).IE.length:Int):=Qo;exact⟨h.g.ix u1 u2,_,_,_,h.g.Ry u1 u2,(h.g.IE g u1 u2).ix X7 c0 c2,_,zpf.f (h.g.IE g u1 u2) c0 c2 (j:=1) rfl,rfl⟩
theorem zmx{gs:List ZX}{k:Nat}(hk:(k:Int)<(gs.length:Int))(hu:(gi gs (k:Int)).used=true):Q7 gs (k:Int)=true:=Q4.2 ⟨Qo,hk,hu⟩
theorem M3{g c:Int}(h:XF bs w W m)(ha:WA W)(c0:0<=c)(c1:c<(W.ID.length:Int)):PX bs JI #[.agg (Qb W m).toArray,I g,I c] w (.bool (QX W g c)):=
 za7 _ _ _ _ _ _ _ _ _ _ g c λwr hx=>by
  have h:=(h.ext hx).less (cs:=[]) Qs;intro _ _;have dD:=ha.gl;have hm9:=Zg;refine J1 W.tasks.length 0 rfl (λk=>k<=W.tasks.length/\∀j:Nat,j<k->Pp W g c j=false) ⟨Ic _,λj hj=>Ir hj (Nat.not_lt_zero j)⟩ λk ⟨hk,hI⟩=>⟨λIT=>?_,λRC=>?_⟩
  ·have IT:=Ot IT;have ht:=ha.t;refine⟨h.t.ix QG Qo IT,_,h.t.f Qo IT (j:=0) rfl,λ_=>h.t.ix QG Qo IT,_,λ_=>h.t.f Qo IT (j:=1) rfl,λ_=>h.t.ix QG Qo IT,_,λ_=>h.t.f Qo IT (j:=2) rfl,λhy=>?_,λhn=>⟨⟨Qo,Qo⟩,QH Qo ⟨Qo,λj hj=>?_⟩⟩⟩
   ·unfold QX;rw[ED.2 ⟨k,Qo,hy⟩]; rfl
   ·by_cases gZ:j<k
    ·exact hI j gZ
    ·have:j=k:=Qo;subst this; exact hn
  ·have RC:=Ou RC;have iQ:Oe (Pp W g c) W.tasks.length=false:=zkw λj hj=>hI j Qo
   refine J1 W.IC.length 1 rfl (λk=>1<=k/\k<=W.IC.length/\∀j:Nat,j<k->Jy W g c j=false) ⟨I7 _,Qo,λj hj=>by
    have:j=0:=Qo;subst this; simp[Jy]⟩ λk ⟨hk1,hk,hI⟩=>⟨λIT=>?_,λRC=>?_⟩
   ·have IT:=Ot IT;refine⟨h.g.ix Qo IT,_,h.g.used Qo IT,λ_=>h.g.ix Qo IT,_,λ_=>h.g.parent Qo IT,(Qc W (k:Int) c).on,λhu=>VW h ha (zmx IT (by simp only[A'] at hu; exact hu.1)) c0 c1,λhy=>?_,λhn=>⟨⟨Qo,Qo⟩,QH Qo ⟨Qo,Qo,λj hj=>?_⟩⟩⟩
    ·unfold QX
     have:Oe (Jy W g c) W.IC.length=true:=ED.2 ⟨k,Qo,by
      unfold Jy;rw[Ih hk1,Bool.true_and]; exact hy⟩
     rw[this,Bool.or_true]
    ·by_cases gZ:j<k
     ·exact hI j gZ
     ·have:j=k:=Qo;subst this;unfold Jy;rw[Ih hk1,Bool.true_and]; exact hn
   ·have RC:=Ou RC;have:Oe (Jy W g c) W.IC.length=false:=zkw λj hj=>hI j Qo
    unfold QX;rw[iQ,this]; rfl
theorem VV{t:Int}(h:XF bs w W m)(ha:WA W)(t0:0<=t)(t1:t<(W.tasks.length:Int))(hu:(Q6 W t).state=1->Q7 W.IC (Q6 W t).group=true/\0<=(Q6 W t).J'/\(Q6 W t).J'<(W.ID.length:Int)) :
  PX bs YR #[.agg (Qb W m).toArray,I t] w (.bool (ZL W t)):=
 za8 _ _ _ _ _ _ _ _ _ _ t λwr hx=>by
  have h:=(h.ext hx).less (cs:=[]) Qs;intro _ _;refine⟨h.t.ix QG t0 t1,_,_,_,_,_,_,_,_,_,h.t t t0 t1,λ_ _=>⟨λg=>?_,λg=>?_⟩⟩
  ·have:((Q6 W t).state==1)=false:=by simpa[Q6] using g
   unfold ZL; rw[this]; rfl
  ·have hs:(Q6 W t).state=1:=by simpa[Q6] using g
   obtain⟨hug,hc0,vS⟩:=hu hs;have hL:ZL W t=VC W (Q6 W t).group (Q6 W t).J':=by unfold ZL; rw[Is.2 hs,Bool.true_and]
   rw[hL];refine⟨λvs=>∃x:Int,vs=[I x]/\Q7 W.IC x=true/\VC W x (Q6 W t).J'=VC W (Q6 W t).group (Q6 W t).J',λvs=>(dep 3 W.IC (ZP 0 vs)).toNat,⟨_,rfl,hug,rfl⟩,?_⟩;rintro x ⟨x',he,hux,hI⟩;simp only[I4,I5,true_and,and_true] at he;subst he;refine⟨λhz=>?_,λhz=>?_⟩
   ·have hz:x≠0:=by simpa using hz
    obtain⟨hp,a,b,d,e,e2,hd⟩:=Yf ha.tree hux hz;unfold VC at hI;rw[YU ha.tree hux hz,List.all_cons] at hI
    refine⟨_,VW h ha hux hc0 vS,λg2=>?_,λg2=>⟨h.g.ix a b,_,h.g.parent a b,⟨_,rfl,hp,?_⟩,by
     show (dep 3 W.IC (gi W.IC x).parent).toNat<(dep 3 W.IC x).toNat;omega⟩⟩
    ·have g2:(Qc W x (Q6 W t).J').on=false:=by simpa[Q6] using g2
     rw[g2,Bool.false_and] at hI;unfold VC;rw[<-hI]
    ·have g2:(Qc W x (Q6 W t).J').on=true:=by simpa[Q6] using g2
     rw[g2,Bool.true_and] at hI;exact hI
   ·have hz:x=0:=by simpa using hz
    subst hz;unfold VC at hI;rw[show Zd W.IC 0=[] from Zs _ _,List.all_nil] at hI;unfold VC;rw[<-hI]
end
theorem Hr{v f k:Int}{w:Wo}{bs:List Nat}:PX bs VR #[I v,I f,I k] w (.bool (KT v f k)):=
 zfh v f k λwr hx=>⟨IntKind.i64.wrap (v-f),λ_ wq=>by simp[eqGuard,binOp,Op.intArith],_,λ_=>Hm,rfl⟩
theorem zja:zrh Tryz.prog QS:=⟨Qk,Qk,Qk⟩
theorem zry(a b:KW):zdq Tryz.prog (Tryz.prog.fieldsOf QS).toList 0 (Xq a) (Xq b)=some ((a.state==b.state)&&((a.group==b.group)&&((a.J'==b.J')&&((a.nice==b.nice)&&((a.mask==b.mask)&&((a.v==b.v)&&((a.sum==b.sum)&&((a.used==b.used)&&((a.load==b.load)&&true))))))))):=Qk
theorem zmu{a b:KW}:((a.state==b.state)&&((a.group==b.group)&&((a.J'==b.J')&&((a.nice==b.nice)&&((a.mask==b.mask)&&((a.v==b.v)&&((a.sum==b.sum)&&((a.used==b.used)&&((a.load==b.load)&&true)))))))))=decide (a=b):=by
 cases a; cases b
 simp only[KW.mk.injEq,Bool.and_true];rw[Bool.eq_iff_iff];simp only[A',Is,Ij]
section
variable {W:Q8}{m:MW}{w:Wo}{bs:List Nat}
theorem A8{k:Int}(h:XF bs w W m)(hn:0<=W.now)(k0:0<=k)(k1:k<(W.IC.length:Int))(hf:zpi (gi W.IC k)):PX bs TQ #[.agg (Qb W m).toArray,I k] w (.bool (Ul (Kz W k))):=
 Au _ _ _ _ _ _ _ _ _ _ k λwr hx=>by
  have h:=(h.ext hx).less (cs:=[]) Qs;intro _ _;refine⟨h.g.ix k0 k1,_,_,_,_,_,_,_,_,_,_,_,_,_,_,_,_,_,_,_,_,h.g.cells k k0 k1,λ_ _=>⟨λg=>?_,λg=>?_⟩⟩
  ·have hu:(gi W.IC k).used=false:=by simpa using g
   refine⟨_,λ_=>Gj (b:=(gi W.IC k).IS) (m:=m.ms k.toNat),Ma ?_⟩;simp only[A',Is,Vg];constructor
   ·rintro⟨⟨⟨⟨⟨⟨⟨⟨e1,e2⟩,e3⟩,e4⟩,e5⟩,e6⟩,e7⟩,e8⟩,e9⟩;exact⟨λ_=>⟨e1,e2,e3,e4,e5,e6,e7,Qo,e9⟩,λhu'=>by rw[hu'] at hu; cases hu⟩
   ·intro p;have q:=p.1 hu;exact⟨⟨⟨⟨⟨⟨⟨⟨q.p,q.n⟩,q.w⟩,q.c⟩,q.pe⟩,q.ne⟩,q.s⟩,by have:=q.l; omega⟩,q.b⟩
  ·have hu:(gi W.IC k).used=true:=by simpa using g
   have mk:zpj W k (gi W.IC k)->Kz W k:=λq=>⟨λhu'=>(by rw[hu'] at hu; cases hu),λ_=>q⟩
   refine⟨_,Ud,_,λ_=>XA,_,λ_=>X0,λg2=>GB λp=>?_,λg2=>⟨λg3=>GB λp=>?_,λg3=>⟨λg4=>⟨_,Gj (b:=(gi W.IC k).IS) (m:=m.ms k.toNat),Ma ?_⟩,λg4=>⟨_,Ee (b:=(gi W.IC k).IS) (m:=m.ms k.toNat) (h.g.locals k k0 k1) (h.g.Rz k k0 k1) hf.lo,_,λ_=>Qu,λg5=>?_,Ma ?_⟩⟩⟩⟩
   ·have q:=p.2 hu;have e1:X6 (gi W.IC k).weight 1 20=true:=Qx.2 ⟨q.w1,q.w2⟩;have e3:((gi W.IC k).ID==0)=false:=by simpa using q.m0
    have e5:(((gi W.IC k).IE.length:Nat):Int)=((W.ID.length:Nat):Int):=by have:=q.len; omega
    rw[e1,q.m,e3,q.s,e5] at g2;simp at g2
   ·have q:=p.2 hu;simp only[A',Is] at g3;have r:=q.root g3.1;rw[r.1,r.2.1,r.2.2] at g3;simp at g3
   all_goals
    simp only[H',I6,bne_eq_false_iff_eq,Qx,beq_eq_false_iff_ne] at g2;obtain⟨⟨⟨⟨a1,a2⟩,a3⟩,a4⟩,a5⟩:=g2;have hlen:(gi W.IC k).IE.length=W.ID.length:=Qo
    have B13:k=0->(gi W.IC k).weight=10/\(gi W.IC k).ID=15/\(gi W.IC k).IS.IX=0:=λhk=>by
     rw[Is.2 hk,Bool.true_and] at g3;simp only[H',bne_eq_false_iff_eq] at g3;exact⟨g3.1.1,g3.1.2,g3.2⟩
   ·have q0:(gi W.IC k).IS.IX=0:=by simpa using g4
    simp only[A',Is];constructor
    ·rintro⟨⟨e1,e2⟩,e3⟩;exact mk ⟨a1.1,a1.2,a2,a3,a4,hlen,B13,λ_=>⟨e1,e2,e3⟩,λfI=>Ir q0 fI⟩
    ·intro p;have q:=(p.2 hu).none q0;exact⟨⟨q.1,q.2.1⟩,q.2.2⟩
   ·simp only[A',Is,Ij] at g5;have:=hf.nx;exact⟨by have:=this.1; omega,by have:=this.2; omega⟩
   ·have q0:(gi W.IC k).IS.IX≠0:=by simpa using g4
    simp only[A',Is,Ij,Qm,Qx];constructor
    ·rintro⟨⟨⟨⟨e1,e2⟩,e3⟩,e4⟩,e5⟩;exact mk ⟨a1.1,a1.2,a2,a3,a4,hlen,B13,λfI=>Ir fI q0,λ_=>⟨e1,Qo,e3.1,e3.2,e4,e5⟩⟩
    ·intro p;have q:=(p.2 hu).IS q0;exact⟨⟨⟨⟨q.1,by have:=q.2.1; omega⟩,q.2.2.1,q.2.2.2.1⟩,q.2.2.2.2.1⟩,q.2.2.2.2.2⟩
theorem KE{W:Q8}(ha:WA W){g mask c:Int}(hc:Z1 (Qn W g mask) c=true):0<=c/\c<(W.ID.length:Int):=by
 have h1:=zkg hc;exact⟨(OX h1).2.1,(zb4 W.ID _ ha.c2 h1).1⟩
theorem zar{t:Int}(h:XF bs w W m)(ha:WA W)(t0:0<=t)(t1:t<(W.tasks.length:Int)):PX bs OP #[.agg (Qb W m).toArray,I t] w (.bool (Ul (C4 W t))):=
 zbc _ _ _ _ _ _ _ _ _ _ t λwr hx=>by
  have h:=(h.ext hx).less (cs:=[]) Qs;intro _ _;have dD:=ha.gl;have hm9:=Zg;refine⟨h.t.ix QG t0 t1,_,_,_,_,_,_,_,_,_,h.t t t0 t1,λ_ _=>⟨λg=>?_,λg=>?_⟩⟩
  ·have hs:(gi W.tasks t).state=0:=by simpa using g
   refine⟨_,λwq=>zft zja (zry (gi W.tasks t) Ow) _ _ wq,Ma ?_⟩;rw[zmu,Ij];constructor
   ·exact λe=>.inl ⟨hs,e⟩
   ·rintro (⟨_,e⟩ | ⟨e,_⟩)
    ·exact e
    ·exact Ir hs e
  ·have hs:(gi W.tasks t).state≠0:=by simpa using g
   have no:∀{q:C4 W t},zyt W (gi W.tasks t):=λ{q}=>by
    rcases q with ⟨e,_⟩ | ⟨_,q⟩
    ·exact Ir e hs
    ·exact q
   refine⟨_,λ_=>XB (c:=m.gC) h.g,_,λ_=>ZA,_,λ_=>XA,λg2=>GB λp=>?_,λg2=>?_⟩
   ·have q:=no (q:=p);have e3:(Qe (gi W.tasks t).nice==0)=false:=by simpa using q.n
    have e4:((gi W.tasks t).mask==0)=false:=by simpa using q.m0
    rw[q.g,e3,q.m,e4] at g2;simp only[Bool.not_true,Bool.or_false,A',It] at g2;have:=q.st;omega
   ·simp only[H',I6,beq_eq_false_iff_ne] at g2;obtain⟨⟨⟨⟨a1,a2⟩,a3⟩,a4⟩,a5⟩:=g2
    have st:(gi W.tasks t).state=1\/(gi W.tasks t).state=2:=by
     by_cases h1:(gi W.tasks t).state=1
     ·exact .inl h1
     ·refine .inr ?_;have:((gi W.tasks t).state != 1)=true:=by simpa using h1
      rw[this,Bool.true_and] at a1
      simpa using a1
    refine⟨_,X0,_,λ_=>X0,_,λ_=>X0,_,λ_=>Qu,Qn W (gi W.tasks t).group (gi W.tasks t).mask,λ_=>JK h ha.c2 ha.tree a2,_,λ_=>Ya,λg3=>GB λp=>?_,λg3=>?_⟩
    ·have q:=no (q:=p);have e4:X6 (gi W.tasks t).load 0 8000000=true:=Qx.2 ⟨q.l1,q.l2⟩;rw[q.v,q.s,q.u,e4,q.c] at g3;simp at g3
    ·simp only[H',I6,Qx] at g3;obtain⟨⟨⟨⟨b1,b2⟩,b3⟩,b4⟩,b5⟩:=g3;obtain⟨u1,u2,_⟩:=Q4.1 a2;obtain⟨c0,c1⟩:=KE ha b5;have hsl:=ha.sl a2;have c2:(gi W.tasks t).J'<((gi W.IC (gi W.tasks t).group).IE.length:Int):=Qo;refine⟨λ_=>h.g.ix u1 u2,_,_,_,λ_=>h.g.Ry u1 u2,λ_=>(h.g.IE _ u1 u2).ix X7 c0 c2,_,λ_=>zpf.f (h.g.IE _ u1 u2) c0 c2 (j:=0) rfl,_,λ_=>ZA,_,λ_=>Hr,Ma ?_⟩;simp only[Iu,Is];constructor
     ·intro e
      exact .inr ⟨hs,⟨st,a2,a3,a4,a5,b1,b2,b3,b4.1,b4.2,b5,λe1=>by
       rcases e with e | e
       ·have e:(gi W.tasks t).state=2:=e;have e1:(gi W.tasks t).state=1:=e1;omega
       ·exact e⟩⟩
     ·intro p;have q:=no (q:=p);rcases st with e | e
      ·exact .inr (q.f e)
      ·exact .inl e
theorem A9{k c:Int}(h:XF bs w W m)(ha:WA W)(k0:0<=k)(k1:k<(W.IC.length:Int))(c0:0<=c)(c2:c<((gi W.IC k).IE.length:Int)):PX bs TR #[.agg (Qb W m).toArray,I k,I c] w (.bool (Ul (KA W k c))):=
 Av _ _ _ _ _ _ _ _ _ _ k c λwr hx=>by
  have h:=(h.ext hx).less (cs:=[]) Qs;intro _ _;have dD:=ha.gl
  have hus:(gi W.IC k).used=true:=by
   cases hu:(gi W.IC k).used with
   | true=>rfl
   | false=>
    have:=((ha.grp k k0 Qo).1 hu).l;omega
  have hu:Q7 W.IC k=true:=Q4.2 ⟨k0,k1,hus⟩;have hsl:=ha.sl hu;have c1:c<(W.ID.length:Int):=Qo;refine⟨h.g.ix k0 k1,_,_,_,_,_,_,_,_,_,_,_,_,_,_,_,_,_,_,_,_,h.g.cells k k0 k1,λ_ _=>⟨(h.g.IE k k0 k1).ix X7 c0 c2,_,_,_,_,_,(h.g.IE k k0 k1) c c0 c2,λ_ _=>⟨_,X0,_,λ_=>X0,_,λ_=>X0,_,λ_=>Ud,λg=>GB λp=>?_,λg=>⟨λg2=>Ma ?_,λg2=>⟨_,M3 h ha c0 c1,_,λ_=>LS h ha hu c0 c1,λg3=>GB λp=>?_,λg3=>?_⟩⟩⟩⟩⟩
  ·have e1:=p.f;have e2:=p.v;have e3:=p.s;have e4:X6 (Qc W k c).w 1 20=true:=Qx.2 ⟨p.w1,p.w2⟩;have g':(((!ZO (Qc W k c).floor || !ZO (Qc W k c).v) || !ZO (Qc W k c).sum) || !X6 (Qc W k c).w 1 20)=true:=g;rw[e1,e2,e3,e4] at g'
   cases g'
  ·have g':(((!ZO (Qc W k c).floor || !ZO (Qc W k c).v) || !ZO (Qc W k c).sum) || !X6 (Qc W k c).w 1 20)=false:=g;simp only[H',I6,Qx] at g';obtain⟨⟨⟨a1,a2⟩,a3⟩,a4⟩:=g';have hk:k=0:=by simpa using g2
   show ((!(Qc W k c).on&&((Qc W k c).v==0))&&((Qc W k c).w==10))=true↔_;simp only[A',IB,Is];constructor
   ·rintro⟨⟨e1,e2⟩,e3⟩;exact⟨a1,a2,a3,a4.1,a4.2,λ_=>⟨e1,e2,e3⟩,λfI=>Ir hk fI,λfI=>Ir hk fI⟩
   ·intro p;have q:=p.root hk;exact⟨⟨q.1,q.2.1⟩,q.2.2⟩
  ·have hk:k≠0:=by simpa using g2
   have g3':(!((Qc W k c).on==(QX W k c && !UD W k c)))=true:=g3;rw[p.on hk] at g3';simp at g3'
  ·have g':(((!ZO (Qc W k c).floor || !ZO (Qc W k c).v) || !ZO (Qc W k c).sum) || !X6 (Qc W k c).w 1 20)=false:=g;simp only[H',I6,Qx] at g';obtain⟨⟨⟨a1,a2⟩,a3⟩,a4⟩:=g';have hk:k≠0:=by simpa using g2
   have hon:(Qc W k c).on=(QX W k c && !UD W k c):=by
    have g3':(!((Qc W k c).on==(QX W k c && !UD W k c)))=false:=g3
    simpa using g3'
   have hp:=ha.up hu hk;obtain⟨v1,v2,_⟩:=Q4.1 hp;have hpl:=ha.sl hp;have c3:c<((gi W.IC (gi W.IC k).parent).IE.length:Int):=Qo;refine⟨λ_=>h.g.ix v1 v2,_,_,_,λ_=>h.g.Ry v1 v2,λ_=>(h.g.IE _ v1 v2).ix X7 c0 c3,_,λ_=>zpf.f (h.g.IE _ v1 v2) c0 c3 (j:=0) rfl,_,λ_=>Hr,Ma ?_⟩;show (!(Qc W k c).on||KT (Qc W k c).v (Qc W (gi W.IC k).parent c).floor (Qc W k c).w)=true↔_;simp only[Iu,IB];constructor
   ·intro e
    exact⟨a1,a2,a3,a4.1,a4.2,λe0=>Ir e0 hk,λ_=>hon,λ_ ho=>by
     rcases e with e | e
     ·rw[ho] at e; cases e
     ·exact e⟩
   ·intro p
    cases ho:(Qc W k c).on with
    | false=>exact .inl rfl
    | true=>exact .inr (p.st hk ho)
theorem zl1{t:Int}(ht:C4 W t)(hl:ZL W t=true):zyt W (Q6 W t)/\(Q6 W t).state=1:=by
 have hs:(Q6 W t).state=1:=by
  unfold ZL at hl;simp only[A',Is] at hl;exact hl.1
 rcases ht with ⟨e,_⟩ | ⟨_,q⟩
 ·omega
 ·exact⟨q,hs⟩
theorem NZ{a b:Int}(ha:ZO a=true)(hb:ZO b=true):Qr .i64 (a-b):=by
 have:=YV.1 ha;have:=YV.1 hb;exact⟨Qo,Qo⟩
theorem zaq{c:Int}(h:XF bs w W m)(ha:WA W)(hts:∀t:Int,0<=t->t<12->C4 W t)(hss:∀k c:Int,0<=k->k<8->0<=c->c<((gi W.IC k).IE.length:Int)->KA W k c)(c0:0<=c)(c1:c<(W.ID.length:Int))(t0:0<=(gi W.ID c).cur)(t1:(gi W.ID c).cur<(W.tasks.length:Int))(hl:ZL W (gi W.ID c).cur=true) :
  PX bs OO #[.agg (Qb W m).toArray,I c] w (.bool (Kc W c)):=
 zbb _ _ _ _ _ _ _ _ _ _ c λwr hx=>by
  have h:=(h.ext hx).less (cs:=[]) Qs;intro _ _;have fZ:=ha.t;have dD:=ha.gl;obtain⟨q,_⟩:=zl1 (hts _ t0 Qo) hl;have a2:=q.g;obtain⟨u1,u2,_⟩:=Q4.1 a2
  have sl:∀{x:Int},Q7 W.IC x=true->0<=x/\x<(W.IC.length:Int)/\c<((gi W.IC x).IE.length:Int)/\KA W x c:=λ{x} hx=>by
   obtain⟨v1,v2,_⟩:=Q4.1 hx;have e:=ha.sl hx;have c3:c<((gi W.IC x).IE.length:Int):=Qo;exact⟨v1,v2,c3,hss x c v1 Qo c0 c3⟩
  obtain⟨_,_,c2,sp⟩:=sl a2;refine⟨h.c.ix Yh c0 c1,_,_,_,_,_,h.c c c0 c1,λ_ _=>⟨h.t.ix QG t0 t1,_,_,_,_,_,_,_,_,_,h.t _ t0 t1,λ_ _=>⟨h.g.ix u1 u2,_,_,_,h.g.Ry u1 u2,(h.g.IE _ u1 u2).ix X7 c0 c2,_,zpf.f (h.g.IE _ u1 u2) c0 c2 (j:=0) rfl,NZ q.v sp.f,_,ZA,_,XK,λg=>?_,λg=>?_⟩⟩⟩
  ·have g:=Ot g;have hd:¬((Q6 W (gi W.ID c).cur).v-(Qc W (Q6 W (gi W.ID c).cur).group c).floor<=Zh (gi W.ID c).WV (Qe (Q6 W (gi W.ID c).cur).nice)):=Int.not_le.2 g;unfold Kc;rw[decide_eq_false hd];rfl
  ·have g:=Ou g
   have hS:Kc W c=Ov W (Q6 W (gi W.ID c).cur).group c (gi W.ID c).WV:=by
    have hd:(Q6 W (gi W.ID c).cur).v-(Qc W (Q6 W (gi W.ID c).cur).group c).floor<=Zh (gi W.ID c).WV (Qe (Q6 W (gi W.ID c).cur).nice):=Int.not_lt.1 g;unfold Kc;rw[Ih hd,Bool.true_and]
   rw[hS];refine⟨λvs=>∃x:Int,vs=[I x]/\Q7 W.IC x=true/\Ov W x c (gi W.ID c).WV=Ov W (Q6 W (gi W.ID c).cur).group c (gi W.ID c).WV,λvs=>(dep 3 W.IC (ZP 0 vs)).toNat,⟨_,rfl,a2,rfl⟩,?_⟩;rintro x ⟨x',he,hux,hI⟩;simp only[I4,I5,true_and,and_true] at he;subst he;refine⟨λhz=>?_,λhz=>?_⟩
   ·have hz:x≠0:=by simpa using hz
    obtain⟨hp,a,b,d,e,e2,hd⟩:=Yf ha.tree hux hz;obtain⟨x1,x2,x3,xs⟩:=sl hux;obtain⟨p1,p2,p3,ps⟩:=sl hp;unfold Ov at hI;rw[YU ha.tree hux hz,List.all_cons] at hI
    refine⟨h.g.ix x1 x2,_,_,_,h.g.Ry x1 x2,(h.g.IE _ x1 x2).ix X7 c0 x3,_,_,_,_,_,(h.g.IE _ x1 x2) c c0 x3,λ_ _=>⟨h.g.ix x1 x2,_,h.g.parent x1 x2,h.g.ix p1 p2,_,_,_,h.g.Ry p1 p2,(h.g.IE _ p1 p2).ix X7 c0 p3,_,zpf.f (h.g.IE _ p1 p2) c0 p3 (j:=0) rfl,NZ xs.v ps.f,_,XK,λg2=>?_,λg2=>⟨h.g.ix x1 x2,_,h.g.parent x1 x2,⟨_,rfl,hp,?_⟩,by
     show (dep 3 W.IC (gi W.IC x).parent).toNat<(dep 3 W.IC x).toNat;omega⟩⟩⟩
    ·have g2:=Ot g2;have hd:¬((Qc W x c).v-(Qc W (gi W.IC x).parent c).floor<=Zh (gi W.ID c).WV (Qc W x c).w):=Int.not_le.2 g2;rw[decide_eq_false hd,Bool.false_and] at hI;unfold Ov;rw[<-hI]
    ·have g2:=Ou g2;have hd:(Qc W x c).v-(Qc W (gi W.IC x).parent c).floor<=Zh (gi W.ID c).WV (Qc W x c).w:=Int.not_lt.1 g2;rw[Ih hd,Bool.true_and] at hI;exact hI
   ·have hz:x=0:=by simpa using hz
    subst hz;unfold Ov at hI;rw[show Zd W.IC 0=[] from Zs _ _,List.all_nil] at hI;unfold Ov;rw[<-hI]
theorem BA{t:Int}(ha:WA W)(ht:C4 W t)(hs:(Q6 W t).state=1):Q7 W.IC (Q6 W t).group=true/\0<=(Q6 W t).J'/\(Q6 W t).J'<(W.ID.length:Int):=by
 rcases ht with ⟨e,_⟩ | ⟨_,q⟩
 ·omega
 ·exact⟨q.g,KE ha q.c⟩
theorem zem{c:Int}(h:XF bs w W m)(ha:WA W)(hts:∀t:Int,0<=t->t<12->C4 W t)(hss:∀k c:Int,0<=k->k<8->0<=c->c<((gi W.IC k).IE.length:Int)->KA W k c)(c0:0<=c)(c1:c<(W.ID.length:Int)) :
  PX bs PY #[.agg (Qb W m).toArray,I c] w (.bool (Ul (Nf W c))):=
 zff _ _ _ _ _ _ _ _ _ _ c λwr hx=>by
  have h:=(h.ext hx).less (cs:=[]) Qs;intro _ _;have fZ:=ha.t;refine⟨h.c.ix Yh c0 c1,_,_,_,_,_,h.c c c0 c1,λ_ _=>⟨_,X0,_,λ_=>X0,λ_=>⟨Qo,Qo⟩,_,λ_=>Qu,λg=>GB λp=>?_,λg=>⟨λg2=>Ma ?_,λg2=>?_⟩⟩⟩
  ·have e3:X6 (gi W.ID c).cur (-1) (((W.tasks.length:Nat):Int)-1)=true:=Qx.2 (by have:=p.c1; have:=p.c2; omega);rw[p.b,p.i,e3] at g;cases g
  ·simp only[H',I6,Qx] at g;obtain⟨⟨a1,a2⟩,a3⟩:=g;have g2:=Ot g2;rw[Is];exact⟨λe=>⟨a1,a2,a3.1,Qo,λ_=>e,λhc=>by omega⟩,λp=>p.no g2⟩
  ·simp only[H',I6,Qx] at g;obtain⟨⟨a1,a2⟩,a3⟩:=g;have g2:=Ou g2;have t0:0<=(gi W.ID c).cur:=Qo;have t1:(gi W.ID c).cur<(W.tasks.length:Int):=Qo;refine⟨_,λ_=>Qu,λ_=>h.t.ix QG t0 t1,_,λ_=>h.t.f t0 t1 (j:=2) rfl,ZL W (gi W.ID c).cur,λ_=>VV h ha t0 t1 λhs=>BA ha (hts _ t0 Qo) hs,Kc W c,λg3=>zaq h ha hts hss c0 c1 t0 t1 (by simp only[A'] at g3; exact g3.2),Ma ?_⟩;simp only[A',Is,Qx];constructor
   ·rintro⟨⟨⟨⟨e1,e2⟩,e3⟩,e4⟩,e5⟩;exact⟨a1,a2,a3.1,Qo,λhc=>by omega,λ_=>⟨e1,e2.1,e2.2,e3,e4,e5⟩⟩
   ·intro p;have q:=p.yes t0;exact⟨⟨⟨⟨q.1,q.2.1,q.2.2.1⟩,q.2.2.2.1⟩,q.2.2.2.2.1⟩,q.2.2.2.2.2⟩
theorem US(h:XF bs w W m)(lc:W.ID.length<=maxLen)(lt:W.tasks.length<=maxLen)(lg:W.IC.length<=maxLen)(hf:∀i:Int,0<=i->i<(W.IC.length:Int)->zpi (gi W.IC i)) :
  PX bs Xn #[.agg (Qb W m).toArray] w (.bool (QB W)):=
 zfa _ _ _ _ _ _ _ _ _ _ λwr hx=>by
  have h:=(h.ext hx).less (cs:=[]) Qs;intro _ _;have hm9:=J5;refine⟨_,Qu,_,λ_=>Qu,Ku W.IC,λ_=>Eg h.g lg,Ue W.ID,λg=>LU h ?_,λg=>GB λp=>?_,λg=>?_⟩
  ·simp only[H',I6,Qx] at g;omega
  ·have a:=p.a;have e1:X6 W.now 0 100000000000000000=true:=Qx.2 ⟨a.n1,a.n2⟩;have e2:X6 ((W.ID.length:Nat):Int) 1 4=true:=Qx.2 (by have:=a.c1; have:=a.c2; omega);have e3:((W.tasks.length:Nat):Int)=12:=by have:=a.t; omega
   have e5:(Ue W.ID==0)=false:=by simpa using a.ups
   rw[e1,e2,e3,Tq.2 a.tree,e5] at g;simp at g
  simp only[H',I6,Qx,bne_eq_false_iff_eq,beq_eq_false_iff_ne] at g;obtain⟨⟨⟨⟨g1,g2⟩,g3⟩,g4⟩,g5⟩:=g;have ht:=Tq.1 g4;have dD:=ht.len;refine J1 W.IC.length 0 rfl (λk=>k<=W.IC.length/\∀j:Int,0<=j->j<(k:Int)->Kz W j) ⟨Ic _,λj h0 h1=>by omega⟩ λk ⟨hk,hI⟩=>⟨λIT=>?_,λRC=>?_⟩
  ·have IT:=Ot IT;refine⟨_,A8 h g1.1 Qo IT (hf _ Qo IT),λg6=>GB λp=>?_,λg6=>⟨⟨Qo,Qo⟩,QH Qo ⟨Qo,λj h0 h1=>?_⟩⟩⟩
   ·have g6:Ul (Kz W (k:Int))=false:=by simpa using g6
    exact H1.1 g6 (p.a.grp _ Qo Qo)
   ·by_cases gZ:j<(k:Int)
    ·exact hI j h0 gZ
    ·have:j=(k:Int):=Qo;subst this;exact Qm.1 (by simpa using g6)
  have RC:=Ou RC;have ha:WA W:=⟨g1.1,g1.2,Qo,Qo,Qo,ht,g5,λj h0 h1=>hI j h0 Qo⟩;refine J1 W.tasks.length 0 rfl (λk=>k<=W.tasks.length/\∀j:Int,0<=j->j<(k:Int)->C4 W j) ⟨Ic _,λj h0 h1=>by omega⟩ λk2 ⟨hk2,hI2⟩=>⟨λIT=>?_,λbP=>?_⟩
  ·have IT:=Ot IT;refine⟨_,zar h ha Qo IT,λg6=>GB λp=>?_,λg6=>⟨⟨Qo,Qo⟩,QH Qo ⟨Qo,λj h0 h1=>?_⟩⟩⟩
   ·have g6:Ul (C4 W (k2:Int))=false:=by simpa using g6
    exact H1.1 g6 (p.t _ Qo Qo)
   ·by_cases gZ:j<(k2:Int)
    ·exact hI2 j h0 gZ
    ·have:j=(k2:Int):=Qo;subst this;exact Qm.1 (by simpa using g6)
  have bP:=Ou bP;have hts:∀t:Int,0<=t->t<12->C4 W t:=λt h0 h1=>hI2 t h0 Qo
  refine J1 W.IC.length 0 rfl (λk=>k<=W.IC.length/\∀j c:Int,0<=j->j<(k:Int)->0<=c->c<((gi W.IC j).IE.length:Int)->KA W j c) ⟨Ic _,λj c h0 h1=>by omega⟩ λk3 ⟨hk3,hI3⟩=>⟨λIT=>?_,λBg3=>?_⟩
  ·have IT:=Ot IT;have k30:(0:Int)<=(k3:Int):=Qo;refine J1 (gi W.IC (k3:Int)).IE.length 0 rfl (λc=>c<=(gi W.IC (k3:Int)).IE.length/\∀d:Int,0<=d->d<(c:Int)->KA W (k3:Int) d) ⟨Ic _,λj h0 h1=>by omega⟩ λc ⟨hc,hJ⟩=>⟨h.g.ix k30 IT,_,_,_,h.g.Ry k30 IT,λkL=>?_,λAS6=>?_⟩
   ·have kL:=Ot kL;have hsm:(gi W.IC (k3:Int)).IE.length<=maxLen:=(hf _ k30 IT).sh;refine⟨_,A9 h ha k30 IT Qo kL,λg6=>GB λp=>?_,λg6=>⟨⟨Qo,Qo⟩,QH Qo ⟨Qo,λd h0 h1=>?_⟩⟩⟩
    ·have g6:Ul (KA W (k3:Int) (c:Int))=false:=by simpa using g6
     exact H1.1 g6 (p.s _ _ Qo Qo Qo kL)
    ·by_cases gZ:d<(c:Int)
     ·exact hJ d h0 gZ
     ·have:d=(c:Int):=Qo;subst this;exact Qm.1 (by simpa using g6)
   ·have AS6:=Ou AS6;refine⟨⟨Qo,Qo⟩,QH Qo ⟨Qo,λj d h0 h1 h2 h3=>?_⟩⟩
    by_cases gZ:j<(k3:Int)
    ·exact hI3 j d h0 gZ h2 h3
    ·have:j=(k3:Int):=Qo;subst this;exact hJ d h2 Qo
  have Bg3:=Ou Bg3;have hss:∀k c:Int,0<=k->k<8->0<=c->c<((gi W.IC k).IE.length:Int)->KA W k c:=λk c h0 h1 h2 h3=>hI3 k c h0 Qo h2 h3
  refine J1 W.ID.length 0 rfl (λk=>k<=W.ID.length/\∀j:Int,0<=j->j<(k:Int)->Nf W j) ⟨Ic _,λj h0 h1=>by omega⟩ λk4 ⟨hk4,hI4⟩=>⟨λIT=>?_,λCN0=>?_⟩
  ·have IT:=Ot IT;refine⟨_,zem h ha hts hss Qo IT,λg6=>GB λp=>?_,λg6=>⟨⟨Qo,Qo⟩,QH Qo ⟨Qo,λj h0 h1=>?_⟩⟩⟩
   ·have g6:Ul (Nf W (k4:Int))=false:=by simpa using g6
    exact H1.1 g6 (p.c _ Qo IT)
   ·by_cases gZ:j<(k4:Int)
    ·exact hI4 j h0 gZ
    ·have:j=(k4:Int):=Qo;subst this;exact Qm.1 (by simpa using g6)
  ·have CN0:=Ou CN0;exact zpd ⟨ha,hts,hss,λc h0 h1=>hI4 c h0 Qo⟩
end
theorem ZE{n p:Nat}{vs us:List Va}{k:Nat}(h1:ZP p vs=(k:Int)+1)(h2:ZP p us=(k:Int))(hk:k<n):Xm n p vs<Xm n p us:=by
 unfold Xm;rw[h1,h2];omega
theorem zbk{α:Type}[Inhabited α]{l:List α}{p:α->Bool}:l.all p=true↔∀k:Nat,k<l.length->p (gi l (k:Int))=true:=by
 rw[List.all_eq_true];constructor
 ·intro h k hk; exact h _ (zp9 Qo Qo)
 ·intro h x hx;obtain⟨k,hk,rfl⟩:=List.getElem_of_mem hx;rw[<-Tj hk]; exact h k hk
theorem Lp{bs:List Nat}{w:Wo}{b:Nat}{l:List Int}{t:TypeId}{fz:Nat×Nat}(h:w.heap[b]? = some (.cells (l.flatMap Um).toArray t fz))(hb:b∉bs):zs8 bs w (some ⟨b,0,none⟩) l:=λi h0 hi=>by
 have IT:i.toNat<l.length:=Qo;refine Ym h hb (k0:=0) ?_;have:=Bg (enc:=Um) (z:=1) (λ_=>rfl) l i.toNat 0 IT Qd;rw[Nat.add_zero] at this;rw[Nat.zero_add,this]
 have e:gi l i=l[i.toNat]:=by
  have:=Tj IT
  rwa[show ((i.toNat:Nat):Int)=i by omega] at this
 rw[e]; rfl
theorem Aa{l:List Int}{o:OA}{c:Nat}{w:Wo}{bs:List Nat}(h:zs8 bs w o l)(hl:l.length<=maxLen):PX bs ZQ #[.slice o l.length c] w (.bool (l.all ZO)):=
 zib o l.length c λwr hx=>by
  have h:=(h.ext hx).less (cs:=[]) Qs;refine J1 l.length 0 rfl (λk=>k<=l.length/\∀j:Nat,j<k->ZO (gi l (j:Int))=true) ⟨Ic _,λj hj=>Ir hj (Nat.not_lt_zero j)⟩ λk ⟨hk,hI⟩=>⟨λIT=>?_,λRC=>?_⟩
  ·have IT:=Ot IT;refine⟨h.ix JU Qo IT,_,h k Qo IT,_,QQ,λg=>?_,λg=>⟨zls IT hl,QH Qo ⟨Qo,λj hj=>?_⟩⟩⟩
   ·have:l.all ZO=false:=by
     cases hb:l.all ZO with
     | false=>rfl
     | true=>
      have:=zbk.1 hb k Qo;unfold ZO at this;rw[this] at g;cases g
    rw[this]
   ·by_cases gZ:j<k
    ·exact hI j gZ
    ·have:j=k:=Qo;subst this;unfold ZO
     simpa using g
  ·have RC:=Ou RC;have hk:k=l.length:=Qo;subst hk;rw[zbk.2 hI]
theorem z4i{a:Int}{w:Wo}{b:Nat}{t:TypeId}{fz:Nat×Nat}(h:w.heap[b]? = some (.cells ([I a]:List Va).toArray t fz)):PX [] ZQ #[.slice (some ⟨b,0,none⟩) 1 1] w (.bool (ZO a)):=by
 have:=Aa (l:=[a]) (c:=1) (bs:=[]) (Lp h Qs) (by simp[maxLen])
 simpa using this
theorem z42{a b2:Int}{w:Wo}{b:Nat}{t:TypeId}{fz:Nat×Nat}(h:w.heap[b]? = some (.cells ([I a,I b2]:List Va).toArray t fz)):PX [] ZQ #[.slice (some ⟨b,0,none⟩) 2 2] w (.bool (ZO a&&ZO b2)):=by
 have:=Aa (l:=[a,b2]) (c:=2) (bs:=[]) (Lp h Qs) (by simp[maxLen])
 simpa using this
theorem z4r{a b2 b3:Int}{w:Wo}{b:Nat}{t:TypeId}{fz:Nat×Nat}(h:w.heap[b]? = some (.cells ([I a,I b2,I b3]:List Va).toArray t fz)):PX [] ZQ #[.slice (some ⟨b,0,none⟩) 3 3] w (.bool (ZO a&&(ZO b2&&ZO b3))):=by
 have:=Aa (l:=[a,b2,b3]) (c:=3) (bs:=[]) (Lp h Qs) (by simp[maxLen])
 simpa using this
theorem zeb{m:Int}{w:Wo}{bs:List Nat}:PX bs Us #[I m] w (.bool (O7 m)):=Al m λwr hx=>rfl
theorem KL{m:Int}{w:Wo}{bs:List Nat}:PX bs UO #[I m] w (.bool (O7 m)):=zh7 m λwr hx=>⟨_,zeb,rfl⟩
theorem VS{m:Int}{w:Wo}{bs:List Nat}:PX bs YN #[I m] w (.bool ((m != 0)&&O7 m)):=zay m λwr hx=>⟨_,λ_=>KL,rfl⟩
theorem zze:∀(m:Fin 16) (c:Fin 4),(O9 .and .i64 (Int.fdiv (m.val:Int) (2 ^ (min (Int.toNat (c.val:Int)) 64))) 1==1)=(Int.tmod (Int.fdiv (m.val:Int) (2 ^ (min (Int.toNat (c.val:Int)) 64))) 2==1):=by decide +kernel
theorem zea{m c:Int}{w:Wo}{bs:List Nat}:PX bs U1 #[I m,I c] w (.bool (Z1 m c)):=
 BK m c λwr hx=>by
  refine⟨_,zeb,_,λ_=>QQ,λg=>?_,?_⟩
  ·simp only[A'] at g;exact(Qx.1 g.2).1
  ·unfold Z1
   cases h1:O7 m with
   | false=>rfl
   | true=>
    cases h2:X6 c 0 3 with
    | false=>rfl
    | true=>
     obtain⟨x,rfl⟩:=Kq h1;have:=Qx.1 h2;have e:=zze x ⟨c.toNat,Qo⟩;rw[show ((⟨c.toNat,Qo⟩:Fin 4).val:Int)=c by show ((c.toNat:Nat):Int)=c; omega] at e;rw[e]
theorem K3{m c:Int}{w:Wo}{bs:List Nat}:PX bs Ua #[I m,I c] w (.bool (Z1 m c)):=ze5 m c λwr hx=>⟨_,zea,rfl⟩
theorem K2{a b:Int}{w:Wo}{bs:List Nat}:PX bs U9 #[I a,I b] w (I (O2 a b)):=
 ze4 a b λwr hx=>by
  refine⟨_,KL,_,λ_=>KL,λg=>?_,λg=>?_⟩
  ·rw[XM]; simpa using g
  ·simp only[H',I6] at g;rw[Pb g.1 g.2]
theorem Gd{b:Vv}{m:MG}{w:Wo}{bs:List Nat}:PX bs V2 #[.agg (ZF b m).toArray] w (.bool (OY b)):=
 zav b.IX b.Rx b.Sr m.lO b.locals.length m.lC m.dO b.Rz.length m.dC λwr hx=>λ_ _=>rfl
theorem A0{g:ZX}{m:MG}{w:Wo}{bs:List Nat}(hu:g.used=false):PX bs TC #[.agg (YE g m).toArray] w (.bool (Ul (zva g))):=
 An g.used g.parent g.name g.weight g.ID g.period g.next g.sum g.IS.IX g.IS.Rx g.IS.Sr m.lO g.IS.locals.length m.lC m.dO g.IS.Rz.length m.dC m.sO g.IE.length m.sC λwr hx=>by
  intro _ _;refine⟨_,λ_=>Gd (b:=g.IS) (m:=m),Ma ?_⟩;simp only[hu,Bool.not_false,Bool.true_and,A',Is,Vg];constructor
  ·rintro⟨⟨⟨⟨⟨⟨⟨⟨e1,e2⟩,e3⟩,e4⟩,e5⟩,e6⟩,e7⟩,e9⟩,e8⟩;exact⟨e1,e2,e3,e4,e5,e6,e7,Qo,e9⟩
  ·intro q;exact⟨⟨⟨⟨⟨⟨⟨⟨q.p,q.n⟩,q.w⟩,q.c⟩,q.pe⟩,q.ne⟩,q.s⟩,q.b⟩,by have:=q.l; omega⟩
theorem zho{b:Vv}{m:MG}{w:Wo}{bs:List Nat}(h1:zs8 bs w m.lO b.locals)(h2:z1g bs w m.dO b.Rz)(hl:b.locals.length<=maxLen):PX bs MI #[.agg (ZF b m).toArray] w (.bool (Ul (Pg b))):=
 zh5 b.IX b.Rx b.Sr m.lO b.locals.length m.lC m.dO b.Rz.length m.dC λwr hx=>by
  have h1:=(h1.ext hx).less (cs:=[]) Qs;have h2:=(h2.ext hx).less (cs:=[]) Qs;intro _ _;refine⟨_,QQ,_,λ_=>QQ,λg=>GB λp=>?_,λg=>⟨_,QQ,_,λ_=>QQ,λg'=>GB λp=>?_,λg'=>?_⟩⟩
  ·rw[Qx.2 ⟨p.q1,p.q2⟩,Qx.2 (by have:=p.l1; have:=p.l2; omega),p.dl] at g;simp at g
  ·rw[Qx.2 ⟨p.p1,p.p2⟩,Qx.2 ⟨p.s1,p.s2⟩] at g'
   cases g'
  ·simp only[H',I6,bne_eq_false_iff_eq,Qx] at g g';obtain⟨⟨g1,g2⟩,g3⟩:=g;obtain⟨g4,g5⟩:=g';have hdl:b.Rz.length=b.locals.length:=Qo
   have all:∀{k:Nat},k<=b.locals.length->(∀c:Int,0<=c->c<(k:Int)->0<=gi b.locals c/\gi b.locals c<=b.IX/\(gi b.Rz c=true->gi b.locals c=0/\b.Rx=0))->0<=VH b.locals k/\VH b.locals k<=40000:=λ{k} hk h=>by
    have key:∀j:Nat,j<=k->0<=VH b.locals j/\VH b.locals j<=(j:Int)*10000:=λj=>by
     induction j with
     | zero=>intro _; simp[VH]
     | succ j ih=>
      intro hj;have:=ih Qo;have:=h (j:Int) Qo Qo;simp only[VH]; omega
    have:=key k (I7 _);omega
   refine⟨⟨Qo,Qo⟩,?_⟩;refine PF b.locals.length 0 rfl (λx k=>k<=b.locals.length/\x=b.Rx+b.Sr+VH b.locals k/\∀c:Int,0<=c->c<(k:Int)->0<=gi b.locals c/\gi b.locals c<=b.IX/\(gi b.Rz c=true->gi b.locals c=0/\b.Rx=0)) ⟨Ic _,by simp[VH],λc h0 h1=>by omega⟩ λx k ⟨hk,R0,hI⟩=>⟨λIT=>?_,λRC=>?_⟩
   ·have IT:=Ot IT;have Rw:(k:Int)<(b.Rz.length:Int):=Qo;have hsr:=all hk hI;refine⟨h1.ix JU Qo IT,_,h1 k Qo IT,_,QQ,λ_=>h2.ix EO Qo Rw,_,λ_=>h2 k Qo Rw,λg=>GB λp=>?_,λg=>?_⟩
    ·have pe:=p.each (k:Int) Qo IT;rw[Qx.2 ⟨pe.1,pe.2.1⟩] at g;simp only[Bool.not_true,Bool.false_or,A',Iu,It] at g;have:=pe.2.2 g.1;rcases g.2 with h | h
     ·exact h this.1
     ·exact h this.2
    ·simp only[H',I6,Qx] at g;obtain⟨ga,gb⟩:=g;refine⟨⟨Qo,Qo⟩,⟨Qo,Qo⟩,QP Qo ⟨Qo,by simp only[VH]; omega,λc hc0 hc=>?_⟩⟩
     by_cases hck:c<(k:Int)
     ·exact hI c hc0 hck
     ·have:c=(k:Int):=Qo;subst this;refine⟨ga.1,ga.2,λhd=>?_⟩;rw[hd] at gb;simp only[Bool.true_and,H',bne_eq_false_iff_eq] at gb;exact gb
   ·have RC:=Ou RC;have:k=b.locals.length:=Qo;subst this;refine Ma ?_;rw[Is,R0];constructor
    ·intro hs;exact⟨g1.1,g1.2,Qo,Qo,hdl,g4.1,g4.2,g5.1,g5.2,hI,hs⟩
    ·exact λp=>p.sum
def zxz(v f k:Int):Bool:=decide (v>=f)&&decide (v-f<=Zw k)
theorem z0s{a b:Int}(ha:ZO a=true)(hb:ZO b=true):IntKind.i64.wrap (a-b)=a-b:=(NZ ha hb).wrap
theorem zx0{v f k:Int}(hv:ZO v=true)(hf:ZO f=true):KT v f k=zxz v f k:=by unfold KT zxz; rw[z0s hv hf]
theorem Hl{v f k:Int}{w:Wo}{bs:List Nat}(h:ZO v=true)(hf:ZO f=true):PX bs TF #[I v,I f,I k] w (.bool (KT v f k)):=by
 rw[zx0 h hf];exact zia v f k λwr hx=>⟨λ_=>NZ h hf,_,λ_=>K0,rfl⟩
theorem zht{n:Int}{w:Wo}{bs:List Nat}:PX bs MM #[I n] w (.bool (X6 n 0 8000000)):=zh8 n λwr hx=>⟨_,QQ,rfl⟩
structure Mk (bs:List Nat) (w:Wo) (p:OA) (W:Q8) (m:MW):Prop where
 cs:Q1 bs w p 0 (Qb W m)
 rd:XF bs w W m
theorem GX{bs:List Nat}{w:Wo}{o:OA}{n:Nat}{vs:List Va}(h:Q1 bs w o n vs){j:Nat}{v:Va}(hj:vs[j]? = some v):Q1 bs w (o.map (·.add n)) (0+j) [v]:=by
 obtain⟨a,ha,hb,hc⟩:=h.get j v hj;refine XG ⟨a.add n,by rw[ha]; rfl,by rw[ZK]; exact hb,?_⟩;rw[UJ,Nat.zero_add]; exact hc
theorem Lt{bs:List Nat}{w:Wo}{o:OA}{n k:Nat}{v:Va}{r:List Va}(h:Q1 bs w o k (v::r)):(o.map (·.add n)).isSome=true:=by
 have:=h.some
 cases o with
 | none=>cases this
 | some a=>rfl
section
variable {W:Q8}{m:MW}{w w':Wo}{bs cs:List Nat}{p:OA}
theorem Mk.ext(h:Mk bs w p W m)(hx:Q0 bs w w'):Mk bs w' p W m:=⟨h.cs.ext hx,h.rd.ext hx⟩
theorem Mk.less(h:Mk bs w p W m)(hs:∀x∈cs,x∈bs):Mk cs w p W m:=⟨h.cs.less hs,h.rd.less hs⟩
theorem Mk.some(h:Mk bs w p W m):p.isSome=true:=by
 have h1:=h.cs.get 0 _ (rfl:(Qb W m)[0]? = Option.some (I W.now));obtain⟨a,rfl,_⟩:=h1;rfl
theorem Mk.c(h:Mk bs w p W m){j:Nat}{v:Va}(hj:(Qb W m)[j]? = Option.some v):Q1 bs w p (0+j) [v]:=XG (h.cs.get j v hj)
theorem Mk.now(h:Mk bs w p W m):Q1 bs w p (0+0) [I W.now]:=h.c rfl
theorem Mk.ID(h:Mk bs w p W m):Q1 bs w p (0+1) [.slice m.cO W.ID.length m.cC]:=h.c rfl
theorem Mk.tasks(h:Mk bs w p W m):Q1 bs w p (0+2) [.slice m.tO W.tasks.length m.tC]:=h.c rfl
theorem Mk.IC(h:Mk bs w p W m):Q1 bs w p (0+3) [.slice m.gO W.IC.length m.gC]:=h.c rfl
def zyo(m:MW)(g c:Int):OA:=(m.ms g.toNat).sO.map (·.add (Int.toNat c*5))
theorem Mk.sh(h:Mk bs w p W m){g c:Int}(g0:0<=g)(g1:g<(W.IC.length:Int))(c0:0<=c)(c1:c<((gi W.IC g).IE.length:Int)):(zyo m g c).isSome=true/\∀{j:Nat} {v:Va},(MH (Qc W g c))[j]? = Option.some v->Q1 bs w (zyo m g c) (0+j) [v]:=
 ⟨Lt (h.rd.g.IE g g0 g1 c c0 c1),λ{j v} hj=>GX (h.rd.g.IE g g0 g1 c c0 c1) hj⟩
theorem Yr{c:Int}:PX bs QN #[.pointer p,I c] w (.agg #[.pointer p,I c]):=BH p c λwr hx=>λ_ _=>rfl
theorem Zn{g c:Int}(h:Mk bs w p W m)(g0:0<=g)(g1:g<(W.IC.length:Int))(c0:0<=c)(c1:c<((gi W.IC g).IE.length:Int)):PX bs QA #[.agg #[.pointer p,I c],I g] w (.pointer (zyo m g c)):=
 BM p c g λwr hx=>by
  have h:=(h.ext hx).less (cs:=[]) Qs;exact λ_ _=>⟨h.some,_,_,_,h.IC,h.rd.g.ix g0 g1,_,_,_,h.rd.g.Ry g0 g1,(h.rd.g.IE g g0 g1).ix X7 c0 c1,rfl⟩
theorem LK{c:Int}(h:Mk bs w p W m)(c0:0<=c)(c1:c<(W.ID.length:Int)):PX bs YM #[.agg #[.pointer p,I c]] w (.pointer (m.cO.map (·.add (Int.toNat c*5)))):=
 zaw p c λwr hx=>by
  have h:=(h.ext hx).less (cs:=[]) Qs;exact λ_ _=>⟨h.some,_,_,_,h.ID,h.rd.c.ix Yh c0 c1,rfl⟩
theorem zaf{c:Int}(h:Mk bs w p W m)(hl:W.ID.length<=maxLen):PX bs JZ #[.pointer p,I c] w (.bool (X6 c 0 ((W.ID.length:Int)-1))):=
 GC p c λwr hx=>by
  have h:=(h.ext hx).less (cs:=[]) Qs;have:=J5;exact⟨h.some,_,_,_,h.ID,⟨Qo,Qo⟩,_,QQ,rfl⟩
theorem JJ{t:Int}(h:Mk bs w p W m)(hl:W.tasks.length<=maxLen):PX bs Zp #[.pointer p,I t] w (.bool (X6 t 0 ((W.tasks.length:Int)-1)&&((Q6 W t).state != 0))):=
 G2 p t λwr hx=>by
  have h:=(h.ext hx).less (cs:=[]) Qs;have:=J5;have hr:X6 t 0 ((W.tasks.length:Int)-1)=true->0<=t/\t<(W.tasks.length:Int):=λg=>by have:=Qx.1 g; omega
  exact⟨h.some,_,_,_,h.tasks,⟨Qo,Qo⟩,_,QQ,λ_=>h.some,_,_,_,λ_=>h.tasks,λg=>h.rd.t.ix QG (hr g).1 (hr g).2,_,λg=>h.rd.t.f (hr g).1 (hr g).2 (j:=0) rfl,rfl⟩
theorem KN(h:Mk bs w p W m)(h4:W.ID.length<=4):PX bs Xa #[.pointer p] w (I (Ue W.ID)):=
 DS p λwr hx=>by
  have h:=(h.ext hx).less (cs:=[]) Qs;refine⟨h.some,_,_,_,h.ID,?_⟩;refine PF W.ID.length 0 rfl (λx k=>k<=W.ID.length/\x=VI W.ID k) ⟨Ic _,rfl⟩ λx k ⟨hk,R0⟩=>⟨λIT=>?_,λRC=>?_⟩
  ·have IT:=Ot IT;have hb:=NI (k:=k) Qo;have hl:=Do W.ID k Qo;have fR:(1*2 ^ (min (Int.toNat (k:Int)) 64):Int)=UC k:=rfl;refine⟨h.rd.c.ix Yh Qo IT,_,_,_,_,_,h.rd.c k Qo IT,λ_ _=>⟨λhu=>?_,λhu=>?_⟩⟩
   ·rw[fR,R0,z2m Qo hl.1 hl.2];refine⟨⟨Qo,Qo,Qo⟩,⟨Qo,Qo⟩,QP Qo ⟨Qo,?_⟩⟩;simp only[VI]; rw[C' hu]
   ·refine⟨⟨Qo,Qo⟩,QP Qo ⟨Qo,?_⟩⟩;rw[R0]; simp only[VI]; rw[B' (by rw[hu]; decide)]
  ·have RC:=Ou RC;have:k=W.ID.length:=Qo;subst this;rw[R0]; rfl
theorem zn2{g:Int}(h:Mk bs w p W m)(h4:W.ID.length<=4)(ht:Ye W.IC)(hu:Q7 W.IC g=true):PX bs T2 #[.pointer p,I g] w (I (Ts W.IC g (Ue W.ID))):=
 BI p g λwr hx=>by
  have h:=(h.ext hx).less (cs:=[]) Qs;have hr:Q7 W.IC 0=true:=Q4.2 ⟨Qd,by have:=ht.len; omega,ht.ru⟩;obtain⟨r1,r2,_⟩:=Q4.1 hr;refine⟨_,KN h h4,λvs=>∃(x s:Int),vs=[I x,I s]/\Q7 W.IC x=true/\Ts W.IC x s=Ts W.IC g (Ue W.ID),λvs=>(dep 3 W.IC (ZP 0 vs)).toNat,⟨g,_,rfl,hu,rfl⟩,?_⟩;rintro x s ⟨x',s',he,hux,hI⟩;simp only[I4,I5,true_and,and_true] at he;obtain⟨rfl,rfl⟩:=he;refine⟨λhz=>?_,λhz=>?_⟩
  ·have hz:x≠0:=by simpa using hz
   obtain⟨hp,a,b,d,e,e2,hd⟩:=Yf ht hux hz;unfold Ts at hI;rw[YU ht hux hz,List.cons_append,List.foldl_cons] at hI
   exact⟨h.some,_,_,_,h.IC,h.rd.g.ix a b,_,h.rd.g.ID a b,_,K2,h.some,_,_,_,h.IC,h.rd.g.ix a b,_,h.rd.g.parent a b,⟨_,_,rfl,hp,hI⟩,by
    show (dep 3 W.IC (gi W.IC x).parent).toNat<(dep 3 W.IC x).toNat;omega⟩
  ·have hz:x=0:=by simpa using hz
   subst hz;unfold Ts at hI;rw[show Zd W.IC 0=[] from Zs _ _] at hI;refine⟨h.some,_,_,_,h.IC,h.rd.g.ix r1 r2,_,h.rd.g.ID r1 r2,_,K2,?_⟩;unfold Ts;rw[<-hI]; rfl
theorem OT{g mask:Int}(h:Mk bs w p W m)(h4:W.ID.length<=4)(ht:Ye W.IC)(hu:Q7 W.IC g=true):PX bs Yo #[.pointer p,I mask,I g] w (I (Qn W g mask)):=
 LZ p mask g λwr hx=>by
  have h:=(h.ext hx).less (cs:=[]) Qs;refine⟨_,zn2 h h4 ht hu,_,K2,λg1=>?_,λg1=>⟨λg2=>?_,λg2=>⟨_,KN h h4,?_⟩⟩⟩
  ·unfold Qn; rw[C' (by simpa using g1)]
  ·unfold Qn; rw[B' (by simpa using g1),C' (by simpa using g2)]
  ·unfold Qn; rw[B' (by simpa using g1),B' (by simpa using g2)]
theorem K4{t:Int}(h:Mk bs w p W m)(h4:W.ID.length<=4)(ht:Ye W.IC)(t0:0<=t)(t1:t<(W.tasks.length:Int))(hu:Q7 W.IC (Q6 W t).group=true):PX bs YF #[.pointer p,I t] w (I (Qn W (Q6 W t).group (Q6 W t).mask)):=
 HC p t λwr hx=>by
  have h:=(h.ext hx).less (cs:=[]) Qs;exact⟨h.some,_,_,_,h.tasks,h.rd.t.ix QG t0 t1,_,h.rd.t.f t0 t1 (j:=4) rfl,h.some,_,_,_,h.tasks,h.rd.t.ix QG t0 t1,_,h.rd.t.f t0 t1 (j:=1) rfl,_,OT h h4 ht hu,rfl⟩
theorem Eb{t c g:Int}(h:Mk bs w p W m)(t0:0<=t)(t1:t<(W.tasks.length:Int)):PX bs JB #[.agg #[.pointer p,I c],I t,I g] w (.bool (Pp W g c t.toNat)):=
 Fc p c t g λwr hx=>by
  have h:=(h.ext hx).less (cs:=[]) Qs;refine λ_ _=>⟨h.some,_,_,_,h.tasks,h.rd.t.ix QG t0 t1,_,_,_,_,_,_,_,_,_,h.rd.t t t0 t1,λ_ _=>?_⟩
  unfold Pp;rw[show ((t.toNat:Nat):Int)=t by omega]
theorem Bm{k c g:Int}(h:Mk bs w p W m)(ha:WA W)(k0:0<=k)(k1:k<(W.IC.length:Int))(c0:0<=c)(c1:c<(W.ID.length:Int)):PX bs U2 #[.agg #[.pointer p,I c],I k,I g] w (.bool (Jy W g c k.toNat)):=
 BL p c k g λwr hx=>by
  have h:=(h.ext hx).less (cs:=[]) Qs
  have hc:(((k != 0)&&(gi W.IC k).used)&&((gi W.IC k).parent==g))=true->c<((gi W.IC k).IE.length:Int):=λq=>by
   simp only[A'] at q;rw[ha.sl (Q4.2 ⟨k0,k1,q.1.2⟩)]; exact c1
  refine λ_ _=>⟨λ_=>h.some,_,_,_,λ_=>h.IC,λ_=>h.rd.g.ix k0 k1,_,λ_=>h.rd.g.used k0 k1,λ_=>h.some,_,_,_,λ_=>h.IC,λ_=>h.rd.g.ix k0 k1,_,λ_=>h.rd.g.parent k0 k1,zyo m k c,λq=>Zn h k0 k1 c0 (hc q),λq=>(h.sh k0 k1 c0 (hc q)).1,(Qc W k c).on,λq=>(h.sh k0 k1 c0 (hc q)).2 (j:=1) rfl,?_⟩
  unfold Jy;rw[show ((k.toNat:Nat):Int)=k by omega]
  have e:decide (1<=k.toNat)=(k != 0):=by
   by_cases hk:k=0
   ·subst hk; rfl
   ·rw[Ih Qo,It.2 hk]
  rw[e,Bool.and_assoc,Bool.and_assoc,Bool.and_assoc,Bool.and_assoc]
theorem KM{g c:Int}(h:Mk bs w p W m)(ha:WA W)(c0:0<=c)(c1:c<(W.ID.length:Int)):PX bs Xu #[.agg #[.pointer p,I c],I g] w (.bool (QX W g c)):=
 Fa p c g λwr hx=>by
  have h:=(h.ext hx).less (cs:=[]) Qs;have dD:=ha.gl;have ht:=ha.t;refine λ_ _=>⟨h.some,_,_,_,h.tasks,?_⟩
  refine J1 W.tasks.length 0 rfl (λk=>k<=W.tasks.length/\∀j:Nat,j<k->Pp W g c j=false) ⟨Ic _,λj hj=>Ir hj (Nat.not_lt_zero j)⟩ λk ⟨hk,hI⟩=>⟨λIT=>?_,λRC=>?_⟩
  ·have IT:=Ot IT;refine⟨_,Eb h Qo IT,λhy=>?_,λhn=>⟨⟨Qo,Qo⟩,QH Qo ⟨Qo,λj hj=>?_⟩⟩⟩
   ·rw[Ig] at hy;unfold QX;rw[ED.2 ⟨k,Qo,hy⟩]; rfl
   ·by_cases gZ:j<k
    ·exact hI j gZ
    ·have:j=k:=Qo;subst this
     rwa[Ig] at hn
  ·have RC:=Ou RC;have iQ:Oe (Pp W g c) W.tasks.length=false:=zkw λj hj=>hI j Qo
   refine⟨h.some,_,_,_,h.IC,?_⟩;refine J1 W.IC.length 0 rfl (λk=>k<=W.IC.length/\∀j:Nat,j<k->Jy W g c j=false) ⟨Ic _,λj hj=>Ir hj (Nat.not_lt_zero j)⟩ λk ⟨hk,hI⟩=>⟨λIT=>?_,λRC=>?_⟩
   ·have IT:=Ot IT;refine⟨_,Bm h ha Qo IT c0 c1,λhy=>?_,λhn=>⟨⟨Qo,Qo⟩,QH Qo ⟨Qo,λj hj=>?_⟩⟩⟩
    ·rw[Ig] at hy;unfold QX;rw[ED.2 ⟨k,Qo,hy⟩,Bool.or_true]
    ·by_cases gZ:j<k
     ·exact hI j gZ
     ·have:j=k:=Qo;subst this
      rwa[Ig] at hn
   ·have RC:=Ou RC;have:Oe (Jy W g c) W.IC.length=false:=zkw λj hj=>hI j Qo
    unfold QX;rw[iQ,this]; rfl
theorem zd9{g c:Int}(h:Mk bs w p W m)(ha:WA W)(hu:Q7 W.IC g=true)(c0:0<=c)(c1:c<(W.ID.length:Int)):PX bs V3 #[.agg #[.pointer p,I c],I g] w (.bool (UD W g c)):=
 zax p c g λwr hx=>by
  have h:=(h.ext hx).less (cs:=[]) Qs;obtain⟨u1,u2,_⟩:=Q4.1 hu
  have hd:(decide ((gi W.IC g).IS.IX>0))=true->c<((gi W.IC g).IS.Rz.length:Int):=λg1=>by
   have:=Ot g1;rw[(ha.dl hu Qo).1]; exact c1
  exact λ_ _=>⟨h.some,_,_,_,h.IC,h.rd.g.ix u1 u2,_,_,_,_,_,_,_,_,_,h.rd.g.IS u1 u2,λ_ _=>⟨λg1=>(h.rd.g.Rz g u1 u2).ix EO c0 (hd g1),_,λg1=>(h.rd.g.Rz g u1 u2) c c0 (hd g1),rfl⟩⟩
theorem Ea{t c:Int}(h:Mk bs w p W m)(ha:WA W)(t0:0<=t)(t1:t<(W.tasks.length:Int))(c0:0<=c)(c1:c<(W.ID.length:Int))(hu:(Q6 W t).state=1->Q7 W.IC (Q6 W t).group=true) :
  PX bs JA #[.agg #[.pointer p,I c],I t] w (.bool (((Q6 W t).J'==c)&&ZL W t)):=
 Fb p c t λwr hx=>by
  have h:=(h.ext hx).less (cs:=[]) Qs;refine λ_ _=>⟨h.some,_,_,_,h.tasks,h.rd.t.ix QG t0 t1,_,_,_,_,_,_,_,_,_,h.rd.t t t0 t1,λ_ _=>⟨λg=>?_,λg=>?_⟩⟩
  ·have g':(((Q6 W t).state != 1)||((Q6 W t).J' != c))=true:=g
   have:(((Q6 W t).J'==c)&&ZL W t)=false:=by
    unfold ZL;simp only[Iu,It] at g';rcases g' with e | e
    ·rw[beq_eq_false_iff_ne.2 e,Bool.false_and,Bool.and_false]
    ·rw[beq_eq_false_iff_ne.2 e,Bool.false_and]
   rw[this]
  ·have g':(((Q6 W t).state != 1)||((Q6 W t).J' != c))=false:=g;simp only[H',bne_eq_false_iff_eq] at g';obtain⟨hs,hc⟩:=g';have hug:=hu hs
   have hL:(((Q6 W t).J'==c)&&ZL W t)=VC W (Q6 W t).group c:=by
    unfold ZL; rw[Is.2 hs,Is.2 hc,Bool.true_and,Bool.true_and,hc]
   rw[hL];refine⟨λvs=>∃x:Int,vs=[I x]/\Q7 W.IC x=true/\VC W x c=VC W (Q6 W t).group c,λvs=>(dep 3 W.IC (ZP 0 vs)).toNat,⟨_,rfl,hug,rfl⟩,?_⟩;rintro x ⟨x',he,hux,hI⟩;simp only[I4,I5,true_and,and_true] at he;subst he;refine⟨λhz=>?_,λhz=>?_⟩
   ·have hz:x≠0:=by simpa using hz
    obtain⟨hp,a,b,d,e,e2,hd⟩:=Yf ha.tree hux hz;have vS:c<((gi W.IC x).IE.length:Int):=by rw[ha.sl hux]; exact c1
    unfold VC at hI;rw[YU ha.tree hux hz,List.all_cons] at hI
    refine⟨_,Zn h a b c0 vS,(h.sh a b c0 vS).1,_,(h.sh a b c0 vS).2 (j:=1) rfl,λg2=>?_,λg2=>⟨h.some,_,_,_,h.IC,h.rd.g.ix a b,_,h.rd.g.parent a b,⟨_,rfl,hp,?_⟩,by
     show (dep 3 W.IC (gi W.IC x).parent).toNat<(dep 3 W.IC x).toNat;omega⟩⟩
    ·have g2:(Qc W x c).on=false:=by simpa using g2
     rw[g2,Bool.false_and] at hI;unfold VC;rw[<-hI]
    ·have g2:(Qc W x c).on=true:=by simpa using g2
     rw[g2,Bool.true_and] at hI;exact hI
   ·have hz:x=0:=by simpa using hz
    subst hz;unfold VC at hI;rw[show Zd W.IC 0=[] from Zs _ _,List.all_nil] at hI;unfold VC;rw[<-hI]
end
structure zyl (W:Q8):Prop where
 n1:0<=W.now
 n2:W.now<=100000000000000000
 c1:1<=W.ID.length
 c2:W.ID.length<=4
 t:W.tasks.length=12
 tree:Ye W.IC
 ups:Ue W.ID≠0
structure z27 (W:Q8) (g:ZX):Prop where
 none:g.IS.IX=0->OY g.IS=true/\g.period=0/\g.next=0
 IS:g.IS.IX≠0->Pg g.IS/\g.IS.locals.length=W.ID.length/\1<=g.period/\g.period<=1000/\W.now<g.next/\g.next-W.now<=g.period
structure z25 (W:Q8) (g:ZX):Prop where
 w1:1<=g.weight
 w2:g.weight<=20
 m:O7 g.ID=true
 m0:g.ID≠0
 s:ZO g.sum=true
 len:g.IE.length=W.ID.length
 q:z27 W g
def zyr(W:Q8)(k:Int):Prop:=((gi W.IC k).used=false->zva (gi W.IC k))/\((gi W.IC k).used=true->z25 W (gi W.IC k))
theorem Bk{W:Q8}{k:Int}:Kz W k↔zyr W k/\((gi W.IC k).used=true->k=0->(gi W.IC k).weight=10/\(gi W.IC k).ID=15/\(gi W.IC k).IS.IX=0):=by
 constructor
 ·intro p;exact⟨⟨p.1,λhu=>by have q:=p.2 hu; exact⟨q.w1,q.w2,q.m,q.m0,q.s,q.len,⟨q.none,q.IS⟩⟩⟩,λhu=>(p.2 hu).root⟩
 ·rintro⟨p,r⟩;exact⟨p.1,λhu=>by have q:=p.2 hu; exact⟨q.w1,q.w2,q.m,q.m0,q.s,q.len,r hu,q.q.none,q.q.IS⟩⟩
section
variable {W:Q8}{m:MW}{w:Wo}{bs:List Nat}{p:OA}
theorem zec{k:Int}(h:Mk bs w p W m)(n1:0<=W.now)(n2:W.now<=100000000000000000)(k0:0<=k)(k1:k<(W.IC.length:Int))(hf:zpi (gi W.IC k)) :
  PX bs XR #[.pointer p,.agg (YE (gi W.IC k) (m.ms k.toNat)).toArray] w (.bool (Ul (z27 W (gi W.IC k)))):=
 HD p (gi W.IC k).used (gi W.IC k).parent (gi W.IC k).name (gi W.IC k).weight (gi W.IC k).ID (gi W.IC k).period (gi W.IC k).next (gi W.IC k).sum (gi W.IC k).IS.IX (gi W.IC k).IS.Rx (gi W.IC k).IS.Sr (m.ms k.toNat).lO (gi W.IC k).IS.locals.length (m.ms k.toNat).lC (m.ms k.toNat).dO (gi W.IC k).IS.Rz.length (m.ms k.toNat).dC (m.ms k.toNat).sO (gi W.IC k).IE.length (m.ms k.toNat).sC λwr hx=>by
  have h:=(h.ext hx).less (cs:=[]) Qs
  have hp:((Ul (Pg (gi W.IC k).IS)&&(((gi W.IC k).IS.locals.length:Nat):Int)==((W.ID.length:Nat):Int))&&X6 (gi W.IC k).period 1 1000)=true->1<=(gi W.IC k).period/\(gi W.IC k).period<=1000:=λq=>by
   simp only[A'] at q;exact Qx.1 q.2
  refine λ_ _=>⟨_,Gd (b:=(gi W.IC k).IS) (m:=m.ms k.toNat),λg=>Ma ?_,λg=>⟨_,zho (b:=(gi W.IC k).IS) (m:=m.ms k.toNat) (h.rd.g.locals k k0 k1) (h.rd.g.Rz k k0 k1) hf.lo,λ_=>h.some,_,_,_,λ_=>h.ID,_,λ_=>QQ,λ_=>h.some,_,λ_=>h.now,λ_=>⟨Qo,Qo⟩,λ_=>h.some,_,λ_=>h.now,λq=>⟨by have:=hp q; omega,by have:=hp q; omega⟩,_,λ_=>QQ,Ma ?_⟩⟩
  ·have q0:=(Hy g).1;simp only[A',Is];exact⟨λe=>⟨λ_=>⟨g,e.1,e.2⟩,λfI=>Ir q0 fI⟩,λq=>(q.none q0).2⟩
  ·simp only[A',Is,Qm,Qx];constructor
   ·rintro⟨⟨⟨e1,e2⟩,e3⟩,e4⟩;have:=e1.q1;exact⟨λhz=>by omega,λ_=>⟨e1,Qo,e3.1,e3.2,Qo,Qo⟩⟩
   ·intro q
    have hq:(gi W.IC k).IS.IX≠0:=λe=>by
     have:=(q.none e).1;rw[this] at g; cases g
    have r:=q.IS hq;exact⟨⟨⟨r.1,by have:=r.2.1; omega⟩,r.2.2.1,r.2.2.2.1⟩,by have:=r.2.2.2.2.1; omega,by have:=r.2.2.2.2.2; omega⟩
theorem zag(h:Mk bs w p W m)(hs:zyl W)(hf:∀i:Int,0<=i->i<(W.IC.length:Int)->zpi (gi W.IC i)):PX bs Xy #[.pointer p] w (.bool (Ul (∀k:Int,0<=k->k<8->Kz W k))):=
 GD p λwr hx=>by
  have h:=(h.ext hx).less (cs:=[]) Qs;have dD:=hs.tree.len;refine⟨h.some,_,_,_,h.IC,?_⟩;refine J1 W.IC.length 0 rfl (λk=>k<=W.IC.length/\∀j:Int,0<=j->j<(k:Int)->zyr W j) ⟨Ic _,λj h0 h1=>by omega⟩ λk ⟨hk,hI⟩=>⟨λIT=>?_,λRC=>?_⟩
  ·have IT:=Ot IT;have k0:(0:Int)<=(k:Int):=Qo
   have nxt:zyr W (k:Int)->∀j:Int,0<=j->j<((k+1:Nat):Int)->zyr W j:=λhq j h0 h1=>by
    by_cases gZ:j<(k:Int)
    ·exact hI j h0 gZ
    ·have:j=(k:Int):=Qo;subst this; exact hq
   refine⟨h.rd.g.ix k0 IT,_,_,_,_,_,_,_,_,_,_,_,_,_,_,_,_,_,_,_,_,h.rd.g.cells k k0 IT,λ_ _=>⟨λg=>?_,λg=>?_⟩⟩
   ·have hu:(gi W.IC (k:Int)).used=false:=by simpa using g
    refine⟨_,A0 (g:=gi W.IC (k:Int)) (m:=m.ms (k:Int).toNat) hu,λg2=>GB λpp=>?_,λg2=>⟨⟨Qo,Qo⟩,QH Qo ⟨Qo,nxt ⟨λ_=>Qm.1 (by simpa using g2),λhu'=>by rw[hu'] at hu; cases hu⟩⟩⟩⟩;have g2:Ul (zva (gi W.IC (k:Int)))=false:=by simpa using g2
    exact H1.1 g2 ((Bk.1 (pp (k:Int) k0 Qo)).1.1 hu)
   ·have hu:(gi W.IC (k:Int)).used=true:=by simpa using g
    have bad:¬z25 W (gi W.IC (k:Int))->¬∀k:Int,0<=k->k<8->Kz W k:=λhn pp=>hn ((Bk.1 (pp (k:Int) k0 Qo)).1.2 hu)
    refine⟨_,M0,_,λ_=>VS,λg2 b1 fQ=>⟨ZO (gi W.IC (k:Int)).sum,λ_ wx hxw hcx=>z4i hcx,λ_=>h.some,_,_,_,λ_=>h.ID,_,λ_=>zec h hs.n1 hs.n2 k0 IT (hf _ k0 IT),λg3=>GB (bad λq=>?_),λg3=>⟨⟨Qo,Qo⟩,QH Qo ⟨Qo,nxt ⟨λhu'=>(by rw[hu'] at hu; cases hu),λ_=>?_⟩⟩⟩⟩,λg2=>⟨λe=>(by cases e),none,0,0,λe=>(by cases e),false,λe=>(by simp at e),λg3=>GB (bad λq=>g2 ?_),λg3=>(by simp at g3)⟩⟩
    ·have e1:X6 (gi W.IC (k:Int)).weight 1 20=true:=Qx.2 ⟨q.w1,q.w2⟩;have e2:((gi W.IC (k:Int)).ID != 0)=true:=by simpa using q.m0
     have e5:(((gi W.IC (k:Int)).IE.length:Nat):Int)=((W.ID.length:Nat):Int):=by have:=q.len; omega
     rw[e1,e2,q.m,q.s,e5,Qm.2 q.q] at g3;simp at g3
    ·simp only[H',I6,bne_eq_false_iff_eq,Qx,A',It,Qm] at g3;obtain⟨⟨⟨⟨a1,a2⟩,a3⟩,a4⟩,a5⟩:=g3;exact⟨a1.1,a1.2,a2.2,a2.1,a3,Qo,a5⟩
    ·have e1:X6 (gi W.IC (k:Int)).weight 1 20=true:=Qx.2 ⟨q.w1,q.w2⟩;have e2:((gi W.IC (k:Int)).ID != 0)=true:=by simpa using q.m0
     rw[e1,e2,q.m]; rfl
  ·have RC:=Ou RC;have h0:(0:Int)<(W.IC.length:Int):=Qo;refine⟨h.some,_,_,_,h.IC,h.rd.g.ix Qd h0,_,_,_,_,_,_,_,_,_,_,_,_,_,_,_,_,_,_,_,_,h.rd.g.cells 0 Qd h0,λ_ _=>Ma ?_⟩;simp only[A',Is];constructor
   ·rintro⟨⟨e1,e2⟩,e3⟩ j j0 j1;exact Bk.2 ⟨hI j j0 Qo,λ_ hj=>by subst hj; exact⟨e1,e2,e3⟩⟩
   ·intro pp;have r:=(Bk.1 (pp 0 Qd Qd)).2 hs.tree.ru rfl;exact⟨⟨r.1,r.2.1⟩,r.2.2⟩
theorem zyl.wa(hs:zyl W)(hg:∀k:Int,0<=k->k<8->Kz W k):WA W:=⟨hs.n1,hs.n2,hs.c1,hs.c2,hs.t,hs.tree,hs.ups,hg⟩
theorem Ah{n:Int}:X6 n (-10) 9=true↔Qe n≠0:=by
 unfold Qe
 cases h:X6 n (-10) 9 with
 | true=>
  have:=Qx.1 h;simp; omega
 | false=>simp
def zca(W:Q8)(t:Int):Prop:=C4 W t/\((Q6 W t).state=1->ZO (Qc W (Q6 W t).group (Q6 W t).J').floor=true)
theorem zeg(h:Mk bs w p W m)(ha:WA W)(lg:W.IC.length<=maxLen):PX bs XT #[.pointer p] w (.bool (Ul (∀t:Int,0<=t->t<12->zca W t))):=
 HF p λwr hx=>by
  have h:=(h.ext hx).less (cs:=[]) Qs;have dD:=ha.gl;have fZ:=ha.t;refine⟨h.some,_,_,_,h.tasks,?_⟩;refine J1 W.tasks.length 0 rfl (λk=>k<=W.tasks.length/\∀j:Int,0<=j->j<(k:Int)->zca W j) ⟨Ic _,λj h0 h1=>by omega⟩ λk ⟨hk,hI⟩=>⟨λIT=>?_,λRC=>?_⟩
  ·have IT:=Ot IT;have k0:(0:Int)<=(k:Int):=Qo
   have nxt:zca W (k:Int)->Qr .i64 ((k:Int)+1)/\ztj (λk=>k<=W.tasks.length/\∀j:Int,0<=j->j<(k:Int)->zca W j) [I ((k:Int)+1)]/\Xm W.tasks.length 0 [I ((k:Int)+1)]<Xm W.tasks.length 0 [I (k:Int)]:=λhq=>⟨⟨Qo,Qo⟩,QH Qo ⟨Qo,λj h0 h1=>by
    by_cases gZ:j<(k:Int)
    ·exact hI j h0 gZ
    ·have:j=(k:Int):=Qo;subst this; exact hq⟩⟩
   have bad:¬zca W (k:Int)->¬∀t:Int,0<=t->t<12->zca W t:=λhn pp=>hn (pp (k:Int) k0 Qo)
   refine⟨h.rd.t.ix QG k0 IT,_,_,_,_,_,_,_,_,_,h.rd.t k k0 IT,λ_ _=>⟨_,λwq=>zft zja (zry (gi W.tasks (k:Int)) Ow) _ _ wq,λg=>?_,λg=>?_⟩⟩
   ·rw[zmu,Ij] at g;have hz:Q6 W (k:Int)=Ow:=g;exact nxt ⟨.inl ⟨by rw[hz]; rfl,hz⟩,λe=>by rw[hz] at e; cases e⟩
   ·rw[zmu,decide_eq_false_iff_not] at g;have hz:¬Q6 W (k:Int)=Ow:=g
    have get:zca W (k:Int)->zyt W (gi W.tasks (k:Int)):=λq=>by
     rcases q.1 with ⟨_,e⟩ | ⟨_,q⟩
     ·exact Ir e hz
     ·exact q
    refine⟨λ_=>h.some,_,_,_,λ_=>h.IC,_,λ_=>Ve (c:=m.gC) h.rd.g lg,_,λ_=>Pa,_,λ_=>VS,λg2=>GB (bad λq=>?_),λg2 b1 fQ=>?_⟩
    ·have q:=get q;have e3:X6 (gi W.tasks (k:Int)).nice (-10) 9=true:=Ah.2 q.n;have e4:((gi W.tasks (k:Int)).mask != 0)=true:=by simpa using q.m0
     rw[q.g,e3,q.m,e4] at g2;simp only[Bool.not_true,Bool.or_false,Bool.and_true,A',It] at g2;have:=q.st;omega
    ·simp only[H',I6,A',It] at g2;obtain⟨⟨⟨a1,a2⟩,a3⟩,a4⟩:=g2
     have st:(gi W.tasks (k:Int)).state=1\/(gi W.tasks (k:Int)).state=2:=by
      by_cases h1:(gi W.tasks (k:Int)).state=1
      ·exact .inl h1
      ·refine .inr ?_;have:((gi W.tasks (k:Int)).state != 1)=true:=by simpa using h1
       rw[this,Bool.true_and] at a1
       simpa using a1
     refine⟨_,λwx hxw hcx=>z4r hcx,_,λ_=>zht,_,λ_=>K4 h ha.c2 ha.tree k0 IT a2,_,λ_=>K3,λg3=>GB (bad λq=>?_),λg3=>?_⟩
     ·have q:=get q;have e4:X6 (gi W.tasks (k:Int)).load 0 8000000=true:=Qx.2 ⟨q.l1,q.l2⟩;have e5:Z1 (Qn W (Q6 W (k:Int)).group (Q6 W (k:Int)).mask) (gi W.tasks (k:Int)).J'=true:=q.c;rw[q.v,q.s,q.u,e4,e5] at g3;cases g3
     ·simp only[H',I6,Qx,A'] at g3;obtain⟨⟨b1',b2⟩,b3⟩:=g3;obtain⟨u1,u2,_⟩:=Q4.1 a2;obtain⟨c0,c1⟩:=KE ha b3;have hsl:=ha.sl a2;have c2:(gi W.tasks (k:Int)).J'<((gi W.IC (gi W.tasks (k:Int)).group).IE.length:Int):=Qo;have sh:=h.sh (g:=(gi W.tasks (k:Int)).group) u1 u2 c0 c2
      have mk:(((Q6 W (k:Int)).state=1->ZO (Qc W (Q6 W (k:Int)).group (Q6 W (k:Int)).J').floor=true/\KT (gi W.tasks (k:Int)).v (Qc W (gi W.tasks (k:Int)).group (gi W.tasks (k:Int)).J').floor (Qe (gi W.tasks (k:Int)).nice)=true))->zca W (k:Int):=λhf=>⟨.inr ⟨λe=>by
        have e:(gi W.tasks (k:Int)).state=0:=e;omega,⟨st,a2,Ah.1 a3,a4.2,a4.1,b1'.1,b1'.2.1,b1'.2.2,b2.1,b2.2,b3,λe=>(hf e).2⟩⟩,λe=>(hf e).1⟩
      refine⟨_,_,Yr,_,Zn h u1 u2 c0 c2,sh.1,_,sh.2 (j:=0) rfl,λ_ b2 bR=>⟨ZO (Qc W (gi W.tasks (k:Int)).group (gi W.tasks (k:Int)).J').floor,λ_ wx hxw hcx=>z4i hcx,_,λ_ _=>PZ,_,λg4 _=>Hl b1'.1 (by simpa using g4),λg4=>GB (bad λq=>?_),λg4=>nxt (mk λe=>?_)⟩,λg4=>⟨λe=>(by cases e),λ_=>nxt (mk λe=>Ir (Is.2 e) g4)⟩⟩
      ·simp only[A',Is,Iu,IB] at g4;have e1:=(get q).f g4.1;have e2:=q.2 g4.1;rcases g4.2 with g5 | g5
       ·have e2:ZO (Qc W (gi W.tasks (k:Int)).group (gi W.tasks (k:Int)).J').floor=true:=e2;rw[e2] at g5; cases g5
       ·rw[e1] at g5; cases g5
      ·have e':((gi W.tasks (k:Int)).state==1)=true:=Is.2 e;rw[e',Bool.true_and] at g4;simp only[H',I6] at g4;exact g4
  ·have RC:=Ou RC;exact zpd λt h0 h1=>hI t h0 Qo
theorem A1(h:Mk bs w p W m)(ha:WA W)(hf:∀i:Int,0<=i->i<(W.IC.length:Int)->zpi (gi W.IC i)):PX bs Xj #[.pointer p] w (.bool (Ul (∀k c:Int,0<=k->k<8->0<=c->c<((gi W.IC k).IE.length:Int)->KA W k c))):=
 G1 p λwr hx=>by
  have h:=(h.ext hx).less (cs:=[]) Qs;have dD:=ha.gl;have tL:=ha.c2
  let TS:=λ(k c:Int)=>ZO (Qc W k c).floor=true/\ZO (Qc W k c).v=true/\ZO (Qc W k c).sum=true/\1<=(Qc W k c).w/\(Qc W k c).w<=20
  have ts:(∀k c:Int,0<=k->k<8->0<=c->c<((gi W.IC k).IE.length:Int)->KA W k c)->∀k c:Int,0<=k->k<8->0<=c->c<((gi W.IC k).IE.length:Int)->TS k c:=λq k c h0 h1 h2 h3=>by
   have r:=q k c h0 h1 h2 h3;exact⟨r.f,r.v,r.s,r.w1,r.w2⟩
  refine⟨h.some,_,_,_,h.IC,?_⟩;refine J1 W.IC.length 0 rfl (λk=>k<=W.IC.length/\∀j c:Int,0<=j->j<(k:Int)->0<=c->c<((gi W.IC j).IE.length:Int)->TS j c) ⟨Ic _,λj c h0 h1=>by omega⟩ λk ⟨hk,hI⟩=>⟨λIT=>?_,λRC=>?_⟩
  ·have IT:=Ot IT;have k0:(0:Int)<=(k:Int):=Qo;have hsm:(gi W.IC (k:Int)).IE.length<=maxLen:=(hf _ k0 IT).sh;refine⟨h.rd.g.ix k0 IT,_,_,_,_,_,_,_,_,_,_,_,_,_,_,_,_,_,_,_,_,h.rd.g.cells k k0 IT,λ_ _=>?_⟩;refine J1 (gi W.IC (k:Int)).IE.length 0 rfl (λc=>c<=(gi W.IC (k:Int)).IE.length/\∀d:Int,0<=d->d<(c:Int)->TS (k:Int) d) ⟨Ic _,λj h0 h1=>by omega⟩ λc ⟨hc,hJ⟩=>⟨λkL=>?_,λAS6=>?_⟩
   ·have kL:=Ot kL;have c0:(0:Int)<=(c:Int):=Qo;have rs:=h.rd.g.IE (k:Int) k0 IT;refine⟨rs.ix X7 c0 kL,_,_,_,_,_,rs c c0 kL,λ_ _ b2 bR=>⟨_,λwx hxw hcx=>z4r hcx,_,λ_=>M0,λg=>GB λq=>?_,λg=>⟨zls kL hsm,QH Qo ⟨Qo,λd h0 h1=>?_⟩⟩⟩⟩
    ·have r:=ts q (k:Int) (c:Int) k0 Qo c0 kL;have e4:X6 (Qc W (k:Int) (c:Int)).w 1 20=true:=Qx.2 ⟨r.2.2.2.1,r.2.2.2.2⟩;have g':((!(ZO (Qc W (k:Int) (c:Int)).floor&&(ZO (Qc W (k:Int) (c:Int)).v&&ZO (Qc W (k:Int) (c:Int)).sum))) || !X6 (Qc W (k:Int) (c:Int)).w 1 20)=true:=g;rw[r.1,r.2.1,r.2.2.1,e4] at g'
     cases g'
    ·by_cases gZ:d<(c:Int)
     ·exact hJ d h0 gZ
     ·have:d=(c:Int):=Qo;subst this;have g':((!(ZO (Qc W (k:Int) (c:Int)).floor&&(ZO (Qc W (k:Int) (c:Int)).v&&ZO (Qc W (k:Int) (c:Int)).sum))) || !X6 (Qc W (k:Int) (c:Int)).w 1 20)=false:=g;simp only[H',I6,A',Qx] at g';exact⟨g'.1.1,g'.1.2.1,g'.1.2.2,g'.2.1,g'.2.2⟩
   ·have AS6:=Ou AS6;refine⟨⟨Qo,Qo⟩,QH Qo ⟨Qo,λj d h0 h1 h2 h3=>?_⟩⟩
    by_cases gZ:j<(k:Int)
    ·exact hI j d h0 gZ h2 h3
    ·have:j=(k:Int):=Qo;subst this;exact hJ d h2 Qo
  have RC:=Ou RC;have hT:∀j c:Int,0<=j->j<8->0<=c->c<((gi W.IC j).IE.length:Int)->TS j c:=λj c h0 h1=>hI j c h0 Qo
  refine⟨h.some,_,_,_,h.ID,?_⟩;refine J1 W.ID.length 0 rfl (λc=>c<=W.ID.length/\∀d k:Int,0<=d->d<(c:Int)->0<=k->k<8->d<((gi W.IC k).IE.length:Int)->KA W k d) ⟨Ic _,λj k h0 h1=>by omega⟩ λc ⟨hc,hJ⟩=>⟨λkL=>?_,λAS6=>?_⟩
  ·have kL:=Ot kL;have c0:(0:Int)<=(c:Int):=Qo;obtain⟨r1,r2,_⟩:=Q4.1 ha.root;have hrc:(c:Int)<((gi W.IC 0).IE.length:Int):=by rw[ha.sl ha.root]; exact kL
   have sh:=h.sh (g:=0) r1 r2 c0 hrc;have tr:=hT 0 (c:Int) Qd Qd c0 hrc;refine⟨_,_,Yr,λ_ _=>⟨_,Zn h r1 r2 c0 hrc,sh.1,(Qc W 0 (c:Int)).on,sh.2 (j:=1) rfl,λ_=>sh.1,(Qc W 0 (c:Int)).v,λ_=>sh.2 (j:=2) rfl,λ_=>sh.1,(Qc W 0 (c:Int)).w,λ_=>sh.2 (j:=3) rfl,λg=>GB λq=>?_,λg=>?_⟩⟩
   ·have r:=(q 0 (c:Int) Qd Qd c0 hrc).root rfl;rw[r.1,r.2.1,r.2.2] at g;simp at g
   simp only[H',bne_eq_false_iff_eq] at g;have root:KA W 0 (c:Int):=⟨tr.1,tr.2.1,tr.2.2.1,tr.2.2.2.1,tr.2.2.2.2,λ_=>⟨g.1.1,g.1.2,g.2⟩,λfI=>Ir rfl fI,λfI=>Ir rfl fI⟩
   refine J1 8 1 rfl (λk=>1<=k/\k<=8/\∀j:Int,0<=j->j<(k:Int)->(c:Int)<((gi W.IC j).IE.length:Int)->KA W j (c:Int)) ⟨I7 _,Qo,λj h0 h1 _=>by
    have:j=0:=Qo;subst this; exact root⟩ λk ⟨hk1,hk,hK⟩=>⟨λIT=>?_,λbP=>?_⟩
   ·have IT:=Ot IT;have k0:(0:Int)<=(k:Int):=Qo;have kl:(k:Int)<(W.IC.length:Int):=Qo
    have nxt:((c:Int)<((gi W.IC (k:Int)).IE.length:Int)->KA W (k:Int) (c:Int))->Qr .i64 ((k:Int)+1)/\ztj (λk=>1<=k/\k<=8/\∀j:Int,0<=j->j<(k:Int)->(c:Int)<((gi W.IC j).IE.length:Int)->KA W j (c:Int)) [I ((k:Int)+1)]/\Xm 8 0 [I ((k:Int)+1)]<Xm 8 0 [I (k:Int)]:=λhq=>⟨⟨Qo,Qo⟩,QH Qo ⟨Qo,Qo,λj h0 h1 h2=>by
     by_cases gZ:j<(k:Int)
     ·exact hK j h0 gZ h2
     ·have:j=(k:Int):=Qo;subst this; exact hq h2⟩⟩
    refine⟨h.some,_,_,_,h.IC,h.rd.g.ix k0 kl,_,h.rd.g.used k0 kl,λg2=>nxt λhh=>?_,λg2=>?_⟩
    ·have hu:(gi W.IC (k:Int)).used=false:=by simpa using g2
     have:=((ha.grp (k:Int) k0 Qo).1 hu).l;omega
    ·have hus:(gi W.IC (k:Int)).used=true:=by simpa using g2
     have hu:Q7 W.IC (k:Int)=true:=Q4.2 ⟨k0,kl,hus⟩;have hkc:(c:Int)<((gi W.IC (k:Int)).IE.length:Int):=by rw[ha.sl hu]; exact kL
     have hp:=ha.up hu Qo;obtain⟨v1,v2,_⟩:=Q4.1 hp;have oG:(c:Int)<((gi W.IC (gi W.IC (k:Int)).parent).IE.length:Int):=by rw[ha.sl hp]; exact kL
     have sk:=h.sh (g:=(k:Int)) k0 kl c0 hkc;have sp:=h.sh (g:=(gi W.IC (k:Int)).parent) v1 v2 c0 oG;have tk:=hT (k:Int) (c:Int) k0 Qo c0 hkc;have tp:=hT (gi W.IC (k:Int)).parent (c:Int) v1 Qo c0 oG;refine⟨_,Zn h k0 kl c0 hkc,sk.1,(Qc W (k:Int) (c:Int)).on,sk.2 (j:=1) rfl,_,KM h ha c0 kL,_,λ_=>zd9 h ha hu c0 kL,λ_=>sk.1,(Qc W (k:Int) (c:Int)).on,λ_=>sk.2 (j:=1) rfl,λ_ _=>sk.1,(Qc W (k:Int) (c:Int)).v,λ_ _=>sk.2 (j:=2) rfl,λ_ _=>h.some,_,_,_,λ_ _=>h.IC,λ_ _=>h.rd.g.ix k0 kl,_,λ_ _=>h.rd.g.parent k0 kl,_,λ_ _=>Zn h v1 v2 c0 oG,λ_ _=>sp.1,(Qc W (gi W.IC (k:Int)).parent (c:Int)).floor,λ_ _=>sp.2 (j:=0) rfl,λ_ _=>sk.1,(Qc W (k:Int) (c:Int)).w,λ_ _=>sk.2 (j:=3) rfl,_,λ_ _=>Hl tk.2.1 tp.1,λg3=>GB λq=>?_,λg3=>nxt λ_=>?_⟩
     ·have r:=q (k:Int) (c:Int) k0 Qo c0 hkc;have r1:=r.on Qo;simp only[Iu,A',IB,beq_eq_false_iff_ne] at g3;rcases g3 with g3 | g3
      ·exact g3 r1
      ·have:=r.st Qo g3.1;rw[this] at g3
       cases g3.2
     ·simp only[H',I6,Is] at g3;refine⟨tk.1,tk.2.1,tk.2.2.1,tk.2.2.2.1,tk.2.2.2.2,λe=>by omega,λ_=>g3.1,λ_ ho=>?_⟩;have:=g3.2;rw[ho,Bool.true_and] at this
      simpa using this
   ·have bP:=Ou bP;refine⟨⟨Qo,Qo⟩,QH Qo ⟨Qo,λd k' h0 h1 h2 h3 h4=>?_⟩⟩
    by_cases hdc:d<(c:Int)
    ·exact hJ d k' h0 hdc h2 h3 h4
    ·have:d=(c:Int):=Qo;subst this;exact hK k' h2 Qo h4
  ·have AS6:=Ou AS6;refine zpd λk d h0 h1 h2 h3=>hJ d k h2 ?_ h0 h1 h3
   have hus:(gi W.IC k).used=true:=by
    cases hu:(gi W.IC k).used with
    | true=>rfl
    | false=>
     have:=((ha.grp k h0 h1).1 hu).l;omega
   have:=ha.sl (Q4.2 ⟨h0,Qo,hus⟩);omega
theorem zhr(h:Mk bs w p W m)(ha:WA W)(hts:∀t:Int,0<=t->t<12->C4 W t)(hss:∀k c:Int,0<=k->k<8->0<=c->c<((gi W.IC k).IE.length:Int)->KA W k c):PX bs Ja #[.pointer p] w (.bool (Ul (∀c:Int,0<=c->c<(W.ID.length:Int)->Nf W c))):=
 DR p λwr hx=>by
  have h:=(h.ext hx).less (cs:=[]) Qs;have dD:=ha.gl;have fZ:=ha.t;have tL:=ha.c2;have hm9:=Zg;refine⟨h.some,_,_,_,h.ID,?_⟩;refine J1 W.ID.length 0 rfl (λc=>c<=W.ID.length/\∀j:Int,0<=j->j<(c:Int)->Nf W j) ⟨Ic _,λj h0 h1=>by omega⟩ λc ⟨hc,hI⟩=>⟨λIT=>?_,λRC=>?_⟩
  ·have IT:=Ot IT;have c0:(0:Int)<=(c:Int):=Qo
   have nxt:Nf W (c:Int)->Qr .i64 ((c:Int)+1)/\ztj (λc=>c<=W.ID.length/\∀j:Int,0<=j->j<(c:Int)->Nf W j) [I ((c:Int)+1)]/\Xm W.ID.length 0 [I ((c:Int)+1)]<Xm W.ID.length 0 [I (c:Int)]:=λhq=>⟨⟨Qo,Qo⟩,QH Qo ⟨Qo,λj h0 h1=>by
    by_cases gZ:j<(c:Int)
    ·exact hI j h0 gZ
    ·have:j=(c:Int):=Qo;subst this; exact hq⟩⟩
   have bad:¬Nf W (c:Int)->¬∀c:Int,0<=c->c<(W.ID.length:Int)->Nf W c:=λhn pp=>hn (pp (c:Int) c0 IT)
   refine⟨h.rd.c.ix Yh c0 IT,_,_,_,_,_,h.rd.c c c0 IT,λ_ _ b1 fQ=>⟨_,λwx hxw hcx=>z42 hcx,λg=>GB (bad λq=>?_),λg=>⟨λg2=>nxt ?_,λg2=>?_⟩⟩⟩
   ·rw[q.b,q.i] at g; cases g
   ·simp only[I6,A'] at g;simp only[A',Is] at g2;exact⟨g.1,g.2,Qo,Qo,λ_=>g2.2,λhh=>by omega⟩
   ·simp only[I6,A'] at g
    have ne:Nf W (c:Int)->0<=(gi W.ID (c:Int)).cur:=λq=>by
     rcases Int.lt_or_le (gi W.ID (c:Int)).cur 0 with Cp4 | Bh3
     ·have e1:=q.c1;have e2:=q.no Cp4;have e3:(gi W.ID (c:Int)).cur = -1:=Qo;rw[e3,e2] at g2;simp at g2
     ·exact Bh3
    have there:(X6 (gi W.ID (c:Int)).cur 0 ((W.tasks.length:Int)-1)&&((Q6 W (gi W.ID (c:Int)).cur).state != 0))=true->0<=(gi W.ID (c:Int)).cur/\(gi W.ID (c:Int)).cur<(W.tasks.length:Int):=λq=>by
     simp only[A'] at q;have:=Qx.1 q.1;omega
    have lu:0<=(gi W.ID (c:Int)).cur/\(gi W.ID (c:Int)).cur<(W.tasks.length:Int)->(Q6 W (gi W.ID (c:Int)).cur).state=1->Q7 W.IC (Q6 W (gi W.ID (c:Int)).cur).group=true:=λq hs=>(BA ha (hts _ q.1 Qo) hs).1
    refine⟨_,_,Yr,λ_ _=>⟨_,λ_=>JJ h Qo,((Q6 W (gi W.ID (c:Int)).cur).J'==(c:Int))&&ZL W (gi W.ID (c:Int)).cur,λq=>?_,_,λ_=>QQ,λg3=>GB (bad λq=>?_),λg3=>?_⟩⟩
    ·simp only[H',I6] at q;have:=there q.2;exact Ea h ha this.1 this.2 c0 IT (lu this)
    ·have t0:=ne q;have t1:=q.c2;have y:=q.yes t0;have e2:X6 (gi W.ID (c:Int)).cur 0 ((W.tasks.length:Int)-1)=true:=Qx.2 Qo;have gX:(Q6 W (gi W.ID (c:Int)).cur).state=1:=(zl1 (hts _ t0 Qo) y.2.2.2.2.1).2;have e4:X6 (gi W.ID (c:Int)).WV 1 149=true:=Qx.2 ⟨y.2.1,y.2.2.1⟩;rw[y.1,e2,gX,y.2.2.2.1,y.2.2.2.2.1,e4] at g3;simp at g3
    ·simp only[H',I6] at g3;obtain⟨⟨⟨a1,a2⟩,a3⟩,a4⟩:=g3;obtain⟨t0,t1⟩:=there a2;have a4:=Qx.1 a4;simp only[A',Is] at a3;obtain⟨Bs0,mS⟩:=a3;obtain⟨q,_⟩:=zl1 (hts _ t0 Qo) mS;have au:=q.g;obtain⟨u1,u2,_⟩:=Q4.1 au
     have sl:∀{x:Int},Q7 W.IC x=true->0<=x/\x<(W.IC.length:Int)/\(c:Int)<((gi W.IC x).IE.length:Int)/\KA W x (c:Int):=λ{x} hx=>by
      obtain⟨v1,v2,_⟩:=Q4.1 hx;have c3:(c:Int)<((gi W.IC x).IE.length:Int):=by rw[ha.sl hx]; exact IT
      exact⟨v1,v2,c3,hss x (c:Int) v1 Qo c0 c3⟩
     obtain⟨_,_,c2,sp⟩:=sl au;have sh:=h.sh (g:=(Q6 W (gi W.ID (c:Int)).cur).group) u1 u2 c0 c2;have mk:Kc W (c:Int)=true->Nf W (c:Int):=λgX=>⟨g.1,g.2,Qo,t1,λhh=>by omega,λ_=>⟨a1,a4.1,a4.2,Bs0,mS,gX⟩⟩
     refine⟨h.some,_,_,_,h.tasks,h.rd.t.ix QG t0 t1,_,_,_,_,_,_,_,_,_,h.rd.t _ t0 t1,λ_ _=>⟨h.rd.t _ t0 t1,rfl,h.tasks,_,Zn h u1 u2 c0 c2,sh.1,_,sh.2 (j:=0) rfl,NZ q.v sp.f,_,PZ,_,Tb,λg4=>GB (bad λqq=>?_),λg4=>?_⟩⟩
     ·have g4:=Ot g4;have hd:¬((Q6 W (gi W.ID (c:Int)).cur).v-(Qc W (Q6 W (gi W.ID (c:Int)).cur).group (c:Int)).floor<=Zh (gi W.ID (c:Int)).WV (Qe (Q6 W (gi W.ID (c:Int)).cur).nice)):=Int.not_le.2 g4;have:=(qq.yes t0).2.2.2.2.2;unfold Kc at this;rw[decide_eq_false hd] at this;cases this
     ·have g4:=Ou g4;have hd:(Q6 W (gi W.ID (c:Int)).cur).v-(Qc W (Q6 W (gi W.ID (c:Int)).cur).group (c:Int)).floor<=Zh (gi W.ID (c:Int)).WV (Qe (Q6 W (gi W.ID (c:Int)).cur).nice):=Int.not_lt.1 g4
      have hS:Kc W (c:Int)=Ov W (Q6 W (gi W.ID (c:Int)).cur).group (c:Int) (gi W.ID (c:Int)).WV:=by
       unfold Kc;rw[Ih hd,Bool.true_and]
      refine⟨λvs=>∃x:Int,vs=[I x]/\Q7 W.IC x=true/\Ov W x (c:Int) (gi W.ID (c:Int)).WV=Ov W (Q6 W (gi W.ID (c:Int)).cur).group (c:Int) (gi W.ID (c:Int)).WV,λvs=>(dep 3 W.IC (ZP 0 vs)).toNat,⟨_,rfl,au,rfl⟩,?_⟩;rintro x ⟨x',he,hux,hJ⟩;simp only[I4,I5,true_and,and_true] at he;subst he;refine⟨λhz=>?_,λhz=>?_⟩
      ·have hz:x≠0:=by simpa using hz
       obtain⟨hp,a,b,d,e,e2,hd⟩:=Yf ha.tree hux hz;obtain⟨x1,x2,x3,xs⟩:=sl hux;obtain⟨p1,p2,p3,ps⟩:=sl hp;have sx:=h.sh (g:=x) x1 x2 c0 x3;have spp:=h.sh (g:=(gi W.IC x).parent) p1 p2 c0 p3;unfold Ov at hJ;rw[YU ha.tree hux hz,List.all_cons] at hJ
       refine⟨_,Zn h x1 x2 c0 x3,sx.1,_,sx.2 (j:=2) rfl,h.some,_,_,_,h.IC,h.rd.g.ix x1 x2,_,h.rd.g.parent x1 x2,_,Zn h p1 p2 c0 p3,spp.1,_,spp.2 (j:=0) rfl,NZ xs.v ps.f,sx.1,_,sx.2 (j:=3) rfl,_,Tb,λg5=>GB (bad λqq=>?_),λg5=>⟨h.some,_,_,_,h.IC,h.rd.g.ix x1 x2,_,h.rd.g.parent x1 x2,⟨_,rfl,hp,?_⟩,by
        show (dep 3 W.IC (gi W.IC x).parent).toNat<(dep 3 W.IC x).toNat;omega⟩⟩
       ·have g5:=Ot g5;have hd:¬((Qc W x (c:Int)).v-(Qc W (gi W.IC x).parent (c:Int)).floor<=Zh (gi W.ID (c:Int)).WV (Qc W x (c:Int)).w):=Int.not_le.2 g5;rw[decide_eq_false hd,Bool.false_and] at hJ;have:=(qq.yes t0).2.2.2.2.2;rw[hS] at this;unfold Ov at this;rw[<-hJ] at this;cases this
       ·have g5:=Ou g5;have hd:(Qc W x (c:Int)).v-(Qc W (gi W.IC x).parent (c:Int)).floor<=Zh (gi W.ID (c:Int)).WV (Qc W x (c:Int)).w:=Int.not_lt.1 g5;rw[Ih hd,Bool.true_and] at hJ;exact hJ
      ·have hz:x=0:=by simpa using hz
       subst hz;refine nxt (mk ?_);rw[hS,<-hJ];unfold Ov;rw[show Zd W.IC 0=[] from Zs _ _,List.all_nil]
  ·have RC:=Ou RC;exact zpd λt h0 h1=>hI t h0 Qo
theorem zef(h:Mk bs w p W m)(lc:W.ID.length<=maxLen)(lg:W.IC.length<=maxLen):PX bs XS #[.pointer p] w (.bool (Ul (zyl W))):=
 HE p λwr hx=>by
  have h:=(h.ext hx).less (cs:=[]) Qs;refine⟨h.some,_,h.now,λb hb=>⟨ZO W.now,λwx hxw hcx=>z4i hcx,λ_=>h.some,_,_,_,λ_=>h.ID,_,λ_=>QQ,Ue W.ID,λg=>KN h ?_,λ_=>h.some,_,_,_,λ_=>h.tasks,λ_=>h.some,_,_,_,λ_=>h.IC,Ku W.IC,λ_=>zhq h.rd.g lg,Ma ?_⟩⟩
  ·simp only[A',Qx] at g;omega
  ·simp only[A',Qx,Is,It,YV,Tq];constructor
   ·rintro⟨⟨⟨⟨e1,e2⟩,e3⟩,e4⟩,e5⟩;exact⟨e1.1,e1.2,Qo,Qo,Qo,e5,e3⟩
   ·intro q;have:=q.t;have:=q.c1;have:=q.c2;exact⟨⟨⟨⟨⟨q.n1,q.n2⟩,Qo⟩,q.ups⟩,Qo⟩,q.tree⟩
theorem zd8(h:XF bs w W m)(lc:W.ID.length<=maxLen)(lg:W.IC.length<=maxLen)(hf:∀i:Int,0<=i->i<(W.IC.length:Int)->zpi (gi W.IC i)) :
  PX bs PR #[.agg (Qb W m).toArray] w (.bool (QB W)):=by
 refine BT λwr0 tZ=>zdc _ _ _ _ _ _ _ _ _ _ (R:=λv w'=>v=.bool (QB W)/\Q0 [] wr0 w') ?_
 have h:=(h.ext tZ).less (cs:=[]) Qs;intro b wb hxb hb SO _ b1 fQ
 have hP:∀{bs:List Nat} {w1:Wo},Q0 [] wb w1->(∀x∈bs,wb.heap.size<=x)->Mk bs w1 (some ⟨b,0,none⟩) W m:=λ{bs w1} hx hbs=>by
  have hbn:b∉bs:=λhm=>by
   have:=hbs b hm;have:=Yt SO;omega
  have hrd:XF bs w1 W m:=((h.ext hxb).wide (cs:=bs) λx hm=>.inr (hbs x hm)).ext hx.of_nil;exact⟨MC (Qg SO hx Qs) hbn (k0:=0) λj v hj=>by rw[Nat.zero_add,Nat.zero_add]; exact hj,hrd⟩
 let Cn:=λ(k:Nat)=>match k with
  | 0=>zyl W
  | 1=>∀k:Int,0<=k->k<8->Kz W k
  | 2=>∀t:Int,0<=t->t<12->zca W t
  | 3=>∀k c:Int,0<=k->k<8->0<=c->c<((gi W.IC k).IE.length:Int)->KA W k c
  | _=>∀c:Int,0<=c->c<(W.ID.length:Int)->Nf W c
 have all:Jq W->∀k:Nat,k<5->Cn k:=λq k hk=>by
  have:k=0\/k=1\/k=2\/k=3\/k=4:=Qo;rcases this with rfl | rfl | rfl | rfl | rfl
  ·exact⟨q.a.n1,q.a.n2,q.a.c1,q.a.c2,q.a.t,q.a.tree,q.a.ups⟩
  ·exact q.a.grp
  ·refine λt h0 h1=>⟨q.t t h0 h1,λhs=>?_⟩
   have hu:=BA q.a (q.t t h0 h1) hs;obtain⟨u1,u2,_⟩:=Q4.1 hu.1;have:=q.a.gl;exact(q.s _ _ u1 Qo hu.2.1 (by rw[q.a.sl hu.1]; exact hu.2.2)).f
  ·exact q.s
  ·exact q.c
 have back:(∀k:Nat,k<5->Cn k)->Jq W:=λq=>by
  have q0:zyl W:=q 0 Qd;have q1:∀k:Int,0<=k->k<8->Kz W k:=q 1 Qd;have q2:∀t:Int,0<=t->t<12->zca W t:=q 2 Qd;exact⟨q0.wa q1,λt h0 h1=>(q2 t h0 h1).1,q 3 Qd,q 4 Qd⟩
 have cond:∀k:Nat,k<5->(∀j:Nat,j<k->Cn j)->∀{w1:Wo},Q0 [] wb w1->∃F:FuncId,(#[.func (.func XS) #[] #[],.func (.func Xy) #[] #[],.func (.func XT) #[] #[],.func (.func Xj) #[] #[],.func (.func Ja) #[] #[]]:Array Va)[k]? = some (.func (.func F) #[] #[])/\(∀(w:Wo) (x:Va),(zc6 (.func (.func F) #[] #[]) [x]).run Tryz.prog w=.ok (.enter F #[x]) w)/\∃rv:Bool,(rv=true↔Cn k)/\PX [b1] F #[.pointer (some ⟨b,0,none⟩)] w1 (.bool rv):=λk hk hj {w1} hx=>by
  have hp:=hP (bs:=[b1]) hx (by simpa using fQ);have:k=0\/k=1\/k=2\/k=3\/k=4:=Qo;rcases this with rfl | rfl | rfl | rfl | rfl
  ·exact⟨_,rfl,λ_ _=>rfl,_,Qm,zef hp lc lg⟩
  ·have q0:zyl W:=hj 0 Qd;exact⟨_,rfl,λ_ _=>rfl,_,Qm,zag hp q0 hf⟩
  ·have q0:zyl W:=hj 0 Qd;have q1:∀k:Int,0<=k->k<8->Kz W k:=hj 1 Qd;exact⟨_,rfl,λ_ _=>rfl,_,Qm,zeg hp (q0.wa q1) lg⟩
  ·have q0:zyl W:=hj 0 Qd;have q1:∀k:Int,0<=k->k<8->Kz W k:=hj 1 Qd;exact⟨_,rfl,λ_ _=>rfl,_,Qm,A1 hp (q0.wa q1) hf⟩
  ·have q0:zyl W:=hj 0 Qd;have q1:∀k:Int,0<=k->k<8->Kz W k:=hj 1 Qd;have q2:∀t:Int,0<=t->t<12->zca W t:=hj 2 Qd;have q3:∀k c:Int,0<=k->k<8->0<=c->c<((gi W.IC k).IE.length:Int)->KA W k c:=hj 3 Qd;exact⟨_,rfl,λ_ _=>rfl,_,Qm,zhr hp (q0.wa q1) (λt h0 h1=>(q2 t h0 h1).1) q3⟩
 refine⟨λvs w1=>∃k:Nat,vs=[.bool true,I (k:Int)]/\k<=5/\Q0 [] wb w1/\∀j:Nat,j<k->Cn j,Zx 5 1,λwr hx _=>⟨0,rfl,Qo,hx,λj hj=>Ir hj (Nat.not_lt_zero j)⟩,?_⟩;rintro ok x w1 dZ ⟨k,he,hk,hX,hI⟩;simp only[I4,I5,Value.bool.injEq,true_and,and_true] at he;obtain⟨rfl,rfl⟩:=he
 have fr:∀{w2:Wo},Q0 [b1] w1 w2->Q0 [] wb w2:=λ{w2} hx=>hX.fresh hx λy hm=>.inl (by
  have:y=b1:=by simpa using hm
  omega)
 refine⟨λIT=>?_,λRC wr hx=>⟨?_,hxb.trans (fr hx)⟩⟩
 ·have IT:=Ot IT;obtain⟨F,hF,_⟩:=cond k Qo hI hX;refine⟨.func F,#[],#[],⟨Qo,Qo,by rw[Ig]; exact hF⟩,λI' RR SR=>?_⟩;obtain⟨F',hF',hcv,rv,hrv,hpu⟩:=cond k Qo hI (fr RR);rw[hF] at hF';simp only[I0,Value.func.injEq,Fn.func.injEq,and_self,and_true] at hF';subst hF';refine .inl ⟨F,#[.pointer (some ⟨b,0,none⟩)],?_,?_⟩
  ·exact hcv _ _
  ·refine(hpu I' (Q0.refl _ _)).mono λe w3 ⟨he,R3⟩=>⟨rv,he,Qf R3 SR,λg O' Si=>⟨?_,hxb.trans ((fr RR).trans R3 |>.fresh Si λy hm=>.inl (by
    have:y=b1:=by simpa using hm
    omega))⟩,λg=>⟨⟨Qo,Qo⟩,λRj Si _=>⟨⟨k+1,Qs,Qo,((fr RR).trans R3).fresh Si λy hm=>.inl (by
    have:y=b1:=by simpa using hm
    omega),λj hj=>?_⟩,ZE (k:=k) rfl rfl Qo⟩⟩⟩
   ·have g:rv=false:=by simpa using g
    exact GB λq=>by
     rw[hrv.2 (all q k Qo)] at g; cases g
   ·by_cases gZ:j<k
    ·exact hI j gZ
    ·have:j=k:=Qo;subst this;exact hrv.1 (by simpa using g)
 ·have RC:=Ou RC;have:k=5:=Qo;subst this;exact zpd (back hI)
end
theorem D9:zrf Tryz.prog DJ 5 ZB 40 (⟨false,0,0,0,0⟩:KV):=EN Qk λ_=>rfl
theorem KU:Tryz.prog.underlying Zt=some (.slice ZB):=Qk
theorem MF:zrf Tryz.prog Xq 9 QS 72 (⟨0,0,0,0,0,0,0,0,0⟩:KW):=EN Qk λ_=>rfl
theorem Kf:Tryz.prog.underlying Z5=some (.slice QS):=Qk
section
variable {W:Q8}{m:MW}{w w':Wo}
structure z1e (base:Nat) (w:Wo) (W:Q8) (m:MW):Prop where
 c:Vi DJ 5 ZB base w m.cO m.cC W.ID
 t:Vi Xq 9 QS base w m.tO m.tC W.tasks
 g:∃ps:List (ZX×MG),ps.map (·.1)=W.IC/\(λk:Nat=>(gi ps (k:Int)).2)=m.ms/\LA base w m.gO m.gC ps
theorem z1e.mono{base aH:Nat}(h:z1e base w W m)(hb:aH<=base):z1e aH w W m:=
 ⟨h.c.mono hb,h.t.mono hb,by
  obtain⟨ps,h1,h2,h3⟩:=h.g;exact⟨ps,h1,h2,h3.mono hb⟩⟩
end
theorem O0{x bt n:Nat}(hm:x∈[bt])(h:n<=bt):n<=x:=by
 have:x=bt:=by simpa using hm
 omega
structure Sc (w0:Wo) (bs:List Nat) (w:Wo):Prop where
 ext:Q0 [] w0 w
 new:∀x∈bs,w0.heap.size<=x
theorem Sc.start(w:Wo):Sc w [] w:=⟨Q0.refl _ _,Qs⟩
theorem Sc.step{w0:Wo}{bs:List Nat}{w w':Wo}(h:Sc w0 bs w)(hx:Q0 bs w w'):Sc w0 bs w':=⟨h.ext.fresh hx λx hm=>.inl (h.new x hm),h.new⟩
theorem Sc.call{w0:Wo}{bs cs:List Nat}{w w':Wo}(h:Sc w0 bs w)(hx:Q0 cs w w')(hc:∀x∈cs,w0.heap.size<=x):Sc w0 bs w':=⟨h.ext.fresh hx λx hm=>.inl (hc x hm),h.new⟩
theorem Sc.M'{w0:Wo}{bs:List Nat}{w w':Wo}(h:Sc w0 bs w)(hx:Q0 [] w w'):Sc w0 bs w':=⟨h.ext.trans hx,h.new⟩
theorem Sc.add{w0:Wo}{bs:List Nat}{w:Wo}{b:Nat}(h:Sc w0 bs w)(hb:w.heap.size<=b):Sc w0 (bs++[b]) w:=⟨h.ext,λx hm=>by
 rcases Im.1 hm with hm | hm
 ·exact h.new x hm
 ·have:x=b:=by simpa using hm
  have:=h.ext.size;omega⟩
theorem Sc.sub{w0:Wo}{bs cs:List Nat}{w:Wo}(h:Sc w0 bs w)(hs:∀x∈cs,x∈bs):Sc w0 cs w:=⟨h.ext,λx hm=>h.new x (hs x hm)⟩
theorem Sc.put{w0:Wo}{bs:List Nat}{w w':Wo}{b:Nat}(h:Sc w0 bs w)(hx:Q0 bs w w')(hb:w.heap.size<=b):Sc w0 (bs++[b]) w':=⟨(h.step hx).ext,(h.add hb).new⟩
structure Ob {α:Type} (enc:α->List Va) (z:Nat) (ty:TypeId) (base:Nat) (bs:List Nat) (w:Wo) (o:OA) (cap:Nat) (l:List α):Prop where
 own:Vi enc z ty base w o cap l
 nb:∀x∈QM o,x∉bs
section
variable {α:Type}{enc:α->List Va}{z:Nat}{ty:TypeId}{base:Nat}{bs cs:List Nat}{w w':Wo}{o:OA}{cap:Nat}{l:List α}{b:Nat}
theorem Ob.of(h:Vi enc z ty base w o cap l)(hs:∀x∈bs,x<base):Ob enc z ty base bs w o cap l:=⟨h,λx hx hm=>by
 have:=(h.lt x hx).1;have:=hs x hm;omega⟩
theorem Ob.step(h:Ob enc z ty base bs w o cap l)(hx:Q0 bs w w'):Ob enc z ty base bs w' o cap l:=⟨h.own.ext hx h.nb,h.nb⟩
theorem Ob.M'(h:Ob enc z ty base bs w o cap l)(hx:Q0 [] w w'):Ob enc z ty base bs w' o cap l:=⟨h.own.Wu hx,h.nb⟩
theorem Ob.call(h:Ob enc z ty base bs w o cap l)(hx:Q0 cs w w')(hd:∀x∈QM o,x∉cs):Ob enc z ty base bs w' o cap l:=⟨h.own.ext hx hd,h.nb⟩
theorem Ob.add(h:Ob enc z ty base bs w o cap l)(hb:w.heap.size<=b):Ob enc z ty base (bs++[b]) w o cap l:=⟨h.own,λx hx hm=>by
 rcases Im.1 hm with hm | hm
 ·exact h.nb x hx hm
 ·have:x=b:=by simpa using hm
  have:=(h.own.lt x hx).2;omega⟩
theorem Ob.put(h:Ob enc z ty base bs w o cap l)(hx:Q0 bs w w')(hb:w.heap.size<=b):Ob enc z ty base (bs++[b]) w' o cap l:=⟨(h.step hx).own,(h.add hb).nb⟩
theorem Ob.sub(h:Ob enc z ty base bs w o cap l)(hs:∀x∈cs,x∈bs):Ob enc z ty base cs w o cap l:=⟨h.own,λx hx hm=>h.nb x hx (hs x hm)⟩
theorem Ob.mono{aH:Nat}(h:Ob enc z ty base bs w o cap l)(hb:aH<=base):Ob enc z ty aH bs w o cap l:=⟨h.own.mono hb,h.nb⟩
theorem Ob.rd[Inhabited α](h:Ob enc z ty base bs w o cap l)(hz:∀x,(enc x).length=z):Rd enc z bs w o l:=h.own.rd hz h.nb
end
theorem Rd.scb{α:Type}[Inhabited α]{enc:α->List Va}{z:Nat}{w0:Wo}{bs:List Nat}{w:Wo}{o:OA}{l:List α}(h:Rd enc z [] w0 o l)(hs:Sc w0 bs w):Rd enc z bs w o l:=(h.wide (cs:=bs) λx hm=>.inr (hs.new x hm)).ext hs.ext.of_nil
theorem Hs{bs cs:List Nat}{w w':Wo}(hx:Q0 cs w w')(hs:∀b∈bs,b<w.heap.size)(hd:∀x∈cs,x∉bs):Q9 bs w w':=λx hm=>hx.block x (hs x hm) λiP=>hd x iP hm
theorem Ob.AR2{α:Type}[Inhabited α]{P:Program}{enc:α->List Va}{z:Nat}{ty t:TypeId}{bytes:Nat}{zero:α}(E:zrf P enc z ty bytes zero)(ht:P.underlying t=some (.slice ty)){base:Nat}{bs:List Nat}{w:Wo}{o:OA}{cap:Nat}{l:List α}(hO:Ob enc z ty base bs w o cap l)(hs:∀x∈bs,x<w.heap.size)(uF:base<=w.heap.size){x:α}{b:Nat}{t':TypeId}{fz:Nat×Nat}(hb:w.heap[b]? = some (.cells (enc x).toArray t' fz))(h1:Zk (enc x)=true)(hl:l.length<=1048576)(hby:bytes<=1000)(tr:TypeId)(cs:Array Bool) :
  ∃o' rW w',(builtin .append #[t,t] tr cs #[.slice o l.length cap,.slice (some ⟨b,0,none⟩) 1 1]).run P w=.ok (.value (.slice o' (l++[x]).length rW)) w'/\Q9 bs w w'/\Ob enc z ty base bs w' o' rW (l++[x])/\Q0 (QM o) w w':=by
 have hbb:(2*(l.length+1))*bytes<=281474976710656:=IA (Nat.mul_le_mul (show 2*(l.length+1)<=2097154 by omega) hby) Qd;obtain⟨o2,c2,w2,Ws,nN,R0,ho2⟩:=zxo E ht hO.own hb h1 hbb Qo tr cs uF;refine⟨o2,c2,w2,Ws,λy hm=>R0.block y (hs y hm) λiP=>hO.nb y iP hm,⟨nN,λy hy hm=>?_⟩,R0⟩;rcases ho2 with rfl | rfl
 ·exact hO.nb y hy hm
 ·have:y=w.heap.size:=by simpa[QM] using hy
  have:=hs y hm;omega
def XZ(f:Nat->Int):Nat->Int
 | 0=>0
 | k+1=>XZ f k+f k
theorem Th{f:Nat->Int}{B:Int}(h:∀j,0<=f j/\f j<=B):∀k:Nat,0<=XZ f k/\XZ f k<=(k:Int)*B
 | 0=>by simp[XZ]
 | k+1=>by
  have ih:=Th h k;have:=h k;simp only[XZ];rw[show ((k+1:Nat):Int)*B=(k:Int)*B+B by rw[show ((k+1:Nat):Int)=(k:Int)+1 by omega,Int.add_mul,Int.one_mul]];omega
theorem JN(n:Int):0<=Qe n/\Qe n<=20:=by
 unfold Qe;split
 ·rename_i h;have:=Qx.1 h;omega
 ·omega
def zji(W:Q8)(c:Int)(j:Nat):Int:=if (((Q6 W (j:Int)).J'==c)&&ZL W (j:Int))=true then Qe (Q6 W (j:Int)).nice else 0
def znx(W:Q8)(g c:Int)(j:Nat):Int:=if ((((Q6 W (j:Int)).state==1)&&((Q6 W (j:Int)).J'==c))&&Og 3 W.IC g (Q6 W (j:Int)).group)=true then Qe (Q6 W (j:Int)).nice else 0
theorem z10{W:Q8}{g c:Int}{k:Nat}(h:((((Q6 W (k:Int)).state==1)&&((Q6 W (k:Int)).J'==c))&&Og 3 W.IC g (Q6 W (k:Int)).group)=true):znx W g c k=Qe (Q6 W (k:Int)).nice:=C' h
theorem z1z{W:Q8}{g c:Int}{k:Nat}(h:((((Q6 W (k:Int)).state==1)&&((Q6 W (k:Int)).J'==c))&&Og 3 W.IC g (Q6 W (k:Int)).group)=false):znx W g c k=0:=B' (by rw[h]; decide)
def BB(W:Q8)(c:Int):Int:=XZ (zji W c) W.tasks.length
def zd3(W:Q8)(g c:Int):Int:=XZ (znx W g c) W.tasks.length
theorem AU(W:Q8)(c:Int)(j:Nat):0<=zji W c j/\zji W c j<=20:=by
 unfold zji;split
 ·exact JN _
 ·omega
theorem zd2(W:Q8)(g c:Int)(j:Nat):0<=znx W g c j/\znx W g c j<=20:=by
 unfold znx;split
 ·exact JN _
 ·omega
def Xp(W:Q8)(c:Int):Bool:=X6 c 0 ((W.ID.length:Int)-1)
theorem Tz{W:Q8}{c:Int}(h:Xp W c=true):0<=c/\c<(W.ID.length:Int):=by have:=Qx.1 h; omega
theorem Jq.li{W:Q8}(wp:Jq W){t:Int}(t0:0<=t)(t1:t<(W.tasks.length:Int))(hs:(Q6 W t).state=1):Q7 W.IC (Q6 W t).group=true/\0<=(Q6 W t).J'/\(Q6 W t).J'<(W.ID.length:Int):=by
 have:=wp.a.t;exact BA wp.a (wp.t t t0 Qo) hs
structure TU (W:Q8):Prop where
 a:WA W
 li:∀{t:Int},0<=t->t<(W.tasks.length:Int)->(Q6 W t).state=1->Q7 W.IC (Q6 W t).group=true/\0<=(Q6 W t).J'/\(Q6 W t).J'<(W.ID.length:Int)
structure UG (W:Q8):Prop where
 c:W.ID.length<=maxLen
 t:W.tasks.length<=maxLen
 g:W.IC.length<=maxLen
 f:∀i:Int,0<=i->i<(W.IC.length:Int)->zpi (gi W.IC i)
section
variable {W:Q8}{m:MW}{w:Wo}{bs:List Nat}{p:OA}
theorem TY{c:Int}(h:XF bs w W m)(wp:Jq W):PX bs J4 #[.agg (Qb W m).toArray,I c] w (I (BB W c)):=
 zfc _ _ _ _ _ _ _ _ _ _ c λwr hx=>by
  have h:=(h.ext hx).less (cs:=[]) Qs;have fZ:=wp.a.t;intro _ _;refine PF W.tasks.length 0 rfl (λx k=>k<=W.tasks.length/\x=XZ (zji W c) k) ⟨Ic _,rfl⟩ λx k ⟨hk,R0⟩=>⟨λIT=>?_,λRC=>?_⟩
  ·have IT:=Ot IT;have hr:=Th (AU W c) k;have hw:=JN (Q6 W (k:Int)).nice;have eF:zji W c k=if (((Q6 W (k:Int)).J'==c)&&ZL W (k:Int))=true then Qe (Q6 W (k:Int)).nice else 0:=rfl;refine⟨h.t.ix QG Qo IT,_,h.t.f Qo IT (j:=0) rfl,λ_=>h.t.ix QG Qo IT,_,λ_=>h.t.f Qo IT (j:=2) rfl,ZL W (k:Int),λ_=>VV h wp.a Qo IT λhs=>wp.li Qo IT hs,λg2=>⟨h.t.ix QG Qo IT,_,h.t.f Qo IT (j:=3) rfl,Qe (Q6 W (k:Int)).nice,ZA,⟨Qo,Qo⟩,⟨Qo,Qo⟩,QP Qo ⟨Qo,?_⟩⟩,λg2=>⟨⟨Qo,Qo⟩,QP Qo ⟨Qo,?_⟩⟩⟩
   ·have g2:((((Q6 W (k:Int)).state==1)&&((Q6 W (k:Int)).J'==c))&&ZL W (k:Int))=true:=g2;simp only[A'] at g2;simp only[XZ]; rw[eF,C' (by rw[g2.1.2,g2.2]; rfl),R0]
   ·have g2:((((Q6 W (k:Int)).state==1)&&((Q6 W (k:Int)).J'==c))&&ZL W (k:Int))=false:=g2
    simp only[XZ]; rw[eF,B' (λhc=>by
     simp only[A'] at hc;have hl:=hc.2;unfold ZL at hl;simp only[A'] at hl;rw[hc.1,hc.2,hl.1] at g2
     cases g2),R0]; omega
  ·have RC:=Ou RC;have:k=W.tasks.length:=Qo;subst this;rw[R0]; rfl
theorem Lf{g c:Int}(h:XF bs w W m)(wp:TU W)(hl:UG W)(hu:Q7 W.IC g=true):PX bs Ux #[.agg (Qb W m).toArray,I g,I c] w (I (zd3 W g c)):=
 At _ _ _ _ _ _ _ _ _ _ g c λwr hx=>by
  have h:=(h.ext hx).less (cs:=[]) Qs;have fZ:=wp.a.t;intro _ _;refine PF W.tasks.length 0 rfl (λx k=>k<=W.tasks.length/\x=XZ (znx W g c) k) ⟨Ic _,rfl⟩ λx k ⟨hk,R0⟩=>⟨λIT=>?_,λRC=>?_⟩
  ·have IT:=Ot IT;have hr:=Th (zd2 W g c) k;have hw:=JN (Q6 W (k:Int)).nice
   have hun:(((Q6 W (k:Int)).state==1)&&((Q6 W (k:Int)).J'==c))=true->M6 W.IC g (Q6 W (k:Int)).group=Og 3 W.IC g (Q6 W (k:Int)).group:=λq=>by
    simp only[A',Is] at q;unfold M6;rw[Tq.2 wp.a.tree,hu,(wp.li Qo IT q.1).1]; rfl
   have eF:znx W g c k=if ((((Q6 W (k:Int)).state==1)&&((Q6 W (k:Int)).J'==c))&&Og 3 W.IC g (Q6 W (k:Int)).group)=true then Qe (Q6 W (k:Int)).nice else 0:=rfl
   have e2:((((Q6 W (k:Int)).state==1)&&((Q6 W (k:Int)).J'==c))&&Og 3 W.IC g (Q6 W (k:Int)).group)=((((Q6 W (k:Int)).state==1)&&((Q6 W (k:Int)).J'==c))&&M6 W.IC g (Q6 W (k:Int)).group):=by
    cases hq:(((Q6 W (k:Int)).state==1)&&((Q6 W (k:Int)).J'==c)) with
    | false=>rfl
    | true=>rw[hun hq]
   refine⟨h.t.ix QG Qo IT,_,_,_,_,_,_,_,_,_,h.t k Qo IT,λ_ _=>⟨M6 W.IC g (Q6 W (k:Int)).group,λ_=>OU h.g hl.g,λg2=>⟨Qe (Q6 W (k:Int)).nice,ZA,⟨Qo,Qo⟩,⟨Qo,Qo⟩,QP Qo ⟨Qo,?_⟩⟩,λg2=>⟨⟨Qo,Qo⟩,QP Qo ⟨Qo,?_⟩⟩⟩⟩
   ·simp only[XZ]; rw[z10 (W:=W) (g:=g) (c:=c) (k:=k) (e2.trans g2),R0]
   ·simp only[XZ]; rw[z1z (W:=W) (g:=g) (c:=c) (k:=k) (e2.trans g2),R0]; omega
  ·have RC:=Ou RC;have:k=W.tasks.length:=Qo;subst this;rw[R0]; rfl
theorem Ec{t:Int}(h:Mk bs w p W m)(t0:0<=t)(t1:t<(W.tasks.length:Int)):PX bs Jb #[.pointer p,I t] w (I (Qe (Q6 W t).nice)):=
 DT p t λwr hx=>by
  have h:=(h.ext hx).less (cs:=[]) Qs;exact⟨h.some,_,_,_,h.tasks,h.rd.t.ix QG t0 t1,_,h.rd.t.f t0 t1 (j:=3) rfl,_,PZ,rfl⟩
end
def Z0(p:Nat->Bool)(v:Nat->Int):Nat->Int
 | 0 => -1
 | k+1=>if (p k&&(decide (Z0 p v k<0)||decide (v k<v (Z0 p v k).toNat)))=true then (k:Int) else Z0 p v k
theorem Zv(p:Nat->Bool)(v:Nat->Int):∀k:Nat,(Z0 p v k = -1/\∀j,j<k->p j=false) \/
  (0<=Z0 p v k/\Z0 p v k<(k:Int)/\p (Z0 p v k).toNat=true/\(∀j,j<k->p j=true->v (Z0 p v k).toNat<=v j)/\∀j:Nat,(j:Int)<Z0 p v k->p j=true->v (Z0 p v k).toNat<v j)
 | 0=>.inl ⟨rfl,λj hj=>Ir hj (Nat.not_lt_zero j)⟩
 | k+1=>by
  simp only[Z0];split
  ·rename_i h;simp only[A',Iu,Ij] at h;refine .inr ⟨Qo,Qo,by simpa using h.1,λj hj hp=>?_,λj hj hp=>?_⟩
   ·rw[Ig]
    by_cases gZ:j=k
    ·subst gZ; exact I2 _
    ·rcases Zv p v k with ⟨_,h2⟩ | ⟨h1,_,_,h4,_⟩
     ·rw[h2 j Qo] at hp; cases hp
     ·have:=h4 j Qo hp;rcases h.2 with h5 | h5 <;> omega
   ·rw[Ig];rcases Zv p v k with ⟨_,h2⟩ | ⟨h1,_,_,h4,_⟩
    ·rw[h2 j Qo] at hp; cases hp
    ·have:=h4 j Qo hp;rcases h.2 with h5 | h5 <;> omega
  ·rename_i h;rcases Zv p v k with ⟨h1,h2⟩ | ⟨h1,h2,h3,h4,h5⟩
   ·refine .inl ⟨h1,λj hj=>?_⟩
    by_cases gZ:j=k
    ·subst gZ
     cases hp:p j with
     | false=>rfl
     | true=>
      exfalso; apply h
      rw[hp,h1]; rfl
    ·exact h2 j Qo
   ·refine .inr ⟨h1,Qo,h3,λj hj hp=>?_,h5⟩
    by_cases gZ:j=k
    ·subst gZ;rcases Int.lt_or_le (v j) (v (Z0 p v j).toNat) with h6 | h6
     ·exfalso; apply h
      rw[hp,Ih h6]; simp
     ·exact h6
    ·exact h4 j Qo hp
theorem zqf{p:Nat->Bool}{v:Nat->Int}{n k:Nat}(hk:k<n)(hp:p k=true)(h0:0<=Z0 p v n)(hv:v k=v (Z0 p v n).toNat)(hb:∀j,j<k->p j=true->v j≠v (Z0 p v n).toNat):Z0 p v n=(k:Int):=by
 rcases Zv p v n with ⟨h1,_⟩ | ⟨_,h2,h3,h4,h5⟩
 ·omega
 ·by_cases IT:(k:Int)<Z0 p v n
  ·have:=h5 k IT hp; omega
  ·by_cases hgt:Z0 p v n<(k:Int)
   ·exact Ir rfl (hb _ Qo h3)
   ·omega
def Zr(W:Q8)(g c:Int)(i:Nat):Bool:=if i<12 then Pp W g c i else Jy W g c (i-12)
def Zl(W:Q8)(c:Int)(i:Nat):Int:=if i<12 then (Q6 W (i:Int)).v else (Qc W ((i-12:Nat):Int) c).v
def QY(W:Q8)(g c:Int):Int:=Z0 (Zr W g c) (Zl W c) 20
def zsf:Nat->Q8->Int->Int->Int
 | 0,_,_,_ => -1
 | f+1,W,g,c=>if QY W g c<0 then -1 else if QY W g c<12 then QY W g c else zsf f W (QY W g c-12) c
def Lk(W:Q8)(g c:Int):Int:=zsf (4-dep 3 W.IC g).toNat W g c
def Qw(W:Q8)(c:Int):Int:=if (gi W.ID c).cur>=0/\(gi W.ID c).WV<50 then (gi W.ID c).cur else Lk W 0 c
theorem Vs{W:Q8}{g c:Int}{i:Nat}(h:i<12):Zr W g c i=Pp W g c i:=C' h
theorem Uo{W:Q8}{g c:Int}{i:Nat}:Zr W g c (12+i)=Jy W g c i:=by
 unfold Zr;rw[B' Qo,show 12+i-12=i by omega]
theorem F2{W:Q8}{c:Int}{i:Nat}(h:i<12):Zl W c i=(Q6 W (i:Int)).v:=C' h
theorem F1{W:Q8}{c:Int}{i:Nat}:Zl W c (12+i)=(Qc W (i:Int) c).v:=by
 unfold Zl;rw[B' Qo,show 12+i-12=i by omega]
theorem zsc(W:Q8)(g c:Int):Zr W g c 12=false:=by
 rw[show (12:Nat)=12+0 from rfl,Uo]; rfl
theorem Da{W:Q8}{g c:Int}(ha:WA W)(hu:Q7 W.IC g=true)(h:12<=QY W g c):Q7 W.IC (QY W g c-12)=true/\QY W g c-12≠0/\dep 3 W.IC (QY W g c-12)=dep 3 W.IC g+1/\QY W g c<20:=by
 unfold QY at *;rcases Zv (Zr W g c) (Zl W c) 20 with ⟨h1,_⟩ | ⟨h1,h2,h3,_,_⟩
 ·omega
 ·have e:(Z0 (Zr W g c) (Zl W c) 20).toNat=12+((Z0 (Zr W g c) (Zl W c) 20).toNat-12):=Qo;rw[e,Uo] at h3;unfold Jy at h3;simp only[A',Ij,Is] at h3;obtain⟨⟨k1,k2,k3⟩,_⟩:=h3;have ek:(((Z0 (Zr W g c) (Zl W c) 20).toNat-12:Nat):Int)=Z0 (Zr W g c) (Zl W c) 20-12:=Qo;rw[ek] at k2 k3;have dD:=ha.gl;have hk:Q7 W.IC (Z0 (Zr W g c) (Zl W c) 20-12)=true:=Q4.2 ⟨Qo,Qo,k2⟩;have hz:Z0 (Zr W g c) (Zl W c) 20-12≠0:=Qo;obtain⟨_,_,_,d,e1,e2,_⟩:=Yf ha.tree hk hz;rw[k3] at e2;exact⟨hk,hz,Qo,Qo⟩
theorem H2{W:Q8}(ha:WA W){g:Int}(hu:Q7 W.IC g=true):0<=dep 3 W.IC g/\dep 3 W.IC g<=3:=by
 have hr:=Oy W.IC 3 g
 by_cases hz:g=0
 ·subst hz; rw[Y6]; omega
 ·obtain⟨_,_,_,d,e1,_⟩:=Yf ha.tree hu hz;omega
theorem Ag{W:Q8}(ha:WA W){g c:Int}(hu:Q7 W.IC g=true):Lk W g c=if QY W g c<0 then -1 else if QY W g c<12 then QY W g c else Lk W (QY W g c-12) c:=by
 have hd:=H2 ha hu;have e:(4-dep 3 W.IC g).toNat=(3-dep 3 W.IC g).toNat+1:=Qo;show zsf (4-dep 3 W.IC g).toNat W g c=_;rw[e];simp only[zsf];split
 ·rfl
 ·split
  ·rfl
  ·obtain⟨_,_,hk,_⟩:=Da ha hu (c:=c) Qo;unfold Lk;rw[hk,show (4-(dep 3 W.IC g+1))=3-dep 3 W.IC g by omega]
section
variable {W:Q8}{m:MW}{w:Wo}{bs:List Nat}{p:OA}
def Z6(W:Q8)(g c:Int)(k:Nat):Int:=if Z0 (Zr W g c) (Zl W c) k<0 then 0 else Zl W c (Z0 (Zr W g c) (Zl W c) k).toNat
def Zy(W:Q8)(g c:Int)(k:Nat):Bool:=decide (0<=Z0 (Zr W g c) (Zl W c) k)
theorem zi3{W:Q8}{g c:Int}{k:Nat}:(decide (Z0 (Zr W g c) (Zl W c) k<0)||decide (Zl W c k<Zl W c (Z0 (Zr W g c) (Zl W c) k).toNat))=(!Zy W g c k||decide (Zl W c k<Z6 W g c k)):=by
 unfold Zy Z6
 by_cases h:Z0 (Zr W g c) (Zl W c) k<0
 ·have h2:decide (0<=Z0 (Zr W g c) (Zl W c) k)=false:=decide_eq_false Qo;rw[C' h,Ih h,h2]; rfl
 ·have h2:decide (0<=Z0 (Zr W g c) (Zl W c) k)=true:=Ih Qo;rw[B' h,decide_eq_false h,h2]; rfl
theorem FZ{W:Q8}{g c:Int}{k:Nat}(h:(Zr W g c k&&(!Zy W g c k||decide (Zl W c k<Z6 W g c k)))=true):Z6 W g c (k+1)=Zl W c k/\Zy W g c (k+1)=true:=by
 rw[<-zi3] at h
 have e:Z0 (Zr W g c) (Zl W c) (k+1)=(k:Int):=by
  simp only[Z0]; rw[C' h]
 unfold Z6 Zy;rw[e,B' Qo,Ig];exact⟨rfl,Ih Qo⟩
theorem FY{W:Q8}{g c:Int}{k:Nat}(h:(Zr W g c k&&(!Zy W g c k||decide (Zl W c k<Z6 W g c k)))=false):Z6 W g c (k+1)=Z6 W g c k/\Zy W g c (k+1)=Zy W g c k:=by
 rw[<-zi3] at h
 have e:Z0 (Zr W g c) (Zl W c) (k+1)=Z0 (Zr W g c) (Zl W c) k:=by
  simp only[Z0]; rw[B' (by rw[h]; decide)]
 unfold Z6 Zy;rw[e];exact⟨rfl,rfl⟩
theorem Hp{g c:Int}(h:XF bs w W m)(ha:WA W)(c0:0<=c)(c1:c<(W.ID.length:Int)):PX bs VP #[.agg (Qb W m).toArray,I g,I c] w (.tuple #[I (Z6 W g c 20),.bool (Zy W g c 20)]):=
 zfg _ _ _ _ _ _ _ _ _ _ g c λwr hx=>by
  have h:=(h.ext hx).less (cs:=[]) Qs;have dD:=ha.gl;have fZ:=ha.t;intro _ _;refine⟨λvs=>∃k:Nat,k<=12/\vs=[I (Z6 W g c k),.bool (Zy W g c k),I (k:Int)],Xm 12 2,⟨0,Qo,rfl⟩,?_⟩;rintro aQ some t ⟨k,hk,he⟩;simp only[I4,I5,Value.bool.injEq,true_and,and_true] at he;obtain⟨rfl,rfl,rfl⟩:=he;refine⟨λIT=>?_,λRC=>?_⟩
  ·have IT:=Ot IT;have tN:k<12:=Qo;refine⟨h.t.ix QG Qo IT,_,_,_,_,_,_,_,_,_,h.t k Qo IT,λ_ _=>⟨λq=>⟨⟨Qo,Qo⟩,⟨k+1,Qo,?_⟩,ZE (k:=k) rfl rfl tN⟩,λq=>⟨⟨Qo,Qo⟩,⟨k+1,Qo,?_⟩,ZE (k:=k) rfl rfl tN⟩⟩⟩
   ·have q':(Zr W g c k&&(!Zy W g c k||decide (Zl W c k<Z6 W g c k)))=true:=by rw[Vs tN,F2 tN]; exact q
    obtain⟨e1,e2⟩:=FZ q';rw[e1,e2,F2 tN]; simp[Q6]
   ·have q':(Zr W g c k&&(!Zy W g c k||decide (Zl W c k<Z6 W g c k)))=false:=by rw[Vs tN,F2 tN]; exact q
    obtain⟨e1,e2⟩:=FY q';rw[e1,e2]; simp
  ·have RC:=Ou RC;have:k=12:=Qo;subst this;have e12:Z6 W g c 13=Z6 W g c 12/\Zy W g c 13=Zy W g c 12:=FY (by rw[zsc]; rfl);refine⟨λvs=>∃k:Nat,1<=k/\k<=8/\vs=[I (Z6 W g c (12+k)),.bool (Zy W g c (12+k)),I (k:Int)],Xm 8 2,⟨1,Qo,Qo,by rw[show 12+1=13 from rfl,e12.1,e12.2]; rfl⟩,?_⟩;rintro jL C38 t1 ⟨k,hk1,hk,he⟩;simp only[I4,I5,Value.bool.injEq,true_and,and_true] at he;obtain⟨rfl,rfl,rfl⟩:=he;refine⟨λIT=>?_,λRC=>?_⟩
   ·have IT:=Ot IT;have fH:(0:Int)<=(k:Int):=Qo
    have used:∀{x:Bool},(((gi W.IC (k:Int)).used&&((gi W.IC (k:Int)).parent==g))&&x)=true->Q7 W.IC (k:Int)=true/\c<((gi W.IC (k:Int)).IE.length:Int):=λ{x} q=>by
     simp only[A'] at q;have hu:=zmx IT q.1.1;exact⟨hu,by rw[ha.sl hu]; exact c1⟩
    have eA:Jy W g c k=(((gi W.IC (k:Int)).used&&((gi W.IC (k:Int)).parent==g))&&(Qc W (k:Int) c).on):=by
     unfold Jy; rw[Ih hk1,Bool.true_and]
    have eP:Zr W g c (12+k)=(((gi W.IC (k:Int)).used&&((gi W.IC (k:Int)).parent==g))&&(Qc W (k:Int) c).on):=by rw[Uo,eA]
    refine⟨h.g.ix fH IT,_,h.g.used fH IT,λ_=>h.g.ix fH IT,_,λ_=>h.g.parent fH IT,(Qc W (k:Int) c).on,λq=>VW h ha (used (x:=true) (by rw[q]; rfl)).1 c0 c1,λ_ _=>h.g.ix fH IT,_,_,_,λ_ _=>h.g.Ry fH IT,λ_ q=>(h.g.IE _ fH IT).ix X7 c0 (used q).2,(Qc W (k:Int) c).v,λ_ q=>zpf.f (h.g.IE _ fH IT) c0 (used q).2 (j:=2) rfl,λq=>?_,λq=>⟨⟨Qo,Qo⟩,⟨k+1,Qo,Qo,?_⟩,ZE (k:=k) rfl rfl Qo⟩⟩
    ·have q2:=q;simp only[A'] at q2;have hu:=used (x:=(Qc W (k:Int) c).on) (by simp only[A']; exact q2.1);have q':(Zr W g c (12+k)&&(!Zy W g c (12+k)||decide (Zl W c (12+k)<Z6 W g c (12+k))))=true:=by rw[eP,F1]; exact q
     obtain⟨e1,e2⟩:=FZ q';refine⟨h.g.ix fH IT,_,_,_,h.g.Ry fH IT,(h.g.IE _ fH IT).ix X7 c0 hu.2,_,zpf.f (h.g.IE _ fH IT) c0 hu.2 (j:=2) rfl,⟨Qo,Qo⟩,⟨k+1,Qo,Qo,?_⟩,ZE (k:=k) rfl rfl Qo⟩;rw[show 12+(k+1)=12+k+1 from rfl,e1,e2,F1]; simp[Qc]
    ·have q':(Zr W g c (12+k)&&(!Zy W g c (12+k)||decide (Zl W c (12+k)<Z6 W g c (12+k))))=false:=by rw[eP,F1]; exact q
     obtain⟨e1,e2⟩:=FY q';rw[show 12+(k+1)=12+k+1 from rfl,e1,e2]; simp
   ·have RC:=Ou RC;have:k=8:=Qo;subst this;rfl
theorem zh1{g c:Int}(h:XF bs w W m)(ha:WA W)(hu:Q7 W.IC g=true)(c0:0<=c)(c1:c<(W.ID.length:Int)):PX bs UQ #[.agg (Qb W m).toArray,I g,I c] w (I (Lk W g c)):=by
 have dD:=ha.gl;have fZ:=ha.t
 have key:∀(n:Nat) (g:Int),Q7 W.IC g=true->(3-dep 3 W.IC g).toNat=n->∀{bs:List Nat} {w:Wo},XF bs w W m->PX bs UQ #[.agg (Qb W m).toArray,I g,I c] w (I (Lk W g c)):=by
  intro n
  induction n using Nat.strongRecOn with
  | ind n ih=>
   intro g hu hn bs w h;refine zir _ _ _ _ _ _ _ _ _ _ g c λwr hx=>?_
   have h:=(h.ext hx).less (cs:=[]) Qs;have cX:=Ag ha hu (c:=c);have hd:=H2 ha hu;intro _ _;refine⟨_,_,Hp h ha c0 c1,λq=>?_,λq=>?_⟩
   ·have q:¬0<=Z0 (Zr W g c) (Zl W c) 20:=by
     unfold Zy at q
     simpa using q
    have q:¬0<=QY W g c:=q;rw[cX,C' Qo]
   have hF0:0<=Z0 (Zr W g c) (Zl W c) 20:=by
    unfold Zy at q
    simpa using q
   have hF:0<=QY W g c:=hF0
   have Bz2:Z6 W g c 20=Zl W c (QY W g c).toNat:=by
    show (if QY W g c<0 then 0 else Zl W c (QY W g c).toNat)=_;rw[B' (show ¬QY W g c<0 by omega)]
   have found:∀k:Nat,k<20->Zr W g c k=true->Zl W c k=Z6 W g c 20->(∀j,j<k->Zr W g c j=true->Zl W c j≠Z6 W g c 20)->QY W g c=(k:Int):=λk hk hp hv hb=>by
    rw[Bz2] at hv hb;exact zqf hk hp hF hv hb
   refine⟨λvs=>∃k:Nat,vs=[I (k:Int)]/\k<=12/\∀j,j<k->Zr W g c j=true->Zl W c j≠Z6 W g c 20,Xm 12 0,⟨0,rfl,Qo,λj hj=>Ir hj (Nat.not_lt_zero j)⟩,?_⟩;rintro t ⟨k,he,hk,hI⟩;simp only[I4,I5,true_and,and_true] at he;subst he;refine⟨λIT=>?_,λRC=>?_⟩
   ·have IT:=Ot IT;have tN:k<12:=Qo;refine⟨h.t.ix QG Qo IT,_,_,_,_,_,_,_,_,_,h.t k Qo IT,λb1 fQ=>⟨λq2=>?_,λq2=>⟨⟨Qo,Qo⟩,⟨k+1,Qs,Qo,λj hj hp hv=>?_⟩,ZE (k:=k) rfl rfl tN⟩⟩⟩
    ·have q2':(Pp W g c k&&((Q6 W (k:Int)).v==Z6 W g c 20))=true:=q2;simp only[A',Is] at q2';have:=found k Qo (by rw[Vs tN]; exact q2'.1) (by rw[F2 tN]; exact q2'.2) hI;rw[cX,B' Qo,C' Qo,this]
    ·by_cases gZ:j<k
     ·exact hI j gZ hp hv
     ·have:j=k:=Qo;subst this;rw[Vs tN] at hp;rw[F2 tN] at hv;have q2':(Pp W g c j&&((Q6 W (j:Int)).v==Z6 W g c 20))=false:=q2;rw[hp,hv] at q2';simp at q2'
   ·have RC:=Ou RC;have:k=12:=Qo;subst this
    refine⟨λvs=>∃k:Nat,vs=[I (k:Int)]/\1<=k/\k<=8/\∀j,j<12+k->Zr W g c j=true->Zl W c j≠Z6 W g c 20,Xm 8 0,⟨1,rfl,Qo,Qo,λj hj hp=>by
     by_cases vT:j<12
     ·exact hI j vT hp
     ·have:j=12:=Qo;subst this;rw[zsc] at hp; cases hp⟩,?_⟩
    rintro t2 ⟨k,he,hk1,hk,hI2⟩;simp only[I4,I5,true_and,and_true] at he;subst he;refine⟨λIT=>?_,λbP=>?_⟩
    ·have IT:=Ot IT;have fH:(0:Int)<=(k:Int):=Qo
     have used:∀{x:Bool},(((gi W.IC (k:Int)).used&&((gi W.IC (k:Int)).parent==g))&&x)=true->Q7 W.IC (k:Int)=true/\c<((gi W.IC (k:Int)).IE.length:Int):=λ{x} q=>by
      simp only[A'] at q;have hu:=zmx IT q.1.1;exact⟨hu,by rw[ha.sl hu]; exact c1⟩
     have eA:Jy W g c k=(((gi W.IC (k:Int)).used&&((gi W.IC (k:Int)).parent==g))&&(Qc W (k:Int) c).on):=by
      unfold Jy; rw[Ih hk1,Bool.true_and]
     have eP:Zr W g c (12+k)=(((gi W.IC (k:Int)).used&&((gi W.IC (k:Int)).parent==g))&&(Qc W (k:Int) c).on):=by rw[Uo,eA]
     refine⟨h.g.ix fH IT,_,h.g.used fH IT,λ_=>h.g.ix fH IT,_,λ_=>h.g.parent fH IT,(Qc W (k:Int) c).on,λq=>VW h ha (used (x:=true) (by rw[q]; rfl)).1 c0 c1,λ_=>h.g.ix fH IT,_,_,_,λ_=>h.g.Ry fH IT,λq=>(h.g.IE _ fH IT).ix X7 c0 (used q).2,(Qc W (k:Int) c).v,λq=>zpf.f (h.g.IE _ fH IT) c0 (used q).2 (j:=2) rfl,λq=>?_,λq=>⟨⟨Qo,Qo⟩,⟨k+1,Qs,Qo,Qo,λj hj hp hv=>?_⟩,ZE (k:=k) rfl rfl Qo⟩⟩
     ·have q2:=q;simp only[A',Is] at q2;have hfk:=found (12+k) Qo (by rw[eP]; simp only[A',Is]; exact q2.1) (by rw[F1]; exact q2.2) hI2;have B93:=Da ha hu (c:=c) Qo;have ek:QY W g c-12=(k:Int):=Qo;rw[ek] at B93;have hdk:=H2 ha B93.1;refine⟨_,ih _ (show (3-dep 3 W.IC (k:Int)).toNat<n by omega) (k:Int) B93.1 rfl h,?_⟩;rw[cX,B' Qo,B' Qo,ek]
     ·by_cases gZ:j<12+k
      ·exact hI2 j gZ hp hv
      ·have:j=12+k:=Qo;subst this;rw[eP] at hp;rw[F1] at hv;rw[hp,hv] at q;simp at q
    ·have bP:=Ou bP;have:k=8:=Qo;subst this;rcases Zv (Zr W g c) (Zl W c) 20 with ⟨h1,_⟩ | ⟨h1,h2,h3,_,_⟩
     ·have:QY W g c = -1:=h1;omega
     ·exact Ir Bz2.symm (hI2 (QY W g c).toNat (by unfold QY; omega) h3)
 exact key _ g hu rfl h
theorem zh2{c:Int}(h:XF bs w W m)(ha:WA W)(c0:0<=c)(c1:c<(W.ID.length:Int)):PX bs MS #[.agg (Qb W m).toArray,I c] w (I (Qw W c)):=by
 refine zis _ _ _ _ _ _ _ _ _ _ c λwr hx=>?_
 have h:=(h.ext hx).less (cs:=[]) Qs;intro _ _;refine⟨h.c.ix Yh c0 c1,_,h.c.f c0 c1 (j:=1) rfl,λ_=>h.c.ix Yh c0 c1,_,λ_=>h.c.f c0 c1 (j:=2) rfl,λg=>⟨h.c.ix Yh c0 c1,_,h.c.f c0 c1 (j:=1) rfl,?_⟩,λg=>⟨_,zh1 h ha ha.root c0 c1,?_⟩⟩
 ·simp only[A',Ij] at g;unfold Qw; rw[C' g]
 ·unfold Qw; rw[B' (λhc=>by
   rw[Ih hc.1,Ih hc.2] at g; cases g)]
end
def IM(W:Q8)(t:Int)(x:KW):Q8:={ W with tasks:=W.tasks.set t.toNat x }
def Se(W:Q8)(c:Int)(x:KV):Q8:={ W with ID:=W.ID.set c.toNat x }
def Rm(W:Q8)(g:Int)(x:ZX):Q8:={ W with IC:=W.IC.set g.toNat x }
def RF(W:Q8)(g c:Int)(s:GO):Q8:=Rm W g { gi W.IC g with IE:=(gi W.IC g).IE.set c.toNat s }
def RL(W:Q8)(g:Int)(b:Vv):Q8:=Rm W g { gi W.IC g with IS:=b }
theorem zdx{α:Type}[Inhabited α](l:List α)(i:Int):gi l i=gi l ((i.toNat:Nat):Int):=by unfold gi; rw[Ig]
structure Z7 (gs gs':List ZX):Prop where
 len:gs'.length=gs.length
 u:∀i:Int,(gi gs' i).used=(gi gs i).used
 p:∀i:Int,(gi gs' i).parent=(gi gs i).parent
 n:∀i:Int,(gi gs' i).name=(gi gs i).name
theorem Z7.refl(gs:List ZX):Z7 gs gs:=⟨rfl,λ_=>rfl,λ_=>rfl,λ_=>rfl⟩
theorem Z7.trans{a b c:List ZX}(h:Z7 a b)(k:Z7 b c):Z7 a c:=⟨k.len.trans h.len,λi=>(k.u i).trans (h.u i),λi=>(k.p i).trans (h.p i),λi=>(k.n i).trans (h.n i)⟩
theorem Z7.eB{gs gs':List ZX}(h:Z7 gs gs')(i:Int):Q7 gs' i=Q7 gs i:=by unfold Q7; rw[h.len,h.u]
theorem Z7.dep{gs gs':List ZX}(h:Z7 gs gs'):∀(f:Nat) (i:Int),YtnclplgaicdapaaGreatDoor.dep f gs' i=YtnclplgaicdapaaGreatDoor.dep f gs i
 | 0,i=>rfl
 | f+1,i=>by simp only[YtnclplgaicdapaaGreatDoor.dep]; rw[h.p,h.dep f]
theorem Z7.path{gs gs':List ZX}(h:Z7 gs gs'):∀(f:Nat) (i:Int),Vj f gs' i=Vj f gs i
 | 0,i=>rfl
 | f+1,i=>by simp only[Vj]; rw[h.p,h.path f]
theorem Z7.tree{gs gs':List ZX}(h:Z7 gs gs')(t:Ye gs):Ye gs':=
 ⟨by rw[h.len]; exact t.len,by rw[h.u]; exact t.ru,by rw[h.p]; exact t.rp,by rw[h.n]; exact t.rn,λg a b c=>by rw[h.u] at c; rw[h.n]; exact t.nm g a b c,λg a b c=>by rw[h.u] at c; rw[h.eB,h.p]; exact t.par g a b c,
  λg a b c=>by rw[h.u] at c; rw[h.dep]; exact t.dp g a b c,λg k a b c d e=>by rw[h.u] at d e; rw[h.p,h.p,h.n,h.n]; exact t.uniq g k a b c d e⟩
theorem Xo{W:Q8}{g:Int}{x:ZX}(h0:0<=g)(h1:g<(W.IC.length:Int)){i:Int}(hi:0<=i):gi (Rm W g x).IC i=if g=i then x else gi W.IC i:=QO _ _ h0 h1 hi
theorem Uj{W:Q8}{g:Int}{x:ZX}(h0:0<=g)(h1:g<(W.IC.length:Int))(u:x.used=(gi W.IC g).used)(p:x.parent=(gi W.IC g).parent)(n:x.name=(gi W.IC g).name):Z7 W.IC (Rm W g x).IC:=by
 have key:∀i:Int,gi (Rm W g x).IC i=if g=((i.toNat:Nat):Int) then x else gi W.IC i:=λi=>by
  rw[zdx,Xo h0 h1 Qo,<-zdx W.IC i]
 refine⟨E',λi=>?_,λi=>?_,λi=>?_⟩
 all_goals
  rw[key];split
  ·rename_i e;rw[zdx W.IC i,<-e]; assumption
  ·rfl
theorem WA.set{W:Q8}(ha:WA W){g:Int}{x:ZX}(h0:0<=g)(h1:g<8)(u:x.used=(gi W.IC g).used)(p:x.parent=(gi W.IC g).parent)(n:x.name=(gi W.IC g).name)(hN:x.used=false->zva x)(hU:x.used=true->zpj W g x):WA (Rm W g x):=by
 have hl:=ha.gl;refine⟨ha.n1,ha.n2,ha.c1,ha.c2,ha.t,(Uj h0 Qo u p n).tree ha.tree,ha.ups,λk k0 k1=>?_⟩;show Kz (Rm W g x) k;unfold Kz;rw[Xo h0 Qo k0]
 by_cases e:g=k
 ·subst e;rw[C' rfl];exact⟨hN,λhu=>by have:=hU hu; exact⟨this.w1,this.w2,this.m,this.m0,this.s,this.len,this.root,this.none,this.IS⟩⟩
 ·rw[B' e];have:=ha.grp k k0 k1;exact⟨this.1,λhu=>by have:=this.2 hu; exact⟨this.w1,this.w2,this.m,this.m0,this.s,this.len,this.root,this.none,this.IS⟩⟩
theorem WA.RF{W:Q8}(ha:WA W){g c:Int}{s:GO}(h0:0<=g)(h1:g<8):WA (RF W g c s):=by
 have hg:=ha.grp g h0 h1;refine ha.set h0 h1 rfl rfl rfl (λhu=>?_) λhu=>?_
 ·have:=hg.1 hu;exact⟨this.p,this.n,this.w,this.c,this.pe,this.ne,this.s,by rw[E']; exact this.l,this.b⟩
 ·have:=hg.2 hu;exact⟨this.w1,this.w2,this.m,this.m0,this.s,by rw[E']; exact this.len,this.root,this.none,this.IS⟩
theorem Vf{W:Q8}{g c:Int}{s:GO}(h0:0<=g)(h1:g<(W.IC.length:Int))(c0:0<=c)(c1:c<((gi W.IC g).IE.length:Int)){i d:Int}(hi:0<=i)(hd:0<=d):Qc (RF W g c s) i d=if g=i/\c=d then s else Qc W i d:=by
 unfold Qc YtnclplgaicdapaaGreatDoor.RF;rw[Xo h0 h1 hi]
 by_cases e:g=i
 ·subst e;rw[C' rfl,QO _ _ c0 c1 hd]
  by_cases e2:c=d
  ·rw[C' e2,C' ⟨rfl,e2⟩]
  ·rw[B' e2,B' (λh=>e2 h.2)]
 ·rw[B' e,B' (λh=>e h.1)]
theorem Jm{W:Q8}{g c:Int}{s:GO}(h0:0<=g)(h1:g<(W.IC.length:Int)):Z7 W.IC (RF W g c s).IC:=Uj h0 h1 rfl rfl rfl
theorem D8{W:Q8}{g c:Int}{s:GO}(h0:0<=g)(h1:g<(W.IC.length:Int)){i d:Int}(hi:0<=i):UD (RF W g c s) i d=UD W i d:=by
 unfold UD YtnclplgaicdapaaGreatDoor.RF;rw[Xo h0 h1 hi];split
 ·rename_i e; subst e; rfl
 ·rfl
theorem zi4{W:Q8}{g c:Int}{s:GO}(h0:0<=g)(h1:g<(W.IC.length:Int)){i:Int}(hi:0<=i):(gi (RF W g c s).IC i).IS=(gi W.IC i).IS:=by
 unfold YtnclplgaicdapaaGreatDoor.RF;rw[Xo h0 h1 hi];split
 ·rename_i e; subst e; rfl
 ·rfl
theorem zj4{W:Q8}{g c:Int}{s:GO}(h0:0<=g)(h1:g<(W.IC.length:Int)){i:Int}(hi:0<=i):(gi (RF W g c s).IC i).IE.length=(gi W.IC i).IE.length:=by
 unfold YtnclplgaicdapaaGreatDoor.RF;rw[Xo h0 h1 hi];split
 ·rename_i e; subst e; simp
 ·rfl
structure SW (K:Int) (W:Q8):Prop where
 a:WA W
 t:∀t:Int,0<=t->t<12->(Q6 W t).state≠0->Q7 W.IC (Q6 W t).group=true/\0<=(Q6 W t).J'/\(Q6 W t).J'<(W.ID.length:Int)
 tv:∀t:Int,0<=t->t<12->0<=(Q6 W t).v/\(Q6 W t).v<=K
 s:∀k c:Int,Q7 W.IC k=true->0<=c->c<(W.ID.length:Int)->0<=(Qc W k c).floor/\(Qc W k c).floor<=K/\0<=(Qc W k c).v/\(Qc W k c).v<=K/\1<=(Qc W k c).w/\(Qc W k c).w<=20
 cu:∀c:Int,0<=c->c<(W.ID.length:Int)->-1<=(gi W.ID c).cur/\(gi W.ID c).cur<12
structure SF (F K:Int) (W:Q8):Prop where
 w:SW K W
 f:∀k c:Int,Q7 W.IC k=true->0<=c->c<(W.ID.length:Int)->(Qc W k c).floor<=F
theorem SW.mono{K K':Int}{W:Q8}(h:SW K W)(hk:K<=K'):SW K' W:=
 ⟨h.a,h.t,λt a b=>by have:=h.tv t a b; omega,λk c u a b=>by have:=h.s k c u a b; omega,h.cu⟩
theorem SW.sf{K:Int}{W:Q8}(h:SW K W):SF K K W:=⟨h,λk c u a b=>(h.s k c u a b).2.1⟩
theorem SF.mono{F K F' K':Int}{W:Q8}(h:SF F K W)(hf:F<=F')(hk:K<=K'):SF F' K' W:=⟨h.w.mono hk,λk c u a b=>by have:=h.f k c u a b; omega⟩
theorem SW.li{K:Int}{W:Q8}(h:SW K W){t:Int}(t0:0<=t)(t1:t<(W.tasks.length:Int))(hs:(Q6 W t).state=1):Q7 W.IC (Q6 W t).group=true/\0<=(Q6 W t).J'/\(Q6 W t).J'<(W.ID.length:Int):=by
 have hl:=h.a.t;exact h.t t t0 Qo Qo
theorem SF.RF{F K:Int}{W:Q8}(h:SF F K W){g c:Int}{s:GO}(hu:Q7 W.IC g=true)(c0:0<=c)(c1:c<(W.ID.length:Int))(f0:0<=s.floor)(f1:s.floor<=F)(fk:s.floor<=K)(v0:0<=s.v)(v1:s.v<=K)(w1:1<=s.w)(w2:s.w<=20):SF F K (RF W g c s):=by
 obtain⟨u0,u1,_⟩:=Q4.1 hu;have hl:=h.w.a.gl;have hs:=h.w.a.sl hu;have hT:=Jm (W:=W) (g:=g) (c:=c) (s:=s) u0 u1
 have e:∀k d:Int,Q7 (YtnclplgaicdapaaGreatDoor.RF W g c s).IC k=true->0<=d->Qc (YtnclplgaicdapaaGreatDoor.RF W g c s) k d=if g=k/\c=d then s else Qc W k d:=λk d uk hd=>by
  rw[hT.eB] at uk;exact Vf u0 u1 c0 Qo (Q4.1 uk).1 hd
 refine⟨⟨h.w.a.RF u0 Qo,λt a b n=>by rw[hT.eB]; exact h.w.t t a b n,h.w.tv,λk d uk a b=>?_,h.w.cu⟩,λk d uk a b=>?_⟩
 ·rw[e k d uk a];rw[hT.eB] at uk;split
  ·exact⟨f0,fk,v0,v1,w1,w2⟩
  ·exact h.w.s k d uk a b
 ·rw[e k d uk a];rw[hT.eB] at uk;split
  ·exact f1
  ·exact h.f k d uk a b
def ZZ(W:Q8)(k c:Int):GO:=
 { Qc W k c with
  v:=if (QX W k c && !UD W k c)=true/\(Qc W k c).on=false then (Qc W (gi W.IC k).parent c).floor+Yk ((Qc W k c).v-(Qc W (gi W.IC k).parent c).floor) (Qc W k c).w else (Qc W k c).v
  on:=QX W k c && !UD W k c }
def Zq(W:Q8)(c d:Int):Nat->Q8
 | 0=>W
 | k+1=>if (gi (Zq W c d k).IC (k:Int)).used=true/\dep 3 (Zq W c d k).IC (k:Int)=d then RF (Zq W c d k) (k:Int) c (ZZ (Zq W c d k) (k:Int) c) else Zq W c d k
theorem zt5{W:Q8}{c d:Int}(h:d≠0):Zq W c d 1=W:=by
 show (if (gi W.IC ((0:Nat):Int)).used=true/\dep 3 W.IC ((0:Nat):Int)=d then _ else W)=W;refine B' λhc=>h ?_
 have:=hc.2;rw[show (((0:Nat):Int))=0 from rfl,Y6] at this;exact this.symm
def Xd(W:Q8)(c:Int):Nat->Q8
 | 0=>W
 | j+1=>Zq (Xd W c j) c (3-(j:Int)) 8
def QJ(W:Q8)(c:Int):Q8:=Xd W c 3
abbrev Qj:Int:=34686091440
end Go.Proofs.YtnclplgaicdapaaGreatDoor
