/- Part 8 of what the law FnLast needs. -/
import Derived.Test.YtnclplgaicdapaaGreatDoorFnLastPg
import Derived.Laws.StructEq
set_option linter.unusedVariables false
set_option linter.unusedSimpArgs false
set_option maxRecDepth 100000
set_option maxHeartbeats 8000000
namespace Go.Proofs.YtnclplgaicdapaaGreatDoor
open Go.RowKit
def zbv (P:Program):List Field->Nat->List Va->List Va->Option Bool
 | [],_,[],[]=>some true
 | f :: r, k, x :: xs, y :: ys => bif decide (f.name ≠ "_") && Nat.beq f.offset k then
   (match zbv P r (k+1) xs ys with
   | some q=>(match P.underlying f.type,x,y with
    | some (.int _),.int a n,.int b m=>bif decide (a=b) then some ((n==m)&&q) else none
    | some .bool,.bool n,.bool m=>some ((n==m)&&q)
    | some .string,.string n,.string m=>some (ZD n m&&q)
    | _,_,_=>none)
   | none=>none) else none
 | _,_,_,_=>none
theorem FQ {P:Program} (d:Nat) (w:Wo) (xs ys:List Va):∀(fs:List Field) (k:Nat) (b:Bool),zbv P fs k (xs.drop k) (ys.drop k)=some b->(Op.eqFields (d+1) xs.toArray ys.toArray fs).run P w=.ok b w
 | [],k,b,h=>by
  have hb:some true=some b:=by
   cases ex:xs.drop k with
   | nil=>
    cases ey:ys.drop k with
    | nil=>rw[ex,ey] at h; exact h
    | cons y ys'=>rw[ex,ey] at h; cases h
   | cons x xs'=>rw[ex] at h; cases h
  simp only[I1] at hb
  subst hb
  simp[Op.eqFields]
 | f::r,k,b,h=>by
  have hx:∀{l:List Va} {x:Va} {q:List Va},l.drop k=x::q->l[k]? = some x/\l.drop (k+1)=q:=λ{l x q} e=>by
   have h1:l[k]? = (l.drop k)[0]? := by simp
   have h2:l.drop (k+1)=(l.drop k).drop 1:=Qs
   rw[h1,h2,e]; simp
  cases exx:xs.drop k with
  | nil=>rw[exx] at h; cases h
  | cons x xs'=>
  cases eyy:ys.drop k with
  | nil=>rw[exx,eyy] at h; cases h
  | cons y ys'=>
   rw[exx,eyy] at h
   simp only[zbv] at h
   obtain⟨gx,dx⟩:=hx exx
   obtain⟨gy,dy⟩:=hx eyy
   cases hc : (decide (f.name ≠ "_") && Nat.beq f.offset k) with
   | false=>rw[hc] at h; cases h
   | true=>
    rw[hc] at h
    simp only[cond_true] at h
    simp only[A',Ik] at hc
    have hof:=Ic hc.2
    split at h
    ·rename_i q hq
     have ih:=FQ d w xs ys r (k+1) q (by rw[dx,dy]; exact hq)
     have Bw9:∀{D:TypeDesc},P.underlying f.type=some D->K6 D=false->(part f.type xs.toArray f.offset).run P w=.ok x w/\(part f.type ys.toArray f.offset).run P w=.ok y w:=λ{D} hu hD=>by
      rw[hof]
      simp[part,VM hu,hD,gx,gy]
     split at h
     ·rename_i K a n b' m hu
      cases hab:decide (a=b') with
      | false=>rw[hab] at h; cases h
      | true=>
       have:=Ot hab
       subst this
       rw[hab] at h
       simp only[cond_true,I1] at h
       subst h
       obtain⟨p1,p2⟩:=Bw9 hu rfl
       simp only[Op.eqFields,E' hc.1,Sem.run_bind,p1,p2,Result.andThen_ok,run_equalIn_int w d f.type a K n m hu,Sem.run_ite]
       cases n==m <;> simp[ih]
     ·rename_i n m hu
      simp only[I1] at h
      subst h
      obtain⟨p1,p2⟩:=Bw9 hu rfl
      simp only[Op.eqFields,E' hc.1,Sem.run_bind,p1,p2,Result.andThen_ok,run_equalIn_bool' w d f.type n m hu,Sem.run_ite]
      cases n==m <;> simp[ih]
     ·rename_i n m hu
      simp only[I1] at h
      subst h
      obtain⟨p1,p2⟩:=Bw9 hu rfl
      simp only[Op.eqFields,E' hc.1,Sem.run_bind,p1,p2,Result.andThen_ok,run_equalIn_string w d f.type n m hu,Sem.run_ite]
      unfold ZD
      cases n.toList==m.toList <;> simp[ih]
     ·cases h
    ·cases h
structure zpl (P:Program) (t:TypeId):Prop where
 u:P.underlying t=some (.struct (P.fieldsOf t))
 s:P.stoodInHeld t=false
 g:P.eqGuardType P.depth t=false
theorem FR{P:Program}{t:TypeId}(F:zpl P t){xs ys:List Va}{b:Bool}(h:zbv P (P.fieldsOf t).toList 0 xs ys=some b)(w:Wo):(Op.equal t (.agg xs.toArray) (.agg ys.toArray)).run P w=.ok b w:=by
 have:=run_equalIn_struct (P:=P) w 9999 t xs.toArray ys.toArray F.u F.s;rw[FQ 9998 w xs ys _ 0 b (by simpa using h)] at this;exact this
theorem zdp{P:Program}{t:TypeId}(F:zpl P t){xs ys:List Va}{b:Bool}(h:zbv P (P.fieldsOf t).toList 0 xs ys=some b)(x y:Operand)(w:Wo):((do eqGuard .eql t x y (.agg xs.toArray) (.agg ys.toArray); binOp .eql t (.agg xs.toArray) (.agg ys.toArray)):Sem Va).run P w=.ok (.bool b) w:=by
 have:=FR F h w;simp only[Op.equal,Op.maxDepth] at this;simp only[Sem.run_bind,run_eqGuard_agg w .eql t x y _ _ F.g,Result.andThen_ok,run_eql_struct,this]
theorem PB:zpl Tryz.prog QT:=⟨Qk,Qk,Qk⟩
def Us(p:Int)(n:ByteArray):Va:=.agg #[I p,.string n]
theorem znv(p q:Int)(n m:ByteArray):zbv Tryz.prog (Tryz.prog.fieldsOf QT).toList 0 [I p,.string n] [I q,.string m]=some ((p==q)&&(ZD n m&&true)):=Qk
theorem zhy(p q:Int)(n m:ByteArray)(w:Wo):(Op.equal QT (Us p n) (Us q m)).run Tryz.prog w=.ok (decide (p=q/\n=m)) w:=by
 have:=FR PB (znv p q n m) w
 have e:((p==q)&&(ZD n m&&true))=decide (p=q/\n=m):=by
  rw[FT,Bool.and_true]
  by_cases h1:p=q <;> by_cases h2:n=m <;> simp[h1,h2]
 rw[e] at this;exact this
theorem zmo(p:Int)(n:ByteArray)(w:Wo):∀(es:List MapEntry) (i:Nat),(∀e∈es,∃q m v,e.key=Us q m/\e.val=I v)->
  (∃(j:Nat) (v:Int),(Instr.findAsking QT (Us p n) es i).run Tryz.prog w=.ok (some (j,I v)) w/\∃e∈es,e.key=Us p n) \/
  ((Instr.findAsking QT (Us p n) es i).run Tryz.prog w=.ok none w/\∀e∈es,e.key≠Us p n)
 | [],i,_=>.inr ⟨by simp[Instr.findAsking],λe he=>by cases he⟩
 | e::r,i,h=>by
  obtain⟨q,m,v,hk,hv⟩:=h e (Ia ..)
  by_cases hq:p=q/\n=m
  ·refine .inl ⟨i,v,?_,e,Ia ..,by rw[hk,hq.1,hq.2]⟩;simp only[Instr.findAsking,hk,Sem.run_bind,zhy,Ii hq,Result.andThen_ok,if_true,Sem.run_pure,hv]
  ·have cZ:(Instr.findAsking QT (Us p n) (e::r) i).run Tryz.prog w=(Instr.findAsking QT (Us p n) r (i+1)).run Tryz.prog w:=by
    simp only[Instr.findAsking,hk,Sem.run_bind,zhy,decide_eq_false hq,Result.andThen_ok,Bool.false_eq_true,if_false]
   have fH:e.key≠Us p n:=λe'=>by
    rw[hk] at e';simp only[Us,Value.agg.injEq,List.toArray_inj,Array.mk.injEq,I5,I6,true_and,Value.string.injEq,and_true] at e';exact hq ⟨e'.1.symm,e'.2.symm⟩
   rcases zmo p n w r (i+1) (λx hx=>h x (I2 _ hx)) with ⟨j,v',h1,x,hx,h2⟩ | ⟨h1,h2⟩
   ·exact .inl ⟨j,v',by rw[cZ]; exact h1,x,I2 _ hx,h2⟩
   ·exact .inr ⟨by rw[cZ]; exact h1,λx hx=>by
     rcases Ij.1 hx with rfl | hx
     ·exact fH
     ·exact h2 x hx⟩
theorem A1(p:Int)(n:ByteArray)(w:Wo)(es:List MapEntry)(h:∀e∈es,∃q m v,e.key=Us q m/\e.val=I v) :
  (∃(j:Nat) (v:Int),(Instr.findKey QT (Us p n) es).run Tryz.prog w=.ok (some (j,I v)) w/\∃e∈es,e.key=Us p n) \/
  ((Instr.findKey QT (Us p n) es).run Tryz.prog w=.ok none w/\∀e∈es,e.key≠Us p n):=by
 cases es with
 | nil=>exact .inr ⟨by simp[Instr.findKey,run_underlying PB.u,Instr.findNow],λe he=>by cases he⟩
 | cons e r=>
  have hs:(Instr.findKey QT (Us p n) (e::r)).run Tryz.prog w=(Instr.findAsking QT (Us p n) (e::r) 0).run Tryz.prog w:=by
   simp[Instr.findKey,run_underlying PB.u,Instr.findNow,Instr.sameNow]
  rw[hs];exact zmo p n w (e::r) 0 h
theorem zbt:∃a b:Field,(Tryz.prog.fieldsOf QT).toList=[a,b]/\a.type=Qb/\a.offset=0/\b.type=ZH/\b.offset=1:=⟨(Tryz.prog.fieldsOf QT)[0]!,(Tryz.prog.fieldsOf QT)[1]!,Qk,Qk,Qk,Qk,Qk⟩
theorem L6 (em:Bool) (p:Int) (n:ByteArray) (w:Wo):(Instr.checkKey em 10000 QT (Us p n)).run Tryz.prog w=.ok () w:=by
 obtain⟨a,b,hl,a1,a2,b1,b2⟩:=zbt
 have p1:(part Qb #[.int .i64 p,.string n] 0).run Tryz.prog w=.ok (.int .i64 p) w:=by simp[part,VM zz7,K6]
 have p2:(part ZH #[.int .i64 p,.string n] 1).run Tryz.prog w=.ok (.string n) w:=by simp[part,VM zd2,K6]
 have c1:∀d:Nat,(Instr.checkKey em (d+1) Qb (.int .i64 p)).run Tryz.prog w=.ok () w:=λd=>by simp[Instr.checkKey,run_underlying zz7]
 have c2:∀d:Nat,(Instr.checkKey em (d+1) ZH (.string n)).run Tryz.prog w=.ok () w:=λd=>by simp[Instr.checkKey,run_underlying zd2]
 have key:∀d:Nat,(Instr.checkKey em (d+1+1) QT (Us p n)).run Tryz.prog w=.ok () w:=λd=>by
  rw[Instr.checkKey]
  simp only[Us,Sem.run_bind,run_underlying PB.u,Result.andThen_ok]
  rw[<-Array.forIn_toList,hl]
  by_cases ha : a.name ≠ "_" <;> by_cases hb : b.name ≠ "_" <;> simp [ha, hb, a1, a2, b1, b2, p1, p2, c1, c2]
 exact key 9998
theorem NK:Tryz.prog.underlying ZG=some (.map QT Qb):=Qk
theorem z2x(w:Wo):(zeroValue Qb).run Tryz.prog w=.ok (I 0) w:=by
 have h:(match Tryz.prog.info? Qb with | some i=>i.zero | none=>none)=some (I 0):=Qk
 cases hi:Tryz.prog.info? Qb with
 | none=>rw[hi] at h; cases h
 | some i=>
  rw[hi] at h;simp only at h;simp[zeroValue,JU hi,h]
def Ei(w:Wo)(b:Nat)(es:Array MapEntry):Prop:=(∃c,w.heap[b]? = some (.map es c))/\∀e∈es.toList,∃q m v,e.key=Us q m/\e.val=I v
theorem zwe{w:Wo}{b:Nat}{es:Array MapEntry}(h:Ei w b es)(p:Int)(n:ByteArray) :
  ∃(v:Int) (ok:Bool),(Instr.lookup ZG (.map (some b)) (Us p n) true).run Tryz.prog w=.ok (.tuple #[I v,.bool ok]) w/\(ok=true↔∃e∈es.toList,e.key=Us p n):=by
 obtain⟨⟨c,hc⟩,hes⟩:=h;have hg:(getObj b).run Tryz.prog w=.ok (.map es c) w:=by simp[getObj,Sem.run,hc]
 rcases A1 p n w es.toList hes with ⟨j,v,h1,h2⟩ | ⟨h1,h2⟩
 ·exact⟨v,true,by simp[Instr.lookup,run_underlying NK,hg,L6,h1],by simpa using h2⟩
 ·exact⟨0,false,by simp[Instr.lookup,run_underlying NK,hg,L6,h1,z2x],⟨λh=>(by cases h),λ⟨e,he,hk⟩=>Is hk (h2 e he)⟩⟩
theorem zza{w:Wo}{b:Nat}{es:Array MapEntry}(h:Ei w b es){p:Int}{n:ByteArray}(lA:∀e∈es.toList,e.key≠Us p n)(v:Int) :
  ∃w' c,((do Instr.mapUpdate ZG (.map (some b)) (Us p n) (I v); pure undef):Sem Va).run Tryz.prog w=.ok undef w'/\Q0 [b] w w'/\Ei w' b (es.push { key:=Us p n,val:=I v,born:=c }):=by
 obtain⟨⟨c,hc⟩,hes⟩:=h;have hg:(getObj b).run Tryz.prog w=.ok (.map es c) w:=by simp[getObj,Sem.run,hc]
 have hfk:(Instr.findKey QT (Us p n) es.toList).run Tryz.prog w=.ok none w:=by
  rcases A1 p n w es.toList hes with ⟨j,v,_,e,he,hk⟩ | ⟨h1,_⟩
  ·exact Is hk (lA e he)
  ·exact h1
 have hs:(setObj b (.map (es.push { key:=Us p n,val:=I v,born:=c }) (c+1))).run Tryz.prog w=.ok () { w with heap:=w.heap.setIfInBounds b (.map (es.push { key:=Us p n,val:=I v,born:=c }) (c+1)) }:=by
  simp[setObj,Sem.run,hc]
 have IT:=JW hc;refine⟨{ w with heap:=w.heap.setIfInBounds b (.map (es.push { key:=Us p n,val:=I v,born:=c }) (c+1)) },c,by simp[Instr.mapUpdate,run_underlying NK,hg,L6,hfk,hs],⟨rfl,rfl,rfl,Qs,λk _ hk=>?_⟩,⟨c+1,by simp[IT]⟩,λe he=>?_⟩
 ·have:b≠k:=λe=>hk (by simp[e])
  show (w.heap.setIfInBounds b _)[k]? = _;rw[Array.getElem?_setIfInBounds_ne this]
 ·rw[Array.toList_push,Io] at he;rcases he with he | he
  ·exact hes e he
  ·rw[IA] at he;subst he;exact⟨p,n,v,rfl,rfl⟩
theorem Ei.ext{w w':Wo}{b:Nat}{es:Array MapEntry}{bs:List Nat}(h:Ei w b es)(hx:Q0 bs w w')(hb:b∉bs):Ei w' b es:=by
 obtain⟨⟨c,hc⟩,hes⟩:=h;exact⟨⟨c,QQ hc hx hb⟩,hes⟩
def zbq(p:OA):List Va:=[.pointer p]
theorem PP:zpj Tryz.prog zbq 1 Yx 8 none:=DE Qk λ_=>rfl
theorem ztj:Tryz.prog.underlying MQ=some (.slice Yx):=Qk
def Vu(w:Wo)(b:Nat)(g:Int)(n:ByteArray)(up:OA):Prop:=w.heap[b]? = some (.cells ([I g,.string n,.pointer up]:List Va).toArray FY (0,0))
theorem Vu.ext{w w':Wo}{b:Nat}{g:Int}{n:ByteArray}{up:OA}{bs:List Nat}(h:Vu w b g n up)(hx:Q0 bs w w')(hb:b∉bs):Vu w' b g n up:=QQ h hx hb
theorem Vu.cells{w:Wo}{b:Nat}{g:Int}{n:ByteArray}{up:OA}(h:Vu w b g n up){bs:List Nat}(hb:b∉bs):Q1 bs w (some ⟨b,0,none⟩) 0 [I g,.string n,.pointer up]:=
 PN h hb λj v hj=>by rw[Nat.zero_add,Nat.zero_add]; exact hj
def zpd(gs:List ZN)(nb:Int->Nat)(x:Int):OA:=if x=0 then none else some ⟨nb (gi gs x).parent,0,none⟩
structure Ns (bs:List Nat) (w:Wo) (gs:List ZN) (nb:Int->Nat):Prop where
 node:∀x:Int,Q6 gs x=true->Q1 bs w (some ⟨nb x,0,none⟩) 0 [I x,.string (gi gs x).name,.pointer (zpd gs nb x)]
 par:∀x:Int,x≠0->Q6 gs x=true->Q6 gs (gi gs x).parent=true
theorem Ns.ext{bs:List Nat}{w w':Wo}{gs:List ZN}{nb:Int->Nat}(h:Ns bs w gs nb)(hx:Q0 bs w w'):Ns bs w' gs nb:=⟨λx hu=>(h.node x hu).ext hx,h.par⟩
theorem Ns.less{bs cs:List Nat}{w:Wo}{gs:List ZN}{nb:Int->Nat}(h:Ns bs w gs nb)(hs:∀x∈cs,x∈bs):Ns cs w gs nb:=⟨λx hu=>(h.node x hu).less hs,h.par⟩
def zcx(gs:List ZN)(f:Nat)(x:Int)(s:Int):Int:=if dep f gs x<0 then -1 else s+dep f gs x
theorem zye{gs:List ZN}{nb:Int->Nat}{w:Wo}{bs:List Nat}(h:Ns bs w gs nb){x:Int}(hu:Q6 gs x=true):PX bs VA #[.pointer (some ⟨nb x,0,none⟩)] w (I (zcx gs 3 x 0)):=
 FG (some ⟨nb x,0,none⟩) λwr hx=>by
  have h:=(h.ext hx).less (cs:=[]) Qs;refine⟨λvs=>(∃(y:Int) (s:Nat),Q6 gs y=true/\s<=4/\vs=[.pointer (some ⟨nb y,0,none⟩),I (s:Int)]/\(s<=3->zcx gs (3-s) y s=zcx gs 3 x 0)/\(s=4->zcx gs 3 x 0 = -1))\/∃s:Nat,s<=4/\vs=[.pointer none,I (s:Int)]/\zcx gs 3 x 0 = -1,λvs=>(5-ZW 1 vs).toNat,.inl ⟨x,0,hu,Qo,rfl,λ_=>rfl,λh=>by omega⟩,?_⟩;rintro n1 st (⟨y,s,hy,hs,he,h1,h2⟩ | ⟨s,hs,he,h1⟩)
  ·simp only[I5,I6,Value.pointer.injEq,true_and,and_true] at he;obtain⟨rfl,rfl⟩:=he;refine⟨λhc=>?_,λhc=>?_⟩
   ·have fX:s<=3:=by
     simp only[Option.isNone_some,Bool.not_false,Bool.true_and,Ik] at hc;omega
    have hn:=h.node y hy;refine⟨rfl,y,hn.get 0 _ rfl,λhz=>?_,λhz=>?_⟩
    ·have hz:y=0:=by simpa using hz
     rw[<-h1 fX];subst hz;unfold zcx;rw[Y8,C' Qo,Int.add_zero]
    ·have hz:y≠0:=by simpa using hz
     have hm:zpd gs nb y=some ⟨nb (gi gs y).parent,0,none⟩:=by unfold zpd; rw[C' hz]
     refine⟨⟨Qo,Qo⟩,rfl,_,by have:=hn.get 2 _ rfl; exact this,.inl ⟨(gi gs y).parent,s+1,h.par y hz hy,Qo,by rw[hm]; simp,λhs'=>?_,λhs'=>?_⟩,?_⟩
     ·rw[<-h1 fX];have e:3-s=(3-(s+1))+1:=Qo;rw[e];unfold zcx;simp only[dep,C' hz]
      by_cases hd:dep (3-(s+1)) gs (gi gs y).parent<0
      ·rw[E' hd,E' hd,E' Qo]
      ·rw[C' hd,C' hd,C' Qo]; omega
     ·rw[<-h1 fX];have e:3-s=0:=Qo;rw[e];unfold zcx;simp only[dep,C' hz];rfl
     ·show (5-((s:Int)+1)).toNat<(5-(s:Int)).toNat;omega
   ·have eM:s=4:=by
     simp only[Option.isNone_some,Bool.not_false,Bool.true_and,decide_eq_false_iff_not] at hc;omega
    rw[h2 eM]
  ·simp only[I5,I6,Value.pointer.injEq,true_and,and_true] at he;obtain⟨rfl,rfl⟩:=he;refine⟨λhc=>by simp at hc,λ_=>by rw[h1]⟩
section
variable {gs:List ZN}{ms:Nat->MG}{o:OA}{c:Nat}{w:Wo}{bs:List Nat}
theorem Kp{g:Int}(h:Ld bs w o gs ms)(hl:gs.length<=maxLen):PX bs U2 #[.slice o gs.length c,I g] w (.bool (Q6 gs g)):=
 Nj o gs.length c g λwr hx=>by
  have h:=(h.ext hx).less (cs:=[]) Qs;have:=XF
  have e:YJ g 0 ((gs.length:Int)-1)=(decide (g>=0)&&decide (g<(gs.length:Int))):=by
   unfold YJ
   congr 1
   exact decide_eq_decide.2 Qo
  refine⟨⟨Qo,Qo⟩,_,QN,λq=>?_,(gi gs g).used,λq=>?_,by rw[e]; rfl⟩
  ·have q:=Qt.1 q;exact h.ix Qo Qo
  ·have q:=Qt.1 q;exact h.used Qo Qo
theorem zyg(h:Ld [] w o gs ms)(hl:gs.length<=maxLen) :
  Cz K3 #[.slice o gs.length c] w λe w'=>∃(o':OA) (L C:Nat) (ok:Bool),e=.returned (.tuple #[.slice o' L C,.bool ok])/\ok=MP gs/\Q0 [] w w'/\
   (ok=false->L=0)/\(ok=true->L=8/\∃(pl:List (OA)) (nb:Int->Nat),pl.length=8/\Rd zbq 1 [] w' o' pl/\(∀g:Int,0<=g->g<8->gi pl g=if (gi gs g).used then some ⟨nb g,0,none⟩ else none)/\Ns [] w' gs nb):=by
 refine(zi9 o gs.length c (R:=λv w'=>∃(o':OA) (L C:Nat) (ok:Bool),v=.tuple #[.slice o' L C,.bool ok]/\ok=MP gs/\Q0 [] w w'/\
   (ok=false->L=0)/\(ok=true->L=8/\∃(pl:List (OA)) (nb:Int->Nat),pl.length=8/\Rd zbq 1 [] w' o' pl/\(∀g:Int,0<=g->g<8->gi pl g=if (gi gs g).used then some ⟨nb g,0,none⟩ else none)/\Ns [] w' gs nb)) ?_).mono λe w' ⟨v,he,o',L,C,ok,hv,hr⟩=>⟨o',L,C,ok,by rw[he,hv],hr⟩
 have bad:∀w',Q0 [] w w'->¬Yc gs->∃(o':OA) (L C:Nat) (ok:Bool),Value.tuple #[.slice none 0 0,.bool false]=.tuple #[.slice o' L C,.bool ok]/\ok=MP gs/\Q0 [] w w'/\
   (ok=false->L=0)/\(ok=true->L=8/\∃(pl:List (OA)) (nb:Int->Nat),pl.length=8/\Rd zbq 1 [] w' o' pl/\(∀g:Int,0<=g->g<8->gi pl g=if (gi gs g).used then some ⟨nb g,0,none⟩ else none)/\Ns [] w' gs nb):=λw' hx lA=>
  ⟨none,0,0,false,rfl,(FX lA).symm,hx,λ_=>rfl,λh=>by cases h⟩
 have l8:((((gs.length:Nat):Int) != 8)=false)->gs.length=8:=λq=>by have:=(bne_eq_false_iff_eq).1 q; omega
 have i0:∀q:(((gs.length:Nat):Int) != 8)=false,(0:Int)<(gs.length:Int):=λq=>by have:=l8 q; omega
 refine⟨λq=>h.ix (I3 _) (i0 q),(gi gs 0).used,λq=>h.used (I3 _) (i0 q),λq=>?_,(gi gs 0).parent,λq=>?_,λq=>?_,(gi gs 0).name,λq=>?_,λq=>?_,λq=>?_⟩
 ·simp only[I0] at q; exact h.ix (I3 _) (i0 q.1)
 ·simp only[I0] at q; exact h.parent (I3 _) (i0 q.1)
 ·simp only[I0] at q; exact h.ix (I3 _) (i0 q.1.1)
 ·simp only[I0] at q; exact h.name (I3 _) (i0 q.1.1)
 ·intro w1 S4;refine bad w1 S4 λht=>?_
  have e:((gs.length:Nat):Int)=8:=by have:=ht.len; omega
  rw[e,ht.ru,ht.rp,ht.rn,FT] at q;simp at q
 simp only[I0,I7,bne_eq_false_iff_eq,UL] at q;obtain⟨⟨⟨q1,ru⟩,rp⟩,rn⟩:=q;have hl8:gs.length=8:=Qo;intro wr hx _;refine⟨some ⟨wr.heap.size,0,none⟩,8,8,wr.alloc (.cells ((List.replicate 8 none).flatMap zbq).toArray Yx),Kd PP ztj 8 Qd (by simp[maxLen]) wr,Yo,?_⟩;have hO0:=V7 (enc:=zbq) PP.len Yx 8 none wr;have hX0:Q0 [] wr (wr.alloc (.cells ((List.replicate 8 none).flatMap zbq).toArray Yx)):=Z8 wr _;generalize wr.alloc (.cells ((List.replicate 8 (none:OA)).flatMap zbq).toArray Yx)=wv at hO0 hX0
 refine XC 8 0 rfl (λk w1=>k<=8/\Q0 [] wr w1/\∃(pl:List (OA)) (nb:Int->Nat),pl.length=8/\Ud zbq 1 Yx wr.heap.size w1 (some ⟨wr.heap.size,0,none⟩) 8 pl/\
   (∀g:Int,0<=g->g<8->gi pl g=if g<(k:Int)/\(gi gs g).used=true then some ⟨nb g,0,none⟩ else none)/\
   (∀g:Int,0<=g->g<(k:Int)->(gi gs g).used=true->wr.heap.size<=nb g/\Vu w1 (nb g) g (gi gs g).name none)/\
   (∀g g':Int,0<=g->g<(k:Int)->0<=g'->g'<(k:Int)->(gi gs g).used=true->(gi gs g').used=true->nb g=nb g'->g=g')) (λw1 S4 _=>⟨Ie _,hX0.trans S4,List.replicate 8 none,λ_=>0,rfl,hO0.WG S4,λg h0 h1=>?_,λg h0 h1=>by omega,λg g' h0 h1=>by omega⟩) λk w1 _ ⟨hk,hX,pl,nb,hpl,hO,hP,hN,B78⟩=>⟨λIT=>?_,λRN=>?_⟩
 ·rw[C' (λhc=>by omega)];exact List.eq_of_mem_replicate (zn2 h0 (by simpa using h1))
 ·have IT:=Ot IT;have hr:=(h.ext hx).ext hX;have fE:(0:Int)<=(k:Int):=Qo;refine⟨hr.ix fE IT,_,hr.used fE IT,λhu=>⟨hr.ix fE IT,_,hr.name fE IT,λb wb hxb hb hhb _=>?_⟩,λhu=>⟨⟨Qo,Qo⟩,λw2 R3 _=>Qp Qo ⟨Qo,hX.trans R3,pl,nb,hpl,hO.WG R3,λg h0 h1=>?_,λg h0 h1 hg=>?_,λg g' h0 h1 h0' h1' hg hg'=>?_⟩⟩⟩
  ·have hOb:=hO.WG hxb;have tE:(k:Int)<(pl.length:Int):=by rw[hpl]; omega
   have Wg:=hOb.ix fE tE;rw[hpl] at Wg;refine⟨Wg,hOb.wr PP.len Qs fE tE (j:=0) (n:=1) Qo,⟨Qo,Qo⟩,λw2 R3 _=>Qp Qo ⟨Qo,?_,pl.set k (some ⟨b,0,none⟩),λg=>if g=(k:Int) then b else nb g,by rw[H']; exact hpl,?_,λg h0 h1=>?_,λg h0 h1 hg=>?_,λg g' h0 h1 h0' h1' hg hg' he=>?_⟩⟩
   ·exact(hOb.Ck6 _ _ (hX.trans hxb) (I8 _)).trans R3
   ·exact(hOb.R8 PP.len (i:=(k:Int)) fE tE (j:=0) (vs:=[.pointer (some ⟨b,0,none⟩)]) (x:=some ⟨b,0,none⟩) rfl Qs).WG R3
   ·have:=QI pl (some ⟨b,0,none⟩) (i:=(k:Int)) (j:=g) fE tE h0;rw[Ih] at this;rw[this]
    by_cases tD:(k:Int)=g
    ·subst tD;rw[E' rfl,E' ⟨Qo,hu⟩]
     dsimp only
     rw[E' rfl]
    ·rw[C' tD,hP g h0 h1]
     dsimp only
     rw[show (if g=(k:Int) then b else nb g)=nb g from C' (λe=>tD e.symm)]
     by_cases RM:g<(k:Int)
     ·by_cases lM:(gi gs g).used=true
      ·rw[E' ⟨RM,lM⟩,E' ⟨Qo,lM⟩]
      ·rw[C' (λhc=>lM hc.2),C' (λhc=>lM hc.2)]
     ·rw[C' (λhc=>RM hc.1),C' (λhc=>by omega)]
   ·have nH:Q0 (QD (some ⟨wr.heap.size,0,none⟩)) wb (R8 wb (some ⟨wr.heap.size,0,none⟩) (Int.toNat (k:Int)*1) [.pointer (some ⟨b,0,none⟩)]):=hOb.qR _ _
    have fH:∀q,Vu wb q g (gi gs g).name none->q∉QD (some (⟨wr.heap.size,0,none⟩:Addr)):=λq hq hm=>by
     simp only[QD,IA] at hm;subst hm;rcases hOb with ⟨hc,_⟩ | ⟨b',sp,he,_,h2,_⟩
     ·cases hc
     ·simp only[I1,Addr.mk.injEq,and_true] at he;subst he;unfold Vu at hq;rw[h2] at hq;simp only[I1,Obj.cells.injEq] at hq;exact Is hq.2.1 Qd
    dsimp only
    by_cases tD:g=(k:Int)
    ·subst tD;rw[E' rfl];have hq:Vu wb b (k:Int) (gi gs (k:Int)).name none:=hhb;exact⟨IB hX.size hb,((hq.ext nH (fH b hq)).ext R3 Qs)⟩
    ·rw[C' tD];obtain⟨n1,n2⟩:=hN g h0 Qo hg;have n3:=n2.ext hxb Qs;exact⟨n1,(n3.ext nH (fH _ n3)).ext R3 Qs⟩
   ·have fresh:∀q:Int,0<=q->q<(k:Int)->(gi gs q).used=true->nb q≠b:=λq a1 a2 a3 e=>by
     have:=JW (hN q a1 a2 a3).2;omega
    dsimp only at he
    by_cases tD:g=(k:Int)
    ·by_cases hgk':g'=(k:Int)
     ·rw[tD,hgk']
     ·rw[E' tD,C' hgk'] at he;exact Is he.symm (fresh g' h0' Qo hg')
    ·by_cases hgk':g'=(k:Int)
     ·rw[C' tD,E' hgk'] at he;exact Is he (fresh g h0 Qo hg)
     ·rw[C' tD,C' hgk'] at he;exact B78 g g' h0 Qo h0' Qo hg hg' he
  ·rw[hP g h0 h1]
   by_cases tD:g=(k:Int)
   ·subst tD;rw[C' (λhc=>by omega),C' (λhc=>by rw[hu] at hc; exact Is hc.2 Qd)]
   ·by_cases RM:g<(k:Int)
    ·by_cases lM:(gi gs g).used=true
     ·rw[E' ⟨RM,lM⟩,E' ⟨Qo,lM⟩]
     ·rw[C' (λhc=>lM hc.2),C' (λhc=>lM hc.2)]
    ·rw[C' (λhc=>RM hc.1),C' (λhc=>by omega)]
  ·by_cases tD:g=(k:Int)
   ·subst tD; rw[hu] at hg; cases hg
   ·obtain⟨n1,n2⟩:=hN g h0 Qo hg;exact⟨n1,n2.ext R3 Qs⟩
  ·have e1:g≠(k:Int):=λe=>by subst e; rw[hu] at hg; cases hg
   have e2:g'≠(k:Int):=λe=>by subst e; rw[hu] at hg'; cases hg'
   exact B78 g g' h0 Qo h0' Qo hg hg'
 ·have RN:=Ou RN;have hk8:k=8:=Qo;subst hk8;intro w2 R3 _;refine⟨.map (some w2.heap.size),w2.alloc (.map #[] 0),by simp[Instr.makeMap],Yo,?_⟩;have hM0:Ei (w2.alloc (.map #[] 0)) w2.heap.size #[]:=⟨⟨0,Array.getElem?_push_size ..⟩,λe he=>by cases he⟩;have hX2:Q0 [] wr (w2.alloc (.map #[] 0)):=(hX.trans R3).trans (Z8 w2 _);have oK:=(hO.WG R3).WG (Z8 w2 (.map #[] 0))
  have hN2:∀g:Int,0<=g->g<8->(gi gs g).used=true->wr.heap.size<=nb g/\Vu (w2.alloc (.map #[] 0)) (nb g) g (gi gs g).name none:=λg h0 h1 hg=>
   ⟨(hN g h0 Qo hg).1,((hN g h0 Qo hg).2.ext R3 Qs).ext (Z8 w2 _) Qs⟩
  have hP2:∀g:Int,0<=g->g<8->gi pl g=if (gi gs g).used=true then some ⟨nb g,0,none⟩ else none:=λg h0 h1=>by
   rw[hP g h0 h1]
   by_cases lM:(gi gs g).used=true
   ·rw[E' ⟨Qo,lM⟩,E' lM]
   ·rw[C' (λhc=>lM hc.2),C' lM]
  have Cb8:∀g g':Int,0<=g->g<8->0<=g'->g'<8->(gi gs g).used=true->(gi gs g').used=true->nb g=nb g'->g=g':=λg g' a b c d=>B78 g g' a Qo c Qo
  have hmb:wr.heap.size<=w2.heap.size:=(hX.trans R3).size;generalize w2.heap.size=mb at hM0 hmb;generalize w2.alloc (.map #[] 0)=w3 at hM0 hX2 oK hN2;clear hX hO hN hP B78
  refine XC 8 1 rfl (λk w1=>1<=k/\k<=8/\Q0 [] wr w1/\Ud zbq 1 Yx wr.heap.size w1 (some ⟨wr.heap.size,0,none⟩) 8 pl/\
    (∀g:Int,0<=g->g<8->(gi gs g).used=true->Vu w1 (nb g) g (gi gs g).name (if g<(k:Int) then zpd gs nb g else none))/\
    (∃es,Ei w1 mb es/\(∀e∈es.toList,∃g:Int,1<=g/\g<(k:Int)/\(gi gs g).used=true/\e.key=Us (gi gs g).parent (gi gs g).name)/\∀g:Int,1<=g->g<(k:Int)->(gi gs g).used=true->∃e∈es.toList,e.key=Us (gi gs g).parent (gi gs g).name)/\
    (∀g:Int,1<=g->g<(k:Int)->(gi gs g).used=true->Uu (gi gs g).name=true/\Q6 gs (gi gs g).parent=true/\∀h:Int,1<=h->h<g->(gi gs h).used=true->¬((gi gs h).parent=(gi gs g).parent/\(gi gs h).name=(gi gs g).name)))
   (λw4 SZ _=>⟨I8 _,Qo,hX2.trans SZ,oK.WG SZ,λg h0 h1 hg=>?_,⟨#[],hM0.ext SZ Qs,(λe he=>by cases he),λg h1 h2=>by omega⟩,λg h1 h2=>by omega⟩) λk w4 _ ⟨hk1,hk,hX,hO,hN,⟨es,hM,hE1,hE2⟩,hT⟩=>⟨λIT=>?_,λRN=>?_⟩
  ·have:=(hN2 g h0 h1 hg).2.ext SZ Qs
   by_cases hg1:g<((1:Nat):Int)
   ·rw[E' hg1];have:g=0:=Qo;subst this;exact this
   ·rw[C' hg1]; exact this
  ·have IT:=Ot IT;have hr:=(h.ext hx).ext hX;have fE:(0:Int)<=(k:Int):=Qo;have tE:(k:Int)<(pl.length:Int):=Qo;have cJ:(k:Int)<(gs.length:Int):=Qo;have hPl:=hO.rd PP.len (bs:=[]) Qs;have Wg:=hO.ix fE tE;rw[hpl] at Wg;have hXw:Q0 [] w w4:=hx.trans hX;refine⟨Wg,gi pl (k:Int),hPl k fE tE,λlA=>?_,λAN0=>?_⟩
   ·have hu:¬(gi gs (k:Int)).used=true:=λhu=>by rw[hP2 k fE IT,E' hu] at lA; cases lA
    refine⟨⟨Qo,Qo⟩,λw5 Sw _=>Qp Qo ⟨Qo,Qo,hX.trans Sw,hO.WG Sw,λg h0 h1 hg=>?_,⟨es,hM.ext Sw Qs,λe he=>?_,λg h1 h2 hg=>?_⟩,λg h1 h2 hg=>?_⟩⟩
    ·have:=(hN g h0 h1 hg).ext Sw Qs;have tD:g≠(k:Int):=λe=>hu (e▸hg)
     by_cases hg1:g<(k:Int)
     ·rw[E' hg1] at this; rw[E' Qo]; exact this
     ·rw[C' hg1] at this; rw[C' Qo]; exact this
    ·obtain⟨g,a1,a2,a3⟩:=hE1 e he;exact⟨g,a1,Qo,a3⟩
    ·have tD:g≠(k:Int):=λe=>hu (e▸hg)
     exact hE2 g h1 Qo hg
    ·have tD:g≠(k:Int):=λe=>hu (e▸hg)
     exact hT g h1 Qo hg
   ·have hu:(gi gs (k:Int)).used=true:=by
     cases hq:(gi gs (k:Int)).used with
     | true=>rfl
     | false=>rw[hP2 k fE IT,hq] at AN0; cases AN0
    have hpk:gi pl (k:Int)=some ⟨nb (k:Int),0,none⟩:=by rw[hP2 k fE IT,E' hu]
    refine⟨hr.ix fE cJ,_,hr.name fE cJ,_,zfn,λ_=>hr.ix fE cJ,(gi gs (k:Int)).parent,λ_=>hr.parent fE cJ,Q6 gs (gi gs (k:Int)).parent,λ_=>Kp hr hl,λq=>?_,λq=>?_⟩
    ·intro w5 Sw;refine bad w5 (hXw.trans Sw) λht=>?_
     rw[ht.nm k Qo IT hu,ht.par k Qo IT hu] at q;cases q
    ·simp only[I0,I7] at q;obtain⟨qn,qp⟩:=q;obtain⟨p0,p1,pu⟩:=Q5.1 qp;have p8:(gi gs (k:Int)).parent<8:=Qo;have Cc0:=hO.ix p0 Qo;rw[hpl] at Cc0;have hnk:=hN k fE IT hu;rw[C' Qo] at hnk;have hpp:gi pl (gi gs (k:Int)).parent=some ⟨nb (gi gs (k:Int)).parent,0,none⟩:=by rw[hP2 _ p0 p8,E' pu]
     have hnb:nb (k:Int)∉QD (some (⟨wr.heap.size,0,none⟩:Addr)):=λhm=>by
      simp only[QD,IA] at hm;rcases hO with ⟨hc,_⟩ | ⟨b',sp,he,_,h2,_⟩
      ·cases hc
      ·simp only[I1,Addr.mk.injEq,and_true] at he;subst he;unfold Vu at hnk;rw[hm,h2] at hnk;simp only[I1,Obj.cells.injEq] at hnk;exact Is hnk.2.1 Qd
     have hWr:Yk [] w4 (some ⟨nb (k:Int),0,none⟩) (0+2) 1:=MS hnk Qs (by show 0+(0+2+1)<=3; omega);have hsx:Q0 [nb (k:Int)] w4 (R8 w4 (some ⟨nb (k:Int),0,none⟩) (0+2) [.pointer (some ⟨nb (gi gs (k:Int)).parent,0,none⟩)]):=Ub λa ha=>by cases ha; simp
     have hbk:wr.heap.size<=nb (k:Int):=(hN2 k fE IT hu).1;have hXs:Q0 [] wr (R8 w4 (some ⟨nb (k:Int),0,none⟩) (0+2) [.pointer (some ⟨nb (gi gs (k:Int)).parent,0,none⟩)]):=hX.fresh hsx λx hm=>.inl (by rw[IA.1 hm]; exact hbk)
     have wJ:=(h.ext hx).ext hXs;have hup:zpd gs nb (k:Int)=some ⟨nb (gi gs (k:Int)).parent,0,none⟩:=by unfold zpd; rw[C' Qo]
     have hNs:∀g:Int,0<=g->g<8->(gi gs g).used=true->Vu (R8 w4 (some ⟨nb (k:Int),0,none⟩) (0+2) [.pointer (some ⟨nb (gi gs (k:Int)).parent,0,none⟩)]) (nb g) g (gi gs g).name (if g<((k+1:Nat):Int) then zpd gs nb g else none):=λg h0 h1 hg=>by
      by_cases tD:g=(k:Int)
      ·subst tD;rw[E' Qo,hup];exact OD hnk
      ·have fH:nb g≠nb (k:Int):=λe=>tD (Cb8 g k h0 h1 fE IT hg hu e)
       have:=(hN g h0 h1 hg).ext hsx (by simpa using fH)
       by_cases hg1:g<(k:Int)
       ·rw[E' hg1] at this; rw[E' Qo]; exact this
       ·rw[C' hg1] at this; rw[C' Qo]; exact this
     have hOs:Ud zbq 1 Yx wr.heap.size (R8 w4 (some ⟨nb (k:Int),0,none⟩) (0+2) [.pointer (some ⟨nb (gi gs (k:Int)).parent,0,none⟩)]) (some ⟨wr.heap.size,0,none⟩) 8 pl:=hO.ext hsx λb hm gE=>hnb (by rw[IA.1 gE] at hm; exact hm)
     have hMs:Ei (R8 w4 (some ⟨nb (k:Int),0,none⟩) (0+2) [.pointer (some ⟨nb (gi gs (k:Int)).parent,0,none⟩)]) mb es:=hM.ext hsx λhm=>by
      rw[IA] at hm;obtain⟨⟨cc,hc⟩,_⟩:=hM;unfold Vu at hnk;rw[<-hm,hc] at hnk;cases hnk
     refine⟨Wg,some ⟨nb (k:Int),0,none⟩,by rw[<-hpk]; exact hPl k fE tE,hr.ix fE cJ,_,hr.parent fE cJ,Cc0,some ⟨nb (gi gs (k:Int)).parent,0,none⟩,by rw[<-hpp]; exact hPl _ p0 Qo,rfl,hWr,?_⟩;generalize R8 w4 (some ⟨nb (k:Int),0,none⟩) (0+2) [.pointer (some ⟨nb (gi gs (k:Int)).parent,0,none⟩)]=w5 at hXs wJ hNs hOs hMs;refine⟨wJ.ix fE cJ,_,wJ.parent fE cJ,wJ.ix fE cJ,_,wJ.name fE cJ,λb1 fD=>⟨wJ.name fE cJ,wJ.parent fE cJ,λw6 bJ hs6=>?_⟩⟩;have hM6:=hMs.ext bJ Qs;obtain⟨v,okk,Cc7,hok⟩:=zwe hM6 (gi gs (k:Int)).parent (gi gs (k:Int)).name;have CL4:∀x∈[b1],wr.heap.size<=x\/x∈([]:List Nat):=λx hm=>.inl (by rw[IA.1 hm]; exact IB hXs.size fD)
     refine⟨v,okk,w6,Cc7,λ_ _=>rfl,λCz5=>?_,λpQ w7 nN hs7=>?_⟩
     ·intro w7 nN;refine bad w7 (hx.trans (((hXs.trans bJ).fresh nN CL4))) λht=>?_
      obtain⟨e,he,hk⟩:=hok.1 Cz5;obtain⟨g,a1,a2,a3,a4⟩:=hE1 e he;rw[a4] at hk;simp only[Us,Value.agg.injEq,List.toArray_inj,Array.mk.injEq,I5,I6,true_and,Value.string.injEq,and_true] at hk;exact ht.uniq k g a1 a2 IT hu a3 hk
     ·have wH:=hM6.ext nN (λhm=>by
       rw[IA] at hm;obtain⟨⟨cc,hc⟩,_⟩:=hMs;have:=JW hc;omega)
      have Cd5:¬∃e∈es.toList,e.key=Us (gi gs (k:Int)).parent (gi gs (k:Int)).name:=λhc=>by
       have:=hok.2 hc;rw[pQ] at this; cases this
      obtain⟨w8,cc,C46,tG,hM8⟩:=zza wH (λe he hk=>Cd5 ⟨e,he,hk⟩) (k:Int);have hmx:∀x∈[mb],wr.heap.size<=x\/x∈([]:List Nat):=λx hm=>.inl (by rw[IA.1 hm]; exact hmb)
      have hX7:Q0 [] wr w7:=(hXs.trans bJ).fresh nN CL4;have hX8:Q0 [] wr w8:=hX7.fresh tG hmx;refine⟨w8,C46,λx hm=>tG.block x (hs7 x hm) (λgE=>?_),⟨Qo,Qo⟩,λw9 mF hs9=>Qp Qo ⟨Qo,Qo,hX8.fresh mF CL4,?_,λg h0 h1 hg=>?_,⟨_,hM8.ext mF ?_,λe he=>?_,λg h1 h2 hg=>?_⟩,λg h1 h2 hg=>?_⟩⟩
      ·rw[IA] at hm gE;subst gE;obtain⟨⟨c2,hc⟩,_⟩:=hMs;have:=JW hc;omega
      ·have hnm:∀b∈QD (some (⟨wr.heap.size,0,none⟩:Addr)),b∉[mb]:=λb hm gE=>by
        simp only[QD,IA] at hm gE;rcases hOs with ⟨hc,_⟩ | ⟨b',sp,he,_,h2,_⟩
        ·cases hc
        ·simp only[I1,Addr.mk.injEq,and_true] at he;subst he;obtain⟨⟨c2,hc⟩,_⟩:=hMs;rw[<-gE,hm,h2] at hc;cases hc
       have hn1:∀b∈QD (some (⟨wr.heap.size,0,none⟩:Addr)),b∉[b1]:=λb hm gE=>by
        have:=(hOs.lt b hm).2;rw[IA] at gE;omega
       exact(((hOs.WG bJ).ext nN hn1).ext tG hnm).ext mF hn1
      ·have hq:=hNs g h0 h1 hg;have hql:=JW hq;have n1:nb g∉[b1]:=λhm=>by rw[IA] at hm; omega
       have n2:nb g∉[mb]:=λhm=>by
        rw[IA] at hm;obtain⟨⟨c2,hc⟩,_⟩:=hMs;unfold Vu at hq;rw[hm,hc] at hq;cases hq
       exact(((hq.ext bJ Qs).ext nN n1).ext tG n2).ext mF n1
      ·intro hm;rw[IA] at hm;obtain⟨⟨c2,hc⟩,_⟩:=hMs;have:=JW hc;omega
      ·rw[Array.toList_push,Io] at he;rcases he with he | he
       ·obtain⟨g,a1,a2,a3⟩:=hE1 e he;exact⟨g,a1,Qo,a3⟩
       ·rw[IA] at he;subst he;exact⟨k,Qo,Qo,hu,rfl⟩
      ·rw[Array.toList_push]
       by_cases tD:g=(k:Int)
       ·subst tD;exact⟨_,Iy _ (IA.2 rfl),rfl⟩
       ·obtain⟨e,he,hk⟩:=hE2 g h1 Qo hg;exact⟨e,Ib _ he,hk⟩
      ·by_cases tD:g=(k:Int)
       ·subst tD;refine⟨qn,qp,λq a1 a2 a3 a4=>Cd5 ?_⟩;obtain⟨e,he,hk⟩:=hE2 q a1 a2 a3;exact⟨e,he,by rw[hk,a4.1,a4.2]⟩
       ·exact hT g h1 Qo hg
  ·have RN:=Ou RN;have hk8:k=8:=Qo;subst hk8;have hXw:Q0 [] w w4:=hx.trans hX
   have hNs:Ns [] w4 gs nb:=⟨λx hu=>by
     obtain⟨a1,a2,a3⟩:=Q5.1 hu;have:=hN x a1 Qo a3;rw[E' Qo] at this;exact this.cells Qs,λx hz hu=>by
     obtain⟨a1,a2,a3⟩:=Q5.1 hu;exact(hT x Qo Qo a3).2.1⟩
   refine XC 8 0 rfl (λj w5=>j<=8/\Q0 [] w4 w5/\∀g:Int,0<=g->g<(j:Int)->(gi gs g).used=true->0<=dep 3 gs g) (λw5 Sw _=>⟨Ie _,Sw,λg h0 h1=>by omega⟩) λj w5 _ ⟨hj,hX5,hD⟩=>⟨λIT=>?_,λRN=>?_⟩
   ·have IT:=Ot IT;have hj0:(0:Int)<=(j:Int):=Qo;have hjl:(j:Int)<(pl.length:Int):=Qo;have hO5:=hO.WG hX5;have Wg:=hO5.ix hj0 hjl;rw[hpl] at Wg;refine⟨Wg,gi pl (j:Int),hO5.rd PP.len Qs j hj0 hjl,zcx gs 3 (j:Int) 0,λhs=>?_,λhb=>?_,λhb=>⟨⟨Qo,Qo⟩,λw6 bJ _=>Qp Qo ⟨Qo,hX5.trans bJ,λg h0 h1 hg=>?_⟩⟩⟩
    ·have hu:(gi gs (j:Int)).used=true:=by
      cases hq:(gi gs (j:Int)).used with
      | true=>rfl
      | false=>rw[hP2 j hj0 IT,hq] at hs; cases hs
     rw[hP2 j hj0 IT,E' hu];exact zye (hNs.ext hX5) (Q5.2 ⟨hj0,Qo,hu⟩)
    ·intro w6 bJ;refine bad w6 ((hXw.trans hX5).trans bJ) λht=>?_
     simp only[A',Ik] at hb
     have hu:(gi gs (j:Int)).used=true:=by
      cases hq:(gi gs (j:Int)).used with
      | true=>rfl
      | false=>rw[hP2 j hj0 IT,hq] at hb; cases hb.1
     have hd:0<=dep 3 gs (j:Int):=by
      by_cases hj0':(j:Int)=0
      ·rw[hj0',Y8]; omega
      ·exact ht.dp j Qo IT hu
     have:=hb.2;unfold zcx at this;rw[C' Qo] at this;omega
    ·by_cases hgj:g=(j:Int)
     ·subst hgj;have hpj:gi pl (j:Int)=some ⟨nb (j:Int),0,none⟩:=by rw[hP2 j hj0 IT,E' hg]
      rw[hpj] at hb;simp only[Option.isNone_some,Bool.not_false,Bool.true_and,decide_eq_false_iff_not] at hb;unfold zcx at hb;have:=TZ gs 3 (j:Int)
      split at hb <;> omega
     ·exact hD g h0 Qo hg
   ·have RN:=Ou RN;have hj8:j=8:=Qo;subst hj8;have ht:Yc gs:=⟨hl8,ru,rp,rn,λg h1 h2 hg=>(hT g h1 h2 hg).1,λg h1 h2 hg=>(hT g h1 h2 hg).2.1,λg h1 h2 hg=>hD g Qo h2 hg,λg q a1 a2 a3 a4 a5=>(hT g Qo a3 a4).2.2 q a1 a2 a5⟩;intro w6 bJ;refine⟨some ⟨wr.heap.size,0,none⟩,8,8,true,rfl,(VV.2 ht).symm,(hXw.trans hX5).trans bJ,λh=>(by cases h),λ_=>⟨rfl,pl,nb,hpl,?_,hP2,(hNs.ext hX5).ext bJ⟩⟩;exact((hO.WG hX5).WG bJ).rd PP.len Qs
theorem zfo{bs:List Nat}(h:Ld bs w o gs ms)(hl:gs.length<=maxLen):PX bs PZ #[.slice o gs.length c] w (.bool (MP gs)):=by
 refine FK λwr hx=>zfc o gs.length c (R:=λv w'=>v=.bool (MP gs)/\Q0 [] wr w') ?_
 have h:=(h.ext hx).less (cs:=[]) Qs;intro w1 S4 _;refine(zyg (h.ext S4) hl).mono λe w2 ⟨o',L,C,ok,he,hok,R3,_⟩=>⟨_,_,_,_,he,Yo,λw3 Ra=>⟨by rw[hok],(S4.trans R3).trans Ra⟩⟩
end
theorem Xo{n k:Int}{w:Wo}{bs:List Nat}:PX bs Y0 #[I n,I k] w (I (Zf n k)):=
 E3 n k λwr hx=>by
  refine⟨_,JO,_,λ_=>Qr,λh=>?_,λh=>?_⟩
  ·congr 1; unfold Zf; rw[C']; intro h2; simp only[A'] at h2; simp[h2] at h
  ·have h2:YJ k 1 20=true/\YJ n 0 100000000=true:=by simpa using h
   rw[Qt,Qt] at h2;have hm:=zjz h2.2.1 h2.2.2 h2.1.1 h2.1.2;have hs:=zdy h2.1.1 h2.1.2;unfold zh6 at hm hs;refine⟨⟨Qo,U9 Qo Qo⟩,U9 Qo Qo,?_⟩;rw[P7 h2.2.1 h2.2.2 h2.1.1 h2.1.2]; rfl
theorem Md{k:Int}{w:Wo}{bs:List Nat}:PX bs JK #[I k] w (I (ZB k)):=
 zc5 k λwr hx=>⟨_,Xo,rfl⟩
def ZC(a b:Int):Int:=if a<b then a else b
def zjv(a b:Int):Int:=if a>b then a else b
theorem JF{a b:Int}{w:Wo}{bs:List Nat}:PX bs YM #[I a,I b] w (I (ZC a b)):=
 zj4 a b λwr hx=>⟨λh=>by rw[ZC,E' (Ot h)],λh=>by rw[ZC,C' (Ou h)]⟩
theorem Tr{a b:Int}{w:Wo}{bs:List Nat}:PX bs YL #[I a,I b] w (I (zjv a b)):=
 zj3 a b λwr hx=>⟨λh=>by rw[zjv,E' (Ot h)],λh=>by rw[zjv,C' (Ou h)]⟩
def Yh(l k:Int):Int:=if (if ZB k<l then ZB k else l)>0 then (if ZB k<l then ZB k else l) else 0
theorem ZQ(k:Int):0<=ZB k/\ZB k<=34686091440:=by
 unfold ZB
 by_cases h:1<=k/\k<=20
 ·rw[P7 Qd Qd h.1 h.2];have:=zdy h.1 h.2;omega
 ·rw[Hu Qo]; omega
theorem ZU(l k:Int):0<=Yh l k/\Yh l k<=ZB k:=by
 have:=ZQ k;unfold Yh; by_cases h1:ZB k<l <;> simp only[h1,if_true,if_false] <;> split <;> omega
theorem D0{l k:Int}{w:Wo}{bs:List Nat}:PX bs T3 #[I l,I k] w (I (Yh l k)):=
 zf5 l k λwr hx=>⟨_,Gu,rfl⟩
theorem K9{l k:Int}{w:Wo}{bs:List Nat}:PX bs Up #[I l,I k] w (I (Yh l k)):=
 zgc l k λwr hx=>by
  have hr:=ZQ k;refine⟨_,JO,λh=>?_,λh=>⟨_,Tr,_,Md,_,JF,?_⟩⟩
  ·have h:YJ k 1 20=false:=by simpa using h
   rw[zzu] at h;have h0:ZB k=0:=Hu Qo
   congr 1; unfold Yh; rw[h0]; by_cases h1:0<l <;> simp only[h1,if_true,if_false] <;> (repeat' split) <;> omega
  ·congr 1; unfold Yh ZC zjv; by_cases h1:ZB k<l <;> simp only[h1,if_true,if_false] <;> by_cases h2:l>0 <;> simp only[h2,if_true,if_false] <;> (repeat' split) <;> omega
def Qf(n:Int):Int:=if YJ n (-10) 9 then 10-n else 0
theorem Pl{k:Int}{w:Wo}{bs:List Nat}:PX bs Je #[I k] w (I (Qf k)):=
 Ct k λwr hx=>by
  refine⟨_,D2,λh=>?_,λh=>?_⟩
  ·have h:YJ k (-10) 9=false:=by simpa using h
   rw[Qf,h]; rfl
  ·have h:YJ k (-10) 9=true:=by simpa using h
   have h2:=Qt.1 h;refine⟨U9 Qo Qo,?_⟩;rw[Qf,h]; rfl
structure Ux (b:Nat) (c:OA) (L N:Nat) (w:Wo):Prop where
 hd:∃(C:Nat) (p:Int),w.heap[b]? = some (.cells [.slice c L C,I p].toArray OE (0,0))/\0<=p/\p<=N
 bytes:∀i<L,∃(a:Addr) (x:Int),c=some a/\a.block≠b/\0<=x/\x<=255/\w.cell? (a.add i)=some (.int .u8 x)
theorem Ux.ext{b:Nat}{c:OA}{L N:Nat}{w w':Wo}{bs:List Nat}(h:Ux b c L N w)(hx:Q0 bs w w')(hb:b∉bs)(hc:∀a,c=some a->a.block∉bs\/L=0):Ux b c L N w':=by
 obtain⟨⟨C,p,h1,h2,h3⟩,hby⟩:=h;refine⟨⟨C,p,QQ h1 hx hb,h2,h3⟩,λi hi=>?_⟩;obtain⟨a,x,ha,fH,S4,R3,Ra⟩:=hby i hi;refine⟨a,x,ha,fH,S4,R3,?_⟩
 have hbk:a.block∉bs:=by
  rcases hc a ha with h | h
  ·exact h
  ·omega
 obtain⟨a',e,_,h''⟩:=(show U0 bs w c i (.int .u8 x) from ⟨a,ha,hbk,Ra⟩).ext hx;rw[ha] at e; cases e; exact h''
theorem Ux.WG{b:Nat}{c:OA}{L N:Nat}{w w':Wo}(h:Ux b c L N w)(hx:Q0 [] w w'):Ux b c L N w':=h.ext hx Qs (λ_ _=>.inl Qs)
theorem Ux.mono{b:Nat}{c:OA}{L N M:Nat}{w:Wo}(h:Ux b c L N w)(hm:N<=M):Ux b c L M w:=by
 obtain⟨⟨C,p,h1,h2,h3⟩,hby⟩:=h;exact⟨⟨C,p,h1,h2,Qo⟩,hby⟩
theorem Ux.lt{b:Nat}{c:OA}{L N:Nat}{w:Wo}(h:Ux b c L N w):b<w.heap.size:=by
 obtain⟨⟨C,p,h1,h2,h3⟩,hby⟩:=h;exact JW h1
theorem Ux.ltc{b:Nat}{c:OA}{L N:Nat}{w:Wo}(h:Ux b c L N w)(a:Addr)(ha:c=some a):a.block<w.heap.size\/L=0:=by
 rcases Nat.eq_zero_or_pos L with h0 | h0
 ·exact .inr h0
 ·obtain⟨a',x,ha',fH,S4,R3,Ra⟩:=h.bytes 0 h0;rw[ha] at ha'; cases ha';have:=World.block_lt_of_cell? w _ Ra;rw[Zu] at this;exact .inl this
theorem Ux.Cv3{b:Nat}{c:OA}{L N M:Nat}{w0 w w':Wo}{bs:List Nat}(h0:Ux b c L M w0)(h:Ux b c L N w)(hx:Q0 bs w w')(hb:∀x∈bs,w0.heap.size<=x):Ux b c L N w':=
 h.ext hx (λhm=>by have:=hb _ hm; have:=h0.lt; omega) λa ha=>by
  rcases h0.ltc a ha with hl | hl
  ·exact .inl λhm=>by have:=hb _ hm; omega
  ·exact .inr hl
def Ej(n v:Int):Prop:=0<=v/\(n<1->v=0)/\(1<=n->v<n)
theorem zhq{x n:Int}(hx:0<=x)(hn:1<=n):Ej n (Int.tmod x n):=by
 refine⟨Int.tmod_nonneg _ hx,Qo,λ_=>Int.tmod_lt_of_pos _ Qo⟩
theorem zph{x y:Int}(h1:0<=x)(h2:x<=9223372036854775807)(h3:0<=y)(h4:y<=9223372036854775807):0<=TA .xor .i64 x y:=by
 have IT:(BitVec.ofInt 64 x ^^^ BitVec.ofInt 64 y).toNat<2 ^ 63:=by
  rw[BitVec.toNat_xor];refine Nat.xor_lt_two_pow ?_ ?_
  ·rw[BitVec.toNat_ofInt]; omega
  ·rw[BitVec.toNat_ofInt]; omega
 have h:=Ql.wrap (k:=.i64) (z:=((BitVec.ofInt 64 x ^^^ BitVec.ofInt 64 y).toNat:Int)) (U9 Qo Qo);show 0<=IntKind.i64.wrap ((BitVec.ofInt 64 x ^^^ BitVec.ofInt 64 y).toNat:Int);rw[h]; omega
theorem DO{b:Nat}{c:OA}{L N:Nat}{w:Wo}{n:Int}(h:Ux b c L N w)(hN:N<=1000000000000) :
  Cz Q2 #[.pointer (some ⟨b,0,none⟩),I n] w λe w'=>∃v,e=.returned (I v)/\Ej n v/\Ux b c L (N+1) w'/\Q0 [b] w w':=by
 refine(F2 (some ⟨b,0,none⟩) n (R:=λv w'=>∃x,v=I x/\Ej n x/\Ux b c L (N+1) w'/\Q0 [b] w w') ?_).mono λe w' ⟨v,he,x,hv,h1,h2,h3⟩=>⟨x,by rw[he,hv],h1,h2,h3⟩
 obtain⟨C,p,hh,hp0,hpN⟩:=h.hd;have hs:=OD (k:=0) (n:=1) (vs:=[I (p+1)]) hh;have hxt:Q0 [b] w (R8 w (some ⟨b,0,none⟩) 1 [I (p+1)]):=Ub λa ha=>by cases ha; exact IA.2 rfl
 generalize wK:R8 w (some ⟨b,0,none⟩) 1 [I (p+1)]=w1 at hs hxt;have hs:w1.heap[b]? = some (.cells [.slice c L C,I (p+1)].toArray OE (0,0)):=hs;have hc:Q1 [] w1 (some ⟨b,0,none⟩) (0+0) [.slice c L C]:=VP hs Qs rfl;have hpp:Q1 [] w1 (some ⟨b,0,none⟩) (0+1) [I (p+1)]:=VP hs Qs rfl
 have hby:∀i:Int,0<=i->i<L->∃x:Int,0<=x/\x<=255/\c.isSome=true/\Q1 [] w1 c (Int.toNat i*1) [.int .u8 x]:=λi h0 hi=>by
  obtain⟨a,x,ha,fH,S4,R3,Ra⟩:=h.bytes i.toNat Qo;refine⟨x,S4,R3,by rw[ha]; rfl,?_⟩;have:=(show U0 [b] w c i.toNat (.int .u8 x) from ⟨a,ha,by simpa using fH,Ra⟩).ext hxt;rw[Nat.mul_one];exact XZ (this.less Qs)
 have fin:∀(v:Int),Ej n v->∀wr,Q0 [] w1 wr->∃x,I v=I x/\Ej n x/\Ux b c L (N+1) wr/\Q0 [b] w wr:=λv hv wr hr=>
  ⟨v,rfl,hv,Ux.WG ⟨⟨C,p+1,hs,Qo,Qo⟩,λi hi=>by
   obtain⟨a,x,ha,fH,S4,R3,Ra⟩:=h.bytes i hi;have:=(show U0 [b] w c i (.int .u8 x) from ⟨a,ha,by simpa using fH,Ra⟩).ext hxt;obtain⟨a',ha',_,hc'⟩:=this;rw[ha] at ha'; cases ha';exact⟨a,x,ha,fH,S4,R3,hc'⟩⟩ hr,hxt.trans hr.of_nil⟩
 refine⟨rfl,p,VP hh Qs rfl,U9 Qo Qo,rfl,MS hh Qs Qs,?_⟩;rw[show (0+1:Nat)=1 from rfl,wK];refine⟨λ_=>rfl,c,L,C,λ_=>hc,λh=>?_,λh=>?_⟩
 ·simp only[Iv,Ik,It] at h;refine fin 0 ⟨Qo,Qo,λhn=>by omega⟩
 ·have h:1<=n/\L≠0:=by simpa using h
  refine⟨rfl,p+1,hpp,U9 Qo Qo,rfl,c,L,C,hc,λIT=>?_,λIT=>?_⟩
  ·have IT:=Ot IT;obtain⟨x,S4,R3,Ra,SZ⟩:=hby (p+1-1) Qo IT;exact⟨rfl,c,L,C,hc,⟨Qo,IT,Ra⟩,x,SZ,U9 Qo Qo,Qo,fin _ (zhq S4 h.1)⟩
  ·have hLp:(0:Int)<(L:Int):=Qo;have hm1:=Int.tmod_nonneg (L:Int) (show 0<=p+1-1 by omega);have hm2:=Int.tmod_lt_of_pos (p+1-1) hLp;have hm3:=Int.tmod_nonneg (L:Int) (show 0<=(p+1-1)*7+3 by omega);have hm4:=Int.tmod_lt_of_pos ((p+1-1)*7+3) hLp;have hd1:0<=Int.tdiv (p+1-1) (L:Int):=Int.tdiv_nonneg Qo Qo
   have hd2:Int.tdiv (p+1-1) (L:Int)<=p+1-1:=by
    rw[Int.tdiv_eq_ediv_of_nonneg Qo]; exact Int.ediv_le_self _ Qo
   obtain⟨x1,S4,R3,Ra,SZ⟩:=hby _ hm1 hm2;obtain⟨x2,cX,SJ,kW,lB⟩:=hby _ hm3 hm4;have hX0:0<=(x1*131+x2*1117+(p+1-1)*29)+Int.tdiv (p+1-1) (L:Int)*53:=Qo;have hX1:(x1*131+x2*1117+(p+1-1)*29)+Int.tdiv (p+1-1) (L:Int)*53<=1000000000000000:=Qo;have hq0:=Int.tdiv_nonneg hX0 (show (0:Int)<=64 by decide)
   have hq1:Int.tdiv ((x1*131+x2*1117+(p+1-1)*29)+Int.tdiv (p+1-1) (L:Int)*53) 64<=(x1*131+x2*1117+(p+1-1)*29)+Int.tdiv (p+1-1) (L:Int)*53:=by
    rw[Int.tdiv_eq_ediv_of_nonneg hX0]; exact Int.ediv_le_self _ hX0
   refine⟨rfl,c,L,C,hc,rfl,c,L,C,hc,Qo,⟨hm1,hm2,Ra⟩,x1,SZ,U9 Qo Qo,U9 Qo Qo,rfl,c,L,C,hc,U9 Qo Qo,U9 Qo Qo,rfl,c,L,C,hc,Qo,⟨hm3,hm4,kW⟩,x2,lB,
    U9 Qo Qo,U9 Qo Qo,U9 Qo Qo,U9 Qo Qo,U9 Qo Qo,rfl,c,L,C,hc,⟨Qo,U9 Qo Qo⟩,U9 Qo Qo,U9 Qo Qo,⟨Qd,U9 Qo Qo⟩,Qo,?_⟩
   exact fin _ (zhq (zph hX0 Qo hq0 Qo) h.1)
section
open Go.RowKit Go.ChangeShapes
section
variable {H:Type}{en:TypeId×Va->H}{w:Wo}{base:Nat}{spare:Nat->Bool}{held:Bool}{fuel:Nat}{cs:List Va}{x:DataW H×List MemPlace}
structure MW where
 cO:OA
 cC:Nat
 tO:OA
 tC:Nat
 gO:OA
 gC:Nat
 ms:Nat->MG
def Qa(W:Q7)(m:MW):List Va:=[.int .i64 W.now,.slice m.cO W.IE.length m.cC,.slice m.tO W.tasks.length m.tC,.slice m.gO W.ID.length m.gC]
structure Xl (bs:List Nat) (w:Wo) (W:Q7) (m:MW):Prop where
 c:z16 bs w m.cO W.IE
 t:ztn bs w m.tO W.tasks
 g:Ld bs w m.gO W.ID m.ms
theorem Xl.ext{bs:List Nat}{w w':Wo}{W:Q7}{m:MW}(h:Xl bs w W m)(hx:Q0 bs w w'):Xl bs w' W m:=⟨h.c.ext hx,h.t.ext hx,h.g.ext hx⟩
theorem Xl.less{bs cs:List Nat}{w:Wo}{W:Q7}{m:MW}(h:Xl bs w W m)(hs:∀x∈cs,x∈bs):Xl cs w W m:=⟨h.c.less hs,h.t.less hs,h.g.less hs⟩
theorem Xl.wide{bs cs:List Nat}{w:Wo}{W:Q7}{m:MW}(h:Xl bs w W m)(hs:∀x∈cs,x∈bs\/w.heap.size<=x):Xl cs w W m:=⟨h.c.wide hs,h.t.wide hs,h.g.wide hs⟩
end
end
def Ue(k:Nat):Int:=1*2 ^ (min (Int.toNat (k:Int)) 64)
def PE(m:Int):Bool:=YJ m 0 15
def Z0(m c:Int):Bool:=(PE m&&YJ c 0 3)&&(Int.tmod (Int.fdiv m (2 ^ (min (Int.toNat c) 64))) 2==1)
def Tt(a b:Int):Int:=if PE a=true/\PE b=true then TA .and .i64 a b else 0
def za3(a b:Int):Nat->Int
 | 0=>0
 | k+1=>if (Z0 a (k:Int)&&Z0 b (k:Int))=true then za3 a b k+Ue k else za3 a b k
theorem MI{m:Int}(h:PE m=true):∃f:Fin 16,m=(f.val:Int):=by
 have:=Qt.1 h;exact⟨⟨m.toNat,Qo⟩,by show m=((m.toNat:Nat):Int); omega⟩
theorem zt3:∀a b:Fin 16,za3 (a.val:Int) (b.val:Int) 4=TA .and .i64 (a.val:Int) (b.val:Int):=by decide +kernel
theorem zt4:∀a b:Fin 16,0<=TA .and .i64 (a.val:Int) (b.val:Int)/\TA .and .i64 (a.val:Int) (b.val:Int)<=15:=by decide +kernel
theorem zt1:∀a b:Fin 16,TA .and .i64 (a.val:Int) (b.val:Int)=TA .and .i64 (b.val:Int) (a.val:Int):=by decide +kernel
theorem zt0:∀a b c:Fin 16,TA .and .i64 (TA .and .i64 (a.val:Int) (b.val:Int)) (c.val:Int)=TA .and .i64 (a.val:Int) (TA .and .i64 (b.val:Int) (c.val:Int)):=by decide +kernel
theorem zt2:∀(a b:Fin 16) (c:Fin 4),Z0 (TA .and .i64 (a.val:Int) (b.val:Int)) (c.val:Int)=(Z0 (a.val:Int) (c.val:Int)&&Z0 (b.val:Int) (c.val:Int)):=by decide +kernel
theorem ztz:∀a:Fin 16,TA .and .i64 (a.val:Int) 0=0:=by decide +kernel
theorem k7(a b:Int):PE (Tt a b)=true:=by
 unfold Tt;split
 ·rename_i h;obtain⟨x,rfl⟩:=MI h.1;obtain⟨y,rfl⟩:=MI h.2;exact Qt.2 (zt4 x y)
 ·exact Qt.2 Qd
theorem OB{a b:Int}(ha:PE a=true)(hb:PE b=true):Tt a b=TA .and .i64 a b:=by unfold Tt; rw[E' ⟨ha,hb⟩]
theorem Xp{a b:Int}(h:PE a=false\/PE b=false):Tt a b=0:=by
 unfold Tt;rw[C'];rintro⟨h1,h2⟩;rcases h with h | h
 ·rw[h1] at h; cases h
 ·rw[h2] at h; cases h
theorem N7(a b:Int):Tt a b=Tt b a:=by
 cases ha:PE a with
 | false=>rw[Xp (.inl ha),Xp (.inr ha)]
 | true=>
  cases hb:PE b with
  | false=>rw[Xp (.inr hb),Xp (.inl hb)]
  | true=>
   rw[OB ha hb,OB hb ha];obtain⟨x,rfl⟩:=MI ha;obtain⟨y,rfl⟩:=MI hb;exact zt1 x y
theorem Hj(a:Int):Tt a 0=0:=by
 cases ha:PE a with
 | false=>exact Xp (.inl ha)
 | true=>
  rw[OB ha Qd];obtain⟨x,rfl⟩:=MI ha;exact ztz x
theorem zog(a b c:Int):Tt (Tt a b) c=Tt a (Tt b c):=by
 cases hb:PE b with
 | false=>rw[Xp (a:=a) (.inr hb),Xp (b:=c) (.inl hb),N7 0 c,Hj,Hj]
 | true=>
  cases ha:PE a with
  | false=>rw[Xp (b:=b) (.inl ha),Xp (b:=Tt b c) (.inl ha),N7,Hj]
  | true=>
   cases hc:PE c with
   | false=>rw[Xp (a:=Tt a b) (.inr hc),Xp (a:=b) (.inr hc),Hj]
   | true=>
    have h1:=k7 a b;have h2:=k7 b c;rw[OB h1 hc,OB ha h2,OB ha hb,OB hb hc];obtain⟨x,rfl⟩:=MI ha;obtain⟨y,rfl⟩:=MI hb;obtain⟨z,rfl⟩:=MI hc;exact zt0 x y z
theorem Mh{m c:Int}(h:Z0 m c=true):PE m=true/\0<=c/\c<=3:=by
 unfold Z0 at h;simp only[A'] at h;exact⟨h.1.1,Qt.1 h.1.2⟩
theorem zl2{a b c:Int}(h:Z0 (Tt a b) c=true):Z0 a c=true/\Z0 b c=true:=by
 have hr:=Mh h
 have hz:Z0 0 c=false:=by
  have:c=0\/c=1\/c=2\/c=3:=Qo;rcases this with rfl | rfl | rfl | rfl <;> decide
 cases ha:PE a with
 | false=>rw[Xp (.inl ha),hz] at h; cases h
 | true=>
  cases hb:PE b with
  | false=>rw[Xp (.inr hb),hz] at h; cases h
  | true=>
   rw[OB ha hb] at h;obtain⟨x,rfl⟩:=MI ha;obtain⟨y,rfl⟩:=MI hb;have:=zt2 x y ⟨c.toNat,Qo⟩;rw[show ((⟨c.toNat,Qo⟩:Fin 4).val:Int)=c by show ((c.toNat:Nat):Int)=c; omega] at this;rw[this] at h
   simpa using h
def Vd(cs:List Px):Nat->Int
 | 0=>0
 | k+1=>if (gi cs (k:Int)).up=true then Vd cs k+Ue k else Vd cs k
def J4(cs:List Px):Int:=Vd cs cs.length
theorem Hs(cs:List Px):∀k:Nat,k<=4->0<=Vd cs k/\Vd cs k<Ue k
 | 0,_=>by simp[Vd,Ue]
 | k+1,h=>by
  have ih:=Hs cs k Qo
  have hb:Ue (k+1)=2*Ue k/\0<=Ue k:=by
   have:k=0\/k=1\/k=2\/k=3:=Qo;rcases this with rfl | rfl | rfl | rfl <;> decide
  simp only[Vd]
  split <;> omega
theorem BB{k:Nat}(h:k<=4):1<=Ue k/\Ue k<=16:=by
 have:k=0\/k=1\/k=2\/k=3\/k=4:=Qo;rcases this with rfl | rfl | rfl | rfl | rfl <;> decide
theorem zzi{cs:List Px}(h:cs.length<=4):PE (J4 cs)=true:=by
 have:=Hs cs cs.length h;have:=BB h;exact Qt.2 (by unfold J4; omega)
theorem z1i:∀(k:Fin 4) (s:Fin 8),(s.val:Int)<Ue k.val->TA .or .i64 (s.val:Int) (Ue k.val)=(s.val:Int)+Ue k.val:=by decide +kernel
theorem z1h{k:Nat}{s:Int}(hk:k<4)(h0:0<=s)(h1:s<Ue k):TA .or .i64 s (Ue k)=s+Ue k:=by
 have hb:Ue k<=8:=by
  have:k=0\/k=1\/k=2\/k=3:=Qo;rcases this with rfl | rfl | rfl | rfl <;> decide
 have:=z1i ⟨k,hk⟩ ⟨s.toNat,Qo⟩;rw[show ((⟨s.toNat,Qo⟩:Fin 8).val:Int)=s by show ((s.toNat:Nat):Int)=s; omega] at this;exact this h1
theorem zlo:∀(k:Fin 4) (s:Fin 8) (c:Fin 4),(s.val:Int)<Ue k.val->Z0 ((s.val:Int)+Ue k.val) (c.val:Int)=(decide (c.val=k.val)||Z0 (s.val:Int) (c.val:Int)):=by decide +kernel
theorem B0(cs:List Px){c:Int}:∀k:Nat,k<=4->Z0 (Vd cs k) c=true->c<(k:Int)/\(gi cs c).up=true
 | 0,_,h=>by
  have hr:=Mh h;have:c=0\/c=1\/c=2\/c=3:=Qo;rcases this with rfl | rfl | rfl | rfl <;> exact Is h (by simp only[Vd]; decide)
 | k+1,hk,h=>by
  have hr:=Mh h;have ih:=B0 cs (c:=c) k Qo;have hl:=Hs cs k Qo
  have hb:Ue k<=8:=by
   have:k=0\/k=1\/k=2\/k=3:=Qo;rcases this with rfl | rfl | rfl | rfl <;> decide
  simp only[Vd] at h
  split at h
  ·rename_i hu;have:=zlo ⟨k,Qo⟩ ⟨(Vd cs k).toNat,Qo⟩ ⟨c.toNat,Qo⟩;rw[show ((⟨(Vd cs k).toNat,Qo⟩:Fin 8).val:Int)=Vd cs k by show (((Vd cs k).toNat:Nat):Int)=Vd cs k; omega,show ((⟨c.toNat,Qo⟩:Fin 4).val:Int)=c by show ((c.toNat:Nat):Int)=c; omega] at this;rw[this hl.2] at h;simp only[Iv,Ik] at h;rcases h with h | h
   ·have:c=(k:Int):=Qo;subst this;exact⟨Qo,hu⟩
   ·have:=ih h;exact⟨Qo,this.2⟩
  ·have:=ih h;exact⟨Qo,this.2⟩
def UN:Nat->List ZN->Int->List Int
 | 0,_,_=>[]
 | f+1,gs,g=>if g=0 then [] else g::UN f gs (gi gs g).parent
abbrev Zb(gs:List ZN)(g:Int):List Int:=UN 3 gs g
theorem Zq(gs:List ZN)(f:Nat):UN f gs 0=[]:=by cases f <;> simp[UN]
theorem zsz{gs:List ZN}(ht:Yc gs):∀(f f':Nat) (h:Int),Q6 gs h=true->dep 3 gs h<=f->dep 3 gs h<=f'->UN f gs h=UN f' gs h:=by
 intro f
 induction f with
 | zero=>
  intro f' h hu h1 h2
  have hz:h=0:=Ir λhz=>by
   obtain⟨_,_,_,d,e,_⟩:=Yd ht hu hz;omega
  subst hz;rw[Zq,Zq]
 | succ f ih=>
  intro f' h hu h1 h2
  by_cases hz:h=0
  ·subst hz;rw[Zq,Zq]
  ·obtain⟨hp,_,_,d,e,e2,_⟩:=Yd ht hu hz
   cases f' with
   | zero=>omega
   | succ f'=>
    simp only[UN];rw[C' hz,C' hz,ih f' (gi gs h).parent hp Qo Qo]
theorem YI{gs:List ZN}(ht:Yc gs){h:Int}(hu:Q6 gs h=true)(hz:h≠0):Zb gs h=h::Zb gs (gi gs h).parent:=by
 obtain⟨hp,_,_,d,e,e2,hd⟩:=Yd ht hu hz;show UN 3 gs h=_;rw[show UN 3 gs h=if h=0 then [] else h::UN 2 gs (gi gs h).parent from rfl,C' hz,zsz ht 2 3 _ hp Qo Qo]
theorem Mi{gs:List ZN}(ht:Yc gs){Q:Int->Prop}(h0:Q 0)(hs:∀h:Int,Q6 gs h=true->h≠0->Q (gi gs h).parent->Q h):∀h:Int,Q6 gs h=true->Q h:=by
 have key:∀(n:Nat) (h:Int),Q6 gs h=true->dep 3 gs h<=n->Q h:=by
  intro n
  induction n with
  | zero=>
   intro h hu hd
   by_cases hz:h=0
   ·subst hz; exact h0
   ·obtain⟨_,_,_,d,e,_⟩:=Yd ht hu hz;omega
  | succ n ih=>
   intro h hu hd
   by_cases hz:h=0
   ·subst hz; exact h0
   ·obtain⟨hp,_,_,d,e,e2,_⟩:=Yd ht hu hz;exact hs h hu hz (ih _ hp Qo)
 intro h hu;have:=TZ gs 3 h;exact key 3 h hu Qo
theorem zv4{gs:List ZN}(ht:Yc gs){h:Int}(hu:Q6 gs h=true):Zb gs h++[0]=h::(Zb gs h).map λx=>(gi gs x).parent:=by
 refine Mi ht (Q:=λh=>Zb gs h++[0]=h::(Zb gs h).map λx=>(gi gs x).parent) (by simp[Zb,Zq]) (λh hu hz ih=>?_) h hu;rw[YI ht hu hz,List.cons_append,ih,List.map_cons]
def VX(gs:List ZN)(g u:Int):Int:=(Zb gs g++[0]).foldl (λs x=>Tt s (gi gs x).IE) u
def zmt(gs:List ZN)(g:Int):Int:=(Zb gs g).foldl (λs x=>Tt s (gi gs (gi gs x).parent).IE) (gi gs g).IE
theorem zlf(f:Int->Int):∀(l:List Int) (m u:Int),Tt (l.foldl (λs x=>Tt s (f x)) m) u=l.foldl (λs x=>Tt s (f x)) (Tt u m)
 | [],m,u=>N7 m u
 | x::l,m,u=>by
  simp only[List.foldl_cons];rw[zlf f l,zog]
theorem zwl{gs:List ZN}(ht:Yc gs){g u:Int}(hu:Q6 gs g=true):Tt (zmt gs g) u=VX gs g u:=by
 unfold zmt VX;rw[zv4 ht hu,List.foldl_cons,List.foldl_map,zlf (λx=>(gi gs (gi gs x).parent).IE)]
theorem zqw{gs:List ZN}{g u c:Int}(h:Z0 (VX gs g u) c=true):Z0 u c=true:=by
 unfold VX at h
 revert h
 generalize Zb gs g++[0]=l
 induction l generalizing u with
 | nil=>exact λh=>h
 | cons x l ih=>
  intro h;rw[List.foldl_cons] at h;exact(zl2 (ih h)).1
def Qw(W:Q7)(g mask:Int):Int:=
 if Tt mask (VX W.ID g (J4 W.IE))≠0 then Tt mask (VX W.ID g (J4 W.IE)) else if VX W.ID g (J4 W.IE)≠0 then VX W.ID g (J4 W.IE) else J4 W.IE
theorem ztl{W:Q7}{g mask c:Int}(h:Z0 (Qw W g mask) c=true):Z0 (J4 W.IE) c=true:=by
 unfold Qw at h
 split at h
 ·exact zqw (zl2 h).2
 ·split at h
  ·exact zqw h
  ·exact h
def Vc(l:List Int):Nat->Int
 | 0=>0
 | k+1=>Vc l k+gi l (k:Int)
def TF(p:Nat->Bool):Nat->Bool
 | 0=>false
 | k+1=>TF p k||p k
theorem Dv{p:Nat->Bool}:∀{n:Nat},TF p n=true↔∃j,j<n/\p j=true
 | 0=>by simp[TF]
 | n+1=>by
  simp only[TF,Iv,Dv (n:=n)];constructor
  ·rintro (⟨j,hj,h⟩ | h)
   ·exact⟨j,Qo,h⟩
   ·exact⟨n,Qo,h⟩
  ·rintro⟨j,hj,h⟩
   by_cases hjn:j=n
   ·subst hjn; exact .inr h
   ·exact .inl ⟨j,Qo,h⟩
theorem zit{p:Nat->Bool}{n:Nat}(h:∀j,j<n->p j=false):TF p n=false:=by
 cases ha:TF p n with
 | false=>rfl
 | true=>
  obtain⟨j,hj,hp⟩:=Dv.1 ha;rw[h j hj] at hp; cases hp
noncomputable def JI(P:Prop):Bool:=@decide P (Classical.propDecidable P)
theorem Qj{P:Prop}:JI P=true↔P:=@decide_eq_true_iff P (Classical.propDecidable P)
theorem Gc{P:Prop}:JI P=false↔¬P:=by
 constructor
 ·intro h hp;rw[Qj.2 hp] at h; cases h
 ·intro h
  cases hb:JI P with
  | false=>rfl
  | true=>exact Is (Qj.1 hb) h
theorem Ps{b:Bool}{P:Prop}(h:b=true↔P):Value.bool b=.bool (JI P):=by
 have:b=JI P:=by
  cases hb:JI P with
  | true=>exact h.2 (Qj.1 hb)
  | false=>
   cases hc:b with
   | false=>rfl
   | true=>exact Is (h.1 hc) (Gc.1 hb)
 rw[this]
theorem LI{P:Prop}(h:¬P):Value.bool false=.bool (JI P):=by rw[Gc.2 h]
theorem zm8{P:Prop}(h:P):Value.bool true=.bool (JI P):=by rw[Qj.2 h]
def Q8(W:Q7)(t:Int):MC:=gi W.tasks t
def Qc(W:Q7)(g c:Int):KL:=gi (gi W.ID g).IF c
def ZM(v:Int):Bool:=YJ v 0 100000000000000000
theorem Yq{v:Int}:ZM v=true↔0<=v/\v<=100000000000000000:=Qt
def Ol(b:Js):Bool:=((((b.IY==0)&&(b.RJ==0))&&(b.Sy==0))&&(((b.locals.length:Nat):Int)==0))&&(((b.Ry.length:Nat):Int)==0)
structure UP (b:Js):Prop where
 q1:1<=b.IY
 q2:b.IY<=10000
 l1:1<=b.locals.length
 l2:b.locals.length<=4
 dl:b.Ry.length=b.locals.length
 p1:0<=b.RJ
 p2:b.RJ<=b.IY
 s1:0<=b.Sy
 s2:b.Sy<=b.IY
 each:∀c:Int,0<=c->c<(b.locals.length:Int)->0<=gi b.locals c/\gi b.locals c<=b.IY/\(gi b.Ry c=true->gi b.locals c=0/\b.RJ=0)
 sum:b.RJ+b.Sy+Vc b.locals b.locals.length=b.IY
structure znc (W:Q7) (k:Int) (g:ZN):Prop where
 w1:1<=g.weight
 w2:g.weight<=20
 m:PE g.IE=true
 m0:g.IE≠0
 s:ZM g.sum=true
 len:g.IF.length=W.IE.length
 root:k=0->g.weight=10/\g.IE=15/\g.IN.IY=0
 none:g.IN.IY=0->Ol g.IN=true/\g.period=0/\g.next=0
 IN:g.IN.IY≠0->UP g.IN/\g.IN.locals.length=W.IE.length/\1<=g.period/\g.period<=1000/\W.now<g.next/\g.next-W.now<=g.period
structure zts (g:ZN):Prop where
 p:g.parent=0
 n:g.name=⟨[].toArray⟩
 w:g.weight=0
 c:g.IE=0
 pe:g.period=0
 ne:g.next=0
 s:g.sum=0
 l:g.IF.length=0
 b:Ol g.IN=true
def MV(W:Q7)(k:Int):Prop:=((gi W.ID k).used=false->zts (gi W.ID k))/\((gi W.ID k).used=true->znc W k (gi W.ID k))
structure WA (W:Q7):Prop where
 n1:0<=W.now
 n2:W.now<=100000000000000000
 c1:1<=W.IE.length
 c2:W.IE.length<=4
 t:W.tasks.length=12
 tree:Yc W.ID
 wT:J4 W.IE≠0
 grp:∀k:Int,0<=k->k<8->MV W k
def Uf(W:Q7)(g c:Int):Bool:=decide ((gi W.ID g).IN.IY>0)&&gi (gi W.ID g).IN.Ry c
def OO(W:Q7)(g c:Int)(j:Nat):Bool:=(((gi W.tasks (j:Int)).state==1)&&((gi W.tasks (j:Int)).group==g))&&((gi W.tasks (j:Int)).M'==c)
def J8(W:Q7)(g c:Int)(j:Nat):Bool:=(decide (1<=j)&&((gi W.ID (j:Int)).used&&((gi W.ID (j:Int)).parent==g)))&&(Qc W (j:Int) c).on
def QV(W:Q7)(g c:Int):Bool:=TF (OO W g c) W.tasks.length||TF (J8 W g c) W.ID.length
def V6(W:Q7)(g c:Int):Bool:=(Zb W.ID g).all λx=>(Qc W x c).on
def ZF(W:Q7)(t:Int):Bool:=((Q8 W t).state==1)&&V6 W (Q8 W t).group (Q8 W t).M'
def Ke(v f k:Int):Bool:=decide (v>=f)&&decide (IntKind.i64.wrap (v-f)<=ZB k)
def TW(W:Q7)(g c aA:Int):Bool:=(Zb W.ID g).all λx=>decide ((Qc W x c).v-(Qc W (gi W.ID x).parent c).floor<=Zf aA (Qc W x c).w)
def Mo(W:Q7)(c:Int):Bool:=
 decide ((Q8 W (gi W.IE c).cur).v-(Qc W (Q8 W (gi W.IE c).cur).group c).floor<=Zf (gi W.IE c).aA (Qf (Q8 W (gi W.IE c).cur).nice))&&TW W (Q8 W (gi W.IE c).cur).group c (gi W.IE c).aA
def TX:MC:=⟨0,0,0,0,0,0,0,0,0⟩
structure zxe (W:Q7) (x:MC):Prop where
 st:x.state=1\/x.state=2
 g:Q6 W.ID x.group=true
 n:Qf x.nice≠0
 m:PE x.mask=true
 m0:x.mask≠0
 v:ZM x.v=true
 s:ZM x.sum=true
 u:ZM x.used=true
 l1:0<=x.load
 l2:x.load<=8000000
 c:Z0 (Qw W x.group x.mask) x.M'=true
 f:x.state=1->Ke x.v (Qc W x.group x.M').floor (Qf x.nice)=true
def A6(W:Q7)(t:Int):Prop:=(Q8 W t).state=0/\Q8 W t=TX\/(Q8 W t).state≠0/\zxe W (Q8 W t)
structure MX (W:Q7) (k c:Int):Prop where
 f:ZM (Qc W k c).floor=true
 v:ZM (Qc W k c).v=true
 s:ZM (Qc W k c).sum=true
 w1:1<=(Qc W k c).w
 w2:(Qc W k c).w<=20
 root:k=0->(Qc W k c).on=false/\(Qc W k c).v=0/\(Qc W k c).w=10
 on:k≠0->(Qc W k c).on=(QV W k c && !Uf W k c)
 st:k≠0->(Qc W k c).on=true->Ke (Qc W k c).v (Qc W (gi W.ID k).parent c).floor (Qc W k c).w=true
structure B9 (W:Q7) (c:Int):Prop where
 b:ZM (gi W.IE c).busy=true
 i:ZM (gi W.IE c).idle=true
 c1 : -1<=(gi W.IE c).cur
 c2:(gi W.IE c).cur<(W.tasks.length:Int)
 no:(gi W.IE c).cur<0->(gi W.IE c).aA=0
 yes:0<=(gi W.IE c).cur->(gi W.IE c).up=true/\1<=(gi W.IE c).aA/\(gi W.IE c).aA<=149/\(Q8 W (gi W.IE c).cur).M'=c/\ZF W (gi W.IE c).cur=true/\Mo W c=true
structure J7 (W:Q7):Prop where
 a:WA W
 t:∀t:Int,0<=t->t<12->A6 W t
 s:∀k c:Int,0<=k->k<8->0<=c->c<((gi W.ID k).IF.length:Int)->MX W k c
 c:∀c:Int,0<=c->c<(W.IE.length:Int)->B9 W c
noncomputable def Qy(W:Q7):Bool:=JI (J7 W)
section
variable {W:Q7}
theorem WA.gl(h:WA W):W.ID.length=8:=h.tree.len
theorem WA.u(h:WA W){g:Int}(hu:Q6 W.ID g=true):0<=g/\g<8/\znc W g (gi W.ID g):=by
 obtain⟨a,b,c⟩:=Q5.1 hu;have:=h.gl;exact⟨a,Qo,(h.grp g a Qo).2 c⟩
theorem WA.root(h:WA W):Q6 W.ID 0=true:=Q5.2 ⟨Qd,by have:=h.gl; omega,h.tree.ru⟩
theorem WA.sl(h:WA W){g:Int}(hu:Q6 W.ID g=true):(gi W.ID g).IF.length=W.IE.length:=(h.u hu).2.2.len
theorem WA.up(h:WA W){g:Int}(hu:Q6 W.ID g=true)(hz:g≠0):Q6 W.ID (gi W.ID g).parent=true:=(Yd h.tree hu hz).1
theorem WA.dl(h:WA W){g:Int}(hu:Q6 W.ID g=true)(hq:(gi W.ID g).IN.IY≠0):(gi W.ID g).IN.Ry.length=W.IE.length/\(gi W.ID g).IN.locals.length=W.IE.length:=by
 have hb:=(h.u hu).2.2.IN hq;exact⟨by rw[hb.1.dl,hb.2.1],hb.2.1⟩
end
theorem YN{v:Int}{w:Wo}{bs:List Nat}:PX bs ZL #[I v] w (.bool (ZM v)):=zgh v λwr hx=>⟨_,Qr,rfl⟩
theorem ZP{n:Int}{w:Wo}{bs:List Nat}:PX bs Zg #[I n] w (I (Qf n)):=
 CA n λwr hx=>⟨_,Qr,λg=>by
  unfold Qf; rw[C' (by simpa using g)],λg=>by
  have g':YJ n (-10) 9=true:=by simpa using g
  have:=Qt.1 g';refine⟨⟨Qo,Qo⟩,?_⟩;unfold Qf; rw[E' g']⟩
theorem Xe{m:Int}{w:Wo}{bs:List Nat}:PX bs Y9 #[I m] w (.bool (PE m)):=zgd m λwr hx=>⟨_,Qr,rfl⟩
theorem Yb{m c:Int}{w:Wo}{bs:List Nat}:PX bs Zm #[I m,I c] w (.bool (Z0 m c)):=
 zc7 m c λwr hx=>by
  have hr:(PE m&&YJ c 0 3)=true->0<=c/\c<=3:=λg=>by
   simp only[A'] at g;exact Qt.1 g.2
  exact⟨_,Xe,_,λ_=>Qr,λg=>by have:=hr g; exact⟨Qo,by show c<=18446744073709551615; omega⟩,λg=>(hr g).1,λ_=>by decide,rfl⟩
theorem zpp(a b:Int):∀k:Nat,k<=4->0<=za3 a b k/\za3 a b k<Ue k
 | 0,_=>by simp[za3,Ue]
 | k+1,h=>by
  have ih:=zpp a b k Qo
  have hb:Ue (k+1)=2*Ue k/\0<=Ue k:=by
   have:k=0\/k=1\/k=2\/k=3:=Qo;rcases this with rfl | rfl | rfl | rfl <;> decide
  simp only[za3]
  split <;> omega
theorem zzv{k:Nat}(h:k<=64):Ql .u64 (k:Int):=⟨by show (0:Int)<=(k:Int); omega,by show (k:Int)<=18446744073709551615; omega⟩
theorem Me{a b:Int}{w:Wo}{bs:List Nat}:PX bs JL #[I a,I b] w (I (Tt a b)):=
 zc6 a b λwr hx=>by
  refine⟨_,Xe,_,λ_=>Xe,λg=>?_,λg=>?_⟩
  ·rw[Xp]
   simpa using g
  ·simp only[I0,I7] at g
   have he:Tt a b=za3 a b 4:=by
    rw[OB g.1 g.2];obtain⟨x,rfl⟩:=MI g.1;obtain⟨y,rfl⟩:=MI g.2;exact(zt3 x y).symm
   rw[he];refine P3 4 0 rfl (λx k=>k<=4/\x=za3 a b k) ⟨Qo,rfl⟩ λx k ⟨hk,hx⟩=>⟨λIT=>?_,λRN=>?_⟩
   ·have IT:=Ot IT;have hb:=BB (k:=k) Qo;have hl:=zpp a b k hk;have fQ:(1*2 ^ (min (Int.toNat (k:Int)) 64):Int)=Ue k:=rfl;refine⟨_,Yb,_,λ_=>Yb,λh=>?_,λh=>?_⟩
    ·rw[fQ];refine⟨zzv Qo,⟨Qo,Qo,Qo⟩,⟨Qo,Qo⟩,⟨Qo,Qo⟩,QK Qo ⟨Qo,?_⟩⟩;rw[hx]; simp only[za3]; rw[E' h]
    ·refine⟨⟨Qo,Qo⟩,QK Qo ⟨Qo,?_⟩⟩;rw[hx]; simp only[za3]; rw[C' (by rw[h]; decide)]
   ·have RN:=Ou RN;have:k=4:=Qo;subst this;rw[hx]
theorem GJ{b:Js}(h:Ol b=true):b.IY=0/\b.RJ=0/\b.Sy=0/\b.locals.length=0/\b.Ry.length=0:=by
 unfold Ol at h;simp only[A',It] at h;omega
theorem Lo{b:Js}{m:MG}{w:Wo}{bs:List Nat}:PX bs UJ #[.agg (QZ b m).toArray] w (.bool (Ol b)):=
 CL b.IY b.RJ b.Sy m.lO b.locals.length m.lC m.dO b.Ry.length m.dC λwr hx=>λ_ _=>rfl
theorem D5{b:Js}{m:MG}{w:Wo}{bs:List Nat}(h1:znf bs w m.lO b.locals)(h2:ztv bs w m.dO b.Ry)(hl:b.locals.length<=maxLen):PX bs T9 #[.agg (QZ b m).toArray] w (.bool (JI (UP b))):=
 zgb b.IY b.RJ b.Sy m.lO b.locals.length m.lC m.dO b.Ry.length m.dC λwr hx=>by
  have h1:=(h1.ext hx).less (cs:=[]) Qs;have h2:=(h2.ext hx).less (cs:=[]) Qs;intro _ _;refine⟨_,Qr,_,λ_=>Qr,_,λ_=>Qr,_,λ_=>Qr,λg=>LI λp=>?_,λg=>?_⟩
  ·rw[Qt.2 ⟨p.q1,p.q2⟩,Qt.2 (by have:=p.l1; have:=p.l2; omega),Qt.2 ⟨p.p1,p.p2⟩,Qt.2 ⟨p.s1,p.s2⟩,p.dl] at g;simp at g
  ·simp only[I0,I7,bne_eq_false_iff_eq,Qt] at g;obtain⟨⟨⟨⟨g1,g2⟩,g3⟩,g4⟩,g5⟩:=g;have hdl:b.Ry.length=b.locals.length:=Qo
   have all:∀{k:Nat},k<=b.locals.length->(∀c:Int,0<=c->c<(k:Int)->0<=gi b.locals c/\gi b.locals c<=b.IY/\(gi b.Ry c=true->gi b.locals c=0/\b.RJ=0))->0<=Vc b.locals k/\Vc b.locals k<=40000:=λ{k} hk h=>by
    have key:∀j:Nat,j<=k->0<=Vc b.locals j/\Vc b.locals j<=(j:Int)*10000:=λj=>by
     induction j with
     | zero=>intro _; simp[Vc]
     | succ j ih=>
      intro hj;have:=ih Qo;have:=h (j:Int) Qo Qo;simp only[Vc]; omega
    have:=key k (I8 _);omega
   refine⟨⟨Qo,Qo⟩,?_⟩;refine P3 b.locals.length 0 rfl (λx k=>k<=b.locals.length/\x=b.RJ+b.Sy+Vc b.locals k/\∀c:Int,0<=c->c<(k:Int)->0<=gi b.locals c/\gi b.locals c<=b.IY/\(gi b.Ry c=true->gi b.locals c=0/\b.RJ=0)) ⟨Ie _,by simp[Vc],λc h0 h1=>by omega⟩ λx k ⟨hk,R3,hI⟩=>⟨λIT=>?_,λRN=>?_⟩
   ·have IT:=Ot IT;have RM:(k:Int)<(b.Ry.length:Int):=Qo;have hsr:=all hk hI;refine⟨h1.ix Jy Qo IT,_,h1 k Qo IT,_,Qr,λ_=>h2.ix DF Qo RM,_,λ_=>h2 k Qo RM,λ_ _=>h1.ix Jy Qo IT,_,λ_ _=>h1 k Qo IT,λg=>LI λp=>?_,λg=>⟨h1.ix Jy Qo IT,_,h1 k Qo IT,?_⟩⟩
    ·have pe:=p.each (k:Int) Qo IT;rw[Qt.2 ⟨pe.1,pe.2.1⟩] at g;simp only[Bool.not_true,Bool.false_or,A',Iv,Ik] at g;have:=pe.2.2 g.1;omega
    ·simp only[I0,I7,Qt] at g;obtain⟨ga,gb⟩:=g;refine⟨⟨Qo,Qo⟩,⟨Qo,Qo⟩,QK Qo ⟨Qo,by simp only[Vc]; omega,λc hc0 hc=>?_⟩⟩
     by_cases hck:c<(k:Int)
     ·exact hI c hc0 hck
     ·have:c=(k:Int):=Qo;subst this;refine⟨ga.1,ga.2,λhd=>?_⟩;rw[hd] at gb;simp only[Bool.true_and,I0,decide_eq_false_iff_not] at gb;omega
   ·have RN:=Ou RN;have:k=b.locals.length:=Qo;subst this;refine Ps ?_;rw[It,R3];constructor
    ·intro hs;exact⟨g1.1,g1.2,Qo,Qo,hdl,g4.1,g4.2,g5.1,g5.2,hI,hs⟩
    ·exact λp=>p.sum
section
variable {W:Q7}{m:MW}{w:Wo}{bs:List Nat}
theorem Ld.RE{gs:List ZN}{ms:Nat->MG}{o:OA}(h:Ld bs w o gs ms){i:Int}(h0:0<=i)(h1:i<(gs.length:Int)):Q1 bs w o (Int.toNat i*14+13) [.slice (ms i.toNat).sO (gi gs i).IF.length (ms i.toNat).sC]:=(h.cells i h0 h1).get 13 _ rfl
theorem Ld.IE{gs:List ZN}{ms:Nat->MG}{o:OA}(h:Ld bs w o gs ms){i:Int}(h0:0<=i)(h1:i<(gs.length:Int)):Q1 bs w o (Int.toNat i*14+4) [I (gi gs i).IE]:=(h.cells i h0 h1).get 4 _ rfl
theorem Ld.IN{gs:List ZN}{ms:Nat->MG}{o:OA}(h:Ld bs w o gs ms){i:Int}(h0:0<=i)(h1:i<(gs.length:Int)):Q1 bs w o (Int.toNat i*14+8) (QZ (gi gs i).IN (ms i.toNat)):=VQ λj v hj=>by
 have e:Yt (gi gs i) (ms i.toNat)=((Yt (gi gs i) (ms i.toNat)).take 8++QZ (gi gs i).IN (ms i.toNat))++[.slice (ms i.toNat).sO (gi gs i).IF.length (ms i.toNat).sC]:=rfl
 have hj':j<5:=by
  have:=(I9.1 hj).1
  simpa[QZ] using this
 have:=(h.cells i h0 h1).get (8+j) v (by
  rw[e,Iq (by simp[Yt,QZ]; omega),List.getElem?_append_right (by simp[Yt])]
  simpa[Yt] using hj)
 rwa[<-Nat.add_assoc] at this
theorem ztn.f{ts:List MC}{o:OA}(h:ztn bs w o ts){i:Int}(h0:0<=i)(h1:i<(ts.length:Int)){j:Nat}{v:Va}(hj:(Xa (gi ts i))[j]? = some v):Q1 bs w o (Int.toNat i*9+j) [v]:=XZ ((h i h0 h1).get j v hj)
theorem z16.f{cs:List Px}{o:OA}(h:z16 bs w o cs){i:Int}(h0:0<=i)(h1:i<(cs.length:Int)){j:Nat}{v:Va}(hj:(KU (gi cs i))[j]? = some v):Q1 bs w o (Int.toNat i*5+j) [v]:=XZ ((h i h0 h1).get j v hj)
theorem zna.f{ss:List KL}{o:OA}(h:zna bs w o ss){i:Int}(h0:0<=i)(h1:i<(ss.length:Int)){j:Nat}{v:Va}(hj:(PS (gi ss i))[j]? = some v):Q1 bs w o (Int.toNat i*5+j) [v]:=XZ ((h i h0 h1).get j v hj)
theorem KY(h:Xl bs w W m)(h4:W.IE.length<=4):PX bs V3 #[.agg (Qa W m).toArray] w (I (J4 W.IE)):=
 zj6 _ _ _ _ _ _ _ _ _ _ λwr hx=>by
  have h:=(h.ext hx).less (cs:=[]) Qs;intro _ _;refine P3 W.IE.length 0 rfl (λx k=>k<=W.IE.length/\x=Vd W.IE k) ⟨Ie _,rfl⟩ λx k ⟨hk,R3⟩=>⟨λIT=>?_,λRN=>?_⟩
  ·have IT:=Ot IT;have hb:=BB (k:=k) Qo;have hl:=Hs W.IE k Qo;have fQ:(1*2 ^ (min (Int.toNat (k:Int)) 64):Int)=Ue k:=rfl;refine⟨h.c.ix ZT Qo IT,_,h.c.f Qo IT (j:=0) rfl,λhu=>?_,λhu=>?_⟩
   ·rw[fQ];refine⟨zzv Qo,⟨Qo,Qo,Qo⟩,⟨Qo,Qo⟩,⟨Qo,Qo⟩,QK Qo ⟨Qo,?_⟩⟩;rw[R3]; simp only[Vd]; rw[E' hu]
   ·refine⟨⟨Qo,Qo⟩,QK Qo ⟨Qo,?_⟩⟩;rw[R3]; simp only[Vd]; rw[C' (by rw[hu]; decide)]
  ·have RN:=Ou RN;have:k=W.IE.length:=Qo;subst this;rw[R3]; rfl
theorem zfx{g:Int}(h:Xl bs w W m)(ht:Yc W.ID)(hu:Q6 W.ID g=true):PX bs M3 #[.agg (Qa W m).toArray,I g] w (I (zmt W.ID g)):=
 zgl _ _ _ _ _ _ _ _ _ _ g λwr hx=>by
  have h:=(h.ext hx).less (cs:=[]) Qs;intro _ _;obtain⟨u1,u2,_⟩:=Q5.1 hu;refine⟨h.g.ix u1 u2,_,h.g.IE u1 u2,λvs=>∃(x s:Int),vs=[I x,I s]/\Q6 W.ID x=true/\(Zb W.ID x).foldl (λs x=>Tt s (gi W.ID (gi W.ID x).parent).IE) s=zmt W.ID g,λvs=>(dep 3 W.ID (ZW 0 vs)).toNat,⟨g,_,rfl,hu,rfl⟩,?_⟩;rintro x s ⟨x',s',he,hux,hI⟩;simp only[I5,I6,true_and,and_true] at he;obtain⟨rfl,rfl⟩:=he;refine⟨λhz=>?_,λhz=>?_⟩
  ·have hz:x≠0:=by simpa using hz
   obtain⟨hp,a,b,d,e,e2,hd⟩:=Yd ht hux hz;obtain⟨v1,v2,_⟩:=Q5.1 hp;rw[YI ht hux hz,List.foldl_cons] at hI
   exact⟨h.g.ix a b,_,h.g.parent a b,h.g.ix v1 v2,_,h.g.IE v1 v2,_,Me,⟨_,_,rfl,hp,hI⟩,by
    show (dep 3 W.ID (gi W.ID x).parent).toNat<(dep 3 W.ID x).toNat;omega⟩
  ·have hz:x=0:=by simpa using hz
   subst hz;rw[show Zb W.ID 0=[] from Zq _ _,List.foldl_nil] at hI;rw[hI]
theorem Jk{g mask:Int}(h:Xl bs w W m)(h4:W.IE.length<=4)(ht:Yc W.ID)(hu:Q6 W.ID g=true):PX bs Yz #[.agg (Qa W m).toArray,I g,I mask] w (I (Qw W g mask)):=
 zdg _ _ _ _ _ _ _ _ _ _ g mask λwr hx=>by
  have h:=(h.ext hx).less (cs:=[]) Qs;intro _ _;have hk:=Me (a:=zmt W.ID g) (b:=J4 W.IE) (w:=wr) (bs:=[]);rw[zwl ht hu] at hk;refine⟨_,KY h h4,_,zfx h ht hu,_,hk,_,Me,λg1=>?_,λg1=>⟨λg2=>?_,λg2=>?_⟩⟩
  ·unfold Qw; rw[E' (by simpa using g1)]
  ·unfold Qw; rw[C' (by simpa using g1),E' (by simpa using g2)]
  ·unfold Qw; rw[C' (by simpa using g1),C' (by simpa using g2)]
theorem KX{g c:Int}(h:Xl bs w W m)(ha:WA W)(hu:Q6 W.ID g=true)(c0:0<=c)(c1:c<(W.IE.length:Int)):PX bs V2 #[.agg (Qa W m).toArray,I g,I c] w (.bool (Uf W g c)):=
 zj5 _ _ _ _ _ _ _ _ _ _ g c λwr hx=>by
  have h:=(h.ext hx).less (cs:=[]) Qs;intro _ _;obtain⟨u1,u2,_⟩:=Q5.1 hu
  have hd:(decide ((gi W.ID g).IN.IY>0))=true->c<((gi W.ID g).IN.Ry.length:Int):=λg1=>by
   have:=Ot g1;rw[(ha.dl hu Qo).1]; exact c1
  exact⟨h.g.ix u1 u2,_,_,_,_,_,_,_,_,_,h.g.IN u1 u2,λ_ _=>⟨λg1=>(h.g.Ry g u1 u2).ix DF c0 (hd g1),_,λg1=>(h.g.Ry g u1 u2) c c0 (hd g1),rfl⟩⟩
theorem Vs{g c:Int}(h:Xl bs w W m)(ha:WA W)(hu:Q6 W.ID g=true)(c0:0<=c)(c1:c<(W.IE.length:Int)):PX bs Xk #[.agg (Qa W m).toArray,I g,I c] w (.bool (Qc W g c).on):=
 CM _ _ _ _ _ _ _ _ _ _ g c λwr hx=>by
  have h:=(h.ext hx).less (cs:=[]) Qs;intro _ _;obtain⟨u1,u2,_⟩:=Q5.1 hu;have hs:=ha.sl hu;have c2:c<((gi W.ID g).IF.length:Int):=Qo;exact⟨h.g.ix u1 u2,_,_,_,h.g.RE u1 u2,(h.g.IF g u1 u2).ix ZZ c0 c2,_,zna.f (h.g.IF g u1 u2) c0 c2 (j:=1) rfl,rfl⟩
theorem zkm{gs:List ZN}{k:Nat}(hk:(k:Int)<(gs.length:Int))(hu:(gi gs (k:Int)).used=true):Q6 gs (k:Int)=true:=Q5.2 ⟨Qo,hk,hu⟩
theorem Po{g c:Int}(h:Xl bs w W m)(ha:WA W)(c0:0<=c)(c1:c<(W.IE.length:Int)):PX bs Jj #[.agg (Qa W m).toArray,I g,I c] w (.bool (QV W g c)):=
 CH _ _ _ _ _ _ _ _ _ _ g c λwr hx=>by
  have h:=(h.ext hx).less (cs:=[]) Qs;intro _ _;have cJ:=ha.gl;have hm9:=Zo;refine XB W.tasks.length 0 rfl (λk=>k<=W.tasks.length/\∀j:Nat,j<k->OO W g c j=false) ⟨Ie _,λj hj=>Is hj (Nat.not_lt_zero j)⟩ λk ⟨hk,hI⟩=>⟨λIT=>?_,λRN=>?_⟩
  ·have IT:=Ot IT;have ht:=ha.t;refine⟨h.t.ix QM Qo IT,_,h.t.f Qo IT (j:=0) rfl,λ_=>h.t.ix QM Qo IT,_,λ_=>h.t.f Qo IT (j:=1) rfl,λ_=>h.t.ix QM Qo IT,_,λ_=>h.t.f Qo IT (j:=2) rfl,λhy=>?_,λhn=>⟨⟨Qo,Qo⟩,QE Qo ⟨Qo,λj hj=>?_⟩⟩⟩
   ·unfold QV;rw[Dv.2 ⟨k,Qo,hy⟩]; rfl
   ·by_cases iA:j<k
    ·exact hI j iA
    ·have:j=k:=Qo;subst this; exact hn
  ·have RN:=Ou RN;have lA:TF (OO W g c) W.tasks.length=false:=zit λj hj=>hI j Qo
   refine XB W.ID.length 1 rfl (λk=>1<=k/\k<=W.ID.length/\∀j:Nat,j<k->J8 W g c j=false) ⟨I8 _,Qo,λj hj=>by
    have:j=0:=Qo;subst this; simp[J8]⟩ λk ⟨hk1,hk,hI⟩=>⟨λIT=>?_,λRN=>?_⟩
   ·have IT:=Ot IT;refine⟨h.g.ix Qo IT,_,h.g.used Qo IT,λ_=>h.g.ix Qo IT,_,λ_=>h.g.parent Qo IT,(Qc W (k:Int) c).on,λhu=>Vs h ha (zkm IT (by simp only[A'] at hu; exact hu.1)) c0 c1,λhy=>?_,λhn=>⟨⟨Qo,Qo⟩,QE Qo ⟨Qo,Qo,λj hj=>?_⟩⟩⟩
    ·unfold QV
     have:TF (J8 W g c) W.ID.length=true:=Dv.2 ⟨k,Qo,by
      unfold J8;rw[Ii hk1,Bool.true_and]; exact hy⟩
     rw[this,Bool.or_true]
    ·by_cases iA:j<k
     ·exact hI j iA
     ·have:j=k:=Qo;subst this;unfold J8;rw[Ii hk1,Bool.true_and]; exact hn
   ·have RN:=Ou RN;have:TF (J8 W g c) W.ID.length=false:=zit λj hj=>hI j Qo
    unfold QV;rw[lA,this]; rfl
theorem Vr{t:Int}(h:Xl bs w W m)(ha:WA W)(t0:0<=t)(t1:t<(W.tasks.length:Int))(hu:(Q8 W t).state=1->Q6 W.ID (Q8 W t).group=true/\0<=(Q8 W t).M'/\(Q8 W t).M'<(W.IE.length:Int)) :
  PX bs YH #[.agg (Qa W m).toArray,I t] w (.bool (ZF W t)):=
 CJ _ _ _ _ _ _ _ _ _ _ t λwr hx=>by
  have h:=(h.ext hx).less (cs:=[]) Qs;intro _ _;refine⟨h.t.ix QM t0 t1,_,_,_,_,_,_,_,_,_,h.t t t0 t1,λ_ _=>⟨λg=>?_,λg=>?_⟩⟩
  ·have:((Q8 W t).state==1)=false:=by simpa[Q8] using g
   unfold ZF; rw[this]; rfl
  ·have hs:(Q8 W t).state=1:=by simpa[Q8] using g
   obtain⟨hug,hc0,wA⟩:=hu hs;have hL:ZF W t=V6 W (Q8 W t).group (Q8 W t).M':=by unfold ZF; rw[It.2 hs,Bool.true_and]
   rw[hL];refine⟨λvs=>∃x:Int,vs=[I x]/\Q6 W.ID x=true/\V6 W x (Q8 W t).M'=V6 W (Q8 W t).group (Q8 W t).M',λvs=>(dep 3 W.ID (ZW 0 vs)).toNat,⟨_,rfl,hug,rfl⟩,?_⟩;rintro x ⟨x',he,hux,hI⟩;simp only[I5,I6,true_and,and_true] at he;subst he;refine⟨λhz=>?_,λhz=>?_⟩
   ·have hz:x≠0:=by simpa using hz
    obtain⟨hp,a,b,d,e,e2,hd⟩:=Yd ha.tree hux hz;unfold V6 at hI;rw[YI ha.tree hux hz,List.all_cons] at hI
    refine⟨_,Vs h ha hux hc0 wA,λg2=>?_,λg2=>⟨h.g.ix a b,_,h.g.parent a b,⟨_,rfl,hp,?_⟩,by
     show (dep 3 W.ID (gi W.ID x).parent).toNat<(dep 3 W.ID x).toNat;omega⟩⟩
    ·have g2:(Qc W x (Q8 W t).M').on=false:=by simpa[Q8] using g2
     rw[g2,Bool.false_and] at hI;unfold V6;rw[<-hI]
    ·have g2:(Qc W x (Q8 W t).M').on=true:=by simpa[Q8] using g2
     rw[g2,Bool.true_and] at hI;exact hI
   ·have hz:x=0:=by simpa using hz
    subst hz;unfold V6 at hI;rw[show Zb W.ID 0=[] from Zq _ _,List.all_nil] at hI;unfold V6;rw[<-hI]
end
theorem GC{v f k:Int}{w:Wo}{bs:List Nat}:PX bs Vn #[I v,I f,I k] w (.bool (Ke v f k)):=
 zdf v f k λwr hx=>⟨IntKind.i64.wrap (v-f),λ_ wq=>by simp[eqGuard,binOp,Op.intArith],_,λ_=>Md,rfl⟩
theorem zg7:zpl Tryz.prog QR:=⟨Qk,Qk,Qk⟩
theorem zp5(a b:MC):zbv Tryz.prog (Tryz.prog.fieldsOf QR).toList 0 (Xa a) (Xa b)=some ((a.state==b.state)&&((a.group==b.group)&&((a.M'==b.M')&&((a.nice==b.nice)&&((a.mask==b.mask)&&((a.v==b.v)&&((a.sum==b.sum)&&((a.used==b.used)&&((a.load==b.load)&&true))))))))):=Qk
theorem zkj{a b:MC}:((a.state==b.state)&&((a.group==b.group)&&((a.M'==b.M')&&((a.nice==b.nice)&&((a.mask==b.mask)&&((a.v==b.v)&&((a.sum==b.sum)&&((a.used==b.used)&&((a.load==b.load)&&true)))))))))=decide (a=b):=by
 cases a; cases b
 simp only[MC.mk.injEq,Bool.and_true];rw[Bool.eq_iff_iff];simp only[A',It,Ik]
section
variable {W:Q7}{m:MW}{w:Wo}{bs:List Nat}
theorem N2{k:Int}(h:Xl bs w W m)(hn:0<=W.now)(k0:0<=k)(k1:k<(W.ID.length:Int))(hf:zie (gi W.ID k)):PX bs Tj #[.agg (Qa W m).toArray,I k] w (.bool (JI (MV W k))):=
 Nt _ _ _ _ _ _ _ _ _ _ k λwr hx=>by
  have h:=(h.ext hx).less (cs:=[]) Qs;intro _ _;refine⟨h.g.ix k0 k1,_,_,_,_,_,_,_,_,_,_,_,_,_,_,_,_,_,_,_,_,h.g.cells k k0 k1,λ_ _=>⟨λg=>?_,λg=>?_⟩⟩
  ·have hu:(gi W.ID k).used=false:=by simpa using g
   refine⟨_,λ_=>Lo (b:=(gi W.ID k).IN) (m:=m.ms k.toNat),Ps ?_⟩;simp only[A',It,UL];constructor
   ·rintro⟨⟨⟨⟨⟨⟨⟨⟨e1,e2⟩,e3⟩,e4⟩,e5⟩,e6⟩,e7⟩,e8⟩,e9⟩;exact⟨λ_=>⟨e1,e2,e3,e4,e5,e6,e7,Qo,e9⟩,λhu'=>by rw[hu'] at hu; cases hu⟩
   ·intro p;have q:=p.1 hu;exact⟨⟨⟨⟨⟨⟨⟨⟨q.p,q.n⟩,q.w⟩,q.c⟩,q.pe⟩,q.ne⟩,q.s⟩,by have:=q.l; omega⟩,q.b⟩
  ·have hu:(gi W.ID k).used=true:=by simpa using g
   have mk:znc W k (gi W.ID k)->MV W k:=λq=>⟨λhu'=>(by rw[hu'] at hu; cases hu),λ_=>q⟩
   refine⟨_,JO,_,λ_=>Xe,_,λ_=>YN,λg2=>LI λp=>?_,λg2=>⟨λg3=>LI λp=>?_,λg3=>⟨λg4=>⟨_,Lo (b:=(gi W.ID k).IN) (m:=m.ms k.toNat),Ps ?_⟩,λg4=>⟨_,D5 (b:=(gi W.ID k).IN) (m:=m.ms k.toNat) (h.g.locals k k0 k1) (h.g.Ry k k0 k1) hf.lo,_,λ_=>Qr,λg5=>?_,Ps ?_⟩⟩⟩⟩
   ·have q:=p.2 hu;have e1:YJ (gi W.ID k).weight 1 20=true:=Qt.2 ⟨q.w1,q.w2⟩;have e3:((gi W.ID k).IE==0)=false:=by simpa using q.m0
    have e5:(((gi W.ID k).IF.length:Nat):Int)=((W.IE.length:Nat):Int):=by have:=q.len; omega
    rw[e1,q.m,e3,q.s,e5] at g2;simp at g2
   ·have q:=p.2 hu;simp only[A',It] at g3;have r:=q.root g3.1;rw[r.1,r.2.1,r.2.2] at g3;simp at g3
   all_goals
    simp only[I0,I7,bne_eq_false_iff_eq,Qt,beq_eq_false_iff_ne] at g2;obtain⟨⟨⟨⟨a1,a2⟩,a3⟩,a4⟩,a5⟩:=g2;have hlen:(gi W.ID k).IF.length=W.IE.length:=Qo
    have CF7:k=0->(gi W.ID k).weight=10/\(gi W.ID k).IE=15/\(gi W.ID k).IN.IY=0:=λhk=>by
     rw[It.2 hk,Bool.true_and] at g3;simp only[I0,bne_eq_false_iff_eq] at g3;exact⟨g3.1.1,g3.1.2,g3.2⟩
   ·have q0:(gi W.ID k).IN.IY=0:=by simpa using g4
    simp only[A',It];constructor
    ·rintro⟨⟨e1,e2⟩,e3⟩;exact mk ⟨a1.1,a1.2,a2,a3,a4,hlen,CF7,λ_=>⟨e1,e2,e3⟩,λfH=>Is q0 fH⟩
    ·intro p;have q:=(p.2 hu).none q0;exact⟨⟨q.1,q.2.1⟩,q.2.2⟩
   ·simp only[A',It,Ik] at g5;have:=hf.nx;exact⟨by have:=this.1; omega,by have:=this.2; omega⟩
   ·have q0:(gi W.ID k).IN.IY≠0:=by simpa using g4
    simp only[A',It,Ik,Qj,Qt];constructor
    ·rintro⟨⟨⟨⟨e1,e2⟩,e3⟩,e4⟩,e5⟩;exact mk ⟨a1.1,a1.2,a2,a3,a4,hlen,CF7,λfH=>Is fH q0,λ_=>⟨e1,Qo,e3.1,e3.2,e4,e5⟩⟩
    ·intro p;have q:=(p.2 hu).IN q0;exact⟨⟨⟨⟨q.1,by have:=q.2.1; omega⟩,q.2.2.1,q.2.2.2.1⟩,q.2.2.2.2.1⟩,q.2.2.2.2.2⟩
theorem Gb{W:Q7}(ha:WA W){g mask c:Int}(hc:Z0 (Qw W g mask) c=true):0<=c/\c<(W.IE.length:Int):=by
 have h1:=ztl hc;exact⟨(Mh h1).2.1,(B0 W.IE _ ha.c2 h1).1⟩
theorem Cp{t:Int}(h:Xl bs w W m)(ha:WA W)(t0:0<=t)(t1:t<(W.tasks.length:Int)):PX bs Oe #[.agg (Qa W m).toArray,I t] w (.bool (JI (A6 W t))):=
 CO _ _ _ _ _ _ _ _ _ _ t λwr hx=>by
  have h:=(h.ext hx).less (cs:=[]) Qs;intro _ _;have cJ:=ha.gl;have hm9:=Zo;refine⟨h.t.ix QM t0 t1,_,_,_,_,_,_,_,_,_,h.t t t0 t1,λ_ _=>⟨λg=>?_,λg=>?_⟩⟩
  ·have hs:(gi W.tasks t).state=0:=by simpa using g
   refine⟨_,λwq=>zdp zg7 (zp5 (gi W.tasks t) TX) _ _ wq,Ps ?_⟩;rw[zkj,Ik];constructor
   ·exact λe=>.inl ⟨hs,e⟩
   ·rintro (⟨_,e⟩ | ⟨e,_⟩)
    ·exact e
    ·exact Is hs e
  ·have hs:(gi W.tasks t).state≠0:=by simpa using g
   have no:∀{q:A6 W t},zxe W (gi W.tasks t):=λ{q}=>by
    rcases q with ⟨e,_⟩ | ⟨_,q⟩
    ·exact Is e hs
    ·exact q
   refine⟨_,λ_=>Xf (c:=m.gC) h.g,_,λ_=>ZP,_,λ_=>Xe,λg2=>LI λp=>?_,λg2=>?_⟩
   ·have q:=no (q:=p);have e3:(Qf (gi W.tasks t).nice==0)=false:=by simpa using q.n
    have e4:((gi W.tasks t).mask==0)=false:=by simpa using q.m0
    rw[q.g,e3,q.m,e4] at g2;simp only[Bool.not_true,Bool.or_false,A',Iu] at g2;have:=q.st;omega
   ·simp only[I0,I7,beq_eq_false_iff_ne] at g2;obtain⟨⟨⟨⟨a1,a2⟩,a3⟩,a4⟩,a5⟩:=g2
    have st:(gi W.tasks t).state=1\/(gi W.tasks t).state=2:=by
     by_cases h1:(gi W.tasks t).state=1
     ·exact .inl h1
     ·refine .inr ?_;have:((gi W.tasks t).state != 1)=true:=by simpa using h1
      rw[this,Bool.true_and] at a1
      simpa using a1
    refine⟨_,YN,_,λ_=>YN,_,λ_=>YN,_,λ_=>Qr,Qw W (gi W.tasks t).group (gi W.tasks t).mask,λ_=>Jk h ha.c2 ha.tree a2,_,λ_=>Yb,λg3=>LI λp=>?_,λg3=>?_⟩
    ·have q:=no (q:=p);have e4:YJ (gi W.tasks t).load 0 8000000=true:=Qt.2 ⟨q.l1,q.l2⟩;rw[q.v,q.s,q.u,e4,q.c] at g3;simp at g3
    ·simp only[I0,I7,Qt] at g3;obtain⟨⟨⟨⟨b1,b2⟩,b3⟩,b4⟩,b5⟩:=g3;obtain⟨u1,u2,_⟩:=Q5.1 a2;obtain⟨c0,c1⟩:=Gb ha b5;have hsl:=ha.sl a2;have c2:(gi W.tasks t).M'<((gi W.ID (gi W.tasks t).group).IF.length:Int):=Qo;refine⟨λ_=>h.g.ix u1 u2,_,_,_,λ_=>h.g.RE u1 u2,λ_=>(h.g.IF _ u1 u2).ix ZZ c0 c2,_,λ_=>zna.f (h.g.IF _ u1 u2) c0 c2 (j:=0) rfl,_,λ_=>ZP,_,λ_=>GC,Ps ?_⟩;simp only[Iv,It];constructor
     ·intro e
      exact .inr ⟨hs,⟨st,a2,a3,a4,a5,b1,b2,b3,b4.1,b4.2,b5,λe1=>by
       rcases e with e | e
       ·have e:(gi W.tasks t).state=2:=e;have e1:(gi W.tasks t).state=1:=e1;omega
       ·exact e⟩⟩
     ·intro p;have q:=no (q:=p);rcases st with e | e
      ·exact .inr (q.f e)
      ·exact .inl e
theorem N3{k c:Int}(h:Xl bs w W m)(ha:WA W)(k0:0<=k)(k1:k<(W.ID.length:Int))(c0:0<=c)(c2:c<((gi W.ID k).IF.length:Int)):PX bs Tk #[.agg (Qa W m).toArray,I k,I c] w (.bool (JI (MX W k c))):=
 Nu _ _ _ _ _ _ _ _ _ _ k c λwr hx=>by
  have h:=(h.ext hx).less (cs:=[]) Qs;intro _ _;have cJ:=ha.gl
  have hus:(gi W.ID k).used=true:=by
   cases hu:(gi W.ID k).used with
   | true=>rfl
   | false=>
    have:=((ha.grp k k0 Qo).1 hu).l;omega
  have hu:Q6 W.ID k=true:=Q5.2 ⟨k0,k1,hus⟩;have hsl:=ha.sl hu;have c1:c<(W.IE.length:Int):=Qo;refine⟨h.g.ix k0 k1,_,_,_,_,_,_,_,_,_,_,_,_,_,_,_,_,_,_,_,_,h.g.cells k k0 k1,λ_ _=>⟨(h.g.IF k k0 k1).ix ZZ c0 c2,_,_,_,_,_,(h.g.IF k k0 k1) c c0 c2,λ_ _=>⟨_,YN,_,λ_=>YN,_,λ_=>YN,_,λ_=>JO,λg=>LI λp=>?_,λg=>⟨λg2=>Ps ?_,λg2=>⟨_,Po h ha c0 c1,_,λ_=>KX h ha hu c0 c1,λg3=>LI λp=>?_,λg3=>?_⟩⟩⟩⟩⟩
  ·have e1:=p.f;have e2:=p.v;have e3:=p.s;have e4:YJ (Qc W k c).w 1 20=true:=Qt.2 ⟨p.w1,p.w2⟩;have g':(((!ZM (Qc W k c).floor || !ZM (Qc W k c).v) || !ZM (Qc W k c).sum) || !YJ (Qc W k c).w 1 20)=true:=g;rw[e1,e2,e3,e4] at g'
   cases g'
  ·have g':(((!ZM (Qc W k c).floor || !ZM (Qc W k c).v) || !ZM (Qc W k c).sum) || !YJ (Qc W k c).w 1 20)=false:=g;simp only[I0,I7,Qt] at g';obtain⟨⟨⟨a1,a2⟩,a3⟩,a4⟩:=g';have hk:k=0:=by simpa using g2
   show ((!(Qc W k c).on&&((Qc W k c).v==0))&&((Qc W k c).w==10))=true↔_;simp only[A',IC,It];constructor
   ·rintro⟨⟨e1,e2⟩,e3⟩;exact⟨a1,a2,a3,a4.1,a4.2,λ_=>⟨e1,e2,e3⟩,λfH=>Is hk fH,λfH=>Is hk fH⟩
   ·intro p;have q:=p.root hk;exact⟨⟨q.1,q.2.1⟩,q.2.2⟩
  ·have hk:k≠0:=by simpa using g2
   have g3':(!((Qc W k c).on==(QV W k c && !Uf W k c)))=true:=g3;rw[p.on hk] at g3';simp at g3'
  ·have g':(((!ZM (Qc W k c).floor || !ZM (Qc W k c).v) || !ZM (Qc W k c).sum) || !YJ (Qc W k c).w 1 20)=false:=g;simp only[I0,I7,Qt] at g';obtain⟨⟨⟨a1,a2⟩,a3⟩,a4⟩:=g';have hk:k≠0:=by simpa using g2
   have hon:(Qc W k c).on=(QV W k c && !Uf W k c):=by
    have g3':(!((Qc W k c).on==(QV W k c && !Uf W k c)))=false:=g3
    simpa using g3'
   have hp:=ha.up hu hk;obtain⟨v1,v2,_⟩:=Q5.1 hp;have hpl:=ha.sl hp;have c3:c<((gi W.ID (gi W.ID k).parent).IF.length:Int):=Qo;refine⟨λ_=>h.g.ix v1 v2,_,_,_,λ_=>h.g.RE v1 v2,λ_=>(h.g.IF _ v1 v2).ix ZZ c0 c3,_,λ_=>zna.f (h.g.IF _ v1 v2) c0 c3 (j:=0) rfl,_,λ_=>GC,Ps ?_⟩;show (!(Qc W k c).on||Ke (Qc W k c).v (Qc W (gi W.ID k).parent c).floor (Qc W k c).w)=true↔_;simp only[Iv,IC];constructor
   ·intro e
    exact⟨a1,a2,a3,a4.1,a4.2,λe0=>Is e0 hk,λ_=>hon,λ_ ho=>by
     rcases e with e | e
     ·rw[ho] at e; cases e
     ·exact e⟩
   ·intro p
    cases ho:(Qc W k c).on with
    | false=>exact .inl rfl
    | true=>exact .inr (p.st hk ho)
theorem zju{t:Int}(ht:A6 W t)(hl:ZF W t=true):zxe W (Q8 W t)/\(Q8 W t).state=1:=by
 have hs:(Q8 W t).state=1:=by
  unfold ZF at hl;simp only[A',It] at hl;exact hl.1
 rcases ht with ⟨e,_⟩ | ⟨_,q⟩
 ·omega
 ·exact⟨q,hs⟩
theorem BR{a b:Int}(ha:ZM a=true)(hb:ZM b=true):Ql .i64 (a-b):=by
 have:=Yq.1 ha;have:=Yq.1 hb;exact⟨Qo,Qo⟩
theorem Co{c:Int}(h:Xl bs w W m)(ha:WA W)(hts:∀t:Int,0<=t->t<12->A6 W t)(wD:∀k c:Int,0<=k->k<8->0<=c->c<((gi W.ID k).IF.length:Int)->MX W k c)(c0:0<=c)(c1:c<(W.IE.length:Int))(t0:0<=(gi W.IE c).cur)(t1:(gi W.IE c).cur<(W.tasks.length:Int))(hl:ZF W (gi W.IE c).cur=true) :
  PX bs Od #[.agg (Qa W m).toArray,I c] w (.bool (Mo W c)):=
 CN _ _ _ _ _ _ _ _ _ _ c λwr hx=>by
  have h:=(h.ext hx).less (cs:=[]) Qs;intro _ _;have kG:=ha.t;have cJ:=ha.gl;obtain⟨q,_⟩:=zju (hts _ t0 Qo) hl;have a2:=q.g;obtain⟨u1,u2,_⟩:=Q5.1 a2
  have sl:∀{x:Int},Q6 W.ID x=true->0<=x/\x<(W.ID.length:Int)/\c<((gi W.ID x).IF.length:Int)/\MX W x c:=λ{x} hx=>by
   obtain⟨v1,v2,_⟩:=Q5.1 hx;have e:=ha.sl hx;have c3:c<((gi W.ID x).IF.length:Int):=Qo;exact⟨v1,v2,c3,wD x c v1 Qo c0 c3⟩
  obtain⟨_,_,c2,sp⟩:=sl a2;refine⟨h.c.ix ZT c0 c1,_,_,_,_,_,h.c c c0 c1,λ_ _=>⟨h.t.ix QM t0 t1,_,_,_,_,_,_,_,_,_,h.t _ t0 t1,λ_ _=>⟨h.g.ix u1 u2,_,_,_,h.g.RE u1 u2,(h.g.IF _ u1 u2).ix ZZ c0 c2,_,zna.f (h.g.IF _ u1 u2) c0 c2 (j:=0) rfl,BR q.v sp.f,_,ZP,_,Xo,λg=>?_,λg=>?_⟩⟩⟩
  ·have g:=Ot g;have hd:¬((Q8 W (gi W.IE c).cur).v-(Qc W (Q8 W (gi W.IE c).cur).group c).floor<=Zf (gi W.IE c).aA (Qf (Q8 W (gi W.IE c).cur).nice)):=Int.not_le.2 g;unfold Mo;rw[decide_eq_false hd];rfl
  ·have g:=Ou g
   have hS:Mo W c=TW W (Q8 W (gi W.IE c).cur).group c (gi W.IE c).aA:=by
    have hd:(Q8 W (gi W.IE c).cur).v-(Qc W (Q8 W (gi W.IE c).cur).group c).floor<=Zf (gi W.IE c).aA (Qf (Q8 W (gi W.IE c).cur).nice):=Int.not_lt.1 g;unfold Mo;rw[Ii hd,Bool.true_and]
   rw[hS];refine⟨λvs=>∃x:Int,vs=[I x]/\Q6 W.ID x=true/\TW W x c (gi W.IE c).aA=TW W (Q8 W (gi W.IE c).cur).group c (gi W.IE c).aA,λvs=>(dep 3 W.ID (ZW 0 vs)).toNat,⟨_,rfl,a2,rfl⟩,?_⟩;rintro x ⟨x',he,hux,hI⟩;simp only[I5,I6,true_and,and_true] at he;subst he;refine⟨λhz=>?_,λhz=>?_⟩
   ·have hz:x≠0:=by simpa using hz
    obtain⟨hp,a,b,d,e,e2,hd⟩:=Yd ha.tree hux hz;obtain⟨x1,x2,x3,xs⟩:=sl hux;obtain⟨p1,p2,p3,ps⟩:=sl hp;unfold TW at hI;rw[YI ha.tree hux hz,List.all_cons] at hI
    refine⟨h.g.ix x1 x2,_,_,_,h.g.RE x1 x2,(h.g.IF _ x1 x2).ix ZZ c0 x3,_,_,_,_,_,(h.g.IF _ x1 x2) c c0 x3,λ_ _=>⟨h.g.ix x1 x2,_,h.g.parent x1 x2,h.g.ix p1 p2,_,_,_,h.g.RE p1 p2,(h.g.IF _ p1 p2).ix ZZ c0 p3,_,zna.f (h.g.IF _ p1 p2) c0 p3 (j:=0) rfl,BR xs.v ps.f,_,Xo,λg2=>?_,λg2=>⟨h.g.ix x1 x2,_,h.g.parent x1 x2,⟨_,rfl,hp,?_⟩,by
     show (dep 3 W.ID (gi W.ID x).parent).toNat<(dep 3 W.ID x).toNat;omega⟩⟩⟩
    ·have g2:=Ot g2;have hd:¬((Qc W x c).v-(Qc W (gi W.ID x).parent c).floor<=Zf (gi W.IE c).aA (Qc W x c).w):=Int.not_le.2 g2;rw[decide_eq_false hd,Bool.false_and] at hI;unfold TW;rw[<-hI]
    ·have g2:=Ou g2;have hd:(Qc W x c).v-(Qc W (gi W.ID x).parent c).floor<=Zf (gi W.IE c).aA (Qc W x c).w:=Int.not_lt.1 g2;rw[Ii hd,Bool.true_and] at hI;exact hI
   ·have hz:x=0:=by simpa using hz
    subst hz;unfold TW at hI;rw[show Zb W.ID 0=[] from Zq _ _,List.all_nil] at hI;unfold TW;rw[<-hI]
theorem Fq{t:Int}(ha:WA W)(ht:A6 W t)(hs:(Q8 W t).state=1):Q6 W.ID (Q8 W t).group=true/\0<=(Q8 W t).M'/\(Q8 W t).M'<(W.IE.length:Int):=by
 rcases ht with ⟨e,_⟩ | ⟨_,q⟩
 ·omega
 ·exact⟨q.g,Gb ha q.c⟩
theorem zcn{c:Int}(h:Xl bs w W m)(ha:WA W)(hts:∀t:Int,0<=t->t<12->A6 W t)(wD:∀k c:Int,0<=k->k<8->0<=c->c<((gi W.ID k).IF.length:Int)->MX W k c)(c0:0<=c)(c1:c<(W.IE.length:Int)) :
  PX bs Pj #[.agg (Qa W m).toArray,I c] w (.bool (JI (B9 W c))):=
 zdd _ _ _ _ _ _ _ _ _ _ c λwr hx=>by
  have h:=(h.ext hx).less (cs:=[]) Qs;intro _ _;have kG:=ha.t;refine⟨h.c.ix ZT c0 c1,_,_,_,_,_,h.c c c0 c1,λ_ _=>⟨_,YN,_,λ_=>YN,λ_=>⟨Qo,Qo⟩,_,λ_=>Qr,λg=>LI λp=>?_,λg=>⟨λg2=>Ps ?_,λg2=>?_⟩⟩⟩
  ·have e3:YJ (gi W.IE c).cur (-1) (((W.tasks.length:Nat):Int)-1)=true:=Qt.2 (by have:=p.c1; have:=p.c2; omega);rw[p.b,p.i,e3] at g;cases g
  ·simp only[I0,I7,Qt] at g;obtain⟨⟨a1,a2⟩,a3⟩:=g;have g2:=Ot g2;rw[It];exact⟨λe=>⟨a1,a2,a3.1,Qo,λ_=>e,λhc=>by omega⟩,λp=>p.no g2⟩
  ·simp only[I0,I7,Qt] at g;obtain⟨⟨a1,a2⟩,a3⟩:=g;have g2:=Ou g2;have t0:0<=(gi W.IE c).cur:=Qo;have t1:(gi W.IE c).cur<(W.tasks.length:Int):=Qo;refine⟨_,λ_=>Qr,λ_=>h.t.ix QM t0 t1,_,λ_=>h.t.f t0 t1 (j:=2) rfl,ZF W (gi W.IE c).cur,λ_=>Vr h ha t0 t1 λhs=>Fq ha (hts _ t0 Qo) hs,Mo W c,λg3=>Co h ha hts wD c0 c1 t0 t1 (by simp only[A'] at g3; exact g3.2),Ps ?_⟩;simp only[A',It,Qt];constructor
   ·rintro⟨⟨⟨⟨e1,e2⟩,e3⟩,e4⟩,e5⟩;exact⟨a1,a2,a3.1,Qo,λhc=>by omega,λ_=>⟨e1,e2.1,e2.2,e3,e4,e5⟩⟩
   ·intro p;have q:=p.yes t0;exact⟨⟨⟨⟨q.1,q.2.1,q.2.2.1⟩,q.2.2.2.1⟩,q.2.2.2.2.1⟩,q.2.2.2.2.2⟩
theorem Ur(h:Xl bs w W m)(lc:W.IE.length<=maxLen)(lt:W.tasks.length<=maxLen)(lg:W.ID.length<=maxLen)(hf:∀i:Int,0<=i->i<(W.ID.length:Int)->zie (gi W.ID i)) :
  PX bs X6 #[.agg (Qa W m).toArray] w (.bool (Qy W)):=
 zc8 _ _ _ _ _ _ _ _ _ _ λwr hx=>by
  have h:=(h.ext hx).less (cs:=[]) Qs;intro _ _;have hm9:=XF;refine⟨_,Qr,_,λ_=>Qr,MP W.ID,λ_=>D8 h.g lg,J4 W.IE,λg=>KY h ?_,λg=>LI λp=>?_,λg=>?_⟩
  ·simp only[I0,I7,Qt] at g;omega
  ·have a:=p.a;have e1:YJ W.now 0 100000000000000000=true:=Qt.2 ⟨a.n1,a.n2⟩;have e2:YJ ((W.IE.length:Nat):Int) 1 4=true:=Qt.2 (by have:=a.c1; have:=a.c2; omega);have e3:((W.tasks.length:Nat):Int)=12:=by have:=a.t; omega
   have e5:(J4 W.IE==0)=false:=by simpa using a.wT
   rw[e1,e2,e3,VV.2 a.tree,e5] at g;simp at g
  simp only[I0,I7,Qt,bne_eq_false_iff_eq,beq_eq_false_iff_ne] at g;obtain⟨⟨⟨⟨g1,g2⟩,g3⟩,g4⟩,g5⟩:=g;have ht:=VV.1 g4;have cJ:=ht.len;refine XB W.ID.length 0 rfl (λk=>k<=W.ID.length/\∀j:Int,0<=j->j<(k:Int)->MV W j) ⟨Ie _,λj h0 h1=>by omega⟩ λk ⟨hk,hI⟩=>⟨λIT=>?_,λRN=>?_⟩
  ·have IT:=Ot IT;refine⟨_,N2 h g1.1 Qo IT (hf _ Qo IT),λg6=>LI λp=>?_,λg6=>⟨⟨Qo,Qo⟩,QE Qo ⟨Qo,λj h0 h1=>?_⟩⟩⟩
   ·have g6:JI (MV W (k:Int))=false:=by simpa using g6
    exact Gc.1 g6 (p.a.grp _ Qo Qo)
   ·by_cases iA:j<(k:Int)
    ·exact hI j h0 iA
    ·have:j=(k:Int):=Qo;subst this;exact Qj.1 (by simpa using g6)
  have RN:=Ou RN;have ha:WA W:=⟨g1.1,g1.2,Qo,Qo,Qo,ht,g5,λj h0 h1=>hI j h0 Qo⟩;refine XB W.tasks.length 0 rfl (λk=>k<=W.tasks.length/\∀j:Int,0<=j->j<(k:Int)->A6 W j) ⟨Ie _,λj h0 h1=>by omega⟩ λk2 ⟨vP,hI2⟩=>⟨λIT=>?_,λbK=>?_⟩
  ·have IT:=Ot IT;refine⟨_,Cp h ha Qo IT,λg6=>LI λp=>?_,λg6=>⟨⟨Qo,Qo⟩,QE Qo ⟨Qo,λj h0 h1=>?_⟩⟩⟩
   ·have g6:JI (A6 W (k2:Int))=false:=by simpa using g6
    exact Gc.1 g6 (p.t _ Qo Qo)
   ·by_cases iA:j<(k2:Int)
    ·exact hI2 j h0 iA
    ·have:j=(k2:Int):=Qo;subst this;exact Qj.1 (by simpa using g6)
  have bK:=Ou bK;have hts:∀t:Int,0<=t->t<12->A6 W t:=λt h0 h1=>hI2 t h0 Qo
  refine XB W.ID.length 0 rfl (λk=>k<=W.ID.length/\∀j c:Int,0<=j->j<(k:Int)->0<=c->c<((gi W.ID j).IF.length:Int)->MX W j c) ⟨Ie _,λj c h0 h1=>by omega⟩ λk3 ⟨hk3,hI3⟩=>⟨λIT=>?_,λBw3=>?_⟩
  ·have IT:=Ot IT;have k30:(0:Int)<=(k3:Int):=Qo;refine XB (gi W.ID (k3:Int)).IF.length 0 rfl (λc=>c<=(gi W.ID (k3:Int)).IF.length/\∀d:Int,0<=d->d<(c:Int)->MX W (k3:Int) d) ⟨Ie _,λj h0 h1=>by omega⟩ λc ⟨hc,hJ⟩=>⟨h.g.ix k30 IT,_,_,_,h.g.RE k30 IT,λlU=>?_,λAS7=>?_⟩
   ·have lU:=Ot lU;have hsm:(gi W.ID (k3:Int)).IF.length<=maxLen:=(hf _ k30 IT).sh;refine⟨_,N3 h ha k30 IT Qo lU,λg6=>LI λp=>?_,λg6=>⟨⟨Qo,Qo⟩,QE Qo ⟨Qo,λd h0 h1=>?_⟩⟩⟩
    ·have g6:JI (MX W (k3:Int) (c:Int))=false:=by simpa using g6
     exact Gc.1 g6 (p.s _ _ Qo Qo Qo lU)
    ·by_cases iA:d<(c:Int)
     ·exact hJ d h0 iA
     ·have:d=(c:Int):=Qo;subst this;exact Qj.1 (by simpa using g6)
   ·have AS7:=Ou AS7;refine⟨⟨Qo,Qo⟩,QE Qo ⟨Qo,λj d h0 h1 h2 h3=>?_⟩⟩
    by_cases iA:j<(k3:Int)
    ·exact hI3 j d h0 iA h2 h3
    ·have:j=(k3:Int):=Qo;subst this;exact hJ d h2 Qo
  have Bw3:=Ou Bw3;have wD:∀k c:Int,0<=k->k<8->0<=c->c<((gi W.ID k).IF.length:Int)->MX W k c:=λk c h0 h1 h2 h3=>hI3 k c h0 Qo h2 h3
  refine XB W.IE.length 0 rfl (λk=>k<=W.IE.length/\∀j:Int,0<=j->j<(k:Int)->B9 W j) ⟨Ie _,λj h0 h1=>by omega⟩ λk4 ⟨hk4,hI4⟩=>⟨λIT=>?_,λCb0=>?_⟩
  ·have IT:=Ot IT;refine⟨_,zcn h ha hts wD Qo IT,λg6=>LI λp=>?_,λg6=>⟨⟨Qo,Qo⟩,QE Qo ⟨Qo,λj h0 h1=>?_⟩⟩⟩
   ·have g6:JI (B9 W (k4:Int))=false:=by simpa using g6
    exact Gc.1 g6 (p.c _ Qo IT)
   ·by_cases iA:j<(k4:Int)
    ·exact hI4 j h0 iA
    ·have:j=(k4:Int):=Qo;subst this;exact Qj.1 (by simpa using g6)
  ·have Cb0:=Ou Cb0;exact zm8 ⟨ha,hts,wD,λc h0 h1=>hI4 c h0 Qo⟩
end
theorem Zc{n p:Nat}{vs us:List Va}{k:Nat}(h1:ZW p vs=(k:Int)+1)(h2:ZW p us=(k:Int))(hk:k<n):Xg n p vs<Xg n p us:=by
 unfold Xg;rw[h1,h2];omega
theorem CT{α:Type}[Inhabited α]{l:List α}{p:α->Bool}:l.all p=true↔∀k:Nat,k<l.length->p (gi l (k:Int))=true:=by
 rw[List.all_eq_true];constructor
 ·intro h k hk; exact h _ (zn2 Qo Qo)
 ·intro h x hx;obtain⟨k,hk,rfl⟩:=List.getElem_of_mem hx;rw[<-U8 hk]; exact h k hk
theorem KB{bs:List Nat}{w:Wo}{b:Nat}{l:List Int}{t:TypeId}{fz:Nat×Nat}(h:w.heap[b]? = some (.cells (l.flatMap Jd).toArray t fz))(hb:b∉bs):znf bs w (some ⟨b,0,none⟩) l:=λi h0 hi=>by
 have IT:i.toNat<l.length:=Qo;refine VP h hb (k0:=0) ?_;have:=F6 (enc:=Jd) (z:=1) (λ_=>rfl) l i.toNat 0 IT Qd;rw[Nat.add_zero] at this;rw[Nat.zero_add,this]
 have e:gi l i=l[i.toNat]:=by
  have:=U8 IT
  rwa[show ((i.toNat:Nat):Int)=i by omega] at this
 rw[e]; rfl
theorem N4{l:List Int}{o:OA}{c:Nat}{w:Wo}{bs:List Nat}(h:znf bs w o l)(hl:l.length<=maxLen):PX bs ZJ #[.slice o l.length c] w (.bool (l.all ZM)):=
 zga o l.length c λwr hx=>by
  have h:=(h.ext hx).less (cs:=[]) Qs;refine XB l.length 0 rfl (λk=>k<=l.length/\∀j:Nat,j<k->ZM (gi l (j:Int))=true) ⟨Ie _,λj hj=>Is hj (Nat.not_lt_zero j)⟩ λk ⟨hk,hI⟩=>⟨λIT=>?_,λRN=>?_⟩
  ·have IT:=Ot IT;refine⟨h.ix Jy Qo IT,_,h k Qo IT,_,QN,λg=>?_,λg=>⟨zjm IT hl,QE Qo ⟨Qo,λj hj=>?_⟩⟩⟩
   ·have:l.all ZM=false:=by
     cases hb:l.all ZM with
     | false=>rfl
     | true=>
      have:=CT.1 hb k Qo;unfold ZM at this;rw[this] at g;cases g
    rw[this]
   ·by_cases iA:j<k
    ·exact hI j iA
    ·have:j=k:=Qo;subst this;unfold ZM
     simpa using g
  ·have RN:=Ou RN;have hk:k=l.length:=Qo;subst hk;rw[CT.2 hI]
theorem z27{a:Int}{w:Wo}{b:Nat}{t:TypeId}{fz:Nat×Nat}(h:w.heap[b]? = some (.cells ([I a]:List Va).toArray t fz)):PX [] ZJ #[.slice (some ⟨b,0,none⟩) 1 1] w (.bool (ZM a)):=by
 have:=N4 (l:=[a]) (c:=1) (bs:=[]) (KB h Qs) (by simp[maxLen])
 simpa using this
theorem z3t{a b2:Int}{w:Wo}{b:Nat}{t:TypeId}{fz:Nat×Nat}(h:w.heap[b]? = some (.cells ([I a,I b2]:List Va).toArray t fz)):PX [] ZJ #[.slice (some ⟨b,0,none⟩) 2 2] w (.bool (ZM a&&ZM b2)):=by
 have:=N4 (l:=[a,b2]) (c:=2) (bs:=[]) (KB h Qs) (by simp[maxLen])
 simpa using this
theorem z3h{a b2 b3:Int}{w:Wo}{b:Nat}{t:TypeId}{fz:Nat×Nat}(h:w.heap[b]? = some (.cells ([I a,I b2,I b3]:List Va).toArray t fz)):PX [] ZJ #[.slice (some ⟨b,0,none⟩) 3 3] w (.bool (ZM a&&(ZM b2&&ZM b3))):=by
 have:=N4 (l:=[a,b2,b3]) (c:=3) (bs:=[]) (KB h Qs) (by simp[maxLen])
 simpa using this
theorem zcd{m:Int}{w:Wo}{bs:List Nat}:PX bs U1 #[I m] w (.bool (PE m)):=Ni m λwr hx=>rfl
theorem K7{m:Int}{w:Wo}{bs:List Nat}:PX bs Um #[I m] w (.bool (PE m)):=zf6 m λwr hx=>⟨_,zcd,rfl⟩
theorem Lj{m:Int}{w:Wo}{bs:List Nat}:PX bs UG #[I m] w (.bool ((m != 0)&&PE m)):=Cx m λwr hx=>⟨_,λ_=>K7,rfl⟩
theorem zxz:∀(m:Fin 16) (c:Fin 4),(TA .and .i64 (Int.fdiv (m.val:Int) (2 ^ (min (Int.toNat (c.val:Int)) 64))) 1==1)=(Int.tmod (Int.fdiv (m.val:Int) (2 ^ (min (Int.toNat (c.val:Int)) 64))) 2==1):=by decide +kernel
theorem zcc{m c:Int}{w:Wo}{bs:List Nat}:PX bs JB #[I m,I c] w (.bool (Z0 m c)):=
 FD m c λwr hx=>by
  refine⟨_,zcd,_,λ_=>QN,λg=>?_,?_⟩
  ·simp only[A'] at g;exact(Qt.1 g.2).1
  ·unfold Z0
   cases h1:PE m with
   | false=>rfl
   | true=>
    cases h2:YJ c 0 3 with
    | false=>rfl
    | true=>
     obtain⟨x,rfl⟩:=MI h1;have:=Qt.1 h2;have e:=zxz x ⟨c.toNat,Qo⟩;rw[show ((⟨c.toNat,Qo⟩:Fin 4).val:Int)=c by show ((c.toNat:Nat):Int)=c; omega] at e;rw[e]
theorem Gv{m c:Int}{w:Wo}{bs:List Nat}:PX bs Vg #[I m,I c] w (.bool (Z0 m c)):=zc2 m c λwr hx=>⟨_,zcc,rfl⟩
theorem Mb{a b:Int}{w:Wo}{bs:List Nat}:PX bs JJ #[I a,I b] w (I (Tt a b)):=
 zc1 a b λwr hx=>by
  refine⟨_,K7,_,λ_=>K7,λg=>?_,λg=>?_⟩
  ·rw[Xp]; simpa using g
  ·simp only[I0,I7] at g;rw[OB g.1 g.2]
theorem Li{b:Js}{m:MG}{w:Wo}{bs:List Nat}:PX bs UE #[.agg (QZ b m).toArray] w (.bool (Ol b)):=
 Cu b.IY b.RJ b.Sy m.lO b.locals.length m.lC m.dO b.Ry.length m.dC λwr hx=>λ_ _=>rfl
theorem BV{g:ZN}{m:MG}{w:Wo}{bs:List Nat}(hu:g.used=false):PX bs T5 #[.agg (Yt g m).toArray] w (.bool (JI (zts g))):=
 Nk g.used g.parent g.name g.weight g.IE g.period g.next g.sum g.IN.IY g.IN.RJ g.IN.Sy m.lO g.IN.locals.length m.lC m.dO g.IN.Ry.length m.dC m.sO g.IF.length m.sC λwr hx=>by
  intro _ _;refine⟨_,λ_=>Li (b:=g.IN) (m:=m),Ps ?_⟩;simp only[hu,Bool.not_false,Bool.true_and,A',It,UL];constructor
  ·rintro⟨⟨⟨⟨⟨⟨⟨⟨e1,e2⟩,e3⟩,e4⟩,e5⟩,e6⟩,e7⟩,e9⟩,e8⟩;exact⟨e1,e2,e3,e4,e5,e6,e7,Qo,e9⟩
  ·intro q;exact⟨⟨⟨⟨⟨⟨⟨⟨q.p,q.n⟩,q.w⟩,q.c⟩,q.pe⟩,q.ne⟩,q.s⟩,q.b⟩,by have:=q.l; omega⟩
theorem zfl{b:Js}{m:MG}{w:Wo}{bs:List Nat}(h1:znf bs w m.lO b.locals)(h2:ztv bs w m.dO b.Ry)(hl:b.locals.length<=maxLen):PX bs PU #[.agg (QZ b m).toArray] w (.bool (JI (UP b))):=
 zf4 b.IY b.RJ b.Sy m.lO b.locals.length m.lC m.dO b.Ry.length m.dC λwr hx=>by
  have h1:=(h1.ext hx).less (cs:=[]) Qs;have h2:=(h2.ext hx).less (cs:=[]) Qs;intro _ _;refine⟨_,QN,_,λ_=>QN,λg=>LI λp=>?_,λg=>⟨_,QN,_,λ_=>QN,λg'=>LI λp=>?_,λg'=>?_⟩⟩
  ·rw[Qt.2 ⟨p.q1,p.q2⟩,Qt.2 (by have:=p.l1; have:=p.l2; omega),p.dl] at g;simp at g
  ·rw[Qt.2 ⟨p.p1,p.p2⟩,Qt.2 ⟨p.s1,p.s2⟩] at g'
   cases g'
  ·simp only[I0,I7,bne_eq_false_iff_eq,Qt] at g g';obtain⟨⟨g1,g2⟩,g3⟩:=g;obtain⟨g4,g5⟩:=g';have hdl:b.Ry.length=b.locals.length:=Qo
   have all:∀{k:Nat},k<=b.locals.length->(∀c:Int,0<=c->c<(k:Int)->0<=gi b.locals c/\gi b.locals c<=b.IY/\(gi b.Ry c=true->gi b.locals c=0/\b.RJ=0))->0<=Vc b.locals k/\Vc b.locals k<=40000:=λ{k} hk h=>by
    have key:∀j:Nat,j<=k->0<=Vc b.locals j/\Vc b.locals j<=(j:Int)*10000:=λj=>by
     induction j with
     | zero=>intro _; simp[Vc]
     | succ j ih=>
      intro hj;have:=ih Qo;have:=h (j:Int) Qo Qo;simp only[Vc]; omega
    have:=key k (I8 _);omega
   refine⟨⟨Qo,Qo⟩,?_⟩;refine P3 b.locals.length 0 rfl (λx k=>k<=b.locals.length/\x=b.RJ+b.Sy+Vc b.locals k/\∀c:Int,0<=c->c<(k:Int)->0<=gi b.locals c/\gi b.locals c<=b.IY/\(gi b.Ry c=true->gi b.locals c=0/\b.RJ=0)) ⟨Ie _,by simp[Vc],λc h0 h1=>by omega⟩ λx k ⟨hk,R3,hI⟩=>⟨λIT=>?_,λRN=>?_⟩
   ·have IT:=Ot IT;have RM:(k:Int)<(b.Ry.length:Int):=Qo;have hsr:=all hk hI;refine⟨h1.ix Jy Qo IT,_,h1 k Qo IT,_,QN,λ_=>h2.ix DF Qo RM,_,λ_=>h2 k Qo RM,λg=>LI λp=>?_,λg=>?_⟩
    ·have pe:=p.each (k:Int) Qo IT;rw[Qt.2 ⟨pe.1,pe.2.1⟩] at g;simp only[Bool.not_true,Bool.false_or,A',Iv,Iu] at g;have:=pe.2.2 g.1;rcases g.2 with h | h
     ·exact h this.1
     ·exact h this.2
    ·simp only[I0,I7,Qt] at g;obtain⟨ga,gb⟩:=g;refine⟨⟨Qo,Qo⟩,⟨Qo,Qo⟩,QK Qo ⟨Qo,by simp only[Vc]; omega,λc hc0 hc=>?_⟩⟩
     by_cases hck:c<(k:Int)
     ·exact hI c hc0 hck
     ·have:c=(k:Int):=Qo;subst this;refine⟨ga.1,ga.2,λhd=>?_⟩;rw[hd] at gb;simp only[Bool.true_and,I0,bne_eq_false_iff_eq] at gb;exact gb
   ·have RN:=Ou RN;have:k=b.locals.length:=Qo;subst this;refine Ps ?_;rw[It,R3];constructor
    ·intro hs;exact⟨g1.1,g1.2,Qo,Qo,hdl,g4.1,g4.2,g5.1,g5.2,hI,hs⟩
    ·exact λp=>p.sum
def zwo(v f k:Int):Bool:=decide (v>=f)&&decide (v-f<=ZB k)
theorem zzm{a b:Int}(ha:ZM a=true)(hb:ZM b=true):IntKind.i64.wrap (a-b)=a-b:=(BR ha hb).wrap
theorem zwp{v f k:Int}(hv:ZM v=true)(hf:ZM f=true):Ke v f k=zwo v f k:=by unfold Ke zwo; rw[zzm hv hf]
theorem Gx{v f k:Int}{w:Wo}{bs:List Nat}(h:ZM v=true)(hf:ZM f=true):PX bs T8 #[I v,I f,I k] w (.bool (Ke v f k)):=by
 rw[zwp h hf];exact zf9 v f k λwr hx=>⟨λ_=>BR h hf,_,λ_=>Gu,rfl⟩
theorem zfr{n:Int}{w:Wo}{bs:List Nat}:PX bs M0 #[I n] w (.bool (YJ n 0 8000000)):=zf7 n λwr hx=>⟨_,QN,rfl⟩
structure Mu (bs:List Nat) (w:Wo) (p:OA) (W:Q7) (m:MW):Prop where
 cs:Q1 bs w p 0 (Qa W m)
 rd:Xl bs w W m
theorem zba{bs:List Nat}{w:Wo}{o:OA}{n:Nat}{vs:List Va}(h:Q1 bs w o n vs){j:Nat}{v:Va}(hj:vs[j]? = some v):Q1 bs w (o.map (·.add n)) (0+j) [v]:=by
 obtain⟨a,ha,hb,hc⟩:=h.get j v hj;refine XZ ⟨a.add n,by rw[ha]; rfl,by rw[Zu]; exact hb,?_⟩;rw[Jc,Nat.zero_add]; exact hc
theorem GW{bs:List Nat}{w:Wo}{o:OA}{n k:Nat}{v:Va}{r:List Va}(h:Q1 bs w o k (v::r)):(o.map (·.add n)).isSome=true:=by
 have:=h.some
 cases o with
 | none=>cases this
 | some a=>rfl
section
variable {W:Q7}{m:MW}{w w':Wo}{bs cs:List Nat}{p:OA}
theorem Mu.ext(h:Mu bs w p W m)(hx:Q0 bs w w'):Mu bs w' p W m:=⟨h.cs.ext hx,h.rd.ext hx⟩
theorem Mu.less(h:Mu bs w p W m)(hs:∀x∈cs,x∈bs):Mu cs w p W m:=⟨h.cs.less hs,h.rd.less hs⟩
theorem Mu.some(h:Mu bs w p W m):p.isSome=true:=by
 have h1:=h.cs.get 0 _ (rfl:(Qa W m)[0]? = Option.some (I W.now));obtain⟨a,rfl,_⟩:=h1;rfl
theorem Mu.c(h:Mu bs w p W m){j:Nat}{v:Va}(hj:(Qa W m)[j]? = Option.some v):Q1 bs w p (0+j) [v]:=XZ (h.cs.get j v hj)
theorem Mu.now(h:Mu bs w p W m):Q1 bs w p (0+0) [I W.now]:=h.c rfl
theorem Mu.IE(h:Mu bs w p W m):Q1 bs w p (0+1) [.slice m.cO W.IE.length m.cC]:=h.c rfl
theorem Mu.tasks(h:Mu bs w p W m):Q1 bs w p (0+2) [.slice m.tO W.tasks.length m.tC]:=h.c rfl
theorem Mu.ID(h:Mu bs w p W m):Q1 bs w p (0+3) [.slice m.gO W.ID.length m.gC]:=h.c rfl
def zxa(m:MW)(g c:Int):OA:=(m.ms g.toNat).sO.map (·.add (Int.toNat c*5))
theorem Mu.sh(h:Mu bs w p W m){g c:Int}(g0:0<=g)(g1:g<(W.ID.length:Int))(c0:0<=c)(c1:c<((gi W.ID g).IF.length:Int)):(zxa m g c).isSome=true/\∀{j:Nat} {v:Va},(PS (Qc W g c))[j]? = Option.some v->Q1 bs w (zxa m g c) (0+j) [v]:=
 ⟨GW (h.rd.g.IF g g0 g1 c c0 c1),λ{j v} hj=>zba (h.rd.g.IF g g0 g1 c c0 c1) hj⟩
theorem XO{c:Int}:PX bs Zd #[.pointer p,I c] w (.agg #[.pointer p,I c]):=Fz p c λwr hx=>λ_ _=>rfl
theorem Zv{g c:Int}(h:Mu bs w p W m)(g0:0<=g)(g1:g<(W.ID.length:Int))(c0:0<=c)(c1:c<((gi W.ID g).IF.length:Int)):PX bs QB #[.agg #[.pointer p,I c],I g] w (.pointer (zxa m g c)):=
 FF p c g λwr hx=>by
  have h:=(h.ext hx).less (cs:=[]) Qs;exact λ_ _=>⟨h.some,_,_,_,h.ID,h.rd.g.ix g0 g1,_,_,_,h.rd.g.RE g0 g1,(h.rd.g.IF g g0 g1).ix ZZ c0 c1,rfl⟩
theorem Mc{c:Int}(h:Mu bs w p W m)(c0:0<=c)(c1:c<(W.IE.length:Int)):PX bs Yn #[.agg #[.pointer p,I c]] w (.pointer (m.cO.map (·.add (Int.toNat c*5)))):=
 Cv p c λwr hx=>by
  have h:=(h.ext hx).less (cs:=[]) Qs;exact λ_ _=>⟨h.some,_,_,_,h.IE,h.rd.c.ix ZT c0 c1,rfl⟩
theorem C8{c:Int}(h:Mu bs w p W m)(hl:W.IE.length<=maxLen):PX bs Jz #[.pointer p,I c] w (.bool (YJ c 0 ((W.IE.length:Int)-1))):=
 LJ p c λwr hx=>by
  have h:=(h.ext hx).less (cs:=[]) Qs;have:=XF;exact⟨h.some,_,_,_,h.IE,⟨Qo,Qo⟩,_,QN,rfl⟩
theorem BX{t:Int}(h:Mu bs w p W m)(hl:W.tasks.length<=maxLen):PX bs Jg #[.pointer p,I t] w (.bool (YJ t 0 ((W.tasks.length:Int)-1)&&((Q8 W t).state != 0))):=
 L4 p t λwr hx=>by
  have h:=(h.ext hx).less (cs:=[]) Qs;have:=XF;have hr:YJ t 0 ((W.tasks.length:Int)-1)=true->0<=t/\t<(W.tasks.length:Int):=λg=>by have:=Qt.1 g; omega
  exact⟨h.some,_,_,_,h.tasks,⟨Qo,Qo⟩,_,QN,λ_=>h.some,_,_,_,λ_=>h.tasks,λg=>h.rd.t.ix QM (hr g).1 (hr g).2,_,λg=>h.rd.t.f (hr g).1 (hr g).2 (j:=0) rfl,rfl⟩
theorem Oz(h:Mu bs w p W m)(h4:W.IE.length<=4):PX bs Ym #[.pointer p] w (I (J4 W.IE)):=
 HQ p λwr hx=>by
  have h:=(h.ext hx).less (cs:=[]) Qs;refine⟨h.some,_,_,_,h.IE,?_⟩;refine P3 W.IE.length 0 rfl (λx k=>k<=W.IE.length/\x=Vd W.IE k) ⟨Ie _,rfl⟩ λx k ⟨hk,R3⟩=>⟨λIT=>?_,λRN=>?_⟩
  ·have IT:=Ot IT;have hb:=BB (k:=k) Qo;have hl:=Hs W.IE k Qo;have fQ:(1*2 ^ (min (Int.toNat (k:Int)) 64):Int)=Ue k:=rfl;refine⟨h.rd.c.ix ZT Qo IT,_,_,_,_,_,h.rd.c k Qo IT,λ_ _=>⟨λhu=>?_,λhu=>?_⟩⟩
   ·rw[fQ,R3,z1h Qo hl.1 hl.2];refine⟨⟨Qo,Qo,Qo⟩,⟨Qo,Qo⟩,QK Qo ⟨Qo,?_⟩⟩;simp only[Vd]; rw[E' hu]
   ·refine⟨⟨Qo,Qo⟩,QK Qo ⟨Qo,?_⟩⟩;rw[R3]; simp only[Vd]; rw[C' (by rw[hu]; decide)]
  ·have RN:=Ou RN;have:k=W.IE.length:=Qo;subst this;rw[R3]; rfl
theorem zlu{g:Int}(h:Mu bs w p W m)(h4:W.IE.length<=4)(ht:Yc W.ID)(hu:Q6 W.ID g=true):PX bs Vy #[.pointer p,I g] w (I (VX W.ID g (J4 W.IE))):=
 FA p g λwr hx=>by
  have h:=(h.ext hx).less (cs:=[]) Qs;have hr:Q6 W.ID 0=true:=Q5.2 ⟨Qd,by have:=ht.len; omega,ht.ru⟩;obtain⟨r1,r2,_⟩:=Q5.1 hr;refine⟨_,Oz h h4,λvs=>∃(x s:Int),vs=[I x,I s]/\Q6 W.ID x=true/\VX W.ID x s=VX W.ID g (J4 W.IE),λvs=>(dep 3 W.ID (ZW 0 vs)).toNat,⟨g,_,rfl,hu,rfl⟩,?_⟩;rintro x s ⟨x',s',he,hux,hI⟩;simp only[I5,I6,true_and,and_true] at he;obtain⟨rfl,rfl⟩:=he;refine⟨λhz=>?_,λhz=>?_⟩
  ·have hz:x≠0:=by simpa using hz
   obtain⟨hp,a,b,d,e,e2,hd⟩:=Yd ht hux hz;unfold VX at hI;rw[YI ht hux hz,List.cons_append,List.foldl_cons] at hI
   exact⟨h.some,_,_,_,h.ID,h.rd.g.ix a b,_,h.rd.g.IE a b,_,Mb,h.some,_,_,_,h.ID,h.rd.g.ix a b,_,h.rd.g.parent a b,⟨_,_,rfl,hp,hI⟩,by
    show (dep 3 W.ID (gi W.ID x).parent).toNat<(dep 3 W.ID x).toNat;omega⟩
  ·have hz:x=0:=by simpa using hz
   subst hz;unfold VX at hI;rw[show Zb W.ID 0=[] from Zq _ _] at hI;refine⟨h.some,_,_,_,h.ID,h.rd.g.ix r1 r2,_,h.rd.g.IE r1 r2,_,Mb,?_⟩;unfold VX;rw[<-hI]; rfl
theorem BU{g mask:Int}(h:Mu bs w p W m)(h4:W.IE.length<=4)(ht:Yc W.ID)(hu:Q6 W.ID g=true):PX bs Jf #[.pointer p,I mask,I g] w (I (Qw W g mask)):=
 L2 p mask g λwr hx=>by
  have h:=(h.ext hx).less (cs:=[]) Qs;refine⟨_,zlu h h4 ht hu,_,Mb,λg1=>?_,λg1=>⟨λg2=>?_,λg2=>⟨_,Oz h h4,?_⟩⟩⟩
  ·unfold Qw; rw[E' (by simpa using g1)]
  ·unfold Qw; rw[C' (by simpa using g1),E' (by simpa using g2)]
  ·unfold Qw; rw[C' (by simpa using g1),C' (by simpa using g2)]
theorem Gw{t:Int}(h:Mu bs w p W m)(h4:W.IE.length<=4)(ht:Yc W.ID)(t0:0<=t)(t1:t<(W.tasks.length:Int))(hu:Q6 W.ID (Q8 W t).group=true):PX bs Xr #[.pointer p,I t] w (I (Qw W (Q8 W t).group (Q8 W t).mask)):=
 GM p t λwr hx=>by
  have h:=(h.ext hx).less (cs:=[]) Qs;exact⟨h.some,_,_,_,h.tasks,h.rd.t.ix QM t0 t1,_,h.rd.t.f t0 t1 (j:=4) rfl,h.some,_,_,_,h.tasks,h.rd.t.ix QM t0 t1,_,h.rd.t.f t0 t1 (j:=1) rfl,_,BU h h4 ht hu,rfl⟩
theorem D3{t c g:Int}(h:Mu bs w p W m)(t0:0<=t)(t1:t<(W.tasks.length:Int)):PX bs Jb #[.agg #[.pointer p,I c],I t,I g] w (.bool (OO W g c t.toNat)):=
 E1 p c t g λwr hx=>by
  have h:=(h.ext hx).less (cs:=[]) Qs;refine λ_ _=>⟨h.some,_,_,_,h.tasks,h.rd.t.ix QM t0 t1,_,_,_,_,_,_,_,_,_,h.rd.t t t0 t1,λ_ _=>?_⟩
  unfold OO;rw[show ((t.toNat:Nat):Int)=t by omega]
theorem Fc{k c g:Int}(h:Mu bs w p W m)(ha:WA W)(k0:0<=k)(k1:k<(W.ID.length:Int))(c0:0<=c)(c1:c<(W.IE.length:Int)):PX bs JC #[.agg #[.pointer p,I c],I k,I g] w (.bool (J8 W g c k.toNat)):=
 FE p c k g λwr hx=>by
  have h:=(h.ext hx).less (cs:=[]) Qs
  have hc:(((k != 0)&&(gi W.ID k).used)&&((gi W.ID k).parent==g))=true->c<((gi W.ID k).IF.length:Int):=λq=>by
   simp only[A'] at q;rw[ha.sl (Q5.2 ⟨k0,k1,q.1.2⟩)]; exact c1
  refine λ_ _=>⟨λ_=>h.some,_,_,_,λ_=>h.ID,λ_=>h.rd.g.ix k0 k1,_,λ_=>h.rd.g.used k0 k1,λ_=>h.some,_,_,_,λ_=>h.ID,λ_=>h.rd.g.ix k0 k1,_,λ_=>h.rd.g.parent k0 k1,zxa m k c,λq=>Zv h k0 k1 c0 (hc q),λq=>(h.sh k0 k1 c0 (hc q)).1,(Qc W k c).on,λq=>(h.sh k0 k1 c0 (hc q)).2 (j:=1) rfl,?_⟩
  unfold J8;rw[show ((k.toNat:Nat):Int)=k by omega]
  have e:decide (1<=k.toNat)=(k != 0):=by
   by_cases hk:k=0
   ·subst hk; rfl
   ·rw[Ii Qo,Iu.2 hk]
  rw[e,Bool.and_assoc,Bool.and_assoc,Bool.and_assoc,Bool.and_assoc]
theorem K8{g c:Int}(h:Mu bs w p W m)(ha:WA W)(c0:0<=c)(c1:c<(W.IE.length:Int)):PX bs X8 #[.agg #[.pointer p,I c],I g] w (.bool (QV W g c)):=
 DZ p c g λwr hx=>by
  have h:=(h.ext hx).less (cs:=[]) Qs;have cJ:=ha.gl;have ht:=ha.t;refine λ_ _=>⟨h.some,_,_,_,h.tasks,?_⟩
  refine XB W.tasks.length 0 rfl (λk=>k<=W.tasks.length/\∀j:Nat,j<k->OO W g c j=false) ⟨Ie _,λj hj=>Is hj (Nat.not_lt_zero j)⟩ λk ⟨hk,hI⟩=>⟨λIT=>?_,λRN=>?_⟩
  ·have IT:=Ot IT;refine⟨_,D3 h Qo IT,λhy=>?_,λhn=>⟨⟨Qo,Qo⟩,QE Qo ⟨Qo,λj hj=>?_⟩⟩⟩
   ·rw[Ih] at hy;unfold QV;rw[Dv.2 ⟨k,Qo,hy⟩]; rfl
   ·by_cases iA:j<k
    ·exact hI j iA
    ·have:j=k:=Qo;subst this
     rwa[Ih] at hn
  ·have RN:=Ou RN;have lA:TF (OO W g c) W.tasks.length=false:=zit λj hj=>hI j Qo
   refine⟨h.some,_,_,_,h.ID,?_⟩;refine XB W.ID.length 0 rfl (λk=>k<=W.ID.length/\∀j:Nat,j<k->J8 W g c j=false) ⟨Ie _,λj hj=>Is hj (Nat.not_lt_zero j)⟩ λk ⟨hk,hI⟩=>⟨λIT=>?_,λRN=>?_⟩
   ·have IT:=Ot IT;refine⟨_,Fc h ha Qo IT c0 c1,λhy=>?_,λhn=>⟨⟨Qo,Qo⟩,QE Qo ⟨Qo,λj hj=>?_⟩⟩⟩
    ·rw[Ih] at hy;unfold QV;rw[Dv.2 ⟨k,Qo,hy⟩,Bool.or_true]
    ·by_cases iA:j<k
     ·exact hI j iA
     ·have:j=k:=Qo;subst this
      rwa[Ih] at hn
   ·have RN:=Ou RN;have:TF (J8 W g c) W.ID.length=false:=zit λj hj=>hI j Qo
    unfold QV;rw[lA,this]; rfl
theorem zcb{g c:Int}(h:Mu bs w p W m)(ha:WA W)(hu:Q6 W.ID g=true)(c0:0<=c)(c1:c<(W.IE.length:Int)):PX bs UF #[.agg #[.pointer p,I c],I g] w (.bool (Uf W g c)):=
 Cw p c g λwr hx=>by
  have h:=(h.ext hx).less (cs:=[]) Qs;obtain⟨u1,u2,_⟩:=Q5.1 hu
  have hd:(decide ((gi W.ID g).IN.IY>0))=true->c<((gi W.ID g).IN.Ry.length:Int):=λg1=>by
   have:=Ot g1;rw[(ha.dl hu Qo).1]; exact c1
  exact λ_ _=>⟨h.some,_,_,_,h.ID,h.rd.g.ix u1 u2,_,_,_,_,_,_,_,_,_,h.rd.g.IN u1 u2,λ_ _=>⟨λg1=>(h.rd.g.Ry g u1 u2).ix DF c0 (hd g1),_,λg1=>(h.rd.g.Ry g u1 u2) c c0 (hd g1),rfl⟩⟩
theorem D1{t c:Int}(h:Mu bs w p W m)(ha:WA W)(t0:0<=t)(t1:t<(W.tasks.length:Int))(c0:0<=c)(c1:c<(W.IE.length:Int))(hu:(Q8 W t).state=1->Q6 W.ID (Q8 W t).group=true) :
  PX bs Ja #[.agg #[.pointer p,I c],I t] w (.bool (((Q8 W t).M'==c)&&ZF W t)):=
 E0 p c t λwr hx=>by
  have h:=(h.ext hx).less (cs:=[]) Qs;refine λ_ _=>⟨h.some,_,_,_,h.tasks,h.rd.t.ix QM t0 t1,_,_,_,_,_,_,_,_,_,h.rd.t t t0 t1,λ_ _=>⟨λg=>?_,λg=>?_⟩⟩
  ·have g':(((Q8 W t).state != 1)||((Q8 W t).M' != c))=true:=g
   have:(((Q8 W t).M'==c)&&ZF W t)=false:=by
    unfold ZF;simp only[Iv,Iu] at g';rcases g' with e | e
    ·rw[beq_eq_false_iff_ne.2 e,Bool.false_and,Bool.and_false]
    ·rw[beq_eq_false_iff_ne.2 e,Bool.false_and]
   rw[this]
  ·have g':(((Q8 W t).state != 1)||((Q8 W t).M' != c))=false:=g;simp only[I0,bne_eq_false_iff_eq] at g';obtain⟨hs,hc⟩:=g';have hug:=hu hs
   have hL:(((Q8 W t).M'==c)&&ZF W t)=V6 W (Q8 W t).group c:=by
    unfold ZF; rw[It.2 hs,It.2 hc,Bool.true_and,Bool.true_and,hc]
   rw[hL];refine⟨λvs=>∃x:Int,vs=[I x]/\Q6 W.ID x=true/\V6 W x c=V6 W (Q8 W t).group c,λvs=>(dep 3 W.ID (ZW 0 vs)).toNat,⟨_,rfl,hug,rfl⟩,?_⟩;rintro x ⟨x',he,hux,hI⟩;simp only[I5,I6,true_and,and_true] at he;subst he;refine⟨λhz=>?_,λhz=>?_⟩
   ·have hz:x≠0:=by simpa using hz
    obtain⟨hp,a,b,d,e,e2,hd⟩:=Yd ha.tree hux hz;have wA:c<((gi W.ID x).IF.length:Int):=by rw[ha.sl hux]; exact c1
    unfold V6 at hI;rw[YI ha.tree hux hz,List.all_cons] at hI
    refine⟨_,Zv h a b c0 wA,(h.sh a b c0 wA).1,_,(h.sh a b c0 wA).2 (j:=1) rfl,λg2=>?_,λg2=>⟨h.some,_,_,_,h.ID,h.rd.g.ix a b,_,h.rd.g.parent a b,⟨_,rfl,hp,?_⟩,by
     show (dep 3 W.ID (gi W.ID x).parent).toNat<(dep 3 W.ID x).toNat;omega⟩⟩
    ·have g2:(Qc W x c).on=false:=by simpa using g2
     rw[g2,Bool.false_and] at hI;unfold V6;rw[<-hI]
    ·have g2:(Qc W x c).on=true:=by simpa using g2
     rw[g2,Bool.true_and] at hI;exact hI
   ·have hz:x=0:=by simpa using hz
    subst hz;unfold V6 at hI;rw[show Zb W.ID 0=[] from Zq _ _,List.all_nil] at hI;unfold V6;rw[<-hI]
end
structure zw7 (W:Q7):Prop where
 n1:0<=W.now
 n2:W.now<=100000000000000000
 c1:1<=W.IE.length
 c2:W.IE.length<=4
 t:W.tasks.length=12
 tree:Yc W.ID
 wT:J4 W.IE≠0
structure z15 (W:Q7) (g:ZN):Prop where
 none:g.IN.IY=0->Ol g.IN=true/\g.period=0/\g.next=0
 IN:g.IN.IY≠0->UP g.IN/\g.IN.locals.length=W.IE.length/\1<=g.period/\g.period<=1000/\W.now<g.next/\g.next-W.now<=g.period
structure z13 (W:Q7) (g:ZN):Prop where
 w1:1<=g.weight
 w2:g.weight<=20
 m:PE g.IE=true
 m0:g.IE≠0
 s:ZM g.sum=true
 len:g.IF.length=W.IE.length
 q:z15 W g
def zxb(W:Q7)(k:Int):Prop:=((gi W.ID k).used=false->zts (gi W.ID k))/\((gi W.ID k).used=true->z13 W (gi W.ID k))
theorem F8{W:Q7}{k:Int}:MV W k↔zxb W k/\((gi W.ID k).used=true->k=0->(gi W.ID k).weight=10/\(gi W.ID k).IE=15/\(gi W.ID k).IN.IY=0):=by
 constructor
 ·intro p;exact⟨⟨p.1,λhu=>by have q:=p.2 hu; exact⟨q.w1,q.w2,q.m,q.m0,q.s,q.len,⟨q.none,q.IN⟩⟩⟩,λhu=>(p.2 hu).root⟩
 ·rintro⟨p,r⟩;exact⟨p.1,λhu=>by have q:=p.2 hu; exact⟨q.w1,q.w2,q.m,q.m0,q.s,q.len,r hu,q.q.none,q.q.IN⟩⟩
section
variable {W:Q7}{m:MW}{w:Wo}{bs:List Nat}{p:OA}
theorem zce{k:Int}(h:Mu bs w p W m)(n1:0<=W.now)(n2:W.now<=100000000000000000)(k0:0<=k)(k1:k<(W.ID.length:Int))(hf:zie (gi W.ID k)) :
  PX bs Xs #[.pointer p,.agg (Yt (gi W.ID k) (m.ms k.toNat)).toArray] w (.bool (JI (z15 W (gi W.ID k)))):=
 GN p (gi W.ID k).used (gi W.ID k).parent (gi W.ID k).name (gi W.ID k).weight (gi W.ID k).IE (gi W.ID k).period (gi W.ID k).next (gi W.ID k).sum (gi W.ID k).IN.IY (gi W.ID k).IN.RJ (gi W.ID k).IN.Sy (m.ms k.toNat).lO (gi W.ID k).IN.locals.length (m.ms k.toNat).lC (m.ms k.toNat).dO (gi W.ID k).IN.Ry.length (m.ms k.toNat).dC (m.ms k.toNat).sO (gi W.ID k).IF.length (m.ms k.toNat).sC λwr hx=>by
  have h:=(h.ext hx).less (cs:=[]) Qs
  have hp:((JI (UP (gi W.ID k).IN)&&(((gi W.ID k).IN.locals.length:Nat):Int)==((W.IE.length:Nat):Int))&&YJ (gi W.ID k).period 1 1000)=true->1<=(gi W.ID k).period/\(gi W.ID k).period<=1000:=λq=>by
   simp only[A'] at q;exact Qt.1 q.2
  refine λ_ _=>⟨_,Li (b:=(gi W.ID k).IN) (m:=m.ms k.toNat),λg=>Ps ?_,λg=>⟨_,zfl (b:=(gi W.ID k).IN) (m:=m.ms k.toNat) (h.rd.g.locals k k0 k1) (h.rd.g.Ry k k0 k1) hf.lo,λ_=>h.some,_,_,_,λ_=>h.IE,_,λ_=>QN,λ_=>h.some,_,λ_=>h.now,λ_=>⟨Qo,Qo⟩,λ_=>h.some,_,λ_=>h.now,λq=>⟨by have:=hp q; omega,by have:=hp q; omega⟩,_,λ_=>QN,Ps ?_⟩⟩
  ·have q0:=(GJ g).1;simp only[A',It];exact⟨λe=>⟨λ_=>⟨g,e.1,e.2⟩,λfH=>Is q0 fH⟩,λq=>(q.none q0).2⟩
  ·simp only[A',It,Qj,Qt];constructor
   ·rintro⟨⟨⟨e1,e2⟩,e3⟩,e4⟩;have:=e1.q1;exact⟨λhz=>by omega,λ_=>⟨e1,Qo,e3.1,e3.2,Qo,Qo⟩⟩
   ·intro q
    have hq:(gi W.ID k).IN.IY≠0:=λe=>by
     have:=(q.none e).1;rw[this] at g; cases g
    have r:=q.IN hq;exact⟨⟨⟨r.1,by have:=r.2.1; omega⟩,r.2.2.1,r.2.2.2.1⟩,by have:=r.2.2.2.2.1; omega,by have:=r.2.2.2.2.2; omega⟩
theorem C9(h:Mu bs w p W m)(hs:zw7 W)(hf:∀i:Int,0<=i->i<(W.ID.length:Int)->zie (gi W.ID i)):PX bs Xb #[.pointer p] w (.bool (JI (∀k:Int,0<=k->k<8->MV W k))):=
 LK p λwr hx=>by
  have h:=(h.ext hx).less (cs:=[]) Qs;have cJ:=hs.tree.len;refine⟨h.some,_,_,_,h.ID,?_⟩;refine XB W.ID.length 0 rfl (λk=>k<=W.ID.length/\∀j:Int,0<=j->j<(k:Int)->zxb W j) ⟨Ie _,λj h0 h1=>by omega⟩ λk ⟨hk,hI⟩=>⟨λIT=>?_,λRN=>?_⟩
  ·have IT:=Ot IT;have k0:(0:Int)<=(k:Int):=Qo
   have nxt:zxb W (k:Int)->∀j:Int,0<=j->j<((k+1:Nat):Int)->zxb W j:=λhq j h0 h1=>by
    by_cases iA:j<(k:Int)
    ·exact hI j h0 iA
    ·have:j=(k:Int):=Qo;subst this; exact hq
   refine⟨h.rd.g.ix k0 IT,_,_,_,_,_,_,_,_,_,_,_,_,_,_,_,_,_,_,_,_,h.rd.g.cells k k0 IT,λ_ _=>⟨λg=>?_,λg=>?_⟩⟩
   ·have hu:(gi W.ID (k:Int)).used=false:=by simpa using g
    refine⟨_,BV (g:=gi W.ID (k:Int)) (m:=m.ms (k:Int).toNat) hu,λg2=>LI λpp=>?_,λg2=>⟨⟨Qo,Qo⟩,QE Qo ⟨Qo,nxt ⟨λ_=>Qj.1 (by simpa using g2),λhu'=>by rw[hu'] at hu; cases hu⟩⟩⟩⟩;have g2:JI (zts (gi W.ID (k:Int)))=false:=by simpa using g2
    exact Gc.1 g2 ((F8.1 (pp (k:Int) k0 Qo)).1.1 hu)
   ·have hu:(gi W.ID (k:Int)).used=true:=by simpa using g
    have bad:¬z13 W (gi W.ID (k:Int))->¬∀k:Int,0<=k->k<8->MV W k:=λhn pp=>hn ((F8.1 (pp (k:Int) k0 Qo)).1.2 hu)
    refine⟨_,Pm,_,λ_=>Lj,λg2 b1 fD=>⟨ZM (gi W.ID (k:Int)).sum,λ_ wx hxw hcx=>z27 hcx,λ_=>h.some,_,_,_,λ_=>h.IE,_,λ_=>zce h hs.n1 hs.n2 k0 IT (hf _ k0 IT),λg3=>LI (bad λq=>?_),λg3=>⟨⟨Qo,Qo⟩,QE Qo ⟨Qo,nxt ⟨λhu'=>(by rw[hu'] at hu; cases hu),λ_=>?_⟩⟩⟩⟩,λg2=>⟨λe=>(by cases e),none,0,0,λe=>(by cases e),false,λe=>(by simp at e),λg3=>LI (bad λq=>g2 ?_),λg3=>(by simp at g3)⟩⟩
    ·have e1:YJ (gi W.ID (k:Int)).weight 1 20=true:=Qt.2 ⟨q.w1,q.w2⟩;have e2:((gi W.ID (k:Int)).IE != 0)=true:=by simpa using q.m0
     have e5:(((gi W.ID (k:Int)).IF.length:Nat):Int)=((W.IE.length:Nat):Int):=by have:=q.len; omega
     rw[e1,e2,q.m,q.s,e5,Qj.2 q.q] at g3;simp at g3
    ·simp only[I0,I7,bne_eq_false_iff_eq,Qt,A',Iu,Qj] at g3;obtain⟨⟨⟨⟨a1,a2⟩,a3⟩,a4⟩,a5⟩:=g3;exact⟨a1.1,a1.2,a2.2,a2.1,a3,Qo,a5⟩
    ·have e1:YJ (gi W.ID (k:Int)).weight 1 20=true:=Qt.2 ⟨q.w1,q.w2⟩;have e2:((gi W.ID (k:Int)).IE != 0)=true:=by simpa using q.m0
     rw[e1,e2,q.m]; rfl
  ·have RN:=Ou RN;have h0:(0:Int)<(W.ID.length:Int):=Qo;refine⟨h.some,_,_,_,h.ID,h.rd.g.ix Qd h0,_,_,_,_,_,_,_,_,_,_,_,_,_,_,_,_,_,_,_,_,h.rd.g.cells 0 Qd h0,λ_ _=>Ps ?_⟩;simp only[A',It];constructor
   ·rintro⟨⟨e1,e2⟩,e3⟩ j j0 j1;exact F8.2 ⟨hI j j0 Qo,λ_ hj=>by subst hj; exact⟨e1,e2,e3⟩⟩
   ·intro pp;have r:=(F8.1 (pp 0 Qd Qd)).2 hs.tree.ru rfl;exact⟨⟨r.1,r.2.1⟩,r.2.2⟩
theorem zw7.wa(hs:zw7 W)(hg:∀k:Int,0<=k->k<8->MV W k):WA W:=⟨hs.n1,hs.n2,hs.c1,hs.c2,hs.t,hs.tree,hs.wT,hg⟩
theorem zvw{n:Int}:YJ n (-10) 9=true↔Qf n≠0:=by
 unfold Qf
 cases h:YJ n (-10) 9 with
 | true=>
  have:=Qt.1 h;simp; omega
 | false=>simp
def zab(W:Q7)(t:Int):Prop:=A6 W t/\((Q8 W t).state=1->ZM (Qc W (Q8 W t).group (Q8 W t).M').floor=true)
theorem zci(h:Mu bs w p W m)(ha:WA W)(lg:W.ID.length<=maxLen):PX bs Xu #[.pointer p] w (.bool (JI (∀t:Int,0<=t->t<12->zab W t))):=
 GP p λwr hx=>by
  have h:=(h.ext hx).less (cs:=[]) Qs;have cJ:=ha.gl;have kG:=ha.t;refine⟨h.some,_,_,_,h.tasks,?_⟩;refine XB W.tasks.length 0 rfl (λk=>k<=W.tasks.length/\∀j:Int,0<=j->j<(k:Int)->zab W j) ⟨Ie _,λj h0 h1=>by omega⟩ λk ⟨hk,hI⟩=>⟨λIT=>?_,λRN=>?_⟩
  ·have IT:=Ot IT;have k0:(0:Int)<=(k:Int):=Qo
   have nxt:zab W (k:Int)->Ql .i64 ((k:Int)+1)/\zrw (λk=>k<=W.tasks.length/\∀j:Int,0<=j->j<(k:Int)->zab W j) [I ((k:Int)+1)]/\Xg W.tasks.length 0 [I ((k:Int)+1)]<Xg W.tasks.length 0 [I (k:Int)]:=λhq=>⟨⟨Qo,Qo⟩,QE Qo ⟨Qo,λj h0 h1=>by
    by_cases iA:j<(k:Int)
    ·exact hI j h0 iA
    ·have:j=(k:Int):=Qo;subst this; exact hq⟩⟩
   have bad:¬zab W (k:Int)->¬∀t:Int,0<=t->t<12->zab W t:=λhn pp=>hn (pp (k:Int) k0 Qo)
   refine⟨h.rd.t.ix QM k0 IT,_,_,_,_,_,_,_,_,_,h.rd.t k k0 IT,λ_ _=>⟨_,λwq=>zdp zg7 (zp5 (gi W.tasks (k:Int)) TX) _ _ wq,λg=>?_,λg=>?_⟩⟩
   ·rw[zkj,Ik] at g;have hz:Q8 W (k:Int)=TX:=g;exact nxt ⟨.inl ⟨by rw[hz]; rfl,hz⟩,λe=>by rw[hz] at e; cases e⟩
   ·rw[zkj,decide_eq_false_iff_not] at g;have hz:¬Q8 W (k:Int)=TX:=g
    have get:zab W (k:Int)->zxe W (gi W.tasks (k:Int)):=λq=>by
     rcases q.1 with ⟨_,e⟩ | ⟨_,q⟩
     ·exact Is e hz
     ·exact q
    refine⟨λ_=>h.some,_,_,_,λ_=>h.ID,_,λ_=>Kp (c:=m.gC) h.rd.g lg,_,λ_=>D2,_,λ_=>Lj,λg2=>LI (bad λq=>?_),λg2 b1 fD=>?_⟩
    ·have q:=get q;have e3:YJ (gi W.tasks (k:Int)).nice (-10) 9=true:=zvw.2 q.n;have e4:((gi W.tasks (k:Int)).mask != 0)=true:=by simpa using q.m0
     rw[q.g,e3,q.m,e4] at g2;simp only[Bool.not_true,Bool.or_false,Bool.and_true,A',Iu] at g2;have:=q.st;omega
    ·simp only[I0,I7,A',Iu] at g2;obtain⟨⟨⟨a1,a2⟩,a3⟩,a4⟩:=g2
     have st:(gi W.tasks (k:Int)).state=1\/(gi W.tasks (k:Int)).state=2:=by
      by_cases h1:(gi W.tasks (k:Int)).state=1
      ·exact .inl h1
      ·refine .inr ?_;have:((gi W.tasks (k:Int)).state != 1)=true:=by simpa using h1
       rw[this,Bool.true_and] at a1
       simpa using a1
     refine⟨_,λwx hxw hcx=>z3h hcx,_,λ_=>zfr,_,λ_=>Gw h ha.c2 ha.tree k0 IT a2,_,λ_=>Gv,λg3=>LI (bad λq=>?_),λg3=>?_⟩
     ·have q:=get q;have e4:YJ (gi W.tasks (k:Int)).load 0 8000000=true:=Qt.2 ⟨q.l1,q.l2⟩;have e5:Z0 (Qw W (Q8 W (k:Int)).group (Q8 W (k:Int)).mask) (gi W.tasks (k:Int)).M'=true:=q.c;rw[q.v,q.s,q.u,e4,e5] at g3;cases g3
     ·simp only[I0,I7,Qt,A'] at g3;obtain⟨⟨b1',b2⟩,b3⟩:=g3;obtain⟨u1,u2,_⟩:=Q5.1 a2;obtain⟨c0,c1⟩:=Gb ha b3;have hsl:=ha.sl a2;have c2:(gi W.tasks (k:Int)).M'<((gi W.ID (gi W.tasks (k:Int)).group).IF.length:Int):=Qo;have sh:=h.sh (g:=(gi W.tasks (k:Int)).group) u1 u2 c0 c2
      have mk:(((Q8 W (k:Int)).state=1->ZM (Qc W (Q8 W (k:Int)).group (Q8 W (k:Int)).M').floor=true/\Ke (gi W.tasks (k:Int)).v (Qc W (gi W.tasks (k:Int)).group (gi W.tasks (k:Int)).M').floor (Qf (gi W.tasks (k:Int)).nice)=true))->zab W (k:Int):=λhf=>⟨.inr ⟨λe=>by
        have e:(gi W.tasks (k:Int)).state=0:=e;omega,⟨st,a2,zvw.1 a3,a4.2,a4.1,b1'.1,b1'.2.1,b1'.2.2,b2.1,b2.2,b3,λe=>(hf e).2⟩⟩,λe=>(hf e).1⟩
      refine⟨_,_,XO,_,Zv h u1 u2 c0 c2,sh.1,_,sh.2 (j:=0) rfl,λ_ b2 dJ=>⟨ZM (Qc W (gi W.tasks (k:Int)).group (gi W.tasks (k:Int)).M').floor,λ_ wx hxw hcx=>z27 hcx,_,λ_ _=>Pl,_,λg4 _=>Gx b1'.1 (by simpa using g4),λg4=>LI (bad λq=>?_),λg4=>nxt (mk λe=>?_)⟩,λg4=>⟨λe=>(by cases e),λ_=>nxt (mk λe=>Is (It.2 e) g4)⟩⟩
      ·simp only[A',It,Iv,IC] at g4;have e1:=(get q).f g4.1;have e2:=q.2 g4.1;rcases g4.2 with g5 | g5
       ·have e2:ZM (Qc W (gi W.tasks (k:Int)).group (gi W.tasks (k:Int)).M').floor=true:=e2;rw[e2] at g5; cases g5
       ·rw[e1] at g5; cases g5
      ·have e':((gi W.tasks (k:Int)).state==1)=true:=It.2 e;rw[e',Bool.true_and] at g4;simp only[I0,I7] at g4;exact g4
  ·have RN:=Ou RN;exact zm8 λt h0 h1=>hI t h0 Qo
theorem BW(h:Mu bs w p W m)(ha:WA W)(hf:∀i:Int,0<=i->i<(W.ID.length:Int)->zie (gi W.ID i)):PX bs X4 #[.pointer p] w (.bool (JI (∀k c:Int,0<=k->k<8->0<=c->c<((gi W.ID k).IF.length:Int)->MX W k c))):=
 L3 p λwr hx=>by
  have h:=(h.ext hx).less (cs:=[]) Qs;have cJ:=ha.gl;have sK:=ha.c2
  let TS:=λ(k c:Int)=>ZM (Qc W k c).floor=true/\ZM (Qc W k c).v=true/\ZM (Qc W k c).sum=true/\1<=(Qc W k c).w/\(Qc W k c).w<=20
  have ts:(∀k c:Int,0<=k->k<8->0<=c->c<((gi W.ID k).IF.length:Int)->MX W k c)->∀k c:Int,0<=k->k<8->0<=c->c<((gi W.ID k).IF.length:Int)->TS k c:=λq k c h0 h1 h2 h3=>by
   have r:=q k c h0 h1 h2 h3;exact⟨r.f,r.v,r.s,r.w1,r.w2⟩
  refine⟨h.some,_,_,_,h.ID,?_⟩;refine XB W.ID.length 0 rfl (λk=>k<=W.ID.length/\∀j c:Int,0<=j->j<(k:Int)->0<=c->c<((gi W.ID j).IF.length:Int)->TS j c) ⟨Ie _,λj c h0 h1=>by omega⟩ λk ⟨hk,hI⟩=>⟨λIT=>?_,λRN=>?_⟩
  ·have IT:=Ot IT;have k0:(0:Int)<=(k:Int):=Qo;have hsm:(gi W.ID (k:Int)).IF.length<=maxLen:=(hf _ k0 IT).sh;refine⟨h.rd.g.ix k0 IT,_,_,_,_,_,_,_,_,_,_,_,_,_,_,_,_,_,_,_,_,h.rd.g.cells k k0 IT,λ_ _=>?_⟩;refine XB (gi W.ID (k:Int)).IF.length 0 rfl (λc=>c<=(gi W.ID (k:Int)).IF.length/\∀d:Int,0<=d->d<(c:Int)->TS (k:Int) d) ⟨Ie _,λj h0 h1=>by omega⟩ λc ⟨hc,hJ⟩=>⟨λlU=>?_,λAS7=>?_⟩
   ·have lU:=Ot lU;have c0:(0:Int)<=(c:Int):=Qo;have rs:=h.rd.g.IF (k:Int) k0 IT;refine⟨rs.ix ZZ c0 lU,_,_,_,_,_,rs c c0 lU,λ_ _ b2 dJ=>⟨_,λwx hxw hcx=>z3h hcx,_,λ_=>Pm,λg=>LI λq=>?_,λg=>⟨zjm lU hsm,QE Qo ⟨Qo,λd h0 h1=>?_⟩⟩⟩⟩
    ·have r:=ts q (k:Int) (c:Int) k0 Qo c0 lU;have e4:YJ (Qc W (k:Int) (c:Int)).w 1 20=true:=Qt.2 ⟨r.2.2.2.1,r.2.2.2.2⟩;have g':((!(ZM (Qc W (k:Int) (c:Int)).floor&&(ZM (Qc W (k:Int) (c:Int)).v&&ZM (Qc W (k:Int) (c:Int)).sum))) || !YJ (Qc W (k:Int) (c:Int)).w 1 20)=true:=g;rw[r.1,r.2.1,r.2.2.1,e4] at g'
     cases g'
    ·by_cases iA:d<(c:Int)
     ·exact hJ d h0 iA
     ·have:d=(c:Int):=Qo;subst this;have g':((!(ZM (Qc W (k:Int) (c:Int)).floor&&(ZM (Qc W (k:Int) (c:Int)).v&&ZM (Qc W (k:Int) (c:Int)).sum))) || !YJ (Qc W (k:Int) (c:Int)).w 1 20)=false:=g;simp only[I0,I7,A',Qt] at g';exact⟨g'.1.1,g'.1.2.1,g'.1.2.2,g'.2.1,g'.2.2⟩
   ·have AS7:=Ou AS7;refine⟨⟨Qo,Qo⟩,QE Qo ⟨Qo,λj d h0 h1 h2 h3=>?_⟩⟩
    by_cases iA:j<(k:Int)
    ·exact hI j d h0 iA h2 h3
    ·have:j=(k:Int):=Qo;subst this;exact hJ d h2 Qo
  have RN:=Ou RN;have hT:∀j c:Int,0<=j->j<8->0<=c->c<((gi W.ID j).IF.length:Int)->TS j c:=λj c h0 h1=>hI j c h0 Qo
  refine⟨h.some,_,_,_,h.IE,?_⟩;refine XB W.IE.length 0 rfl (λc=>c<=W.IE.length/\∀d k:Int,0<=d->d<(c:Int)->0<=k->k<8->d<((gi W.ID k).IF.length:Int)->MX W k d) ⟨Ie _,λj k h0 h1=>by omega⟩ λc ⟨hc,hJ⟩=>⟨λlU=>?_,λAS7=>?_⟩
  ·have lU:=Ot lU;have c0:(0:Int)<=(c:Int):=Qo;obtain⟨r1,r2,_⟩:=Q5.1 ha.root;have hrc:(c:Int)<((gi W.ID 0).IF.length:Int):=by rw[ha.sl ha.root]; exact lU
   have sh:=h.sh (g:=0) r1 r2 c0 hrc;have tr:=hT 0 (c:Int) Qd Qd c0 hrc;refine⟨_,_,XO,λ_ _=>⟨_,Zv h r1 r2 c0 hrc,sh.1,(Qc W 0 (c:Int)).on,sh.2 (j:=1) rfl,λ_=>sh.1,(Qc W 0 (c:Int)).v,λ_=>sh.2 (j:=2) rfl,λ_=>sh.1,(Qc W 0 (c:Int)).w,λ_=>sh.2 (j:=3) rfl,λg=>LI λq=>?_,λg=>?_⟩⟩
   ·have r:=(q 0 (c:Int) Qd Qd c0 hrc).root rfl;rw[r.1,r.2.1,r.2.2] at g;simp at g
   simp only[I0,bne_eq_false_iff_eq] at g;have root:MX W 0 (c:Int):=⟨tr.1,tr.2.1,tr.2.2.1,tr.2.2.2.1,tr.2.2.2.2,λ_=>⟨g.1.1,g.1.2,g.2⟩,λfH=>Is rfl fH,λfH=>Is rfl fH⟩
   refine XB 8 1 rfl (λk=>1<=k/\k<=8/\∀j:Int,0<=j->j<(k:Int)->(c:Int)<((gi W.ID j).IF.length:Int)->MX W j (c:Int)) ⟨I8 _,Qo,λj h0 h1 _=>by
    have:j=0:=Qo;subst this; exact root⟩ λk ⟨hk1,hk,hK⟩=>⟨λIT=>?_,λbK=>?_⟩
   ·have IT:=Ot IT;have k0:(0:Int)<=(k:Int):=Qo;have kl:(k:Int)<(W.ID.length:Int):=Qo
    have nxt:((c:Int)<((gi W.ID (k:Int)).IF.length:Int)->MX W (k:Int) (c:Int))->Ql .i64 ((k:Int)+1)/\zrw (λk=>1<=k/\k<=8/\∀j:Int,0<=j->j<(k:Int)->(c:Int)<((gi W.ID j).IF.length:Int)->MX W j (c:Int)) [I ((k:Int)+1)]/\Xg 8 0 [I ((k:Int)+1)]<Xg 8 0 [I (k:Int)]:=λhq=>⟨⟨Qo,Qo⟩,QE Qo ⟨Qo,Qo,λj h0 h1 h2=>by
     by_cases iA:j<(k:Int)
     ·exact hK j h0 iA h2
     ·have:j=(k:Int):=Qo;subst this; exact hq h2⟩⟩
    refine⟨h.some,_,_,_,h.ID,h.rd.g.ix k0 kl,_,h.rd.g.used k0 kl,λg2=>nxt λhh=>?_,λg2=>?_⟩
    ·have hu:(gi W.ID (k:Int)).used=false:=by simpa using g2
     have:=((ha.grp (k:Int) k0 Qo).1 hu).l;omega
    ·have hus:(gi W.ID (k:Int)).used=true:=by simpa using g2
     have hu:Q6 W.ID (k:Int)=true:=Q5.2 ⟨k0,kl,hus⟩;have hkc:(c:Int)<((gi W.ID (k:Int)).IF.length:Int):=by rw[ha.sl hu]; exact lU
     have hp:=ha.up hu Qo;obtain⟨v1,v2,_⟩:=Q5.1 hp;have pM:(c:Int)<((gi W.ID (gi W.ID (k:Int)).parent).IF.length:Int):=by rw[ha.sl hp]; exact lU
     have sk:=h.sh (g:=(k:Int)) k0 kl c0 hkc;have sp:=h.sh (g:=(gi W.ID (k:Int)).parent) v1 v2 c0 pM;have tk:=hT (k:Int) (c:Int) k0 Qo c0 hkc;have tp:=hT (gi W.ID (k:Int)).parent (c:Int) v1 Qo c0 pM;refine⟨_,Zv h k0 kl c0 hkc,sk.1,(Qc W (k:Int) (c:Int)).on,sk.2 (j:=1) rfl,_,K8 h ha c0 lU,_,λ_=>zcb h ha hu c0 lU,λ_=>sk.1,(Qc W (k:Int) (c:Int)).on,λ_=>sk.2 (j:=1) rfl,λ_ _=>sk.1,(Qc W (k:Int) (c:Int)).v,λ_ _=>sk.2 (j:=2) rfl,λ_ _=>h.some,_,_,_,λ_ _=>h.ID,λ_ _=>h.rd.g.ix k0 kl,_,λ_ _=>h.rd.g.parent k0 kl,_,λ_ _=>Zv h v1 v2 c0 pM,λ_ _=>sp.1,(Qc W (gi W.ID (k:Int)).parent (c:Int)).floor,λ_ _=>sp.2 (j:=0) rfl,λ_ _=>sk.1,(Qc W (k:Int) (c:Int)).w,λ_ _=>sk.2 (j:=3) rfl,_,λ_ _=>Gx tk.2.1 tp.1,λg3=>LI λq=>?_,λg3=>nxt λ_=>?_⟩
     ·have r:=q (k:Int) (c:Int) k0 Qo c0 hkc;have r1:=r.on Qo;simp only[Iv,A',IC,beq_eq_false_iff_ne] at g3;rcases g3 with g3 | g3
      ·exact g3 r1
      ·have:=r.st Qo g3.1;rw[this] at g3
       cases g3.2
     ·simp only[I0,I7,It] at g3;refine⟨tk.1,tk.2.1,tk.2.2.1,tk.2.2.2.1,tk.2.2.2.2,λe=>by omega,λ_=>g3.1,λ_ ho=>?_⟩;have:=g3.2;rw[ho,Bool.true_and] at this
      simpa using this
   ·have bK:=Ou bK;refine⟨⟨Qo,Qo⟩,QE Qo ⟨Qo,λd k' h0 h1 h2 h3 h4=>?_⟩⟩
    by_cases hdc:d<(c:Int)
    ·exact hJ d k' h0 hdc h2 h3 h4
    ·have:d=(c:Int):=Qo;subst this;exact hK k' h2 Qo h4
  ·have AS7:=Ou AS7;refine zm8 λk d h0 h1 h2 h3=>hJ d k h2 ?_ h0 h1 h3
   have hus:(gi W.ID k).used=true:=by
    cases hu:(gi W.ID k).used with
    | true=>rfl
    | false=>
     have:=((ha.grp k h0 h1).1 hu).l;omega
   have:=ha.sl (Q5.2 ⟨h0,Qo,hus⟩);omega
theorem zfp(h:Mu bs w p W m)(ha:WA W)(hts:∀t:Int,0<=t->t<12->A6 W t)(wD:∀k c:Int,0<=k->k<8->0<=c->c<((gi W.ID k).IF.length:Int)->MX W k c):PX bs XH #[.pointer p] w (.bool (JI (∀c:Int,0<=c->c<(W.IE.length:Int)->B9 W c))):=
 HP p λwr hx=>by
  have h:=(h.ext hx).less (cs:=[]) Qs;have cJ:=ha.gl;have kG:=ha.t;have sK:=ha.c2;have hm9:=Zo;refine⟨h.some,_,_,_,h.IE,?_⟩;refine XB W.IE.length 0 rfl (λc=>c<=W.IE.length/\∀j:Int,0<=j->j<(c:Int)->B9 W j) ⟨Ie _,λj h0 h1=>by omega⟩ λc ⟨hc,hI⟩=>⟨λIT=>?_,λRN=>?_⟩
  ·have IT:=Ot IT;have c0:(0:Int)<=(c:Int):=Qo
   have nxt:B9 W (c:Int)->Ql .i64 ((c:Int)+1)/\zrw (λc=>c<=W.IE.length/\∀j:Int,0<=j->j<(c:Int)->B9 W j) [I ((c:Int)+1)]/\Xg W.IE.length 0 [I ((c:Int)+1)]<Xg W.IE.length 0 [I (c:Int)]:=λhq=>⟨⟨Qo,Qo⟩,QE Qo ⟨Qo,λj h0 h1=>by
    by_cases iA:j<(c:Int)
    ·exact hI j h0 iA
    ·have:j=(c:Int):=Qo;subst this; exact hq⟩⟩
   have bad:¬B9 W (c:Int)->¬∀c:Int,0<=c->c<(W.IE.length:Int)->B9 W c:=λhn pp=>hn (pp (c:Int) c0 IT)
   refine⟨h.rd.c.ix ZT c0 IT,_,_,_,_,_,h.rd.c c c0 IT,λ_ _ b1 fD=>⟨_,λwx hxw hcx=>z3t hcx,λg=>LI (bad λq=>?_),λg=>⟨λg2=>nxt ?_,λg2=>?_⟩⟩⟩
   ·rw[q.b,q.i] at g; cases g
   ·simp only[I7,A'] at g;simp only[A',It] at g2;exact⟨g.1,g.2,Qo,Qo,λ_=>g2.2,λhh=>by omega⟩
   ·simp only[I7,A'] at g
    have ne:B9 W (c:Int)->0<=(gi W.IE (c:Int)).cur:=λq=>by
     rcases Int.lt_or_le (gi W.IE (c:Int)).cur 0 with C22 | Bx1
     ·have e1:=q.c1;have e2:=q.no C22;have e3:(gi W.IE (c:Int)).cur = -1:=Qo;rw[e3,e2] at g2;simp at g2
     ·exact Bx1
    have there:(YJ (gi W.IE (c:Int)).cur 0 ((W.tasks.length:Int)-1)&&((Q8 W (gi W.IE (c:Int)).cur).state != 0))=true->0<=(gi W.IE (c:Int)).cur/\(gi W.IE (c:Int)).cur<(W.tasks.length:Int):=λq=>by
     simp only[A'] at q;have:=Qt.1 q.1;omega
    have lu:0<=(gi W.IE (c:Int)).cur/\(gi W.IE (c:Int)).cur<(W.tasks.length:Int)->(Q8 W (gi W.IE (c:Int)).cur).state=1->Q6 W.ID (Q8 W (gi W.IE (c:Int)).cur).group=true:=λq hs=>(Fq ha (hts _ q.1 Qo) hs).1
    refine⟨_,_,XO,λ_ _=>⟨_,λ_=>BX h Qo,((Q8 W (gi W.IE (c:Int)).cur).M'==(c:Int))&&ZF W (gi W.IE (c:Int)).cur,λq=>?_,_,λ_=>QN,λg3=>LI (bad λq=>?_),λg3=>?_⟩⟩
    ·simp only[I0,I7] at q;have:=there q.2;exact D1 h ha this.1 this.2 c0 IT (lu this)
    ·have t0:=ne q;have t1:=q.c2;have y:=q.yes t0;have e2:YJ (gi W.IE (c:Int)).cur 0 ((W.tasks.length:Int)-1)=true:=Qt.2 Qo;have nG:(Q8 W (gi W.IE (c:Int)).cur).state=1:=(zju (hts _ t0 Qo) y.2.2.2.2.1).2;have e4:YJ (gi W.IE (c:Int)).aA 1 149=true:=Qt.2 ⟨y.2.1,y.2.2.1⟩;rw[y.1,e2,nG,y.2.2.2.1,y.2.2.2.2.1,e4] at g3;simp at g3
    ·simp only[I0,I7] at g3;obtain⟨⟨⟨a1,a2⟩,a3⟩,a4⟩:=g3;obtain⟨t0,t1⟩:=there a2;have a4:=Qt.1 a4;simp only[A',It] at a3;obtain⟨B75,nV⟩:=a3;obtain⟨q,_⟩:=zju (hts _ t0 Qo) nV;have au:=q.g;obtain⟨u1,u2,_⟩:=Q5.1 au
     have sl:∀{x:Int},Q6 W.ID x=true->0<=x/\x<(W.ID.length:Int)/\(c:Int)<((gi W.ID x).IF.length:Int)/\MX W x (c:Int):=λ{x} hx=>by
      obtain⟨v1,v2,_⟩:=Q5.1 hx;have c3:(c:Int)<((gi W.ID x).IF.length:Int):=by rw[ha.sl hx]; exact IT
      exact⟨v1,v2,c3,wD x (c:Int) v1 Qo c0 c3⟩
     obtain⟨_,_,c2,sp⟩:=sl au;have sh:=h.sh (g:=(Q8 W (gi W.IE (c:Int)).cur).group) u1 u2 c0 c2;have mk:Mo W (c:Int)=true->B9 W (c:Int):=λnG=>⟨g.1,g.2,Qo,t1,λhh=>by omega,λ_=>⟨a1,a4.1,a4.2,B75,nV,nG⟩⟩
     refine⟨h.some,_,_,_,h.tasks,h.rd.t.ix QM t0 t1,_,_,_,_,_,_,_,_,_,h.rd.t _ t0 t1,λ_ _=>⟨h.rd.t _ t0 t1,rfl,h.tasks,_,Zv h u1 u2 c0 c2,sh.1,_,sh.2 (j:=0) rfl,BR q.v sp.f,_,Pl,_,VK,λg4=>LI (bad λqq=>?_),λg4=>?_⟩⟩
     ·have g4:=Ot g4;have hd:¬((Q8 W (gi W.IE (c:Int)).cur).v-(Qc W (Q8 W (gi W.IE (c:Int)).cur).group (c:Int)).floor<=Zf (gi W.IE (c:Int)).aA (Qf (Q8 W (gi W.IE (c:Int)).cur).nice)):=Int.not_le.2 g4;have:=(qq.yes t0).2.2.2.2.2;unfold Mo at this;rw[decide_eq_false hd] at this;cases this
     ·have g4:=Ou g4;have hd:(Q8 W (gi W.IE (c:Int)).cur).v-(Qc W (Q8 W (gi W.IE (c:Int)).cur).group (c:Int)).floor<=Zf (gi W.IE (c:Int)).aA (Qf (Q8 W (gi W.IE (c:Int)).cur).nice):=Int.not_lt.1 g4
      have hS:Mo W (c:Int)=TW W (Q8 W (gi W.IE (c:Int)).cur).group (c:Int) (gi W.IE (c:Int)).aA:=by
       unfold Mo;rw[Ii hd,Bool.true_and]
      refine⟨λvs=>∃x:Int,vs=[I x]/\Q6 W.ID x=true/\TW W x (c:Int) (gi W.IE (c:Int)).aA=TW W (Q8 W (gi W.IE (c:Int)).cur).group (c:Int) (gi W.IE (c:Int)).aA,λvs=>(dep 3 W.ID (ZW 0 vs)).toNat,⟨_,rfl,au,rfl⟩,?_⟩;rintro x ⟨x',he,hux,hJ⟩;simp only[I5,I6,true_and,and_true] at he;subst he;refine⟨λhz=>?_,λhz=>?_⟩
      ·have hz:x≠0:=by simpa using hz
       obtain⟨hp,a,b,d,e,e2,hd⟩:=Yd ha.tree hux hz;obtain⟨x1,x2,x3,xs⟩:=sl hux;obtain⟨p1,p2,p3,ps⟩:=sl hp;have sx:=h.sh (g:=x) x1 x2 c0 x3;have spp:=h.sh (g:=(gi W.ID x).parent) p1 p2 c0 p3;unfold TW at hJ;rw[YI ha.tree hux hz,List.all_cons] at hJ
       refine⟨_,Zv h x1 x2 c0 x3,sx.1,_,sx.2 (j:=2) rfl,h.some,_,_,_,h.ID,h.rd.g.ix x1 x2,_,h.rd.g.parent x1 x2,_,Zv h p1 p2 c0 p3,spp.1,_,spp.2 (j:=0) rfl,BR xs.v ps.f,sx.1,_,sx.2 (j:=3) rfl,_,VK,λg5=>LI (bad λqq=>?_),λg5=>⟨h.some,_,_,_,h.ID,h.rd.g.ix x1 x2,_,h.rd.g.parent x1 x2,⟨_,rfl,hp,?_⟩,by
        show (dep 3 W.ID (gi W.ID x).parent).toNat<(dep 3 W.ID x).toNat;omega⟩⟩
       ·have g5:=Ot g5;have hd:¬((Qc W x (c:Int)).v-(Qc W (gi W.ID x).parent (c:Int)).floor<=Zf (gi W.IE (c:Int)).aA (Qc W x (c:Int)).w):=Int.not_le.2 g5;rw[decide_eq_false hd,Bool.false_and] at hJ;have:=(qq.yes t0).2.2.2.2.2;rw[hS] at this;unfold TW at this;rw[<-hJ] at this;cases this
       ·have g5:=Ou g5;have hd:(Qc W x (c:Int)).v-(Qc W (gi W.ID x).parent (c:Int)).floor<=Zf (gi W.IE (c:Int)).aA (Qc W x (c:Int)).w:=Int.not_lt.1 g5;rw[Ii hd,Bool.true_and] at hJ;exact hJ
      ·have hz:x=0:=by simpa using hz
       subst hz;refine nxt (mk ?_);rw[hS,<-hJ];unfold TW;rw[show Zb W.ID 0=[] from Zq _ _,List.all_nil]
  ·have RN:=Ou RN;exact zm8 λt h0 h1=>hI t h0 Qo
theorem zch(h:Mu bs w p W m)(lc:W.IE.length<=maxLen)(lg:W.ID.length<=maxLen):PX bs Xt #[.pointer p] w (.bool (JI (zw7 W))):=
 GO p λwr hx=>by
  have h:=(h.ext hx).less (cs:=[]) Qs;refine⟨h.some,_,h.now,λb hb=>⟨ZM W.now,λwx hxw hcx=>z27 hcx,λ_=>h.some,_,_,_,λ_=>h.IE,_,λ_=>QN,J4 W.IE,λg=>Oz h ?_,λ_=>h.some,_,_,_,λ_=>h.tasks,λ_=>h.some,_,_,_,λ_=>h.ID,MP W.ID,λ_=>zfo h.rd.g lg,Ps ?_⟩⟩
  ·simp only[A',Qt] at g;omega
  ·simp only[A',Qt,It,Iu,Yq,VV];constructor
   ·rintro⟨⟨⟨⟨e1,e2⟩,e3⟩,e4⟩,e5⟩;exact⟨e1.1,e1.2,Qo,Qo,Qo,e5,e3⟩
   ·intro q;have:=q.t;have:=q.c1;have:=q.c2;exact⟨⟨⟨⟨⟨q.n1,q.n2⟩,Qo⟩,q.wT⟩,Qo⟩,q.tree⟩
theorem zca(h:Xl bs w W m)(lc:W.IE.length<=maxLen)(lg:W.ID.length<=maxLen)(hf:∀i:Int,0<=i->i<(W.ID.length:Int)->zie (gi W.ID i)) :
  PX bs Pe #[.agg (Qa W m).toArray] w (.bool (Qy W)):=by
 refine FK λwr0 tF=>zbg _ _ _ _ _ _ _ _ _ _ (R:=λv w'=>v=.bool (Qy W)/\Q0 [] wr0 w') ?_
 have h:=(h.ext tF).less (cs:=[]) Qs;intro b wb hxb hb Ws _ b1 fD
 have hP:∀{bs:List Nat} {w1:Wo},Q0 [] wb w1->(∀x∈bs,wb.heap.size<=x)->Mu bs w1 (some ⟨b,0,none⟩) W m:=λ{bs w1} hx hbs=>by
  have hbn:b∉bs:=λhm=>by
   have:=hbs b hm;have:=JW Ws;omega
  have hrd:Xl bs w1 W m:=((h.ext hxb).wide (cs:=bs) λx hm=>.inr (hbs x hm)).ext hx.of_nil;exact⟨PN (QQ Ws hx Qs) hbn (k0:=0) λj v hj=>by rw[Nat.zero_add,Nat.zero_add]; exact hj,hrd⟩
 let Cn:=λ(k:Nat)=>match k with
  | 0=>zw7 W
  | 1=>∀k:Int,0<=k->k<8->MV W k
  | 2=>∀t:Int,0<=t->t<12->zab W t
  | 3=>∀k c:Int,0<=k->k<8->0<=c->c<((gi W.ID k).IF.length:Int)->MX W k c
  | _=>∀c:Int,0<=c->c<(W.IE.length:Int)->B9 W c
 have all:J7 W->∀k:Nat,k<5->Cn k:=λq k hk=>by
  have:k=0\/k=1\/k=2\/k=3\/k=4:=Qo;rcases this with rfl | rfl | rfl | rfl | rfl
  ·exact⟨q.a.n1,q.a.n2,q.a.c1,q.a.c2,q.a.t,q.a.tree,q.a.wT⟩
  ·exact q.a.grp
  ·refine λt h0 h1=>⟨q.t t h0 h1,λhs=>?_⟩
   have hu:=Fq q.a (q.t t h0 h1) hs;obtain⟨u1,u2,_⟩:=Q5.1 hu.1;have:=q.a.gl;exact(q.s _ _ u1 Qo hu.2.1 (by rw[q.a.sl hu.1]; exact hu.2.2)).f
  ·exact q.s
  ·exact q.c
 have back:(∀k:Nat,k<5->Cn k)->J7 W:=λq=>by
  have q0:zw7 W:=q 0 Qd;have q1:∀k:Int,0<=k->k<8->MV W k:=q 1 Qd;have q2:∀t:Int,0<=t->t<12->zab W t:=q 2 Qd;exact⟨q0.wa q1,λt h0 h1=>(q2 t h0 h1).1,q 3 Qd,q 4 Qd⟩
 have cond:∀k:Nat,k<5->(∀j:Nat,j<k->Cn j)->∀{w1:Wo},Q0 [] wb w1->∃F:FuncId,(#[.func (.func Xt) #[] #[],.func (.func Xb) #[] #[],.func (.func Xu) #[] #[],.func (.func X4) #[] #[],.func (.func XH) #[] #[]]:Array Va)[k]? = some (.func (.func F) #[] #[])/\(∀(w:Wo) (x:Va),(za9 (.func (.func F) #[] #[]) [x]).run Tryz.prog w=.ok (.enter F #[x]) w)/\∃rv:Bool,(rv=true↔Cn k)/\PX [b1] F #[.pointer (some ⟨b,0,none⟩)] w1 (.bool rv):=λk hk hj {w1} hx=>by
  have hp:=hP (bs:=[b1]) hx (by simpa using fD);have:k=0\/k=1\/k=2\/k=3\/k=4:=Qo;rcases this with rfl | rfl | rfl | rfl | rfl
  ·exact⟨_,rfl,λ_ _=>rfl,_,Qj,zch hp lc lg⟩
  ·have q0:zw7 W:=hj 0 Qd;exact⟨_,rfl,λ_ _=>rfl,_,Qj,C9 hp q0 hf⟩
  ·have q0:zw7 W:=hj 0 Qd;have q1:∀k:Int,0<=k->k<8->MV W k:=hj 1 Qd;exact⟨_,rfl,λ_ _=>rfl,_,Qj,zci hp (q0.wa q1) lg⟩
  ·have q0:zw7 W:=hj 0 Qd;have q1:∀k:Int,0<=k->k<8->MV W k:=hj 1 Qd;exact⟨_,rfl,λ_ _=>rfl,_,Qj,BW hp (q0.wa q1) hf⟩
  ·have q0:zw7 W:=hj 0 Qd;have q1:∀k:Int,0<=k->k<8->MV W k:=hj 1 Qd;have q2:∀t:Int,0<=t->t<12->zab W t:=hj 2 Qd;have q3:∀k c:Int,0<=k->k<8->0<=c->c<((gi W.ID k).IF.length:Int)->MX W k c:=hj 3 Qd;exact⟨_,rfl,λ_ _=>rfl,_,Qj,zfp hp (q0.wa q1) (λt h0 h1=>(q2 t h0 h1).1) q3⟩
 refine⟨λvs w1=>∃k:Nat,vs=[.bool true,I (k:Int)]/\k<=5/\Q0 [] wb w1/\∀j:Nat,j<k->Cn j,Zs 5 1,λwr hx _=>⟨0,rfl,Qo,hx,λj hj=>Is hj (Nat.not_lt_zero j)⟩,?_⟩;rintro ok x w1 dE ⟨k,he,hk,hX,hI⟩;simp only[I5,I6,Value.bool.injEq,true_and,and_true] at he;obtain⟨rfl,rfl⟩:=he
 have fr:∀{w2:Wo},Q0 [b1] w1 w2->Q0 [] wb w2:=λ{w2} hx=>hX.fresh hx λy hm=>.inl (by
  have:y=b1:=by simpa using hm
  omega)
 refine⟨λIT=>?_,λRN wr hx=>⟨?_,hxb.trans (fr hx)⟩⟩
 ·have IT:=Ot IT;obtain⟨F,hF,_⟩:=cond k Qo hI hX;refine⟨.func F,#[],#[],⟨Qo,Qo,by rw[Ih]; exact hF⟩,λJ' S4 Wc=>?_⟩;obtain⟨F',hF',hcv,rv,hrv,hpu⟩:=cond k Qo hI (fr S4);rw[hF] at hF';simp only[I1,Value.func.injEq,Fn.func.injEq,and_self,and_true] at hF';subst hF';refine .inl ⟨F,#[.pointer (some ⟨b,0,none⟩)],?_,?_⟩
  ·exact hcv _ _
  ·refine(hpu J' (Q0.refl _ _)).mono λe w3 ⟨he,Ra⟩=>⟨rv,he,Qe Ra Wc,λg O' SZ=>⟨?_,hxb.trans ((fr S4).trans Ra |>.fresh SZ λy hm=>.inl (by
    have:y=b1:=by simpa using hm
    omega))⟩,λg=>⟨⟨Qo,Qo⟩,λRu SZ _=>⟨⟨k+1,Qs,Qo,((fr S4).trans Ra).fresh SZ λy hm=>.inl (by
    have:y=b1:=by simpa using hm
    omega),λj hj=>?_⟩,Zc (k:=k) rfl rfl Qo⟩⟩⟩
   ·have g:rv=false:=by simpa using g
    exact LI λq=>by
     rw[hrv.2 (all q k Qo)] at g; cases g
   ·by_cases iA:j<k
    ·exact hI j iA
    ·have:j=k:=Qo;subst this;exact hrv.1 (by simpa using g)
 ·have RN:=Ou RN;have:k=5:=Qo;subst this;exact zm8 (back hI)
end
theorem KT:zpj Tryz.prog KU 5 Zy 40 (⟨false,0,0,0,0⟩:Px):=DE Qk λ_=>rfl
theorem Kf:Tryz.prog.underlying Zr=some (.slice Zy):=Qk
theorem OX:zpj Tryz.prog Xa 9 QR 72 (⟨0,0,0,0,0,0,0,0,0⟩:MC):=DE Qk λ_=>rfl
theorem Ms:Tryz.prog.underlying Z2=some (.slice QR):=Qk
section
variable {W:Q7}{m:MW}{w w':Wo}
structure zz9 (base:Nat) (w:Wo) (W:Q7) (m:MW):Prop where
 c:Ud KU 5 Zy base w m.cO m.cC W.IE
 t:Ud Xa 9 QR base w m.tO m.tC W.tasks
 g:∃ps:List (ZN×MG),ps.map (·.1)=W.ID/\(λk:Nat=>(gi ps (k:Int)).2)=m.ms/\KN base w m.gO m.gC ps
theorem zz9.mono{base aP:Nat}(h:zz9 base w W m)(hb:aP<=base):zz9 aP w W m:=
 ⟨h.c.mono hb,h.t.mono hb,by
  obtain⟨ps,h1,h2,h3⟩:=h.g;exact⟨ps,h1,h2,h3.mono hb⟩⟩
end
theorem q7{x bt n:Nat}(hm:x∈[bt])(h:n<=bt):n<=x:=by
 have:x=bt:=by simpa using hm
 omega
structure Sc (w0:Wo) (bs:List Nat) (w:Wo):Prop where
 ext:Q0 [] w0 w
 new:∀x∈bs,w0.heap.size<=x
theorem Sc.start(w:Wo):Sc w [] w:=⟨Q0.refl _ _,Qs⟩
theorem Sc.step{w0:Wo}{bs:List Nat}{w w':Wo}(h:Sc w0 bs w)(hx:Q0 bs w w'):Sc w0 bs w':=⟨h.ext.fresh hx λx hm=>.inl (h.new x hm),h.new⟩
theorem Sc.call{w0:Wo}{bs cs:List Nat}{w w':Wo}(h:Sc w0 bs w)(hx:Q0 cs w w')(hc:∀x∈cs,w0.heap.size<=x):Sc w0 bs w':=⟨h.ext.fresh hx λx hm=>.inl (hc x hm),h.new⟩
theorem Sc.R6{w0:Wo}{bs:List Nat}{w w':Wo}(h:Sc w0 bs w)(hx:Q0 [] w w'):Sc w0 bs w':=⟨h.ext.trans hx,h.new⟩
theorem Sc.add{w0:Wo}{bs:List Nat}{w:Wo}{b:Nat}(h:Sc w0 bs w)(hb:w.heap.size<=b):Sc w0 (bs++[b]) w:=⟨h.ext,λx hm=>by
 rcases Io.1 hm with hm | hm
 ·exact h.new x hm
 ·have:x=b:=by simpa using hm
  have:=h.ext.size;omega⟩
theorem Sc.sub{w0:Wo}{bs cs:List Nat}{w:Wo}(h:Sc w0 bs w)(hs:∀x∈cs,x∈bs):Sc w0 cs w:=⟨h.ext,λx hm=>h.new x (hs x hm)⟩
theorem Sc.put{w0:Wo}{bs:List Nat}{w w':Wo}{b:Nat}(h:Sc w0 bs w)(hx:Q0 bs w w')(hb:w.heap.size<=b):Sc w0 (bs++[b]) w':=⟨(h.step hx).ext,(h.add hb).new⟩
structure Ob {α:Type} (enc:α->List Va) (z:Nat) (ty:TypeId) (base:Nat) (bs:List Nat) (w:Wo) (o:OA) (cap:Nat) (l:List α):Prop where
 own:Ud enc z ty base w o cap l
 nb:∀x∈QD o,x∉bs
section
variable {α:Type}{enc:α->List Va}{z:Nat}{ty:TypeId}{base:Nat}{bs cs:List Nat}{w w':Wo}{o:OA}{cap:Nat}{l:List α}{b:Nat}
theorem Ob.of(h:Ud enc z ty base w o cap l)(hs:∀x∈bs,x<base):Ob enc z ty base bs w o cap l:=⟨h,λx hx hm=>by
 have:=(h.lt x hx).1;have:=hs x hm;omega⟩
theorem Ob.step(h:Ob enc z ty base bs w o cap l)(hx:Q0 bs w w'):Ob enc z ty base bs w' o cap l:=⟨h.own.ext hx h.nb,h.nb⟩
theorem Ob.R6(h:Ob enc z ty base bs w o cap l)(hx:Q0 [] w w'):Ob enc z ty base bs w' o cap l:=⟨h.own.WG hx,h.nb⟩
theorem Ob.call(h:Ob enc z ty base bs w o cap l)(hx:Q0 cs w w')(hd:∀x∈QD o,x∉cs):Ob enc z ty base bs w' o cap l:=⟨h.own.ext hx hd,h.nb⟩
theorem Ob.add(h:Ob enc z ty base bs w o cap l)(hb:w.heap.size<=b):Ob enc z ty base (bs++[b]) w o cap l:=⟨h.own,λx hx hm=>by
 rcases Io.1 hm with hm | hm
 ·exact h.nb x hx hm
 ·have:x=b:=by simpa using hm
  have:=(h.own.lt x hx).2;omega⟩
theorem Ob.put(h:Ob enc z ty base bs w o cap l)(hx:Q0 bs w w')(hb:w.heap.size<=b):Ob enc z ty base (bs++[b]) w' o cap l:=⟨(h.step hx).own,(h.add hb).nb⟩
theorem Ob.sub(h:Ob enc z ty base bs w o cap l)(hs:∀x∈cs,x∈bs):Ob enc z ty base cs w o cap l:=⟨h.own,λx hx hm=>h.nb x hx (hs x hm)⟩
theorem Ob.mono{aP:Nat}(h:Ob enc z ty base bs w o cap l)(hb:aP<=base):Ob enc z ty aP bs w o cap l:=⟨h.own.mono hb,h.nb⟩
theorem Ob.rd[Inhabited α](h:Ob enc z ty base bs w o cap l)(hz:∀x,(enc x).length=z):Rd enc z bs w o l:=h.own.rd hz h.nb
end
theorem Rd.scb{α:Type}[Inhabited α]{enc:α->List Va}{z:Nat}{w0:Wo}{bs:List Nat}{w:Wo}{o:OA}{l:List α}(h:Rd enc z [] w0 o l)(hs:Sc w0 bs w):Rd enc z bs w o l:=(h.wide (cs:=bs) λx hm=>.inr (hs.new x hm)).ext hs.ext.of_nil
theorem GD{bs cs:List Nat}{w w':Wo}(hx:Q0 cs w w')(hs:∀b∈bs,b<w.heap.size)(hd:∀x∈cs,x∉bs):Q9 bs w w':=λx hm=>hx.block x (hs x hm) λgE=>hd x gE hm
theorem Ob.AQ6{α:Type}[Inhabited α]{P:Program}{enc:α->List Va}{z:Nat}{ty t:TypeId}{bytes:Nat}{zero:α}(E:zpj P enc z ty bytes zero)(ht:P.underlying t=some (.slice ty)){base:Nat}{bs:List Nat}{w:Wo}{o:OA}{cap:Nat}{l:List α}(hO:Ob enc z ty base bs w o cap l)(hs:∀x∈bs,x<w.heap.size)(tN:base<=w.heap.size){x:α}{b:Nat}{t':TypeId}{fz:Nat×Nat}(hb:w.heap[b]? = some (.cells (enc x).toArray t' fz))(h1:Zi (enc x)=true)(hl:l.length<=1048576)(hby:bytes<=1000)(tr:TypeId)(cs:Array Bool) :
  ∃o' nK w',(builtin .append #[t,t] tr cs #[.slice o l.length cap,.slice (some ⟨b,0,none⟩) 1 1]).run P w=.ok (.value (.slice o' (l++[x]).length nK)) w'/\Q9 bs w w'/\Ob enc z ty base bs w' o' nK (l++[x])/\Q0 (QD o) w w':=by
 have hbb:(2*(l.length+1))*bytes<=281474976710656:=IB (Nat.mul_le_mul (show 2*(l.length+1)<=2097154 by omega) hby) Qd;obtain⟨o2,c2,w2,WH,oK,R3,ho2⟩:=zmm E ht hO.own hb h1 hbb Qo tr cs tN;refine⟨o2,c2,w2,WH,λy hm=>R3.block y (hs y hm) λgE=>hO.nb y gE hm,⟨oK,λy hy hm=>?_⟩,R3⟩;rcases ho2 with rfl | rfl
 ·exact hO.nb y hy hm
 ·have:y=w.heap.size:=by simpa[QD] using hy
  have:=hs y hm;omega
def Jr(f:Nat->Int):Nat->Int
 | 0=>0
 | k+1=>Jr f k+f k
theorem VO{f:Nat->Int}{B:Int}(h:∀j,0<=f j/\f j<=B):∀k:Nat,0<=Jr f k/\Jr f k<=(k:Int)*B
 | 0=>by simp[Jr]
 | k+1=>by
  have ih:=VO h k;have:=h k;simp only[Jr];rw[show ((k+1:Nat):Int)*B=(k:Int)*B+B by rw[show ((k+1:Nat):Int)=(k:Int)+1 by omega,Int.add_mul,Int.one_mul]];omega
theorem Jq(n:Int):0<=Qf n/\Qf n<=20:=by
 unfold Qf;split
 ·rename_i h;have:=Qt.1 h;omega
 ·omega
def zhg(W:Q7)(c:Int)(j:Nat):Int:=if (((Q8 W (j:Int)).M'==c)&&ZF W (j:Int))=true then Qf (Q8 W (j:Int)).nice else 0
def zls(W:Q7)(g c:Int)(j:Nat):Int:=if ((((Q8 W (j:Int)).state==1)&&((Q8 W (j:Int)).M'==c))&&TI 3 W.ID g (Q8 W (j:Int)).group)=true then Qf (Q8 W (j:Int)).nice else 0
theorem z0v{W:Q7}{g c:Int}{k:Nat}(h:((((Q8 W (k:Int)).state==1)&&((Q8 W (k:Int)).M'==c))&&TI 3 W.ID g (Q8 W (k:Int)).group)=true):zls W g c k=Qf (Q8 W (k:Int)).nice:=E' h
theorem z0u{W:Q7}{g c:Int}{k:Nat}(h:((((Q8 W (k:Int)).state==1)&&((Q8 W (k:Int)).M'==c))&&TI 3 W.ID g (Q8 W (k:Int)).group)=false):zls W g c k=0:=C' (by rw[h]; decide)
def Fs(W:Q7)(c:Int):Int:=Jr (zhg W c) W.tasks.length
def zb7(W:Q7)(g c:Int):Int:=Jr (zls W g c) W.tasks.length
theorem NX(W:Q7)(c:Int)(j:Nat):0<=zhg W c j/\zhg W c j<=20:=by
 unfold zhg;split
 ·exact Jq _
 ·omega
theorem zb6(W:Q7)(g c:Int)(j:Nat):0<=zls W g c j/\zls W g c j<=20:=by
 unfold zls;split
 ·exact Jq _
 ·omega
def YQ(W:Q7)(c:Int):Bool:=YJ c 0 ((W.IE.length:Int)-1)
theorem Uy{W:Q7}{c:Int}(h:YQ W c=true):0<=c/\c<(W.IE.length:Int):=by have:=Qt.1 h; omega
theorem J7.li{W:Q7}(wp:J7 W){t:Int}(t0:0<=t)(t1:t<(W.tasks.length:Int))(hs:(Q8 W t).state=1):Q6 W.ID (Q8 W t).group=true/\0<=(Q8 W t).M'/\(Q8 W t).M'<(W.IE.length:Int):=by
 have:=wp.a.t;exact Fq wp.a (wp.t t t0 Qo) hs
structure TU (W:Q7):Prop where
 a:WA W
 li:∀{t:Int},0<=t->t<(W.tasks.length:Int)->(Q8 W t).state=1->Q6 W.ID (Q8 W t).group=true/\0<=(Q8 W t).M'/\(Q8 W t).M'<(W.IE.length:Int)
structure Xz (W:Q7):Prop where
 c:W.IE.length<=maxLen
 t:W.tasks.length<=maxLen
 g:W.ID.length<=maxLen
 f:∀i:Int,0<=i->i<(W.ID.length:Int)->zie (gi W.ID i)
section
variable {W:Q7}{m:MW}{w:Wo}{bs:List Nat}{p:OA}
theorem Tq{c:Int}(h:Xl bs w W m)(wp:J7 W):PX bs XE #[.agg (Qa W m).toArray,I c] w (I (Fs W c)):=
 zda _ _ _ _ _ _ _ _ _ _ c λwr hx=>by
  have h:=(h.ext hx).less (cs:=[]) Qs;have kG:=wp.a.t;intro _ _;refine P3 W.tasks.length 0 rfl (λx k=>k<=W.tasks.length/\x=Jr (zhg W c) k) ⟨Ie _,rfl⟩ λx k ⟨hk,R3⟩=>⟨λIT=>?_,λRN=>?_⟩
  ·have IT:=Ot IT;have hr:=VO (NX W c) k;have hw:=Jq (Q8 W (k:Int)).nice;have eF:zhg W c k=if (((Q8 W (k:Int)).M'==c)&&ZF W (k:Int))=true then Qf (Q8 W (k:Int)).nice else 0:=rfl;refine⟨h.t.ix QM Qo IT,_,h.t.f Qo IT (j:=0) rfl,λ_=>h.t.ix QM Qo IT,_,λ_=>h.t.f Qo IT (j:=2) rfl,ZF W (k:Int),λ_=>Vr h wp.a Qo IT λhs=>wp.li Qo IT hs,λg2=>⟨h.t.ix QM Qo IT,_,h.t.f Qo IT (j:=3) rfl,Qf (Q8 W (k:Int)).nice,ZP,⟨Qo,Qo⟩,⟨Qo,Qo⟩,QK Qo ⟨Qo,?_⟩⟩,λg2=>⟨⟨Qo,Qo⟩,QK Qo ⟨Qo,?_⟩⟩⟩
   ·have g2:((((Q8 W (k:Int)).state==1)&&((Q8 W (k:Int)).M'==c))&&ZF W (k:Int))=true:=g2;simp only[A'] at g2;simp only[Jr]; rw[eF,E' (by rw[g2.1.2,g2.2]; rfl),R3]
   ·have g2:((((Q8 W (k:Int)).state==1)&&((Q8 W (k:Int)).M'==c))&&ZF W (k:Int))=false:=g2
    simp only[Jr]; rw[eF,C' (λhc=>by
     simp only[A'] at hc;have hl:=hc.2;unfold ZF at hl;simp only[A'] at hl;rw[hc.1,hc.2,hl.1] at g2
     cases g2),R3]; omega
  ·have RN:=Ou RN;have:k=W.tasks.length:=Qo;subst this;rw[R3]; rfl
theorem Kt{g c:Int}(h:Xl bs w W m)(wp:TU W)(hl:Xz W)(hu:Q6 W.ID g=true):PX bs U6 #[.agg (Qa W m).toArray,I g,I c] w (I (zb7 W g c)):=
 Nr _ _ _ _ _ _ _ _ _ _ g c λwr hx=>by
  have h:=(h.ext hx).less (cs:=[]) Qs;have kG:=wp.a.t;intro _ _;refine P3 W.tasks.length 0 rfl (λx k=>k<=W.tasks.length/\x=Jr (zls W g c) k) ⟨Ie _,rfl⟩ λx k ⟨hk,R3⟩=>⟨λIT=>?_,λRN=>?_⟩
  ·have IT:=Ot IT;have hr:=VO (zb6 W g c) k;have hw:=Jq (Q8 W (k:Int)).nice
   have hun:(((Q8 W (k:Int)).state==1)&&((Q8 W (k:Int)).M'==c))=true->Pr W.ID g (Q8 W (k:Int)).group=TI 3 W.ID g (Q8 W (k:Int)).group:=λq=>by
    simp only[A',It] at q;unfold Pr;rw[VV.2 wp.a.tree,hu,(wp.li Qo IT q.1).1]; rfl
   have eF:zls W g c k=if ((((Q8 W (k:Int)).state==1)&&((Q8 W (k:Int)).M'==c))&&TI 3 W.ID g (Q8 W (k:Int)).group)=true then Qf (Q8 W (k:Int)).nice else 0:=rfl
   have e2:((((Q8 W (k:Int)).state==1)&&((Q8 W (k:Int)).M'==c))&&TI 3 W.ID g (Q8 W (k:Int)).group)=((((Q8 W (k:Int)).state==1)&&((Q8 W (k:Int)).M'==c))&&Pr W.ID g (Q8 W (k:Int)).group):=by
    cases hq:(((Q8 W (k:Int)).state==1)&&((Q8 W (k:Int)).M'==c)) with
    | false=>rfl
    | true=>rw[hun hq]
   refine⟨h.t.ix QM Qo IT,_,_,_,_,_,_,_,_,_,h.t k Qo IT,λ_ _=>⟨Pr W.ID g (Q8 W (k:Int)).group,λ_=>Oi h.g hl.g,λg2=>⟨Qf (Q8 W (k:Int)).nice,ZP,⟨Qo,Qo⟩,⟨Qo,Qo⟩,QK Qo ⟨Qo,?_⟩⟩,λg2=>⟨⟨Qo,Qo⟩,QK Qo ⟨Qo,?_⟩⟩⟩⟩
   ·simp only[Jr]; rw[z0v (W:=W) (g:=g) (c:=c) (k:=k) (e2.trans g2),R3]
   ·simp only[Jr]; rw[z0u (W:=W) (g:=g) (c:=c) (k:=k) (e2.trans g2),R3]; omega
  ·have RN:=Ou RN;have:k=W.tasks.length:=Qo;subst this;rw[R3]; rfl
theorem zft{t:Int}(h:Mu bs w p W m)(t0:0<=t)(t1:t<(W.tasks.length:Int)):PX bs Uo #[.pointer p,I t] w (I (Qf (Q8 W t).nice)):=
 HR p t λwr hx=>by
  have h:=(h.ext hx).less (cs:=[]) Qs;exact⟨h.some,_,_,_,h.tasks,h.rd.t.ix QM t0 t1,_,h.rd.t.f t0 t1 (j:=3) rfl,_,Pl,rfl⟩
end
def QY(p:Nat->Bool)(v:Nat->Int):Nat->Int
 | 0 => -1
 | k+1=>if (p k&&(decide (QY p v k<0)||decide (v k<v (QY p v k).toNat)))=true then (k:Int) else QY p v k
theorem Zt(p:Nat->Bool)(v:Nat->Int):∀k:Nat,(QY p v k = -1/\∀j,j<k->p j=false) \/
  (0<=QY p v k/\QY p v k<(k:Int)/\p (QY p v k).toNat=true/\(∀j,j<k->p j=true->v (QY p v k).toNat<=v j)/\∀j:Nat,(j:Int)<QY p v k->p j=true->v (QY p v k).toNat<v j)
 | 0=>.inl ⟨rfl,λj hj=>Is hj (Nat.not_lt_zero j)⟩
 | k+1=>by
  simp only[QY];split
  ·rename_i h;simp only[A',Iv,Ik] at h;refine .inr ⟨Qo,Qo,by simpa using h.1,λj hj hp=>?_,λj hj hp=>?_⟩
   ·rw[Ih]
    by_cases iA:j=k
    ·subst iA; exact I3 _
    ·rcases Zt p v k with ⟨_,h2⟩ | ⟨h1,_,_,h4,_⟩
     ·rw[h2 j Qo] at hp; cases hp
     ·have:=h4 j Qo hp;rcases h.2 with h5 | h5 <;> omega
   ·rw[Ih];rcases Zt p v k with ⟨_,h2⟩ | ⟨h1,_,_,h4,_⟩
    ·rw[h2 j Qo] at hp; cases hp
    ·have:=h4 j Qo hp;rcases h.2 with h5 | h5 <;> omega
  ·rename_i h;rcases Zt p v k with ⟨h1,h2⟩ | ⟨h1,h2,h3,h4,h5⟩
   ·refine .inl ⟨h1,λj hj=>?_⟩
    by_cases iA:j=k
    ·subst iA
     cases hp:p j with
     | false=>rfl
     | true=>
      exfalso; apply h
      rw[hp,h1]; rfl
    ·exact h2 j Qo
   ·refine .inr ⟨h1,Qo,h3,λj hj hp=>?_,h5⟩
    by_cases iA:j=k
    ·subst iA;rcases Int.lt_or_le (v j) (v (QY p v j).toNat) with h6 | h6
     ·exfalso; apply h
      rw[hp,Ii h6]; simp
     ·exact h6
    ·exact h4 j Qo hp
theorem zoc{p:Nat->Bool}{v:Nat->Int}{n k:Nat}(hk:k<n)(hp:p k=true)(h0:0<=QY p v n)(hv:v k=v (QY p v n).toNat)(hb:∀j,j<k->p j=true->v j≠v (QY p v n).toNat):QY p v n=(k:Int):=by
 rcases Zt p v n with ⟨h1,_⟩ | ⟨_,h2,h3,h4,h5⟩
 ·omega
 ·by_cases IT:(k:Int)<QY p v n
  ·have:=h5 k IT hp; omega
  ·by_cases hgt:QY p v n<(k:Int)
   ·exact Is rfl (hb _ Qo h3)
   ·omega
def Zp(W:Q7)(g c:Int)(i:Nat):Bool:=if i<12 then OO W g c i else J8 W g c (i-12)
def Zk(W:Q7)(c:Int)(i:Nat):Int:=if i<12 then (Q8 W (i:Int)).v else (Qc W ((i-12:Nat):Int) c).v
def QW(W:Q7)(g c:Int):Int:=QY (Zp W g c) (Zk W c) 20
def zqp:Nat->Q7->Int->Int->Int
 | 0,_,_,_ => -1
 | f+1,W,g,c=>if QW W g c<0 then -1 else if QW W g c<12 then QW W g c else zqp f W (QW W g c-12) c
def Kw(W:Q7)(g c:Int):Int:=zqp (4-dep 3 W.ID g).toNat W g c
def Qu(W:Q7)(c:Int):Int:=if (gi W.IE c).cur>=0/\(gi W.IE c).aA<50 then (gi W.IE c).cur else Kw W 0 c
theorem UX{W:Q7}{g c:Int}{i:Nat}(h:i<12):Zp W g c i=OO W g c i:=E' h
theorem JZ{W:Q7}{g c:Int}{i:Nat}:Zp W g c (12+i)=J8 W g c i:=by
 unfold Zp;rw[C' Qo,show 12+i-12=i by omega]
theorem DS{W:Q7}{c:Int}{i:Nat}(h:i<12):Zk W c i=(Q8 W (i:Int)).v:=E' h
theorem DR{W:Q7}{c:Int}{i:Nat}:Zk W c (12+i)=(Qc W (i:Int) c).v:=by
 unfold Zk;rw[C' Qo,show 12+i-12=i by omega]
theorem zql(W:Q7)(g c:Int):Zp W g c 12=false:=by
 rw[show (12:Nat)=12+0 from rfl,JZ]; rfl
theorem Hf{W:Q7}{g c:Int}(ha:WA W)(hu:Q6 W.ID g=true)(h:12<=QW W g c):Q6 W.ID (QW W g c-12)=true/\QW W g c-12≠0/\dep 3 W.ID (QW W g c-12)=dep 3 W.ID g+1/\QW W g c<20:=by
 unfold QW at *;rcases Zt (Zp W g c) (Zk W c) 20 with ⟨h1,_⟩ | ⟨h1,h2,h3,_,_⟩
 ·omega
 ·have e:(QY (Zp W g c) (Zk W c) 20).toNat=12+((QY (Zp W g c) (Zk W c) 20).toNat-12):=Qo;rw[e,JZ] at h3;unfold J8 at h3;simp only[A',Ik,It] at h3;obtain⟨⟨k1,k2,k3⟩,_⟩:=h3;have ek:(((QY (Zp W g c) (Zk W c) 20).toNat-12:Nat):Int)=QY (Zp W g c) (Zk W c) 20-12:=Qo;rw[ek] at k2 k3;have cJ:=ha.gl;have hk:Q6 W.ID (QY (Zp W g c) (Zk W c) 20-12)=true:=Q5.2 ⟨Qo,Qo,k2⟩;have hz:QY (Zp W g c) (Zk W c) 20-12≠0:=Qo;obtain⟨_,_,_,d,e1,e2,_⟩:=Yd ha.tree hk hz;rw[k3] at e2;exact⟨hk,hz,Qo,Qo⟩
theorem Gd{W:Q7}(ha:WA W){g:Int}(hu:Q6 W.ID g=true):0<=dep 3 W.ID g/\dep 3 W.ID g<=3:=by
 have hr:=TZ W.ID 3 g
 by_cases hz:g=0
 ·subst hz; rw[Y8]; omega
 ·obtain⟨_,_,_,d,e1,_⟩:=Yd ha.tree hu hz;omega
theorem Nd{W:Q7}(ha:WA W){g c:Int}(hu:Q6 W.ID g=true):Kw W g c=if QW W g c<0 then -1 else if QW W g c<12 then QW W g c else Kw W (QW W g c-12) c:=by
 have hd:=Gd ha hu;have e:(4-dep 3 W.ID g).toNat=(3-dep 3 W.ID g).toNat+1:=Qo;show zqp (4-dep 3 W.ID g).toNat W g c=_;rw[e];simp only[zqp];split
 ·rfl
 ·split
  ·rfl
  ·obtain⟨_,_,hk,_⟩:=Hf ha hu (c:=c) Qo;unfold Kw;rw[hk,show (4-(dep 3 W.ID g+1))=3-dep 3 W.ID g by omega]
section
variable {W:Q7}{m:MW}{w:Wo}{bs:List Nat}{p:OA}
def Z3(W:Q7)(g c:Int)(k:Nat):Int:=if QY (Zp W g c) (Zk W c) k<0 then 0 else Zk W c (QY (Zp W g c) (Zk W c) k).toNat
def Zw(W:Q7)(g c:Int)(k:Nat):Bool:=decide (0<=QY (Zp W g c) (Zk W c) k)
theorem zgz{W:Q7}{g c:Int}{k:Nat}:(decide (QY (Zp W g c) (Zk W c) k<0)||decide (Zk W c k<Zk W c (QY (Zp W g c) (Zk W c) k).toNat))=(!Zw W g c k||decide (Zk W c k<Z3 W g c k)):=by
 unfold Zw Z3
 by_cases h:QY (Zp W g c) (Zk W c) k<0
 ·have h2:decide (0<=QY (Zp W g c) (Zk W c) k)=false:=decide_eq_false Qo;rw[E' h,Ii h,h2]; rfl
 ·have h2:decide (0<=QY (Zp W g c) (Zk W c) k)=true:=Ii Qo;rw[C' h,decide_eq_false h,h2]; rfl
theorem EO{W:Q7}{g c:Int}{k:Nat}(h:(Zp W g c k&&(!Zw W g c k||decide (Zk W c k<Z3 W g c k)))=true):Z3 W g c (k+1)=Zk W c k/\Zw W g c (k+1)=true:=by
 rw[<-zgz] at h
 have e:QY (Zp W g c) (Zk W c) (k+1)=(k:Int):=by
  simp only[QY]; rw[E' h]
 unfold Z3 Zw;rw[e,C' Qo,Ih];exact⟨rfl,Ii Qo⟩
theorem EN{W:Q7}{g c:Int}{k:Nat}(h:(Zp W g c k&&(!Zw W g c k||decide (Zk W c k<Z3 W g c k)))=false):Z3 W g c (k+1)=Z3 W g c k/\Zw W g c (k+1)=Zw W g c k:=by
 rw[<-zgz] at h
 have e:QY (Zp W g c) (Zk W c) (k+1)=QY (Zp W g c) (Zk W c) k:=by
  simp only[QY]; rw[C' (by rw[h]; decide)]
 unfold Z3 Zw;rw[e];exact⟨rfl,rfl⟩
theorem GA{g c:Int}(h:Xl bs w W m)(ha:WA W)(c0:0<=c)(c1:c<(W.IE.length:Int)):PX bs Vl #[.agg (Qa W m).toArray,I g,I c] w (.tuple #[I (Z3 W g c 20),.bool (Zw W g c 20)]):=
 zde _ _ _ _ _ _ _ _ _ _ g c λwr hx=>by
  have h:=(h.ext hx).less (cs:=[]) Qs;have cJ:=ha.gl;have kG:=ha.t;intro _ _;refine⟨λvs=>∃k:Nat,k<=12/\vs=[I (Z3 W g c k),.bool (Zw W g c k),I (k:Int)],Xg 12 2,⟨0,Qo,rfl⟩,?_⟩;rintro aX some t ⟨k,hk,he⟩;simp only[I5,I6,Value.bool.injEq,true_and,and_true] at he;obtain⟨rfl,rfl,rfl⟩:=he;refine⟨λIT=>?_,λRN=>?_⟩
  ·have IT:=Ot IT;have sU:k<12:=Qo;refine⟨h.t.ix QM Qo IT,_,_,_,_,_,_,_,_,_,h.t k Qo IT,λ_ _=>⟨λq=>⟨⟨Qo,Qo⟩,⟨k+1,Qo,?_⟩,Zc (k:=k) rfl rfl sU⟩,λq=>⟨⟨Qo,Qo⟩,⟨k+1,Qo,?_⟩,Zc (k:=k) rfl rfl sU⟩⟩⟩
   ·have q':(Zp W g c k&&(!Zw W g c k||decide (Zk W c k<Z3 W g c k)))=true:=by rw[UX sU,DS sU]; exact q
    obtain⟨e1,e2⟩:=EO q';rw[e1,e2,DS sU]; simp[Q8]
   ·have q':(Zp W g c k&&(!Zw W g c k||decide (Zk W c k<Z3 W g c k)))=false:=by rw[UX sU,DS sU]; exact q
    obtain⟨e1,e2⟩:=EN q';rw[e1,e2]; simp
  ·have RN:=Ou RN;have:k=12:=Qo;subst this;have e12:Z3 W g c 13=Z3 W g c 12/\Zw W g c 13=Zw W g c 12:=EN (by rw[zql]; rfl);refine⟨λvs=>∃k:Nat,1<=k/\k<=8/\vs=[I (Z3 W g c (12+k)),.bool (Zw W g c (12+k)),I (k:Int)],Xg 8 2,⟨1,Qo,Qo,by rw[show 12+1=13 from rfl,e12.1,e12.2]; rfl⟩,?_⟩;rintro kF DH1 t1 ⟨k,hk1,hk,he⟩;simp only[I5,I6,Value.bool.injEq,true_and,and_true] at he;obtain⟨rfl,rfl,rfl⟩:=he;refine⟨λIT=>?_,λRN=>?_⟩
   ·have IT:=Ot IT;have fE:(0:Int)<=(k:Int):=Qo
    have used:∀{x:Bool},(((gi W.ID (k:Int)).used&&((gi W.ID (k:Int)).parent==g))&&x)=true->Q6 W.ID (k:Int)=true/\c<((gi W.ID (k:Int)).IF.length:Int):=λ{x} q=>by
     simp only[A'] at q;have hu:=zkm IT q.1.1;exact⟨hu,by rw[ha.sl hu]; exact c1⟩
    have eA:J8 W g c k=(((gi W.ID (k:Int)).used&&((gi W.ID (k:Int)).parent==g))&&(Qc W (k:Int) c).on):=by
     unfold J8; rw[Ii hk1,Bool.true_and]
    have eP:Zp W g c (12+k)=(((gi W.ID (k:Int)).used&&((gi W.ID (k:Int)).parent==g))&&(Qc W (k:Int) c).on):=by rw[JZ,eA]
    refine⟨h.g.ix fE IT,_,h.g.used fE IT,λ_=>h.g.ix fE IT,_,λ_=>h.g.parent fE IT,(Qc W (k:Int) c).on,λq=>Vs h ha (used (x:=true) (by rw[q]; rfl)).1 c0 c1,λ_ _=>h.g.ix fE IT,_,_,_,λ_ _=>h.g.RE fE IT,λ_ q=>(h.g.IF _ fE IT).ix ZZ c0 (used q).2,(Qc W (k:Int) c).v,λ_ q=>zna.f (h.g.IF _ fE IT) c0 (used q).2 (j:=2) rfl,λq=>?_,λq=>⟨⟨Qo,Qo⟩,⟨k+1,Qo,Qo,?_⟩,Zc (k:=k) rfl rfl Qo⟩⟩
    ·have q2:=q;simp only[A'] at q2;have hu:=used (x:=(Qc W (k:Int) c).on) (by simp only[A']; exact q2.1);have q':(Zp W g c (12+k)&&(!Zw W g c (12+k)||decide (Zk W c (12+k)<Z3 W g c (12+k))))=true:=by rw[eP,DR]; exact q
     obtain⟨e1,e2⟩:=EO q';refine⟨h.g.ix fE IT,_,_,_,h.g.RE fE IT,(h.g.IF _ fE IT).ix ZZ c0 hu.2,_,zna.f (h.g.IF _ fE IT) c0 hu.2 (j:=2) rfl,⟨Qo,Qo⟩,⟨k+1,Qo,Qo,?_⟩,Zc (k:=k) rfl rfl Qo⟩;rw[show 12+(k+1)=12+k+1 from rfl,e1,e2,DR]; simp[Qc]
    ·have q':(Zp W g c (12+k)&&(!Zw W g c (12+k)||decide (Zk W c (12+k)<Z3 W g c (12+k))))=false:=by rw[eP,DR]; exact q
     obtain⟨e1,e2⟩:=EN q';rw[show 12+(k+1)=12+k+1 from rfl,e1,e2]; simp
   ·have RN:=Ou RN;have:k=8:=Qo;subst this;rfl
theorem zfz{g c:Int}(h:Xl bs w W m)(ha:WA W)(hu:Q6 W.ID g=true)(c0:0<=c)(c1:c<(W.IE.length:Int)):PX bs Uq #[.agg (Qa W m).toArray,I g,I c] w (I (Kw W g c)):=by
 have cJ:=ha.gl;have kG:=ha.t
 have key:∀(n:Nat) (g:Int),Q6 W.ID g=true->(3-dep 3 W.ID g).toNat=n->∀{bs:List Nat} {w:Wo},Xl bs w W m->PX bs Uq #[.agg (Qa W m).toArray,I g,I c] w (I (Kw W g c)):=by
  intro n
  induction n using Nat.strongRecOn with
  | ind n ih=>
   intro g hu hn bs w h;refine zgo _ _ _ _ _ _ _ _ _ _ g c λwr hx=>?_
   have h:=(h.ext hx).less (cs:=[]) Qs;have cZ:=Nd ha hu (c:=c);have hd:=Gd ha hu;intro _ _;refine⟨_,_,GA h ha c0 c1,λq=>?_,λq=>?_⟩
   ·have q:¬0<=QY (Zp W g c) (Zk W c) 20:=by
     unfold Zw at q
     simpa using q
    have q:¬0<=QW W g c:=q;rw[cZ,E' Qo]
   have hF0:0<=QY (Zp W g c) (Zk W c) 20:=by
    unfold Zw at q
    simpa using q
   have hF:0<=QW W g c:=hF0
   have CD7:Z3 W g c 20=Zk W c (QW W g c).toNat:=by
    show (if QW W g c<0 then 0 else Zk W c (QW W g c).toNat)=_;rw[C' (show ¬QW W g c<0 by omega)]
   have found:∀k:Nat,k<20->Zp W g c k=true->Zk W c k=Z3 W g c 20->(∀j,j<k->Zp W g c j=true->Zk W c j≠Z3 W g c 20)->QW W g c=(k:Int):=λk hk hp hv hb=>by
    rw[CD7] at hv hb;exact zoc hk hp hF hv hb
   refine⟨λvs=>∃k:Nat,vs=[I (k:Int)]/\k<=12/\∀j,j<k->Zp W g c j=true->Zk W c j≠Z3 W g c 20,Xg 12 0,⟨0,rfl,Qo,λj hj=>Is hj (Nat.not_lt_zero j)⟩,?_⟩;rintro t ⟨k,he,hk,hI⟩;simp only[I5,I6,true_and,and_true] at he;subst he;refine⟨λIT=>?_,λRN=>?_⟩
   ·have IT:=Ot IT;have sU:k<12:=Qo;refine⟨h.t.ix QM Qo IT,_,_,_,_,_,_,_,_,_,h.t k Qo IT,λb1 fD=>⟨λq2=>?_,λq2=>⟨⟨Qo,Qo⟩,⟨k+1,Qs,Qo,λj hj hp hv=>?_⟩,Zc (k:=k) rfl rfl sU⟩⟩⟩
    ·have q2':(OO W g c k&&((Q8 W (k:Int)).v==Z3 W g c 20))=true:=q2;simp only[A',It] at q2';have:=found k Qo (by rw[UX sU]; exact q2'.1) (by rw[DS sU]; exact q2'.2) hI;rw[cZ,C' Qo,E' Qo,this]
    ·by_cases iA:j<k
     ·exact hI j iA hp hv
     ·have:j=k:=Qo;subst this;rw[UX sU] at hp;rw[DS sU] at hv;have q2':(OO W g c j&&((Q8 W (j:Int)).v==Z3 W g c 20))=false:=q2;rw[hp,hv] at q2';simp at q2'
   ·have RN:=Ou RN;have:k=12:=Qo;subst this
    refine⟨λvs=>∃k:Nat,vs=[I (k:Int)]/\1<=k/\k<=8/\∀j,j<12+k->Zp W g c j=true->Zk W c j≠Z3 W g c 20,Xg 8 0,⟨1,rfl,Qo,Qo,λj hj hp=>by
     by_cases vO:j<12
     ·exact hI j vO hp
     ·have:j=12:=Qo;subst this;rw[zql] at hp; cases hp⟩,?_⟩
    rintro t2 ⟨k,he,hk1,hk,hI2⟩;simp only[I5,I6,true_and,and_true] at he;subst he;refine⟨λIT=>?_,λbK=>?_⟩
    ·have IT:=Ot IT;have fE:(0:Int)<=(k:Int):=Qo
     have used:∀{x:Bool},(((gi W.ID (k:Int)).used&&((gi W.ID (k:Int)).parent==g))&&x)=true->Q6 W.ID (k:Int)=true/\c<((gi W.ID (k:Int)).IF.length:Int):=λ{x} q=>by
      simp only[A'] at q;have hu:=zkm IT q.1.1;exact⟨hu,by rw[ha.sl hu]; exact c1⟩
     have eA:J8 W g c k=(((gi W.ID (k:Int)).used&&((gi W.ID (k:Int)).parent==g))&&(Qc W (k:Int) c).on):=by
      unfold J8; rw[Ii hk1,Bool.true_and]
     have eP:Zp W g c (12+k)=(((gi W.ID (k:Int)).used&&((gi W.ID (k:Int)).parent==g))&&(Qc W (k:Int) c).on):=by rw[JZ,eA]
     refine⟨h.g.ix fE IT,_,h.g.used fE IT,λ_=>h.g.ix fE IT,_,λ_=>h.g.parent fE IT,(Qc W (k:Int) c).on,λq=>Vs h ha (used (x:=true) (by rw[q]; rfl)).1 c0 c1,λ_=>h.g.ix fE IT,_,_,_,λ_=>h.g.RE fE IT,λq=>(h.g.IF _ fE IT).ix ZZ c0 (used q).2,(Qc W (k:Int) c).v,λq=>zna.f (h.g.IF _ fE IT) c0 (used q).2 (j:=2) rfl,λq=>?_,λq=>⟨⟨Qo,Qo⟩,⟨k+1,Qs,Qo,Qo,λj hj hp hv=>?_⟩,Zc (k:=k) rfl rfl Qo⟩⟩
     ·have q2:=q;simp only[A',It] at q2;have hfk:=found (12+k) Qo (by rw[eP]; simp only[A',It]; exact q2.1) (by rw[DR]; exact q2.2) hI2;have CM9:=Hf ha hu (c:=c) Qo;have ek:QW W g c-12=(k:Int):=Qo;rw[ek] at CM9;have hdk:=Gd ha CM9.1;refine⟨_,ih _ (show (3-dep 3 W.ID (k:Int)).toNat<n by omega) (k:Int) CM9.1 rfl h,?_⟩;rw[cZ,C' Qo,C' Qo,ek]
     ·by_cases iA:j<12+k
      ·exact hI2 j iA hp hv
      ·have:j=12+k:=Qo;subst this;rw[eP] at hp;rw[DR] at hv;rw[hp,hv] at q;simp at q
    ·have bK:=Ou bK;have:k=8:=Qo;subst this;rcases Zt (Zp W g c) (Zk W c) 20 with ⟨h1,_⟩ | ⟨h1,h2,h3,_,_⟩
     ·have:QW W g c = -1:=h1;omega
     ·exact Is CD7.symm (hI2 (QW W g c).toNat (by unfold QW; omega) h3)
 exact key _ g hu rfl h
theorem zf0{c:Int}(h:Xl bs w W m)(ha:WA W)(c0:0<=c)(c1:c<(W.IE.length:Int)):PX bs M5 #[.agg (Qa W m).toArray,I c] w (I (Qu W c)):=by
 refine zgp _ _ _ _ _ _ _ _ _ _ c λwr hx=>?_
 have h:=(h.ext hx).less (cs:=[]) Qs;intro _ _;refine⟨h.c.ix ZT c0 c1,_,h.c.f c0 c1 (j:=1) rfl,λ_=>h.c.ix ZT c0 c1,_,λ_=>h.c.f c0 c1 (j:=2) rfl,λg=>⟨h.c.ix ZT c0 c1,_,h.c.f c0 c1 (j:=1) rfl,?_⟩,λg=>⟨_,zfz h ha ha.root c0 c1,?_⟩⟩
 ·simp only[A',Ik] at g;unfold Qu; rw[E' g]
 ·unfold Qu; rw[C' (λhc=>by
   rw[Ii hc.1,Ii hc.2] at g; cases g)]
end
def IU(W:Q7)(t:Int)(x:MC):Q7:={ W with tasks:=W.tasks.set t.toNat x }
def RX(W:Q7)(c:Int)(x:Px):Q7:={ W with IE:=W.IE.set c.toNat x }
def Re(W:Q7)(g:Int)(x:ZN):Q7:={ W with ID:=W.ID.set g.toNat x }
def Rz(W:Q7)(g c:Int)(s:KL):Q7:=Re W g { gi W.ID g with IF:=(gi W.ID g).IF.set c.toNat s }
def RP(W:Q7)(g:Int)(b:Js):Q7:=Re W g { gi W.ID g with IN:=b }
theorem zb1{α:Type}[Inhabited α](l:List α)(i:Int):gi l i=gi l ((i.toNat:Nat):Int):=by unfold gi; rw[Ih]
structure Z6 (gs gs':List ZN):Prop where
 len:gs'.length=gs.length
 u:∀i:Int,(gi gs' i).used=(gi gs i).used
 p:∀i:Int,(gi gs' i).parent=(gi gs i).parent
 n:∀i:Int,(gi gs' i).name=(gi gs i).name
theorem Z6.refl(gs:List ZN):Z6 gs gs:=⟨rfl,λ_=>rfl,λ_=>rfl,λ_=>rfl⟩
theorem Z6.trans{a b c:List ZN}(h:Z6 a b)(k:Z6 b c):Z6 a c:=⟨k.len.trans h.len,λi=>(k.u i).trans (h.u i),λi=>(k.p i).trans (h.p i),λi=>(k.n i).trans (h.n i)⟩
theorem Z6.eO{gs gs':List ZN}(h:Z6 gs gs')(i:Int):Q6 gs' i=Q6 gs i:=by unfold Q6; rw[h.len,h.u]
theorem Z6.dep{gs gs':List ZN}(h:Z6 gs gs'):∀(f:Nat) (i:Int),YtnclplgaicdapaaGreatDoor.dep f gs' i=YtnclplgaicdapaaGreatDoor.dep f gs i
 | 0,i=>rfl
 | f+1,i=>by simp only[YtnclplgaicdapaaGreatDoor.dep]; rw[h.p,h.dep f]
theorem Z6.path{gs gs':List ZN}(h:Z6 gs gs'):∀(f:Nat) (i:Int),UN f gs' i=UN f gs i
 | 0,i=>rfl
 | f+1,i=>by simp only[UN]; rw[h.p,h.path f]
theorem Z6.tree{gs gs':List ZN}(h:Z6 gs gs')(t:Yc gs):Yc gs':=
 ⟨by rw[h.len]; exact t.len,by rw[h.u]; exact t.ru,by rw[h.p]; exact t.rp,by rw[h.n]; exact t.rn,λg a b c=>by rw[h.u] at c; rw[h.n]; exact t.nm g a b c,λg a b c=>by rw[h.u] at c; rw[h.eO,h.p]; exact t.par g a b c,
  λg a b c=>by rw[h.u] at c; rw[h.dep]; exact t.dp g a b c,λg k a b c d e=>by rw[h.u] at d e; rw[h.p,h.p,h.n,h.n]; exact t.uniq g k a b c d e⟩
theorem Yv{W:Q7}{g:Int}{x:ZN}(h0:0<=g)(h1:g<(W.ID.length:Int)){i:Int}(hi:0<=i):gi (Re W g x).ID i=if g=i then x else gi W.ID i:=QI _ _ h0 h1 hi
theorem JV{W:Q7}{g:Int}{x:ZN}(h0:0<=g)(h1:g<(W.ID.length:Int))(u:x.used=(gi W.ID g).used)(p:x.parent=(gi W.ID g).parent)(n:x.name=(gi W.ID g).name):Z6 W.ID (Re W g x).ID:=by
 have key:∀i:Int,gi (Re W g x).ID i=if g=((i.toNat:Nat):Int) then x else gi W.ID i:=λi=>by
  rw[zb1,Yv h0 h1 Qo,<-zb1 W.ID i]
 refine⟨H',λi=>?_,λi=>?_,λi=>?_⟩
 all_goals
  rw[key];split
  ·rename_i e;rw[zb1 W.ID i,<-e]; assumption
  ·rfl
theorem WA.set{W:Q7}(ha:WA W){g:Int}{x:ZN}(h0:0<=g)(h1:g<8)(u:x.used=(gi W.ID g).used)(p:x.parent=(gi W.ID g).parent)(n:x.name=(gi W.ID g).name)(hN:x.used=false->zts x)(hU:x.used=true->znc W g x):WA (Re W g x):=by
 have hl:=ha.gl;refine⟨ha.n1,ha.n2,ha.c1,ha.c2,ha.t,(JV h0 Qo u p n).tree ha.tree,ha.wT,λk k0 k1=>?_⟩;show MV (Re W g x) k;unfold MV;rw[Yv h0 Qo k0]
 by_cases e:g=k
 ·subst e;rw[E' rfl];exact⟨hN,λhu=>by have:=hU hu; exact⟨this.w1,this.w2,this.m,this.m0,this.s,this.len,this.root,this.none,this.IN⟩⟩
 ·rw[C' e];have:=ha.grp k k0 k1;exact⟨this.1,λhu=>by have:=this.2 hu; exact⟨this.w1,this.w2,this.m,this.m0,this.s,this.len,this.root,this.none,this.IN⟩⟩
theorem WA.Rz{W:Q7}(ha:WA W){g c:Int}{s:KL}(h0:0<=g)(h1:g<8):WA (Rz W g c s):=by
 have hg:=ha.grp g h0 h1;refine ha.set h0 h1 rfl rfl rfl (λhu=>?_) λhu=>?_
 ·have:=hg.1 hu;exact⟨this.p,this.n,this.w,this.c,this.pe,this.ne,this.s,by rw[H']; exact this.l,this.b⟩
 ·have:=hg.2 hu;exact⟨this.w1,this.w2,this.m,this.m0,this.s,by rw[H']; exact this.len,this.root,this.none,this.IN⟩
theorem Jo{W:Q7}{g c:Int}{s:KL}(h0:0<=g)(h1:g<(W.ID.length:Int))(c0:0<=c)(c1:c<((gi W.ID g).IF.length:Int)){i d:Int}(hi:0<=i)(hd:0<=d):Qc (Rz W g c s) i d=if g=i/\c=d then s else Qc W i d:=by
 unfold Qc YtnclplgaicdapaaGreatDoor.Rz;rw[Yv h0 h1 hi]
 by_cases e:g=i
 ·subst e;rw[E' rfl,QI _ _ c0 c1 hd]
  by_cases e2:c=d
  ·rw[E' e2,E' ⟨rfl,e2⟩]
  ·rw[C' e2,C' (λh=>e2 h.2)]
 ·rw[C' e,C' (λh=>e h.1)]
theorem XW{W:Q7}{g c:Int}{s:KL}(h0:0<=g)(h1:g<(W.ID.length:Int)):Z6 W.ID (Rz W g c s).ID:=JV h0 h1 rfl rfl rfl
theorem He{W:Q7}{g c:Int}{s:KL}(h0:0<=g)(h1:g<(W.ID.length:Int)){i d:Int}(hi:0<=i):Uf (Rz W g c s) i d=Uf W i d:=by
 unfold Uf YtnclplgaicdapaaGreatDoor.Rz;rw[Yv h0 h1 hi];split
 ·rename_i e; subst e; rfl
 ·rfl
theorem zg0{W:Q7}{g c:Int}{s:KL}(h0:0<=g)(h1:g<(W.ID.length:Int)){i:Int}(hi:0<=i):(gi (Rz W g c s).ID i).IN=(gi W.ID i).IN:=by
 unfold YtnclplgaicdapaaGreatDoor.Rz;rw[Yv h0 h1 hi];split
 ·rename_i e; subst e; rfl
 ·rfl
theorem Ny{W:Q7}{g c:Int}{s:KL}(h0:0<=g)(h1:g<(W.ID.length:Int)){i:Int}(hi:0<=i):(gi (Rz W g c s).ID i).IF.length=(gi W.ID i).IF.length:=by
 unfold YtnclplgaicdapaaGreatDoor.Rz;rw[Yv h0 h1 hi];split
 ·rename_i e; subst e; simp
 ·rfl
structure SW (K:Int) (W:Q7):Prop where
 a:WA W
 t:∀t:Int,0<=t->t<12->(Q8 W t).state≠0->Q6 W.ID (Q8 W t).group=true/\0<=(Q8 W t).M'/\(Q8 W t).M'<(W.IE.length:Int)
 tv:∀t:Int,0<=t->t<12->0<=(Q8 W t).v/\(Q8 W t).v<=K
 s:∀k c:Int,Q6 W.ID k=true->0<=c->c<(W.IE.length:Int)->0<=(Qc W k c).floor/\(Qc W k c).floor<=K/\0<=(Qc W k c).v/\(Qc W k c).v<=K/\1<=(Qc W k c).w/\(Qc W k c).w<=20
 cu:∀c:Int,0<=c->c<(W.IE.length:Int)->-1<=(gi W.IE c).cur/\(gi W.IE c).cur<12
structure SF (F K:Int) (W:Q7):Prop where
 w:SW K W
 f:∀k c:Int,Q6 W.ID k=true->0<=c->c<(W.IE.length:Int)->(Qc W k c).floor<=F
theorem SW.mono{K K':Int}{W:Q7}(h:SW K W)(hk:K<=K'):SW K' W:=
 ⟨h.a,h.t,λt a b=>by have:=h.tv t a b; omega,λk c u a b=>by have:=h.s k c u a b; omega,h.cu⟩
theorem SW.sf{K:Int}{W:Q7}(h:SW K W):SF K K W:=⟨h,λk c u a b=>(h.s k c u a b).2.1⟩
theorem SF.mono{F K F' K':Int}{W:Q7}(h:SF F K W)(hf:F<=F')(hk:K<=K'):SF F' K' W:=⟨h.w.mono hk,λk c u a b=>by have:=h.f k c u a b; omega⟩
theorem SW.li{K:Int}{W:Q7}(h:SW K W){t:Int}(t0:0<=t)(t1:t<(W.tasks.length:Int))(hs:(Q8 W t).state=1):Q6 W.ID (Q8 W t).group=true/\0<=(Q8 W t).M'/\(Q8 W t).M'<(W.IE.length:Int):=by
 have hl:=h.a.t;exact h.t t t0 Qo Qo
theorem SF.Rz{F K:Int}{W:Q7}(h:SF F K W){g c:Int}{s:KL}(hu:Q6 W.ID g=true)(c0:0<=c)(c1:c<(W.IE.length:Int))(f0:0<=s.floor)(f1:s.floor<=F)(fk:s.floor<=K)(v0:0<=s.v)(v1:s.v<=K)(w1:1<=s.w)(w2:s.w<=20):SF F K (Rz W g c s):=by
 obtain⟨u0,u1,_⟩:=Q5.1 hu;have hl:=h.w.a.gl;have hs:=h.w.a.sl hu;have hT:=XW (W:=W) (g:=g) (c:=c) (s:=s) u0 u1
 have e:∀k d:Int,Q6 (YtnclplgaicdapaaGreatDoor.Rz W g c s).ID k=true->0<=d->Qc (YtnclplgaicdapaaGreatDoor.Rz W g c s) k d=if g=k/\c=d then s else Qc W k d:=λk d uk hd=>by
  rw[hT.eO] at uk;exact Jo u0 u1 c0 Qo (Q5.1 uk).1 hd
 refine⟨⟨h.w.a.Rz u0 Qo,λt a b n=>by rw[hT.eO]; exact h.w.t t a b n,h.w.tv,λk d uk a b=>?_,h.w.cu⟩,λk d uk a b=>?_⟩
 ·rw[e k d uk a];rw[hT.eO] at uk;split
  ·exact⟨f0,fk,v0,v1,w1,w2⟩
  ·exact h.w.s k d uk a b
 ·rw[e k d uk a];rw[hT.eO] at uk;split
  ·exact f1
  ·exact h.f k d uk a b
def ZY(W:Q7)(k c:Int):KL:=
 { Qc W k c with
  v:=if (QV W k c && !Uf W k c)=true/\(Qc W k c).on=false then (Qc W (gi W.ID k).parent c).floor+Yh ((Qc W k c).v-(Qc W (gi W.ID k).parent c).floor) (Qc W k c).w else (Qc W k c).v
  on:=QV W k c && !Uf W k c }
def Zn(W:Q7)(c d:Int):Nat->Q7
 | 0=>W
 | k+1=>if (gi (Zn W c d k).ID (k:Int)).used=true/\dep 3 (Zn W c d k).ID (k:Int)=d then Rz (Zn W c d k) (k:Int) c (ZY (Zn W c d k) (k:Int) c) else Zn W c d k
theorem zsn{W:Q7}{c d:Int}(h:d≠0):Zn W c d 1=W:=by
 show (if (gi W.ID ((0:Nat):Int)).used=true/\dep 3 W.ID ((0:Nat):Int)=d then _ else W)=W;refine C' λhc=>h ?_
 have:=hc.2;rw[show (((0:Nat):Int))=0 from rfl,Y8] at this;exact this.symm
def YV(W:Q7)(c:Int):Nat->Q7
 | 0=>W
 | j+1=>Zn (YV W c j) c (3-(j:Int)) 8
def QG(W:Q7)(c:Int):Q7:=YV W c 3
abbrev Qi:Int:=34686091440
end Go.Proofs.YtnclplgaicdapaaGreatDoor
