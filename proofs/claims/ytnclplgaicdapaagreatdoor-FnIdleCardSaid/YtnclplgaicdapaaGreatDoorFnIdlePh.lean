/- Part 8 of what the law FnIdle needs. -/
import Derived.Test.YtnclplgaicdapaaGreatDoorFnIdlePg
import Derived.Laws.StructEq
set_option linter.unusedVariables false
set_option linter.unusedSimpArgs false
set_option maxRecDepth 100000
set_option maxHeartbeats 8000000
namespace Go.Proofs.YtnclplgaicdapaaGreatDoor
open Go.RowKit
def DO (P:Program):List Field->Nat->List Va->List Va->Option Bool
 | [],_,[],[]=>some true
 | f :: r, k, x :: xs, y :: ys => bif decide (f.name ≠ "_") && Nat.beq f.offset k then
   (match DO P r (k+1) xs ys with
   | some q=>(match P.underlying f.type,x,y with
    | some (.int _),.int a n,.int b m=>bif decide (a=b) then some ((n==m)&&q) else none
    | some .bool,.bool n,.bool m=>some ((n==m)&&q)
    | some .string,.string n,.string m=>some (Zv n m&&q)
    | _,_,_=>none)
   | none=>none) else none
 | _,_,_,_=>none
theorem BJ {P:Program} (d:Nat) (w:Wo) (xs ys:List Va):∀(fs:List Field) (k:Nat) (b:Bool),DO P fs k (xs.drop k) (ys.drop k)=some b->(Op.eqFields (d+1) xs.toArray ys.toArray fs).run P w=.ok b w
 | [],k,b,h=>by
  have hb:some true=some b:=by
   cases ex:xs.drop k with
   | nil=>
    cases ey:ys.drop k with
    | nil=>rw[ex,ey] at h; exact h
    | cons y ys'=>rw[ex,ey] at h; cases h
   | cons x xs'=>rw[ex] at h; cases h
  simp only[I0] at hb
  subst hb
  simp[Op.eqFields]
 | f::r,k,b,h=>by
  have hx:∀{l:List Va} {x:Va} {q:List Va},l.drop k=x::q->l[k]? = some x/\l.drop (k+1)=q:=λ{l x q} e=>by
   have h1:l[k]? = (l.drop k)[0]? := by simp
   have h2:l.drop (k+1)=(l.drop k).drop 1:=Qs
   rw[h1,h2,e]; simp
  cases exx:xs.drop k with
  | nil=>rw[exx] at h; cases h
  | cons x xs'=>
  cases eyy:ys.drop k with
  | nil=>rw[exx,eyy] at h; cases h
  | cons y ys'=>
   rw[exx,eyy] at h
   simp only[DO] at h
   obtain⟨gx,dx⟩:=hx exx
   obtain⟨gy,dy⟩:=hx eyy
   cases hc : (decide (f.name ≠ "_") && Nat.beq f.offset k) with
   | false=>rw[hc] at h; cases h
   | true=>
    rw[hc] at h
    simp only[cond_true] at h
    simp only[A',Ij] at hc
    have hof:=Ib hc.2
    split at h
    ·rename_i q hq
     have ih:=BJ d w xs ys r (k+1) q (by rw[dx,dy]; exact hq)
     have Bj0:∀{D:TypeDesc},P.underlying f.type=some D->Kv D=false->(part f.type xs.toArray f.offset).run P w=.ok x w/\(part f.type ys.toArray f.offset).run P w=.ok y w:=λ{D} hu hD=>by
      rw[hof]
      simp[part,T7 hu,hD,gx,gy]
     split at h
     ·rename_i K a n b' m hu
      cases hab:decide (a=b') with
      | false=>rw[hab] at h; cases h
      | true=>
       have:=Ot hab
       subst this
       rw[hab] at h
       simp only[cond_true,I0] at h
       subst h
       obtain⟨p1,p2⟩:=Bj0 hu rfl
       simp only[Op.eqFields,C' hc.1,Sem.run_bind,p1,p2,Result.andThen_ok,run_equalIn_int w d f.type a K n m hu,Sem.run_ite]
       cases n==m <;> simp[ih]
     ·rename_i n m hu
      simp only[I0] at h
      subst h
      obtain⟨p1,p2⟩:=Bj0 hu rfl
      simp only[Op.eqFields,C' hc.1,Sem.run_bind,p1,p2,Result.andThen_ok,run_equalIn_bool' w d f.type n m hu,Sem.run_ite]
      cases n==m <;> simp[ih]
     ·rename_i n m hu
      simp only[I0] at h
      subst h
      obtain⟨p1,p2⟩:=Bj0 hu rfl
      simp only[Op.eqFields,C' hc.1,Sem.run_bind,p1,p2,Result.andThen_ok,run_equalIn_string w d f.type n m hu,Sem.run_ite]
      unfold Zv
      cases n.toList==m.toList <;> simp[ih]
     ·cases h
    ·cases h
structure zbr (P:Program) (t:TypeId):Prop where
 u:P.underlying t=some (.struct (P.fieldsOf t))
 s:P.stoodInHeld t=false
 g:P.eqGuardType P.depth t=false
theorem LI{P:Program}{t:TypeId}(F:zbr P t){xs ys:List Va}{b:Bool}(h:DO P (P.fieldsOf t).toList 0 xs ys=some b)(w:Wo):(Op.equal t (.agg xs.toArray) (.agg ys.toArray)).run P w=.ok b w:=by
 have:=run_equalIn_struct (P:=P) w 9999 t xs.toArray ys.toArray F.u F.s;rw[BJ 9998 w xs ys _ 0 b (by simpa using h)] at this;exact this
theorem zfm{P:Program}{t:TypeId}(F:zbr P t){xs ys:List Va}{b:Bool}(h:DO P (P.fieldsOf t).toList 0 xs ys=some b)(x y:Operand)(w:Wo):((do eqGuard .eql t x y (.agg xs.toArray) (.agg ys.toArray); binOp .eql t (.agg xs.toArray) (.agg ys.toArray)):Sem Va).run P w=.ok (.bool b) w:=by
 have:=LI F h w;simp only[Op.equal,Op.maxDepth] at this;simp only[Sem.run_bind,run_eqGuard_agg w .eql t x y _ _ F.g,Result.andThen_ok,run_eql_struct,this]
theorem F0{P:Program}{t:TypeId}(F:zbr P t){xs ys:List Va}{b:Bool}(h:DO P (P.fieldsOf t).toList 0 xs ys=some b)(x y:Operand)(w:Wo):((do eqGuard .neq t x y (.agg xs.toArray) (.agg ys.toArray); binOp .neq t (.agg xs.toArray) (.agg ys.toArray)):Sem Va).run P w=.ok (.bool (!b)) w:=by
 have:=LI F h w;simp only[Op.equal,Op.maxDepth] at this;simp only[Sem.run_bind,run_eqGuard_agg w .neq t x y _ _ F.g,Result.andThen_ok,run_neq_struct,this]
theorem PY:zbr Tryz.prog QQ:=⟨Qk,Qk,Qk⟩
def UI(p:Int)(n:ByteArray):Va:=.agg #[I p,.string n]
theorem zp9(p q:Int)(n m:ByteArray):DO Tryz.prog (Tryz.prog.fieldsOf QQ).toList 0 [I p,.string n] [I q,.string m]=some ((p==q)&&(Zv n m&&true)):=Qk
theorem zka(p q:Int)(n m:ByteArray)(w:Wo):(Op.equal QQ (UI p n) (UI q m)).run Tryz.prog w=.ok (decide (p=q/\n=m)) w:=by
 have:=LI PY (zp9 p q n m) w
 have e:((p==q)&&(Zv n m&&true))=decide (p=q/\n=m):=by
  rw[BL,Bool.and_true]
  by_cases h1:p=q <;> by_cases h2:n=m <;> simp[h1,h2]
 rw[e] at this;exact this
theorem zo0(p:Int)(n:ByteArray)(w:Wo):∀(es:List MapEntry) (i:Nat),(∀e∈es,∃q m v,e.key=UI q m/\e.val=I v)->
  (∃(j:Nat) (v:Int),(Instr.findAsking QQ (UI p n) es i).run Tryz.prog w=.ok (some (j,I v)) w/\∃e∈es,e.key=UI p n) \/
  ((Instr.findAsking QQ (UI p n) es i).run Tryz.prog w=.ok none w/\∀e∈es,e.key≠UI p n)
 | [],i,_=>.inr ⟨by simp[Instr.findAsking],λe he=>by cases he⟩
 | e::r,i,h=>by
  obtain⟨q,m,v,hk,hv⟩:=h e (I9 ..)
  by_cases hq:p=q/\n=m
  ·refine .inl ⟨i,v,?_,e,I9 ..,by rw[hk,hq.1,hq.2]⟩;simp only[Instr.findAsking,hk,Sem.run_bind,zka,Ih hq,Result.andThen_ok,if_true,Sem.run_pure,hv]
  ·have cA:(Instr.findAsking QQ (UI p n) (e::r) i).run Tryz.prog w=(Instr.findAsking QQ (UI p n) r (i+1)).run Tryz.prog w:=by
    simp only[Instr.findAsking,hk,Sem.run_bind,zka,decide_eq_false hq,Result.andThen_ok,Bool.false_eq_true,if_false]
   have bT:e.key≠UI p n:=λe'=>by
    rw[hk] at e';simp only[UI,Value.agg.injEq,List.toArray_inj,Array.mk.injEq,I4,I5,true_and,Value.string.injEq,and_true] at e';exact hq ⟨e'.1.symm,e'.2.symm⟩
   rcases zo0 p n w r (i+1) (λx hx=>h x (I1 _ hx)) with ⟨j,v',h1,x,hx,h2⟩ | ⟨h1,h2⟩
   ·exact .inl ⟨j,v',by rw[cA]; exact h1,x,I1 _ hx,h2⟩
   ·exact .inr ⟨by rw[cA]; exact h1,λx hx=>by
     rcases Ii.1 hx with rfl | hx
     ·exact bT
     ·exact h2 x hx⟩
theorem AT(p:Int)(n:ByteArray)(w:Wo)(es:List MapEntry)(h:∀e∈es,∃q m v,e.key=UI q m/\e.val=I v) :
  (∃(j:Nat) (v:Int),(Instr.findKey QQ (UI p n) es).run Tryz.prog w=.ok (some (j,I v)) w/\∃e∈es,e.key=UI p n) \/
  ((Instr.findKey QQ (UI p n) es).run Tryz.prog w=.ok none w/\∀e∈es,e.key≠UI p n):=by
 cases es with
 | nil=>exact .inr ⟨by simp[Instr.findKey,run_underlying PY.u,Instr.findNow],λe he=>by cases he⟩
 | cons e r=>
  have hs:(Instr.findKey QQ (UI p n) (e::r)).run Tryz.prog w=(Instr.findAsking QQ (UI p n) (e::r) 0).run Tryz.prog w:=by
   simp[Instr.findKey,run_underlying PY.u,Instr.findNow,Instr.sameNow]
  rw[hs];exact zo0 p n w (e::r) 0 h
theorem zde:∃a b:Field,(Tryz.prog.fieldsOf QQ).toList=[a,b]/\a.type=Qc/\a.offset=0/\b.type=ZL/\b.offset=1:=⟨(Tryz.prog.fieldsOf QQ)[0]!,(Tryz.prog.fieldsOf QQ)[1]!,Qk,Qk,Qk,Qk,Qk⟩
theorem LH (em:Bool) (p:Int) (n:ByteArray) (w:Wo):(Instr.checkKey em 10000 QQ (UI p n)).run Tryz.prog w=.ok () w:=by
 obtain⟨a,b,hl,a1,a2,b1,b2⟩:=zde
 have p1:(part Qc #[.int .i64 p,.string n] 0).run Tryz.prog w=.ok (.int .i64 p) w:=by simp[part,T7 z2r,Kv]
 have p2:(part ZL #[.int .i64 p,.string n] 1).run Tryz.prog w=.ok (.string n) w:=by simp[part,T7 zf3,Kv]
 have c1:∀d:Nat,(Instr.checkKey em (d+1) Qc (.int .i64 p)).run Tryz.prog w=.ok () w:=λd=>by simp[Instr.checkKey,run_underlying z2r]
 have c2:∀d:Nat,(Instr.checkKey em (d+1) ZL (.string n)).run Tryz.prog w=.ok () w:=λd=>by simp[Instr.checkKey,run_underlying zf3]
 have key:∀d:Nat,(Instr.checkKey em (d+1+1) QQ (UI p n)).run Tryz.prog w=.ok () w:=λd=>by
  rw[Instr.checkKey]
  simp only[UI,Sem.run_bind,run_underlying PY.u,Result.andThen_ok]
  rw[<-Array.forIn_toList,hl]
  by_cases ha : a.name ≠ "_" <;> by_cases hb : b.name ≠ "_" <;> simp [ha, hb, a1, a2, b1, b2, p1, p2, c1, c2]
 exact key 9998
theorem AE:Tryz.prog.underlying ZK=some (.map QQ Qc):=Qk
theorem z5d(w:Wo):(zeroValue Qc).run Tryz.prog w=.ok (I 0) w:=by
 have h:(match Tryz.prog.info? Qc with | some i=>i.zero | none=>none)=some (I 0):=Qk
 cases hi:Tryz.prog.info? Qc with
 | none=>rw[hi] at h; cases h
 | some i=>
  rw[hi] at h;simp only at h;simp[zeroValue,U7 hi,h]
def Fc(w:Wo)(b:Nat)(es:Array MapEntry):Prop:=(∃c,w.heap[b]? = some (.map es c))/\∀e∈es.toList,∃q m v,e.key=UI q m/\e.val=I v
theorem zyw{w:Wo}{b:Nat}{es:Array MapEntry}(h:Fc w b es)(p:Int)(n:ByteArray) :
  ∃(v:Int) (ok:Bool),(Instr.lookup ZK (.map (some b)) (UI p n) true).run Tryz.prog w=.ok (.tuple #[I v,.bool ok]) w/\(ok=true↔∃e∈es.toList,e.key=UI p n):=by
 obtain⟨⟨c,hc⟩,hes⟩:=h;have hg:(getObj b).run Tryz.prog w=.ok (.map es c) w:=by simp[getObj,Sem.run,hc]
 rcases AT p n w es.toList hes with ⟨j,v,h1,h2⟩ | ⟨h1,h2⟩
 ·exact⟨v,true,by simp[Instr.lookup,run_underlying AE,hg,LH,h1],by simpa using h2⟩
 ·exact⟨0,false,by simp[Instr.lookup,run_underlying AE,hg,LH,h1,z5d],⟨λh=>(by cases h),λ⟨e,he,hk⟩=>Ir hk (h2 e he)⟩⟩
theorem z1v{w:Wo}{b:Nat}{es:Array MapEntry}(h:Fc w b es){p:Int}{n:ByteArray}(iX:∀e∈es.toList,e.key≠UI p n)(v:Int) :
  ∃w' c,((do Instr.mapUpdate ZK (.map (some b)) (UI p n) (I v); pure undef):Sem Va).run Tryz.prog w=.ok undef w'/\Q0 [b] w w'/\Fc w' b (es.push { key:=UI p n,val:=I v,born:=c }):=by
 obtain⟨⟨c,hc⟩,hes⟩:=h;have hg:(getObj b).run Tryz.prog w=.ok (.map es c) w:=by simp[getObj,Sem.run,hc]
 have hfk:(Instr.findKey QQ (UI p n) es.toList).run Tryz.prog w=.ok none w:=by
  rcases AT p n w es.toList hes with ⟨j,v,_,e,he,hk⟩ | ⟨h1,_⟩
  ·exact Ir hk (iX e he)
  ·exact h1
 have hs:(setObj b (.map (es.push { key:=UI p n,val:=I v,born:=c }) (c+1))).run Tryz.prog w=.ok () { w with heap:=w.heap.setIfInBounds b (.map (es.push { key:=UI p n,val:=I v,born:=c }) (c+1)) }:=by
  simp[setObj,Sem.run,hc]
 have IN:=JG hc;refine⟨{ w with heap:=w.heap.setIfInBounds b (.map (es.push { key:=UI p n,val:=I v,born:=c }) (c+1)) },c,by simp[Instr.mapUpdate,run_underlying AE,hg,LH,hfk,hs],⟨rfl,rfl,rfl,Qs,λk _ hk=>?_⟩,⟨c+1,by simp[IN]⟩,λe he=>?_⟩
 ·have:b≠k:=λe=>hk (by simp[e])
  show (w.heap.setIfInBounds b _)[k]? = _;rw[Array.getElem?_setIfInBounds_ne this]
 ·rw[Array.toList_push,Im] at he;rcases he with he | he
  ·exact hes e he
  ·rw[IA] at he;subst he;exact⟨p,n,v,rfl,rfl⟩
theorem Fc.ext{w w':Wo}{b:Nat}{es:Array MapEntry}{bs:List Nat}(h:Fc w b es)(hx:Q0 bs w w')(hb:b∉bs):Fc w' b es:=by
 obtain⟨⟨c,hc⟩,hes⟩:=h;exact⟨⟨c,QB hc hx hb⟩,hes⟩
def zdb(p:OA):List Va:=[.pointer p]
theorem Mh:zrr Tryz.prog zdb 1 YE 8 none:=Ev Qk λ_=>rfl
theorem zvp:Tryz.prog.underlying Kj=some (.slice YE):=Qk
def VP(w:Wo)(b:Nat)(g:Int)(n:ByteArray)(up:OA):Prop:=w.heap[b]? = some (.cells ([I g,.string n,.pointer up]:List Va).toArray BQ (0,0))
theorem VP.ext{w w':Wo}{b:Nat}{g:Int}{n:ByteArray}{up:OA}{bs:List Nat}(h:VP w b g n up)(hx:Q0 bs w w')(hb:b∉bs):VP w' b g n up:=QB h hx hb
theorem VP.cells{w:Wo}{b:Nat}{g:Int}{n:ByteArray}{up:OA}(h:VP w b g n up){bs:List Nat}(hb:b∉bs):Q1 bs w (some ⟨b,0,none⟩) 0 [I g,.string n,.pointer up]:=
 VQ h hb λj v hj=>by rw[Nat.zero_add,Nat.zero_add]; exact hj
def zrm(gs:List ZX)(nb:Int->Nat)(x:Int):OA:=if x=0 then none else some ⟨nb (gi gs x).parent,0,none⟩
structure Ns (bs:List Nat) (w:Wo) (gs:List ZX) (nb:Int->Nat):Prop where
 node:∀x:Int,Q6 gs x=true->Q1 bs w (some ⟨nb x,0,none⟩) 0 [I x,.string (gi gs x).name,.pointer (zrm gs nb x)]
 par:∀x:Int,x≠0->Q6 gs x=true->Q6 gs (gi gs x).parent=true
theorem Ns.ext{bs:List Nat}{w w':Wo}{gs:List ZX}{nb:Int->Nat}(h:Ns bs w gs nb)(hx:Q0 bs w w'):Ns bs w' gs nb:=⟨λx hu=>(h.node x hu).ext hx,h.par⟩
theorem Ns.less{bs cs:List Nat}{w:Wo}{gs:List ZX}{nb:Int->Nat}(h:Ns bs w gs nb)(hs:∀x∈cs,x∈bs):Ns cs w gs nb:=⟨λx hu=>(h.node x hu).less hs,h.par⟩
def zer(gs:List ZX)(f:Nat)(x:Int)(s:Int):Int:=if dep f gs x<0 then -1 else s+dep f gs x
theorem z04{gs:List ZX}{nb:Int->Nat}{w:Wo}{bs:List Nat}(h:Ns bs w gs nb){x:Int}(hu:Q6 gs x=true):PX bs VY #[.pointer (some ⟨nb x,0,none⟩)] w (I (zer gs 3 x 0)):=
 By (some ⟨nb x,0,none⟩) λwr hx=>by
  have h:=(h.ext hx).less (cs:=[]) Qs;refine⟨λvs=>(∃(y:Int) (s:Nat),Q6 gs y=true/\s<=4/\vs=[.pointer (some ⟨nb y,0,none⟩),I (s:Int)]/\(s<=3->zer gs (3-s) y s=zer gs 3 x 0)/\(s=4->zer gs 3 x 0 = -1))\/∃s:Nat,s<=4/\vs=[.pointer none,I (s:Int)]/\zer gs 3 x 0 = -1,λvs=>(5-ZE 1 vs).toNat,.inl ⟨x,0,hu,Qo,rfl,λ_=>rfl,λh=>by omega⟩,?_⟩;rintro n1 st (⟨y,s,hy,hs,he,h1,h2⟩ | ⟨s,hs,he,h1⟩)
  ·simp only[I4,I5,Value.pointer.injEq,true_and,and_true] at he;obtain⟨rfl,rfl⟩:=he;refine⟨λhc=>?_,λhc=>?_⟩
   ·have fQ:s<=3:=by
     simp only[Option.isNone_some,Bool.not_false,Bool.true_and,Ij] at hc;omega
    have hn:=h.node y hy;refine⟨rfl,y,hn.get 0 _ rfl,λhz=>?_,λhz=>?_⟩
    ·have hz:y=0:=by simpa using hz
     rw[<-h1 fQ];subst hz;unfold zer;rw[Yj,B' Qo,Int.add_zero]
    ·have hz:y≠0:=by simpa using hz
     have hm:zrm gs nb y=some ⟨nb (gi gs y).parent,0,none⟩:=by unfold zrm; rw[B' hz]
     refine⟨⟨Qo,Qo⟩,rfl,_,by have:=hn.get 2 _ rfl; exact this,.inl ⟨(gi gs y).parent,s+1,h.par y hz hy,Qo,by rw[hm]; simp,λhs'=>?_,λhs'=>?_⟩,?_⟩
     ·rw[<-h1 fQ];have e:3-s=(3-(s+1))+1:=Qo;rw[e];unfold zer;simp only[dep,B' hz]
      by_cases hd:dep (3-(s+1)) gs (gi gs y).parent<0
      ·rw[C' hd,C' hd,C' Qo]
      ·rw[B' hd,B' hd,B' Qo]; omega
     ·rw[<-h1 fQ];have e:3-s=0:=Qo;rw[e];unfold zer;simp only[dep,B' hz];rfl
     ·show (5-((s:Int)+1)).toNat<(5-(s:Int)).toNat;omega
   ·have eZ:s=4:=by
     simp only[Option.isNone_some,Bool.not_false,Bool.true_and,decide_eq_false_iff_not] at hc;omega
    rw[h2 eZ]
  ·simp only[I4,I5,Value.pointer.injEq,true_and,and_true] at he;obtain⟨rfl,rfl⟩:=he;refine⟨λhc=>by simp at hc,λ_=>by rw[h1]⟩
section
variable {gs:List ZX}{ms:Nat->MG}{o:OA}{c:Nat}{w:Wo}{bs:List Nat}
theorem KV{g:Int}(h:Lp bs w o gs ms)(hl:gs.length<=maxLen):PX bs Uf #[.slice o gs.length c,I g] w (.bool (Q6 gs g)):=
 Af o gs.length c g λwr hx=>by
  have h:=(h.ext hx).less (cs:=[]) Qs;have:=XD
  have e:YP g 0 ((gs.length:Int)-1)=(decide (g>=0)&&decide (g<(gs.length:Int))):=by
   unfold YP
   congr 1
   exact decide_eq_decide.2 Qo
  refine⟨⟨Qo,Qo⟩,_,QC,λq=>?_,(gi gs g).used,λq=>?_,by rw[e]; rfl⟩
  ·have q:=Qv.1 q;exact h.ix Qo Qo
  ·have q:=Qv.1 q;exact h.used Qo Qo
theorem z05(h:Lp [] w o gs ms)(hl:gs.length<=maxLen) :
  Cz Ks #[.slice o gs.length c] w λe w'=>∃(o':OA) (L C:Nat) (ok:Bool),e=.returned (.tuple #[.slice o' L C,.bool ok])/\ok=Ki gs/\Q0 [] w w'/\
   (ok=false->L=0)/\(ok=true->L=8/\∃(pl:List (OA)) (nb:Int->Nat),pl.length=8/\Rd zdb 1 [] w' o' pl/\(∀g:Int,0<=g->g<8->gi pl g=if (gi gs g).used then some ⟨nb g,0,none⟩ else none)/\Ns [] w' gs nb):=by
 refine(zli o gs.length c (R:=λv w'=>∃(o':OA) (L C:Nat) (ok:Bool),v=.tuple #[.slice o' L C,.bool ok]/\ok=Ki gs/\Q0 [] w w'/\
   (ok=false->L=0)/\(ok=true->L=8/\∃(pl:List (OA)) (nb:Int->Nat),pl.length=8/\Rd zdb 1 [] w' o' pl/\(∀g:Int,0<=g->g<8->gi pl g=if (gi gs g).used then some ⟨nb g,0,none⟩ else none)/\Ns [] w' gs nb)) ?_).mono λe w' ⟨v,he,o',L,C,ok,hv,hr⟩=>⟨o',L,C,ok,by rw[he,hv],hr⟩
 have bad:∀w',Q0 [] w w'->¬Y8 gs->∃(o':OA) (L C:Nat) (ok:Bool),Value.tuple #[.slice none 0 0,.bool false]=.tuple #[.slice o' L C,.bool ok]/\ok=Ki gs/\Q0 [] w w'/\
   (ok=false->L=0)/\(ok=true->L=8/\∃(pl:List (OA)) (nb:Int->Nat),pl.length=8/\Rd zdb 1 [] w' o' pl/\(∀g:Int,0<=g->g<8->gi pl g=if (gi gs g).used then some ⟨nb g,0,none⟩ else none)/\Ns [] w' gs nb):=λw' hx iX=>
  ⟨none,0,0,false,rfl,(BP iX).symm,hx,λ_=>rfl,λh=>by cases h⟩
 have l8:((((gs.length:Nat):Int) != 8)=false)->gs.length=8:=λq=>by have:=(bne_eq_false_iff_eq).1 q; omega
 have i0:∀q:(((gs.length:Nat):Int) != 8)=false,(0:Int)<(gs.length:Int):=λq=>by have:=l8 q; omega
 refine⟨λq=>h.ix (I2 _) (i0 q),(gi gs 0).used,λq=>h.used (I2 _) (i0 q),λq=>?_,(gi gs 0).parent,λq=>?_,λq=>?_,(gi gs 0).name,λq=>?_,λq=>?_,λq=>?_⟩
 ·simp only[H'] at q; exact h.ix (I2 _) (i0 q.1)
 ·simp only[H'] at q; exact h.parent (I2 _) (i0 q.1)
 ·simp only[H'] at q; exact h.ix (I2 _) (i0 q.1.1)
 ·simp only[H'] at q; exact h.name (I2 _) (i0 q.1.1)
 ·intro w1 RZ;refine bad w1 RZ λht=>?_
  have e:((gs.length:Nat):Int)=8:=by have:=ht.len; omega
  rw[e,ht.ru,ht.rp,ht.rn,BL] at q;simp at q
 simp only[H',I6,bne_eq_false_iff_eq,U8] at q;obtain⟨⟨⟨q1,ru⟩,rp⟩,rn⟩:=q;have hl8:gs.length=8:=Qo;intro wr hx _;refine⟨some ⟨wr.heap.size,0,none⟩,8,8,wr.alloc (.cells ((List.replicate 8 none).flatMap zdb).toArray YE),KF Mh zvp 8 Qd (by simp[maxLen]) wr,Ys,?_⟩;have hO0:=Vv (enc:=zdb) Mh.len YE 8 none wr;have hX0:Q0 [] wr (wr.alloc (.cells ((List.replicate 8 none).flatMap zdb).toArray YE)):=Z7 wr _;generalize wr.alloc (.cells ((List.replicate 8 (none:OA)).flatMap zdb).toArray YE)=wv at hO0 hX0
 refine XJ 8 0 rfl (λk w1=>k<=8/\Q0 [] wr w1/\∃(pl:List (OA)) (nb:Int->Nat),pl.length=8/\V3 zdb 1 YE wr.heap.size w1 (some ⟨wr.heap.size,0,none⟩) 8 pl/\
   (∀g:Int,0<=g->g<8->gi pl g=if g<(k:Int)/\(gi gs g).used=true then some ⟨nb g,0,none⟩ else none)/\
   (∀g:Int,0<=g->g<(k:Int)->(gi gs g).used=true->wr.heap.size<=nb g/\VP w1 (nb g) g (gi gs g).name none)/\
   (∀g g':Int,0<=g->g<(k:Int)->0<=g'->g'<(k:Int)->(gi gs g).used=true->(gi gs g').used=true->nb g=nb g'->g=g')) (λw1 RZ _=>⟨Ic _,hX0.trans RZ,List.replicate 8 none,λ_=>0,rfl,hO0.Wt RZ,λg h0 h1=>?_,λg h0 h1=>by omega,λg g' h0 h1=>by omega⟩) λk w1 _ ⟨hk,hX,pl,nb,hpl,hO,hP,hN,Bu3⟩=>⟨λIN=>?_,λRx=>?_⟩
 ·rw[B' (λhc=>by omega)];exact List.eq_of_mem_replicate (NN h0 (by simpa using h1))
 ·have IN:=Ot IN;have hr:=(h.ext hx).ext hX;have dS:(0:Int)<=(k:Int):=Qo;refine⟨hr.ix dS IN,_,hr.used dS IN,λhu=>⟨hr.ix dS IN,_,hr.name dS IN,λb wb hxb hb hhb _=>?_⟩,λhu=>⟨⟨Qo,Qo⟩,λw2 R5 _=>Qp Qo ⟨Qo,hX.trans R5,pl,nb,hpl,hO.Wt R5,λg h0 h1=>?_,λg h0 h1 hg=>?_,λg g' h0 h1 h0' h1' hg hg'=>?_⟩⟩⟩
  ·have hOb:=hO.Wt hxb;have rY:(k:Int)<(pl.length:Int):=by rw[hpl]; omega
   have Wg:=hOb.ix dS rY;rw[hpl] at Wg;refine⟨Wg,hOb.wr Mh.len Qs dS rY (j:=0) (n:=1) Qo,⟨Qo,Qo⟩,λw2 R5 _=>Qp Qo ⟨Qo,?_,pl.set k (some ⟨b,0,none⟩),λg=>if g=(k:Int) then b else nb g,by rw[E']; exact hpl,?_,λg h0 h1=>?_,λg h0 h1 hg=>?_,λg g' h0 h1 h0' h1' hg hg' he=>?_⟩⟩
   ·exact(hOb.CZ1 _ _ (hX.trans hxb) (I7 _)).trans R5
   ·exact(hOb.R9 Mh.len (i:=(k:Int)) dS rY (j:=0) (vs:=[.pointer (some ⟨b,0,none⟩)]) (x:=some ⟨b,0,none⟩) rfl Qs).Wt R5
   ·have:=QM pl (some ⟨b,0,none⟩) (i:=(k:Int)) (j:=g) dS rY h0;rw[Ig] at this;rw[this]
    by_cases rX:(k:Int)=g
    ·subst rX;rw[C' rfl,C' ⟨Qo,hu⟩]
     dsimp only
     rw[C' rfl]
    ·rw[B' rX,hP g h0 h1]
     dsimp only
     rw[show (if g=(k:Int) then b else nb g)=nb g from B' (λe=>rX e.symm)]
     by_cases RA:g<(k:Int)
     ·by_cases jW:(gi gs g).used=true
      ·rw[C' ⟨RA,jW⟩,C' ⟨Qo,jW⟩]
      ·rw[B' (λhc=>jW hc.2),B' (λhc=>jW hc.2)]
     ·rw[B' (λhc=>RA hc.1),B' (λhc=>by omega)]
   ·have rH:Q0 (QL (some ⟨wr.heap.size,0,none⟩)) wb (R9 wb (some ⟨wr.heap.size,0,none⟩) (Int.toNat (k:Int)*1) [.pointer (some ⟨b,0,none⟩)]):=hOb.qW _ _
    have bT:∀q,VP wb q g (gi gs g).name none->q∉QL (some (⟨wr.heap.size,0,none⟩:Addr)):=λq hq hm=>by
     simp only[QL,IA] at hm;subst hm;rcases hOb with ⟨hc,_⟩ | ⟨b',sp,he,_,h2,_⟩
     ·cases hc
     ·simp only[I0,Addr.mk.injEq,and_true] at he;subst he;unfold VP at hq;rw[h2] at hq;simp only[I0,Obj.cells.injEq] at hq;exact Ir hq.2.1 Qd
    dsimp only
    by_cases rX:g=(k:Int)
    ·subst rX;rw[C' rfl];have hq:VP wb b (k:Int) (gi gs (k:Int)).name none:=hhb;exact⟨IB hX.size hb,((hq.ext rH (bT b hq)).ext R5 Qs)⟩
    ·rw[B' rX];obtain⟨n1,n2⟩:=hN g h0 Qo hg;have n3:=n2.ext hxb Qs;exact⟨n1,(n3.ext rH (bT _ n3)).ext R5 Qs⟩
   ·have fresh:∀q:Int,0<=q->q<(k:Int)->(gi gs q).used=true->nb q≠b:=λq a1 a2 a3 e=>by
     have:=JG (hN q a1 a2 a3).2;omega
    dsimp only at he
    by_cases rX:g=(k:Int)
    ·by_cases hgk':g'=(k:Int)
     ·rw[rX,hgk']
     ·rw[C' rX,B' hgk'] at he;exact Ir he.symm (fresh g' h0' Qo hg')
    ·by_cases hgk':g'=(k:Int)
     ·rw[B' rX,C' hgk'] at he;exact Ir he (fresh g h0 Qo hg)
     ·rw[B' rX,B' hgk'] at he;exact Bu3 g g' h0 Qo h0' Qo hg hg' he
  ·rw[hP g h0 h1]
   by_cases rX:g=(k:Int)
   ·subst rX;rw[B' (λhc=>by omega),B' (λhc=>by rw[hu] at hc; exact Ir hc.2 Qd)]
   ·by_cases RA:g<(k:Int)
    ·by_cases jW:(gi gs g).used=true
     ·rw[C' ⟨RA,jW⟩,C' ⟨Qo,jW⟩]
     ·rw[B' (λhc=>jW hc.2),B' (λhc=>jW hc.2)]
    ·rw[B' (λhc=>RA hc.1),B' (λhc=>by omega)]
  ·by_cases rX:g=(k:Int)
   ·subst rX; rw[hu] at hg; cases hg
   ·obtain⟨n1,n2⟩:=hN g h0 Qo hg;exact⟨n1,n2.ext R5 Qs⟩
  ·have e1:g≠(k:Int):=λe=>by subst e; rw[hu] at hg; cases hg
   have e2:g'≠(k:Int):=λe=>by subst e; rw[hu] at hg'; cases hg'
   exact Bu3 g g' h0 Qo h0' Qo hg hg'
 ·have Rx:=Ou Rx;have hk8:k=8:=Qo;subst hk8;intro w2 R5 _;refine⟨.map (some w2.heap.size),w2.alloc (.map #[] 0),by simp[Instr.makeMap],Ys,?_⟩;have hM0:Fc (w2.alloc (.map #[] 0)) w2.heap.size #[]:=⟨⟨0,Array.getElem?_push_size ..⟩,λe he=>by cases he⟩;have hX2:Q0 [] wr (w2.alloc (.map #[] 0)):=(hX.trans R5).trans (Z7 w2 _);have jQ:=(hO.Wt R5).Wt (Z7 w2 (.map #[] 0))
  have hN2:∀g:Int,0<=g->g<8->(gi gs g).used=true->wr.heap.size<=nb g/\VP (w2.alloc (.map #[] 0)) (nb g) g (gi gs g).name none:=λg h0 h1 hg=>
   ⟨(hN g h0 Qo hg).1,((hN g h0 Qo hg).2.ext R5 Qs).ext (Z7 w2 _) Qs⟩
  have hP2:∀g:Int,0<=g->g<8->gi pl g=if (gi gs g).used=true then some ⟨nb g,0,none⟩ else none:=λg h0 h1=>by
   rw[hP g h0 h1]
   by_cases jW:(gi gs g).used=true
   ·rw[C' ⟨Qo,jW⟩,C' jW]
   ·rw[B' (λhc=>jW hc.2),B' jW]
  have CP7:∀g g':Int,0<=g->g<8->0<=g'->g'<8->(gi gs g).used=true->(gi gs g').used=true->nb g=nb g'->g=g':=λg g' a b c d=>Bu3 g g' a Qo c Qo
  have hmb:wr.heap.size<=w2.heap.size:=(hX.trans R5).size;generalize w2.heap.size=mb at hM0 hmb;generalize w2.alloc (.map #[] 0)=w3 at hM0 hX2 jQ hN2;clear hX hO hN hP Bu3
  refine XJ 8 1 rfl (λk w1=>1<=k/\k<=8/\Q0 [] wr w1/\V3 zdb 1 YE wr.heap.size w1 (some ⟨wr.heap.size,0,none⟩) 8 pl/\
    (∀g:Int,0<=g->g<8->(gi gs g).used=true->VP w1 (nb g) g (gi gs g).name (if g<(k:Int) then zrm gs nb g else none))/\
    (∃es,Fc w1 mb es/\(∀e∈es.toList,∃g:Int,1<=g/\g<(k:Int)/\(gi gs g).used=true/\e.key=UI (gi gs g).parent (gi gs g).name)/\∀g:Int,1<=g->g<(k:Int)->(gi gs g).used=true->∃e∈es.toList,e.key=UI (gi gs g).parent (gi gs g).name)/\
    (∀g:Int,1<=g->g<(k:Int)->(gi gs g).used=true->UL (gi gs g).name=true/\Q6 gs (gi gs g).parent=true/\∀h:Int,1<=h->h<g->(gi gs h).used=true->¬((gi gs h).parent=(gi gs g).parent/\(gi gs h).name=(gi gs g).name)))
   (λw4 SK _=>⟨I7 _,Qo,hX2.trans SK,jQ.Wt SK,λg h0 h1 hg=>?_,⟨#[],hM0.ext SK Qs,(λe he=>by cases he),λg h1 h2=>by omega⟩,λg h1 h2=>by omega⟩) λk w4 _ ⟨hk1,hk,hX,hO,hN,⟨es,hM,hE1,hE2⟩,hT⟩=>⟨λIN=>?_,λRx=>?_⟩
  ·have:=(hN2 g h0 h1 hg).2.ext SK Qs
   by_cases hg1:g<((1:Nat):Int)
   ·rw[C' hg1];have:g=0:=Qo;subst this;exact this
   ·rw[B' hg1]; exact this
  ·have IN:=Ot IN;have hr:=(h.ext hx).ext hX;have dS:(0:Int)<=(k:Int):=Qo;have rY:(k:Int)<(pl.length:Int):=Qo;have bZ:(k:Int)<(gs.length:Int):=Qo;have hPl:=hO.rd Mh.len (bs:=[]) Qs;have Wg:=hO.ix dS rY;rw[hpl] at Wg;have hXw:Q0 [] w w4:=hx.trans hX;refine⟨Wg,gi pl (k:Int),hPl k dS rY,λiX=>?_,λAL5=>?_⟩
   ·have hu:¬(gi gs (k:Int)).used=true:=λhu=>by rw[hP2 k dS IN,C' hu] at iX; cases iX
    refine⟨⟨Qo,Qo⟩,λw5 Sm _=>Qp Qo ⟨Qo,Qo,hX.trans Sm,hO.Wt Sm,λg h0 h1 hg=>?_,⟨es,hM.ext Sm Qs,λe he=>?_,λg h1 h2 hg=>?_⟩,λg h1 h2 hg=>?_⟩⟩
    ·have:=(hN g h0 h1 hg).ext Sm Qs;have rX:g≠(k:Int):=λe=>hu (e▸hg)
     by_cases hg1:g<(k:Int)
     ·rw[C' hg1] at this; rw[C' Qo]; exact this
     ·rw[B' hg1] at this; rw[B' Qo]; exact this
    ·obtain⟨g,a1,a2,a3⟩:=hE1 e he;exact⟨g,a1,Qo,a3⟩
    ·have rX:g≠(k:Int):=λe=>hu (e▸hg)
     exact hE2 g h1 Qo hg
    ·have rX:g≠(k:Int):=λe=>hu (e▸hg)
     exact hT g h1 Qo hg
   ·have hu:(gi gs (k:Int)).used=true:=by
     cases hq:(gi gs (k:Int)).used with
     | true=>rfl
     | false=>rw[hP2 k dS IN,hq] at AL5; cases AL5
    have hpk:gi pl (k:Int)=some ⟨nb (k:Int),0,none⟩:=by rw[hP2 k dS IN,C' hu]
    refine⟨hr.ix dS bZ,_,hr.name dS bZ,_,zho,λ_=>hr.ix dS bZ,(gi gs (k:Int)).parent,λ_=>hr.parent dS bZ,Q6 gs (gi gs (k:Int)).parent,λ_=>KV hr hl,λq=>?_,λq=>?_⟩
    ·intro w5 Sm;refine bad w5 (hXw.trans Sm) λht=>?_
     rw[ht.nm k Qo IN hu,ht.par k Qo IN hu] at q;cases q
    ·simp only[H',I6] at q;obtain⟨qn,qp⟩:=q;obtain⟨p0,p1,pu⟩:=Q4.1 qp;have p8:(gi gs (k:Int)).parent<8:=Qo;have CQ0:=hO.ix p0 Qo;rw[hpl] at CQ0;have hnk:=hN k dS IN hu;rw[B' Qo] at hnk;have hpp:gi pl (gi gs (k:Int)).parent=some ⟨nb (gi gs (k:Int)).parent,0,none⟩:=by rw[hP2 _ p0 p8,C' pu]
     have hnb:nb (k:Int)∉QL (some (⟨wr.heap.size,0,none⟩:Addr)):=λhm=>by
      simp only[QL,IA] at hm;rcases hO with ⟨hc,_⟩ | ⟨b',sp,he,_,h2,_⟩
      ·cases hc
      ·simp only[I0,Addr.mk.injEq,and_true] at he;subst he;unfold VP at hnk;rw[hm,h2] at hnk;simp only[I0,Obj.cells.injEq] at hnk;exact Ir hnk.2.1 Qd
     have hWr:Xm [] w4 (some ⟨nb (k:Int),0,none⟩) (0+2) 1:=M5 hnk Qs (by show 0+(0+2+1)<=3; omega);have hsx:Q0 [nb (k:Int)] w4 (R9 w4 (some ⟨nb (k:Int),0,none⟩) (0+2) [.pointer (some ⟨nb (gi gs (k:Int)).parent,0,none⟩)]):=JS λa ha=>by cases ha; simp
     have hbk:wr.heap.size<=nb (k:Int):=(hN2 k dS IN hu).1;have hXs:Q0 [] wr (R9 w4 (some ⟨nb (k:Int),0,none⟩) (0+2) [.pointer (some ⟨nb (gi gs (k:Int)).parent,0,none⟩)]):=hX.fresh hsx λx hm=>.inl (by rw[IA.1 hm]; exact hbk)
     have hrs:=(h.ext hx).ext hXs;have hup:zrm gs nb (k:Int)=some ⟨nb (gi gs (k:Int)).parent,0,none⟩:=by unfold zrm; rw[B' Qo]
     have hNs:∀g:Int,0<=g->g<8->(gi gs g).used=true->VP (R9 w4 (some ⟨nb (k:Int),0,none⟩) (0+2) [.pointer (some ⟨nb (gi gs (k:Int)).parent,0,none⟩)]) (nb g) g (gi gs g).name (if g<((k+1:Nat):Int) then zrm gs nb g else none):=λg h0 h1 hg=>by
      by_cases rX:g=(k:Int)
      ·subst rX;rw[C' Qo,hup];exact M3 hnk
      ·have bT:nb g≠nb (k:Int):=λe=>rX (CP7 g k h0 h1 dS IN hg hu e)
       have:=(hN g h0 h1 hg).ext hsx (by simpa using bT)
       by_cases hg1:g<(k:Int)
       ·rw[C' hg1] at this; rw[C' Qo]; exact this
       ·rw[B' hg1] at this; rw[B' Qo]; exact this
     have hOs:V3 zdb 1 YE wr.heap.size (R9 w4 (some ⟨nb (k:Int),0,none⟩) (0+2) [.pointer (some ⟨nb (gi gs (k:Int)).parent,0,none⟩)]) (some ⟨wr.heap.size,0,none⟩) 8 pl:=hO.ext hsx λb hm gI=>hnb (by rw[IA.1 gI] at hm; exact hm)
     have hMs:Fc (R9 w4 (some ⟨nb (k:Int),0,none⟩) (0+2) [.pointer (some ⟨nb (gi gs (k:Int)).parent,0,none⟩)]) mb es:=hM.ext hsx λhm=>by
      rw[IA] at hm;obtain⟨⟨cc,hc⟩,_⟩:=hM;unfold VP at hnk;rw[<-hm,hc] at hnk;cases hnk
     refine⟨Wg,some ⟨nb (k:Int),0,none⟩,by rw[<-hpk]; exact hPl k dS rY,hr.ix dS bZ,_,hr.parent dS bZ,CQ0,some ⟨nb (gi gs (k:Int)).parent,0,none⟩,by rw[<-hpp]; exact hPl _ p0 Qo,rfl,hWr,?_⟩;generalize R9 w4 (some ⟨nb (k:Int),0,none⟩) (0+2) [.pointer (some ⟨nb (gi gs (k:Int)).parent,0,none⟩)]=w5 at hXs hrs hNs hOs hMs;refine⟨hrs.ix dS bZ,_,hrs.parent dS bZ,hrs.ix dS bZ,_,hrs.name dS bZ,λb1 cJ=>⟨hrs.name dS bZ,hrs.parent dS bZ,λw6 WT hs6=>?_⟩⟩;have hM6:=hMs.ext WT Qs;obtain⟨v,okk,CQ8,hok⟩:=zyw hM6 (gi gs (k:Int)).parent (gi gs (k:Int)).name;have B80:∀x∈[b1],wr.heap.size<=x\/x∈([]:List Nat):=λx hm=>.inl (by rw[IA.1 hm]; exact IB hXs.size cJ)
     refine⟨v,okk,w6,CQ8,λ_ _=>rfl,λCr0=>?_,λAt2 w7 eB hs7=>?_⟩
     ·intro w7 eB;refine bad w7 (hx.trans (((hXs.trans WT).fresh eB B80))) λht=>?_
      obtain⟨e,he,hk⟩:=hok.1 Cr0;obtain⟨g,a1,a2,a3,a4⟩:=hE1 e he;rw[a4] at hk;simp only[UI,Value.agg.injEq,List.toArray_inj,Array.mk.injEq,I4,I5,true_and,Value.string.injEq,and_true] at hk;exact ht.uniq k g a1 a2 IN hu a3 hk
     ·have sP:=hM6.ext eB (λhm=>by
       rw[IA] at hm;obtain⟨⟨cc,hc⟩,_⟩:=hMs;have:=JG hc;omega)
      have CR7:¬∃e∈es.toList,e.key=UI (gi gs (k:Int)).parent (gi gs (k:Int)).name:=λhc=>by
       have:=hok.2 hc;rw[At2] at this; cases this
      obtain⟨w8,cc,Cw3,oQ,hM8⟩:=z1v sP (λe he hk=>CR7 ⟨e,he,hk⟩) (k:Int);have hmx:∀x∈[mb],wr.heap.size<=x\/x∈([]:List Nat):=λx hm=>.inl (by rw[IA.1 hm]; exact hmb)
      have hX7:Q0 [] wr w7:=(hXs.trans WT).fresh eB B80;have hX8:Q0 [] wr w8:=hX7.fresh oQ hmx;refine⟨w8,Cw3,λx hm=>oQ.block x (hs7 x hm) (λgI=>?_),⟨Qo,Qo⟩,λw9 gL hs9=>Qp Qo ⟨Qo,Qo,hX8.fresh gL B80,?_,λg h0 h1 hg=>?_,⟨_,hM8.ext gL ?_,λe he=>?_,λg h1 h2 hg=>?_⟩,λg h1 h2 hg=>?_⟩⟩
      ·rw[IA] at hm gI;subst gI;obtain⟨⟨c2,hc⟩,_⟩:=hMs;have:=JG hc;omega
      ·have hnm:∀b∈QL (some (⟨wr.heap.size,0,none⟩:Addr)),b∉[mb]:=λb hm gI=>by
        simp only[QL,IA] at hm gI;rcases hOs with ⟨hc,_⟩ | ⟨b',sp,he,_,h2,_⟩
        ·cases hc
        ·simp only[I0,Addr.mk.injEq,and_true] at he;subst he;obtain⟨⟨c2,hc⟩,_⟩:=hMs;rw[<-gI,hm,h2] at hc;cases hc
       have hn1:∀b∈QL (some (⟨wr.heap.size,0,none⟩:Addr)),b∉[b1]:=λb hm gI=>by
        have:=(hOs.lt b hm).2;rw[IA] at gI;omega
       exact(((hOs.Wt WT).ext eB hn1).ext oQ hnm).ext gL hn1
      ·have hq:=hNs g h0 h1 hg;have hql:=JG hq;have n1:nb g∉[b1]:=λhm=>by rw[IA] at hm; omega
       have n2:nb g∉[mb]:=λhm=>by
        rw[IA] at hm;obtain⟨⟨c2,hc⟩,_⟩:=hMs;unfold VP at hq;rw[hm,hc] at hq;cases hq
       exact(((hq.ext WT Qs).ext eB n1).ext oQ n2).ext gL n1
      ·intro hm;rw[IA] at hm;obtain⟨⟨c2,hc⟩,_⟩:=hMs;have:=JG hc;omega
      ·rw[Array.toList_push,Im] at he;rcases he with he | he
       ·obtain⟨g,a1,a2,a3⟩:=hE1 e he;exact⟨g,a1,Qo,a3⟩
       ·rw[IA] at he;subst he;exact⟨k,Qo,Qo,hu,rfl⟩
      ·rw[Array.toList_push]
       by_cases rX:g=(k:Int)
       ·subst rX;exact⟨_,Iy _ (IA.2 rfl),rfl⟩
       ·obtain⟨e,he,hk⟩:=hE2 g h1 Qo hg;exact⟨e,Ia _ he,hk⟩
      ·by_cases rX:g=(k:Int)
       ·subst rX;refine⟨qn,qp,λq a1 a2 a3 a4=>CR7 ?_⟩;obtain⟨e,he,hk⟩:=hE2 q a1 a2 a3;exact⟨e,he,by rw[hk,a4.1,a4.2]⟩
       ·exact hT g h1 Qo hg
  ·have Rx:=Ou Rx;have hk8:k=8:=Qo;subst hk8;have hXw:Q0 [] w w4:=hx.trans hX
   have hNs:Ns [] w4 gs nb:=⟨λx hu=>by
     obtain⟨a1,a2,a3⟩:=Q4.1 hu;have:=hN x a1 Qo a3;rw[C' Qo] at this;exact this.cells Qs,λx hz hu=>by
     obtain⟨a1,a2,a3⟩:=Q4.1 hu;exact(hT x Qo Qo a3).2.1⟩
   refine XJ 8 0 rfl (λj w5=>j<=8/\Q0 [] w4 w5/\∀g:Int,0<=g->g<(j:Int)->(gi gs g).used=true->0<=dep 3 gs g) (λw5 Sm _=>⟨Ic _,Sm,λg h0 h1=>by omega⟩) λj w5 _ ⟨hj,zX,hD⟩=>⟨λIN=>?_,λRx=>?_⟩
   ·have IN:=Ot IN;have hj0:(0:Int)<=(j:Int):=Qo;have hjl:(j:Int)<(pl.length:Int):=Qo;have hO5:=hO.Wt zX;have Wg:=hO5.ix hj0 hjl;rw[hpl] at Wg;refine⟨Wg,gi pl (j:Int),hO5.rd Mh.len Qs j hj0 hjl,zer gs 3 (j:Int) 0,λhs=>?_,λhb=>?_,λhb=>⟨⟨Qo,Qo⟩,λw6 WT _=>Qp Qo ⟨Qo,zX.trans WT,λg h0 h1 hg=>?_⟩⟩⟩
    ·have hu:(gi gs (j:Int)).used=true:=by
      cases hq:(gi gs (j:Int)).used with
      | true=>rfl
      | false=>rw[hP2 j hj0 IN,hq] at hs; cases hs
     rw[hP2 j hj0 IN,C' hu];exact z04 (hNs.ext zX) (Q4.2 ⟨hj0,Qo,hu⟩)
    ·intro w6 WT;refine bad w6 ((hXw.trans zX).trans WT) λht=>?_
     simp only[A',Ij] at hb
     have hu:(gi gs (j:Int)).used=true:=by
      cases hq:(gi gs (j:Int)).used with
      | true=>rfl
      | false=>rw[hP2 j hj0 IN,hq] at hb; cases hb.1
     have hd:0<=dep 3 gs (j:Int):=by
      by_cases hj0':(j:Int)=0
      ·rw[hj0',Yj]; omega
      ·exact ht.dp j Qo IN hu
     have:=hb.2;unfold zer at this;rw[B' Qo] at this;omega
    ·by_cases hgj:g=(j:Int)
     ·subst hgj;have hpj:gi pl (j:Int)=some ⟨nb (j:Int),0,none⟩:=by rw[hP2 j hj0 IN,C' hg]
      rw[hpj] at hb;simp only[Option.isNone_some,Bool.not_false,Bool.true_and,decide_eq_false_iff_not] at hb;unfold zer at hb;have:=Of gs 3 (j:Int)
      split at hb <;> omega
     ·exact hD g h0 Qo hg
   ·have Rx:=Ou Rx;have hj8:j=8:=Qo;subst hj8;have ht:Y8 gs:=⟨hl8,ru,rp,rn,λg h1 h2 hg=>(hT g h1 h2 hg).1,λg h1 h2 hg=>(hT g h1 h2 hg).2.1,λg h1 h2 hg=>hD g Qo h2 hg,λg q a1 a2 a3 a4 a5=>(hT g Qo a3 a4).2.2 q a1 a2 a5⟩;intro w6 WT;refine⟨some ⟨wr.heap.size,0,none⟩,8,8,true,rfl,(Tf.2 ht).symm,(hXw.trans zX).trans WT,λh=>(by cases h),λ_=>⟨rfl,pl,nb,hpl,?_,hP2,(hNs.ext zX).ext WT⟩⟩;exact((hO.Wt zX).Wt WT).rd Mh.len Qs
theorem zhp{bs:List Nat}(h:Lp bs w o gs ms)(hl:gs.length<=maxLen):PX bs Ml #[.slice o gs.length c] w (.bool (Ki gs)):=by
 refine O1 λwr hx=>zhe o gs.length c (R:=λv w'=>v=.bool (Ki gs)/\Q0 [] wr w') ?_
 have h:=(h.ext hx).less (cs:=[]) Qs;intro w1 RZ _;refine(z05 (h.ext RZ) hl).mono λe w2 ⟨o',L,C,ok,he,hok,R5,_⟩=>⟨_,_,_,_,he,Ys,λw3 R6=>⟨by rw[hok],(RZ.trans R5).trans R6⟩⟩
theorem Kz{g h:Int}(hr:Lp bs w o gs ms)(ht:Y8 gs)(hu:Q6 gs h=true):PX bs UB #[.slice o gs.length c,I g,I h] w (.bool (JP 3 gs g h)):=
 zic o gs.length c g h λwr hx=>by
  have hr:=(hr.ext hx).less (cs:=[]) Qs;refine⟨λvs=>∃x:Int,vs=[I x]/\Q6 gs x=true/\JP 3 gs g x=JP 3 gs g h,λvs=>(dep 3 gs (ZE 0 vs)).toNat,⟨h,rfl,hu,rfl⟩,?_⟩;rintro x ⟨x',he,hu,hI⟩;simp only[I4,I5,true_and,and_true] at he;subst he;refine⟨λbT=>⟨λhz=>?_,λhz=>?_⟩,λheq=>?_⟩
  ·have hz:x=0:=by simpa using hz
   subst hz
   have:JP 3 gs g 0=false:=by
    have:¬(0=g):=by simpa using bT
    simp[JP,this]
   rw[<-hI,this]
  ·have hz:x≠0:=by simpa using hz
   have bT:x≠g:=by simpa using bT
   obtain⟨hp,a,b,d,e,e2,hd⟩:=Y3 ht hu hz;refine⟨hr.ix a b,_,hr.parent a b,⟨_,rfl,hp,by rw[<-NP ht hu hz bT]; exact hI⟩,?_⟩;show (dep 3 gs (gi gs x).parent).toNat<(dep 3 gs x).toNat;omega
  ·have heq:x=g:=by simpa using heq
   subst heq;rw[<-hI];simp[JP]
end
theorem XH{n k:Int}{w:Wo}{bs:List Nat}:PX bs Yb #[I n,I k] w (I (Ze n k)):=
 EU n k λwr hx=>by
  refine⟨_,JY,_,λ_=>Qm,λh=>?_,λh=>?_⟩
  ·congr 1; unfold Ze; rw[B']; intro h2; simp only[A'] at h2; simp[h2] at h
  ·have h2:YP k 1 20=true/\YP n 0 100000000=true:=by simpa using h
   rw[Qv,Qv] at h2;have hm:=zmd h2.2.1 h2.2.2 h2.1.1 h2.1.2;have hs:=zfx h2.1.1 h2.1.2;unfold zkj at hm hs;refine⟨⟨Qo,Ul Qo Qo⟩,Ul Qo Qo,?_⟩;rw[Ph h2.2.1 h2.2.2 h2.1.1 h2.1.2]; rfl
theorem GV{k:Int}{w:Wo}{bs:List Nat}:PX bs VE #[I k] w (I (ZM k)):=
 ze1 k λwr hx=>⟨_,XH,rfl⟩
def ZI(a b:Int):Int:=if a<b then a else b
def zl8(a b:Int):Int:=if a>b then a else b
theorem JR{a b:Int}{w:Wo}{bs:List Nat}:PX bs X6 #[I a,I b] w (I (ZI a b)):=
 zmj a b λwr hx=>⟨λh=>by rw[ZI,C' (Ot h)],λh=>by rw[ZI,B' (Ou h)]⟩
theorem TV{a b:Int}{w:Wo}{bs:List Nat}:PX bs X5 #[I a,I b] w (I (zl8 a b)):=
 zmi a b λwr hx=>⟨λh=>by rw[zl8,C' (Ot h)],λh=>by rw[zl8,B' (Ou h)]⟩
def ZT(l k:Int):Int:=if (if ZM k<l then ZM k else l)>0 then (if ZM k<l then ZM k else l) else 0
theorem Y0(k:Int):0<=ZM k/\ZM k<=34686091440:=by
 unfold ZM
 by_cases h:1<=k/\k<=20
 ·rw[Ph Qd Qd h.1 h.2];have:=zfx h.1 h.2;omega
 ·rw[HX Qo]; omega
theorem ZH(l k:Int):0<=ZT l k/\ZT l k<=ZM k:=by
 have:=Y0 k;unfold ZT; by_cases h1:ZM k<l <;> simp only[h1,if_true,if_false] <;> split <;> omega
theorem Kw{l k:Int}{w:Wo}{bs:List Nat}:PX bs Uz #[I l,I k] w (I (ZT l k)):=
 zia l k λwr hx=>⟨_,GQ,rfl⟩
theorem KB{l k:Int}{w:Wo}{bs:List Nat}:PX bs UD #[I l,I k] w (I (ZT l k)):=
 zil l k λwr hx=>by
  have hr:=Y0 k;refine⟨_,JY,λh=>?_,λh=>⟨_,TV,_,GV,_,JR,?_⟩⟩
  ·have h:YP k 1 20=false:=by simpa using h
   rw[z2e] at h;have h0:ZM k=0:=HX Qo
   congr 1; unfold ZT; rw[h0]; by_cases h1:0<l <;> simp only[h1,if_true,if_false] <;> (repeat' split) <;> omega
  ·congr 1; unfold ZT ZI zl8; by_cases h1:ZM k<l <;> simp only[h1,if_true,if_false] <;> by_cases h2:l>0 <;> simp only[h2,if_true,if_false] <;> (repeat' split) <;> omega
def Qe(n:Int):Int:=if YP n (-10) 9 then 10-n else 0
theorem Py{k:Int}{w:Wo}{bs:List Nat}:PX bs Jm #[I k] w (I (Qe k)):=
 zaj k λwr hx=>by
  refine⟨_,DS,λh=>?_,λh=>?_⟩
  ·have h:YP k (-10) 9=false:=by simpa using h
   rw[Qe,h]; rfl
  ·have h:YP k (-10) 9=true:=by simpa using h
   have h2:=Qv.1 h;refine⟨Ul Qo Qo,?_⟩;rw[Qe,h]; rfl
structure OP (b:Nat) (c:OA) (L N:Nat) (w:Wo):Prop where
 hd:∃(C:Nat) (p:Int),w.heap[b]? = some (.cells [.slice c L C,I p].toArray OX (0,0))/\0<=p/\p<=N
 bytes:∀i<L,∃(a:Addr) (x:Int),c=some a/\a.block≠b/\0<=x/\x<=255/\w.cell? (a.add i)=some (.int .u8 x)
theorem OP.ext{b:Nat}{c:OA}{L N:Nat}{w w':Wo}{bs:List Nat}(h:OP b c L N w)(hx:Q0 bs w w')(hb:b∉bs)(hc:∀a,c=some a->a.block∉bs\/L=0):OP b c L N w':=by
 obtain⟨⟨C,p,h1,h2,h3⟩,hby⟩:=h;refine⟨⟨C,p,QB h1 hx hb,h2,h3⟩,λi hi=>?_⟩;obtain⟨a,x,ha,bT,RZ,R5,R6⟩:=hby i hi;refine⟨a,x,ha,bT,RZ,R5,?_⟩
 have hbk:a.block∉bs:=by
  rcases hc a ha with h | h
  ·exact h
  ·omega
 obtain⟨a',e,_,h''⟩:=(show JA bs w c i (.int .u8 x) from ⟨a,ha,hbk,R6⟩).ext hx;rw[ha] at e; cases e; exact h''
theorem OP.Wt{b:Nat}{c:OA}{L N:Nat}{w w':Wo}(h:OP b c L N w)(hx:Q0 [] w w'):OP b c L N w':=h.ext hx Qs (λ_ _=>.inl Qs)
theorem OP.mono{b:Nat}{c:OA}{L N M:Nat}{w:Wo}(h:OP b c L N w)(hm:N<=M):OP b c L M w:=by
 obtain⟨⟨C,p,h1,h2,h3⟩,hby⟩:=h;exact⟨⟨C,p,h1,h2,Qo⟩,hby⟩
theorem OP.lt{b:Nat}{c:OA}{L N:Nat}{w:Wo}(h:OP b c L N w):b<w.heap.size:=by
 obtain⟨⟨C,p,h1,h2,h3⟩,hby⟩:=h;exact JG h1
theorem OP.ltc{b:Nat}{c:OA}{L N:Nat}{w:Wo}(h:OP b c L N w)(a:Addr)(ha:c=some a):a.block<w.heap.size\/L=0:=by
 rcases Nat.eq_zero_or_pos L with h0 | h0
 ·exact .inr h0
 ·obtain⟨a',x,ha',bT,RZ,R5,R6⟩:=h.bytes 0 h0;rw[ha] at ha'; cases ha';have:=World.block_lt_of_cell? w _ R6;rw[ZC] at this;exact .inl this
theorem OP.Cn5{b:Nat}{c:OA}{L N M:Nat}{w0 w w':Wo}{bs:List Nat}(h0:OP b c L M w0)(h:OP b c L N w)(hx:Q0 bs w w')(hb:∀x∈bs,w0.heap.size<=x):OP b c L N w':=
 h.ext hx (λhm=>by have:=hb _ hm; have:=h0.lt; omega) λa ha=>by
  rcases h0.ltc a ha with hl | hl
  ·exact .inl λhm=>by have:=hb _ hm; omega
  ·exact .inr hl
def zbt(n v:Int):Prop:=0<=v/\(n<1->v=0)/\(1<=n->v<n)
theorem zj3{x n:Int}(hx:0<=x)(hn:1<=n):zbt n (Int.tmod x n):=by
 refine⟨Int.tmod_nonneg _ hx,Qo,λ_=>Int.tmod_lt_of_pos _ Qo⟩
theorem zrp{x y:Int}(h1:0<=x)(h2:x<=9223372036854775807)(h3:0<=y)(h4:y<=9223372036854775807):0<=Tg .xor .i64 x y:=by
 have IN:(BitVec.ofInt 64 x ^^^ BitVec.ofInt 64 y).toNat<2 ^ 63:=by
  rw[BitVec.toNat_xor];refine Nat.xor_lt_two_pow ?_ ?_
  ·rw[BitVec.toNat_ofInt]; omega
  ·rw[BitVec.toNat_ofInt]; omega
 have h:=Ql.wrap (k:=.i64) (z:=((BitVec.ofInt 64 x ^^^ BitVec.ofInt 64 y).toNat:Int)) (Ul Qo Qo);show 0<=IntKind.i64.wrap ((BitVec.ofInt 64 x ^^^ BitVec.ofInt 64 y).toNat:Int);rw[h]; omega
theorem zd6{b:Nat}{c:OA}{L N:Nat}{w:Wo}{n:Int}(h:OP b c L N w)(hN:N<=1000000000000) :
  Cz Q3 #[.pointer (some ⟨b,0,none⟩),I n] w λe w'=>∃v,e=.returned (I v)/\zbt n v/\OP b c L (N+1) w'/\Q0 [b] w w':=by
 refine(FW (some ⟨b,0,none⟩) n (R:=λv w'=>∃x,v=I x/\zbt n x/\OP b c L (N+1) w'/\Q0 [b] w w') ?_).mono λe w' ⟨v,he,x,hv,h1,h2,h3⟩=>⟨x,by rw[he,hv],h1,h2,h3⟩
 obtain⟨C,p,hh,hp0,hpN⟩:=h.hd;have hs:=M3 (k:=0) (n:=1) (vs:=[I (p+1)]) hh;have hxt:Q0 [b] w (R9 w (some ⟨b,0,none⟩) 1 [I (p+1)]):=JS λa ha=>by cases ha; exact IA.2 rfl
 generalize vL:R9 w (some ⟨b,0,none⟩) 1 [I (p+1)]=w1 at hs hxt;have hs:w1.heap[b]? = some (.cells [.slice c L C,I (p+1)].toArray OX (0,0)):=hs;have hc:Q1 [] w1 (some ⟨b,0,none⟩) (0+0) [.slice c L C]:=U2 hs Qs rfl;have hpp:Q1 [] w1 (some ⟨b,0,none⟩) (0+1) [I (p+1)]:=U2 hs Qs rfl
 have hby:∀i:Int,0<=i->i<L->∃x:Int,0<=x/\x<=255/\c.isSome=true/\Q1 [] w1 c (Int.toNat i*1) [.int .u8 x]:=λi h0 hi=>by
  obtain⟨a,x,ha,bT,RZ,R5,R6⟩:=h.bytes i.toNat Qo;refine⟨x,RZ,R5,by rw[ha]; rfl,?_⟩;have:=(show JA [b] w c i.toNat (.int .u8 x) from ⟨a,ha,by simpa using bT,R6⟩).ext hxt;rw[Nat.mul_one];exact YZ (this.less Qs)
 have fin:∀(v:Int),zbt n v->∀wr,Q0 [] w1 wr->∃x,I v=I x/\zbt n x/\OP b c L (N+1) wr/\Q0 [b] w wr:=λv hv wr hr=>
  ⟨v,rfl,hv,OP.Wt ⟨⟨C,p+1,hs,Qo,Qo⟩,λi hi=>by
   obtain⟨a,x,ha,bT,RZ,R5,R6⟩:=h.bytes i hi;have:=(show JA [b] w c i (.int .u8 x) from ⟨a,ha,by simpa using bT,R6⟩).ext hxt;obtain⟨a',ha',_,hc'⟩:=this;rw[ha] at ha'; cases ha';exact⟨a,x,ha,bT,RZ,R5,hc'⟩⟩ hr,hxt.trans hr.of_nil⟩
 refine⟨rfl,p,U2 hh Qs rfl,Ul Qo Qo,rfl,M5 hh Qs Qs,?_⟩;rw[show (0+1:Nat)=1 from rfl,vL];refine⟨λ_=>rfl,c,L,C,λ_=>hc,λh=>?_,λh=>?_⟩
 ·simp only[Iu,Ij,Is] at h;refine fin 0 ⟨Qo,Qo,λhn=>by omega⟩
 ·have h:1<=n/\L≠0:=by simpa using h
  refine⟨rfl,p+1,hpp,Ul Qo Qo,rfl,c,L,C,hc,λIN=>?_,λIN=>?_⟩
  ·have IN:=Ot IN;obtain⟨x,RZ,R5,R6,SK⟩:=hby (p+1-1) Qo IN;exact⟨rfl,c,L,C,hc,⟨Qo,IN,R6⟩,x,SK,Ul Qo Qo,Qo,fin _ (zj3 RZ h.1)⟩
  ·have hLp:(0:Int)<(L:Int):=Qo;have hm1:=Int.tmod_nonneg (L:Int) (show 0<=p+1-1 by omega);have hm2:=Int.tmod_lt_of_pos (p+1-1) hLp;have hm3:=Int.tmod_nonneg (L:Int) (show 0<=(p+1-1)*7+3 by omega);have hm4:=Int.tmod_lt_of_pos ((p+1-1)*7+3) hLp;have hd1:0<=Int.tdiv (p+1-1) (L:Int):=Int.tdiv_nonneg Qo Qo
   have hd2:Int.tdiv (p+1-1) (L:Int)<=p+1-1:=by
    rw[Int.tdiv_eq_ediv_of_nonneg Qo]; exact Int.ediv_le_self _ Qo
   obtain⟨x1,RZ,R5,R6,SK⟩:=hby _ hm1 hm2;obtain⟨x2,cP,SI,gH,iY⟩:=hby _ hm3 hm4;have hX0:0<=(x1*131+x2*1117+(p+1-1)*29)+Int.tdiv (p+1-1) (L:Int)*53:=Qo;have hX1:(x1*131+x2*1117+(p+1-1)*29)+Int.tdiv (p+1-1) (L:Int)*53<=1000000000000000:=Qo;have hq0:=Int.tdiv_nonneg hX0 (show (0:Int)<=64 by decide)
   have hq1:Int.tdiv ((x1*131+x2*1117+(p+1-1)*29)+Int.tdiv (p+1-1) (L:Int)*53) 64<=(x1*131+x2*1117+(p+1-1)*29)+Int.tdiv (p+1-1) (L:Int)*53:=by
    rw[Int.tdiv_eq_ediv_of_nonneg hX0]; exact Int.ediv_le_self _ hX0
   refine⟨rfl,c,L,C,hc,rfl,c,L,C,hc,Qo,⟨hm1,hm2,R6⟩,x1,SK,Ul Qo Qo,Ul Qo Qo,rfl,c,L,C,hc,Ul Qo Qo,Ul Qo Qo,rfl,c,L,C,hc,Qo,⟨hm3,hm4,gH⟩,x2,iY,
    Ul Qo Qo,Ul Qo Qo,Ul Qo Qo,Ul Qo Qo,Ul Qo Qo,rfl,c,L,C,hc,⟨Qo,Ul Qo Qo⟩,Ul Qo Qo,Ul Qo Qo,⟨Qd,Ul Qo Qo⟩,Qo,?_⟩
   exact fin _ (zj3 (zrp hX0 Qo hq0 Qo) h.1)
section
open Go.RowKit Go.ChangeShapes
section
variable {H:Type}{en:TypeId×Va->H}{w:Wo}{base:Nat}{spare:Nat->Bool}{held:Bool}{fuel:Nat}{cs:List Va}{x:DataW H×List MemPlace}
structure MW where
 cO:OA
 cC:Nat
 tO:OA
 tC:Nat
 gO:OA
 gC:Nat
 ms:Nat->MG
def Qb(W:Q8)(m:MW):List Va:=[.int .i64 W.now,.slice m.cO W.IE.length m.cC,.slice m.tO W.tasks.length m.tC,.slice m.gO W.ID.length m.gC]
structure XE (bs:List Nat) (w:Wo) (W:Q8) (m:MW):Prop where
 c:z4i bs w m.cO W.IE
 t:zrw bs w m.tO W.tasks
 g:Lp bs w m.gO W.ID m.ms
theorem XE.ext{bs:List Nat}{w w':Wo}{W:Q8}{m:MW}(h:XE bs w W m)(hx:Q0 bs w w'):XE bs w' W m:=⟨h.c.ext hx,h.t.ext hx,h.g.ext hx⟩
theorem XE.less{bs cs:List Nat}{w:Wo}{W:Q8}{m:MW}(h:XE bs w W m)(hs:∀x∈cs,x∈bs):XE cs w W m:=⟨h.c.less hs,h.t.less hs,h.g.less hs⟩
theorem XE.wide{bs cs:List Nat}{w:Wo}{W:Q8}{m:MW}(h:XE bs w W m)(hs:∀x∈cs,x∈bs\/w.heap.size<=x):XE cs w W m:=⟨h.c.wide hs,h.t.wide hs,h.g.wide hs⟩
end
end
def XU(k:Nat):Int:=1*2 ^ (min (Int.toNat (k:Int)) 64)
def M1(m:Int):Bool:=YP m 0 15
def QZ(m c:Int):Bool:=(M1 m&&YP c 0 3)&&(Int.tmod (Int.fdiv m (2 ^ (min (Int.toNat c) 64))) 2==1)
def TY(a b:Int):Int:=if M1 a=true/\M1 b=true then Tg .and .i64 a b else 0
def zcn(a b:Int):Nat->Int
 | 0=>0
 | k+1=>if (QZ a (k:Int)&&QZ b (k:Int))=true then zcn a b k+XU k else zcn a b k
theorem Ke{m:Int}(h:M1 m=true):∃f:Fin 16,m=(f.val:Int):=by
 have:=Qv.1 h;exact⟨⟨m.toNat,Qo⟩,by show m=((m.toNat:Nat):Int); omega⟩
theorem zwb:∀a b:Fin 16,zcn (a.val:Int) (b.val:Int) 4=Tg .and .i64 (a.val:Int) (b.val:Int):=by decide +kernel
theorem zwc:∀a b:Fin 16,0<=Tg .and .i64 (a.val:Int) (b.val:Int)/\Tg .and .i64 (a.val:Int) (b.val:Int)<=15:=by decide +kernel
theorem zv9:∀a b:Fin 16,Tg .and .i64 (a.val:Int) (b.val:Int)=Tg .and .i64 (b.val:Int) (a.val:Int):=by decide +kernel
theorem zv8:∀a b c:Fin 16,Tg .and .i64 (Tg .and .i64 (a.val:Int) (b.val:Int)) (c.val:Int)=Tg .and .i64 (a.val:Int) (Tg .and .i64 (b.val:Int) (c.val:Int)):=by decide +kernel
theorem zwa:∀(a b:Fin 16) (c:Fin 4),QZ (Tg .and .i64 (a.val:Int) (b.val:Int)) (c.val:Int)=(QZ (a.val:Int) (c.val:Int)&&QZ (b.val:Int) (c.val:Int)):=by decide +kernel
theorem zv7:∀a:Fin 16,Tg .and .i64 (a.val:Int) 0=0:=by decide +kernel
theorem zbh(a b:Int):M1 (TY a b)=true:=by
 unfold TY;split
 ·rename_i h;obtain⟨x,rfl⟩:=Ke h.1;obtain⟨y,rfl⟩:=Ke h.2;exact Qv.2 (zwc x y)
 ·exact Qv.2 Qd
theorem OU{a b:Int}(ha:M1 a=true)(hb:M1 b=true):TY a b=Tg .and .i64 a b:=by unfold TY; rw[C' ⟨ha,hb⟩]
theorem XK{a b:Int}(h:M1 a=false\/M1 b=false):TY a b=0:=by
 unfold TY;rw[B'];rintro⟨h1,h2⟩;rcases h with h | h
 ·rw[h1] at h; cases h
 ·rw[h2] at h; cases h
theorem A7(a b:Int):TY a b=TY b a:=by
 cases ha:M1 a with
 | false=>rw[XK (.inl ha),XK (.inr ha)]
 | true=>
  cases hb:M1 b with
  | false=>rw[XK (.inr hb),XK (.inl hb)]
  | true=>
   rw[OU ha hb,OU hb ha];obtain⟨x,rfl⟩:=Ke ha;obtain⟨y,rfl⟩:=Ke hb;exact zv9 x y
theorem HJ(a:Int):TY a 0=0:=by
 cases ha:M1 a with
 | false=>exact XK (.inl ha)
 | true=>
  rw[OU ha Qd];obtain⟨x,rfl⟩:=Ke ha;exact zv7 x
theorem zqs(a b c:Int):TY (TY a b) c=TY a (TY b c):=by
 cases hb:M1 b with
 | false=>rw[XK (a:=a) (.inr hb),XK (b:=c) (.inl hb),A7 0 c,HJ,HJ]
 | true=>
  cases ha:M1 a with
  | false=>rw[XK (b:=b) (.inl ha),XK (b:=TY b c) (.inl ha),A7,HJ]
  | true=>
   cases hc:M1 c with
   | false=>rw[XK (a:=TY a b) (.inr hc),XK (a:=b) (.inr hc),HJ]
   | true=>
    have h1:=zbh a b;have h2:=zbh b c;rw[OU h1 hc,OU ha h2,OU ha hb,OU hb hc];obtain⟨x,rfl⟩:=Ke ha;obtain⟨y,rfl⟩:=Ke hb;obtain⟨z,rfl⟩:=Ke hc;exact zv8 x y z
theorem MK{m c:Int}(h:QZ m c=true):M1 m=true/\0<=c/\c<=3:=by
 unfold QZ at h;simp only[A'] at h;exact⟨h.1.1,Qv.1 h.1.2⟩
theorem zoi{a b c:Int}(h:QZ (TY a b) c=true):QZ a c=true/\QZ b c=true:=by
 have hr:=MK h
 have hz:QZ 0 c=false:=by
  have:c=0\/c=1\/c=2\/c=3:=Qo;rcases this with rfl | rfl | rfl | rfl <;> decide
 cases ha:M1 a with
 | false=>rw[XK (.inl ha),hz] at h; cases h
 | true=>
  cases hb:M1 b with
  | false=>rw[XK (.inr hb),hz] at h; cases h
  | true=>
   rw[OU ha hb] at h;obtain⟨x,rfl⟩:=Ke ha;obtain⟨y,rfl⟩:=Ke hb;have:=zwa x y ⟨c.toNat,Qo⟩;rw[show ((⟨c.toNat,Qo⟩:Fin 4).val:Int)=c by show ((c.toNat:Nat):Int)=c; omega] at this;rw[this] at h
   simpa using h
def Vy(cs:List KI):Nat->Int
 | 0=>0
 | k+1=>if (gi cs (k:Int)).up=true then Vy cs k+XU k else Vy cs k
def U1(cs:List KI):Int:=Vy cs cs.length
theorem HV(cs:List KI):∀k:Nat,k<=4->0<=Vy cs k/\Vy cs k<XU k
 | 0,_=>by simp[Vy,XU]
 | k+1,h=>by
  have ih:=HV cs k Qo
  have hb:XU (k+1)=2*XU k/\0<=XU k:=by
   have:k=0\/k=1\/k=2\/k=3:=Qo;rcases this with rfl | rfl | rfl | rfl <;> decide
  simp only[Vy]
  split <;> omega
theorem Kq{k:Nat}(h:k<=4):1<=XU k/\XU k<=16:=by
 have:k=0\/k=1\/k=2\/k=3\/k=4:=Qo;rcases this with rfl | rfl | rfl | rfl | rfl <;> decide
theorem z13{cs:List KI}(h:cs.length<=4):M1 (U1 cs)=true:=by
 have:=HV cs cs.length h;have:=Kq h;exact Qv.2 (by unfold U1; omega)
theorem z3v:∀(k:Fin 4) (s:Fin 8),(s.val:Int)<XU k.val->Tg .or .i64 (s.val:Int) (XU k.val)=(s.val:Int)+XU k.val:=by decide +kernel
theorem zyg{k:Nat}{s:Int}(hk:k<4)(h0:0<=s)(h1:s<XU k):Tg .or .i64 s (XU k)=s+XU k:=by
 have hb:XU k<=8:=by
  have:k=0\/k=1\/k=2\/k=3:=Qo;rcases this with rfl | rfl | rfl | rfl <;> decide
 have:=z3v ⟨k,hk⟩ ⟨s.toNat,Qo⟩;rw[show ((⟨s.toNat,Qo⟩:Fin 8).val:Int)=s by show ((s.toNat:Nat):Int)=s; omega] at this;exact this h1
theorem zn3:∀(k:Fin 4) (s:Fin 8) (c:Fin 4),(s.val:Int)<XU k.val->QZ ((s.val:Int)+XU k.val) (c.val:Int)=(decide (c.val=k.val)||QZ (s.val:Int) (c.val:Int)):=by decide +kernel
theorem zm3(cs:List KI){c:Int}:∀k:Nat,k<=4->QZ (Vy cs k) c=true->c<(k:Int)/\(gi cs c).up=true
 | 0,_,h=>by
  have hr:=MK h;have:c=0\/c=1\/c=2\/c=3:=Qo;rcases this with rfl | rfl | rfl | rfl <;> exact Ir h (by simp only[Vy]; decide)
 | k+1,hk,h=>by
  have hr:=MK h;have ih:=zm3 cs (c:=c) k Qo;have hl:=HV cs k Qo
  have hb:XU k<=8:=by
   have:k=0\/k=1\/k=2\/k=3:=Qo;rcases this with rfl | rfl | rfl | rfl <;> decide
  simp only[Vy] at h
  split at h
  ·rename_i hu;have:=zn3 ⟨k,Qo⟩ ⟨(Vy cs k).toNat,Qo⟩ ⟨c.toNat,Qo⟩;rw[show ((⟨(Vy cs k).toNat,Qo⟩:Fin 8).val:Int)=Vy cs k by show (((Vy cs k).toNat:Nat):Int)=Vy cs k; omega,show ((⟨c.toNat,Qo⟩:Fin 4).val:Int)=c by show ((c.toNat:Nat):Int)=c; omega] at this;rw[this hl.2] at h;simp only[Iu,Ij] at h;rcases h with h | h
   ·have:c=(k:Int):=Qo;subst this;exact⟨Qo,hu⟩
   ·have:=ih h;exact⟨Qo,this.2⟩
  ·have:=ih h;exact⟨Qo,this.2⟩
def Vc:Nat->List ZX->Int->List Int
 | 0,_,_=>[]
 | f+1,gs,g=>if g=0 then [] else g::Vc f gs (gi gs g).parent
abbrev QP(gs:List ZX)(g:Int):List Int:=Vc 3 gs g
theorem Zi(gs:List ZX)(f:Nat):Vc f gs 0=[]:=by cases f <;> simp[Vc]
theorem zu4{gs:List ZX}(ht:Y8 gs):∀(f f':Nat) (h:Int),Q6 gs h=true->dep 3 gs h<=f->dep 3 gs h<=f'->Vc f gs h=Vc f' gs h:=by
 intro f
 induction f with
 | zero=>
  intro f' h hu h1 h2
  have hz:h=0:=Iq λhz=>by
   obtain⟨_,_,_,d,e,_⟩:=Y3 ht hu hz;omega
  subst hz;rw[Zi,Zi]
 | succ f ih=>
  intro f' h hu h1 h2
  by_cases hz:h=0
  ·subst hz;rw[Zi,Zi]
  ·obtain⟨hp,_,_,d,e,e2,_⟩:=Y3 ht hu hz
   cases f' with
   | zero=>omega
   | succ f'=>
    simp only[Vc];rw[B' hz,B' hz,ih f' (gi gs h).parent hp Qo Qo]
theorem Yt{gs:List ZX}(ht:Y8 gs){h:Int}(hu:Q6 gs h=true)(hz:h≠0):QP gs h=h::QP gs (gi gs h).parent:=by
 obtain⟨hp,_,_,d,e,e2,hd⟩:=Y3 ht hu hz;show Vc 3 gs h=_;rw[show Vc 3 gs h=if h=0 then [] else h::Vc 2 gs (gi gs h).parent from rfl,B' hz,zu4 ht 2 3 _ hp Qo Qo]
theorem Pf{gs:List ZX}(ht:Y8 gs){Q:Int->Prop}(h0:Q 0)(hs:∀h:Int,Q6 gs h=true->h≠0->Q (gi gs h).parent->Q h):∀h:Int,Q6 gs h=true->Q h:=by
 have key:∀(n:Nat) (h:Int),Q6 gs h=true->dep 3 gs h<=n->Q h:=by
  intro n
  induction n with
  | zero=>
   intro h hu hd
   by_cases hz:h=0
   ·subst hz; exact h0
   ·obtain⟨_,_,_,d,e,_⟩:=Y3 ht hu hz;omega
  | succ n ih=>
   intro h hu hd
   by_cases hz:h=0
   ·subst hz; exact h0
   ·obtain⟨hp,_,_,d,e,e2,_⟩:=Y3 ht hu hz;exact hs h hu hz (ih _ hp Qo)
 intro h hu;have:=Of gs 3 h;exact key 3 h hu Qo
theorem zyk{gs:List ZX}(ht:Y8 gs){h:Int}(hu:Q6 gs h=true):QP gs h++[0]=h::(QP gs h).map λx=>(gi gs x).parent:=by
 refine Pf ht (Q:=λh=>QP gs h++[0]=h::(QP gs h).map λx=>(gi gs x).parent) (by simp[QP,Zi]) (λh hu hz ih=>?_) h hu;rw[Yt ht hu hz,List.cons_append,ih,List.map_cons]
def Ti(gs:List ZX)(g u:Int):Int:=(QP gs g++[0]).foldl (λs x=>TY s (gi gs x).IE) u
def zo5(gs:List ZX)(g:Int):Int:=(QP gs g).foldl (λs x=>TY s (gi gs (gi gs x).parent).IE) (gi gs g).IE
theorem znv(f:Int->Int):∀(l:List Int) (m u:Int),TY (l.foldl (λs x=>TY s (f x)) m) u=l.foldl (λs x=>TY s (f x)) (TY u m)
 | [],m,u=>A7 m u
 | x::l,m,u=>by
  simp only[List.foldl_cons];rw[znv f l,zqs]
theorem zy2{gs:List ZX}(ht:Y8 gs){g u:Int}(hu:Q6 gs g=true):TY (zo5 gs g) u=Ti gs g u:=by
 unfold zo5 Ti;rw[zyk ht hu,List.foldl_cons,List.foldl_map,znv (λx=>(gi gs (gi gs x).parent).IE)]
theorem zs1{gs:List ZX}{g u c:Int}(h:QZ (Ti gs g u) c=true):QZ u c=true:=by
 unfold Ti at h
 revert h
 generalize QP gs g++[0]=l
 induction l generalizing u with
 | nil=>exact λh=>h
 | cons x l ih=>
  intro h;rw[List.foldl_cons] at h;exact(zoi (ih h)).1
def Qx(W:Q8)(g mask:Int):Int:=
 if TY mask (Ti W.ID g (U1 W.IE))≠0 then TY mask (Ti W.ID g (U1 W.IE)) else if Ti W.ID g (U1 W.IE)≠0 then Ti W.ID g (U1 W.IE) else U1 W.IE
theorem zvr{W:Q8}{g mask c:Int}(h:QZ (Qx W g mask) c=true):QZ (U1 W.IE) c=true:=by
 unfold Qx at h
 split at h
 ·exact zs1 (zoi h).2
 ·split at h
  ·exact zs1 h
  ·exact h
def Xg(l:List Int):Nat->Int
 | 0=>0
 | k+1=>Xg l k+gi l (k:Int)
def O8(p:Nat->Bool):Nat->Bool
 | 0=>false
 | k+1=>O8 p k||p k
theorem Pk{p:Nat->Bool}:∀{n:Nat},O8 p n=true↔∃j,j<n/\p j=true
 | 0=>by simp[O8]
 | n+1=>by
  simp only[O8,Iu,Pk (n:=n)];constructor
  ·rintro (⟨j,hj,h⟩ | h)
   ·exact⟨j,Qo,h⟩
   ·exact⟨n,Qo,h⟩
  ·rintro⟨j,hj,h⟩
   by_cases hjn:j=n
   ·subst hjn; exact .inr h
   ·exact .inl ⟨j,Qo,h⟩
theorem zco{p:Nat->Bool}{n:Nat}(h:∀j,j<n->p j=false):O8 p n=false:=by
 cases ha:O8 p n with
 | false=>rfl
 | true=>
  obtain⟨j,hj,hp⟩:=Pk.1 ha;rw[h j hj] at hp; cases hp
noncomputable def Ub(P:Prop):Bool:=@decide P (Classical.propDecidable P)
theorem Qj{P:Prop}:Ub P=true↔P:=@decide_eq_true_iff P (Classical.propDecidable P)
theorem GC{P:Prop}:Ub P=false↔¬P:=by
 constructor
 ·intro h hp;rw[Qj.2 hp] at h; cases h
 ·intro h
  cases hb:Ub P with
  | false=>rfl
  | true=>exact Ir (Qj.1 hb) h
theorem PI{b:Bool}{P:Prop}(h:b=true↔P):Value.bool b=.bool (Ub P):=by
 have:b=Ub P:=by
  cases hb:Ub P with
  | true=>exact h.2 (Qj.1 hb)
  | false=>
   cases hc:b with
   | false=>rfl
   | true=>exact Ir (h.1 hc) (GC.1 hb)
 rw[this]
theorem Gg{P:Prop}(h:¬P):Value.bool false=.bool (Ub P):=by rw[GC.2 h]
theorem zpi{P:Prop}(h:P):Value.bool true=.bool (Ub P):=by rw[Qj.2 h]
def Q7(W:Q8)(t:Int):Lm:=gi W.tasks t
def Qa(W:Q8)(g c:Int):LR:=gi (gi W.ID g).IF c
def ZW(v:Int):Bool:=YP v 0 100000000000000000
theorem Xl{v:Int}:ZW v=true↔0<=v/\v<=100000000000000000:=Qv
def OJ(b:Ve):Bool:=((((b.IX==0)&&(b.RD==0))&&(b.Sl==0))&&(((b.locals.length:Nat):Int)==0))&&(((b.Ry.length:Nat):Int)==0)
structure P0 (b:Ve):Prop where
 q1:1<=b.IX
 q2:b.IX<=10000
 l1:1<=b.locals.length
 l2:b.locals.length<=4
 dl:b.Ry.length=b.locals.length
 p1:0<=b.RD
 p2:b.RD<=b.IX
 s1:0<=b.Sl
 s2:b.Sl<=b.IX
 each:∀c:Int,0<=c->c<(b.locals.length:Int)->0<=gi b.locals c/\gi b.locals c<=b.IX/\(gi b.Ry c=true->gi b.locals c=0/\b.RD=0)
 sum:b.RD+b.Sl+Xg b.locals b.locals.length=b.IX
structure zpm (W:Q8) (k:Int) (g:ZX):Prop where
 w1:1<=g.weight
 w2:g.weight<=20
 m:M1 g.IE=true
 m0:g.IE≠0
 s:ZW g.sum=true
 len:g.IF.length=W.IE.length
 root:k=0->g.weight=10/\g.IE=15/\g.IP.IX=0
 none:g.IP.IX=0->OJ g.IP=true/\g.period=0/\g.next=0
 IP:g.IP.IX≠0->P0 g.IP/\g.IP.locals.length=W.IE.length/\1<=g.period/\g.period<=1000/\W.now<g.next/\g.next-W.now<=g.period
structure zv0 (g:ZX):Prop where
 p:g.parent=0
 n:g.name=⟨[].toArray⟩
 w:g.weight=0
 c:g.IE=0
 pe:g.period=0
 ne:g.next=0
 s:g.sum=0
 l:g.IF.length=0
 b:OJ g.IP=true
def Kn(W:Q8)(k:Int):Prop:=((gi W.ID k).used=false->zv0 (gi W.ID k))/\((gi W.ID k).used=true->zpm W k (gi W.ID k))
structure WA (W:Q8):Prop where
 n1:0<=W.now
 n2:W.now<=100000000000000000
 c1:1<=W.IE.length
 c2:W.IE.length<=4
 t:W.tasks.length=12
 tree:Y8 W.ID
 ups:U1 W.IE≠0
 grp:∀k:Int,0<=k->k<8->Kn W k
def Yx(W:Q8)(g c:Int):Bool:=decide ((gi W.ID g).IP.IX>0)&&gi (gi W.ID g).IP.Ry c
def Od(W:Q8)(g c:Int)(j:Nat):Bool:=(((gi W.tasks (j:Int)).state==1)&&((gi W.tasks (j:Int)).group==g))&&((gi W.tasks (j:Int)).IZ==c)
def Jd(W:Q8)(g c:Int)(j:Nat):Bool:=(decide (1<=j)&&((gi W.ID (j:Int)).used&&((gi W.ID (j:Int)).parent==g)))&&(Qa W (j:Int) c).on
def QJ(W:Q8)(g c:Int):Bool:=O8 (Od W g c) W.tasks.length||O8 (Jd W g c) W.ID.length
def Vb(W:Q8)(g c:Int):Bool:=(QP W.ID g).all λx=>(Qa W x c).on
def Z3(W:Q8)(t:Int):Bool:=((Q7 W t).state==1)&&Vb W (Q7 W t).group (Q7 W t).IZ
def KG(v f k:Int):Bool:=decide (v>=f)&&decide (IntKind.i64.wrap (v-f)<=ZM k)
def Oa(W:Q8)(g c WQ:Int):Bool:=(QP W.ID g).all λx=>decide ((Qa W x c).v-(Qa W (gi W.ID x).parent c).floor<=Ze WQ (Qa W x c).w)
def MQ(W:Q8)(c:Int):Bool:=
 decide ((Q7 W (gi W.IE c).cur).v-(Qa W (Q7 W (gi W.IE c).cur).group c).floor<=Ze (gi W.IE c).WQ (Qe (Q7 W (gi W.IE c).cur).nice))&&Oa W (Q7 W (gi W.IE c).cur).group c (gi W.IE c).WQ
def Oc:Lm:=⟨0,0,0,0,0,0,0,0,0⟩
structure zz0 (W:Q8) (x:Lm):Prop where
 st:x.state=1\/x.state=2
 g:Q6 W.ID x.group=true
 n:Qe x.nice≠0
 m:M1 x.mask=true
 m0:x.mask≠0
 v:ZW x.v=true
 s:ZW x.sum=true
 u:ZW x.used=true
 l1:0<=x.load
 l2:x.load<=8000000
 c:QZ (Qx W x.group x.mask) x.IZ=true
 f:x.state=1->KG x.v (Qa W x.group x.IZ).floor (Qe x.nice)=true
def C3(W:Q8)(t:Int):Prop:=(Q7 W t).state=0/\Q7 W t=Oc\/(Q7 W t).state≠0/\zz0 W (Q7 W t)
structure Ko (W:Q8) (k c:Int):Prop where
 f:ZW (Qa W k c).floor=true
 v:ZW (Qa W k c).v=true
 s:ZW (Qa W k c).sum=true
 w1:1<=(Qa W k c).w
 w2:(Qa W k c).w<=20
 root:k=0->(Qa W k c).on=false/\(Qa W k c).v=0/\(Qa W k c).w=10
 on:k≠0->(Qa W k c).on=(QJ W k c && !Yx W k c)
 st:k≠0->(Qa W k c).on=true->KG (Qa W k c).v (Qa W (gi W.ID k).parent c).floor (Qa W k c).w=true
structure BW (W:Q8) (c:Int):Prop where
 b:ZW (gi W.IE c).busy=true
 i:ZW (gi W.IE c).idle=true
 c1 : -1<=(gi W.IE c).cur
 c2:(gi W.IE c).cur<(W.tasks.length:Int)
 no:(gi W.IE c).cur<0->(gi W.IE c).WQ=0
 yes:0<=(gi W.IE c).cur->(gi W.IE c).up=true/\1<=(gi W.IE c).WQ/\(gi W.IE c).WQ<=149/\(Q7 W (gi W.IE c).cur).IZ=c/\Z3 W (gi W.IE c).cur=true/\MQ W c=true
structure YI (W:Q8):Prop where
 a:WA W
 t:∀t:Int,0<=t->t<12->C3 W t
 s:∀k c:Int,0<=k->k<8->0<=c->c<((gi W.ID k).IF.length:Int)->Ko W k c
 c:∀c:Int,0<=c->c<(W.IE.length:Int)->BW W c
noncomputable def QD(W:Q8):Bool:=Ub (YI W)
section
variable {W:Q8}
theorem WA.gl(h:WA W):W.ID.length=8:=h.tree.len
theorem WA.u(h:WA W){g:Int}(hu:Q6 W.ID g=true):0<=g/\g<8/\zpm W g (gi W.ID g):=by
 obtain⟨a,b,c⟩:=Q4.1 hu;have:=h.gl;exact⟨a,Qo,(h.grp g a Qo).2 c⟩
theorem WA.root(h:WA W):Q6 W.ID 0=true:=Q4.2 ⟨Qd,by have:=h.gl; omega,h.tree.ru⟩
theorem WA.sl(h:WA W){g:Int}(hu:Q6 W.ID g=true):(gi W.ID g).IF.length=W.IE.length:=(h.u hu).2.2.len
theorem WA.up(h:WA W){g:Int}(hu:Q6 W.ID g=true)(hz:g≠0):Q6 W.ID (gi W.ID g).parent=true:=(Y3 h.tree hu hz).1
theorem WA.dl(h:WA W){g:Int}(hu:Q6 W.ID g=true)(hq:(gi W.ID g).IP.IX≠0):(gi W.ID g).IP.Ry.length=W.IE.length/\(gi W.ID g).IP.locals.length=W.IE.length:=by
 have hb:=(h.u hu).2.2.IP hq;exact⟨by rw[hb.1.dl,hb.2.1],hb.2.1⟩
end
theorem X7{v:Int}{w:Wo}{bs:List Nat}:PX bs ZP #[I v] w (.bool (ZW v)):=zir v λwr hx=>⟨_,Qm,rfl⟩
theorem ZZ{n:Int}{w:Wo}{bs:List Nat}:PX bs Zg #[I n] w (I (Qe n)):=
 zap n λwr hx=>⟨_,Qm,λg=>by
  unfold Qe; rw[B' (by simpa using g)],λg=>by
  have g':YP n (-10) 9=true:=by simpa using g
  have:=Qv.1 g';refine⟨⟨Qo,Qo⟩,?_⟩;unfold Qe; rw[C' g']⟩
theorem Xw{m:Int}{w:Wo}{bs:List Nat}:PX bs Yk #[I m] w (.bool (M1 m)):=zim m λwr hx=>⟨_,Qm,rfl⟩
theorem ZS{m c:Int}{w:Wo}{bs:List Nat}:PX bs Zf #[I m,I c] w (.bool (QZ m c)):=
 ze3 m c λwr hx=>by
  have hr:(M1 m&&YP c 0 3)=true->0<=c/\c<=3:=λg=>by
   simp only[A'] at g;exact Qv.1 g.2
  exact⟨_,Xw,_,λ_=>Qm,λg=>by have:=hr g; exact⟨Qo,by show c<=18446744073709551615; omega⟩,λg=>(hr g).1,λ_=>by decide,rfl⟩
theorem zrz(a b:Int):∀k:Nat,k<=4->0<=zcn a b k/\zcn a b k<XU k
 | 0,_=>by simp[zcn,XU]
 | k+1,h=>by
  have ih:=zrz a b k Qo
  have hb:XU (k+1)=2*XU k/\0<=XU k:=by
   have:k=0\/k=1\/k=2\/k=3:=Qo;rcases this with rfl | rfl | rfl | rfl <;> decide
  simp only[zcn]
  split <;> omega
theorem z2f{k:Nat}(h:k<=64):Ql .u64 (k:Int):=⟨by show (0:Int)<=(k:Int); omega,by show (k:Int)<=18446744073709551615; omega⟩
theorem MH{a b:Int}{w:Wo}{bs:List Nat}:PX bs JV #[I a,I b] w (I (TY a b)):=
 ze2 a b λwr hx=>by
  refine⟨_,Xw,_,λ_=>Xw,λg=>?_,λg=>?_⟩
  ·rw[XK]
   simpa using g
  ·simp only[H',I6] at g
   have he:TY a b=zcn a b 4:=by
    rw[OU g.1 g.2];obtain⟨x,rfl⟩:=Ke g.1;obtain⟨y,rfl⟩:=Ke g.2;exact(zwb x y).symm
   rw[he];refine TX 4 0 rfl (λx k=>k<=4/\x=zcn a b k) ⟨Qo,rfl⟩ λx k ⟨hk,hx⟩=>⟨λIN=>?_,λRx=>?_⟩
   ·have IN:=Ot IN;have hb:=Kq (k:=k) Qo;have hl:=zrz a b k hk;have dH:(1*2 ^ (min (Int.toNat (k:Int)) 64):Int)=XU k:=rfl;refine⟨_,ZS,_,λ_=>ZS,λh=>?_,λh=>?_⟩
    ·rw[dH];refine⟨z2f Qo,⟨Qo,Qo,Qo⟩,⟨Qo,Qo⟩,⟨Qo,Qo⟩,QH Qo ⟨Qo,?_⟩⟩;rw[hx]; simp only[zcn]; rw[C' h]
    ·refine⟨⟨Qo,Qo⟩,QH Qo ⟨Qo,?_⟩⟩;rw[hx]; simp only[zcn]; rw[B' (by rw[h]; decide)]
   ·have Rx:=Ou Rx;have:k=4:=Qo;subst this;rw[hx]
theorem Ha{b:Ve}(h:OJ b=true):b.IX=0/\b.RD=0/\b.Sl=0/\b.locals.length=0/\b.Ry.length=0:=by
 unfold OJ at h;simp only[A',Is] at h;omega
theorem G3{b:Ve}{m:MG}{w:Wo}{bs:List Nat}:PX bs UZ #[.agg (Zy b m).toArray] w (.bool (OJ b)):=
 zaz b.IX b.RD b.Sl m.lO b.locals.length m.lC m.dO b.Ry.length m.dC λwr hx=>λ_ _=>rfl
theorem zfz{l:List Int}{q:Int}(h:∀c:Int,0<=c->c<(l.length:Int)->0<=gi l c/\gi l c<=q)(hq:0<=q):∀k:Nat,k<=l.length->0<=Xg l k/\Xg l k<=(k:Int)*q
 | 0,_=>by simp[Xg]
 | k+1,hk=>by
  have ih:=zfz h hq k Qo;have hg:=h (k:Int) Qo Qo;simp only[Xg];rw[show ((k+1:Nat):Int)*q=(k:Int)*q+q by rw[show ((k+1:Nat):Int)=(k:Int)+1 by omega,Int.add_mul,Int.one_mul]];omega
theorem DV{b:Ve}{m:MG}{w:Wo}{bs:List Nat}(h1:zm9 bs w m.lO b.locals)(h2:zv3 bs w m.dO b.Ry)(hl:b.locals.length<=maxLen):PX bs TC #[.agg (Zy b m).toArray] w (.bool (Ub (P0 b))):=
 zik b.IX b.RD b.Sl m.lO b.locals.length m.lC m.dO b.Ry.length m.dC λwr hx=>by
  have h1:=(h1.ext hx).less (cs:=[]) Qs;have h2:=(h2.ext hx).less (cs:=[]) Qs;intro _ _;refine⟨_,Qm,_,λ_=>Qm,_,λ_=>Qm,_,λ_=>Qm,λg=>Gg λp=>?_,λg=>?_⟩
  ·rw[Qv.2 ⟨p.q1,p.q2⟩,Qv.2 (by have:=p.l1; have:=p.l2; omega),Qv.2 ⟨p.p1,p.p2⟩,Qv.2 ⟨p.s1,p.s2⟩,p.dl] at g;simp at g
  ·simp only[H',I6,bne_eq_false_iff_eq,Qv] at g;obtain⟨⟨⟨⟨g1,g2⟩,g3⟩,g4⟩,g5⟩:=g;have hdl:b.Ry.length=b.locals.length:=Qo
   have all:∀{k:Nat},k<=b.locals.length->(∀c:Int,0<=c->c<(k:Int)->0<=gi b.locals c/\gi b.locals c<=b.IX/\(gi b.Ry c=true->gi b.locals c=0/\b.RD=0))->0<=Xg b.locals k/\Xg b.locals k<=40000:=λ{k} hk h=>by
    have key:∀j:Nat,j<=k->0<=Xg b.locals j/\Xg b.locals j<=(j:Int)*10000:=λj=>by
     induction j with
     | zero=>intro _; simp[Xg]
     | succ j ih=>
      intro hj;have:=ih Qo;have:=h (j:Int) Qo Qo;simp only[Xg]; omega
    have:=key k (I7 _);omega
   refine⟨⟨Qo,Qo⟩,?_⟩;refine TX b.locals.length 0 rfl (λx k=>k<=b.locals.length/\x=b.RD+b.Sl+Xg b.locals k/\∀c:Int,0<=c->c<(k:Int)->0<=gi b.locals c/\gi b.locals c<=b.IX/\(gi b.Ry c=true->gi b.locals c=0/\b.RD=0)) ⟨Ic _,by simp[Xg],λc h0 h1=>by omega⟩ λx k ⟨hk,R5,hI⟩=>⟨λIN=>?_,λRx=>?_⟩
   ·have IN:=Ot IN;have RA:(k:Int)<(b.Ry.length:Int):=Qo;have hsr:=all hk hI;refine⟨h1.ix XV Qo IN,_,h1 k Qo IN,_,Qm,λ_=>h2.ix Lv Qo RA,_,λ_=>h2 k Qo RA,λ_ _=>h1.ix XV Qo IN,_,λ_ _=>h1 k Qo IN,λg=>Gg λp=>?_,λg=>⟨h1.ix XV Qo IN,_,h1 k Qo IN,?_⟩⟩
    ·have pe:=p.each (k:Int) Qo IN;rw[Qv.2 ⟨pe.1,pe.2.1⟩] at g;simp only[Bool.not_true,Bool.false_or,A',Iu,Ij] at g;have:=pe.2.2 g.1;omega
    ·simp only[H',I6,Qv] at g;obtain⟨ga,gb⟩:=g;refine⟨⟨Qo,Qo⟩,⟨Qo,Qo⟩,QH Qo ⟨Qo,by simp only[Xg]; omega,λc hc0 hc=>?_⟩⟩
     by_cases hck:c<(k:Int)
     ·exact hI c hc0 hck
     ·have:c=(k:Int):=Qo;subst this;refine⟨ga.1,ga.2,λhd=>?_⟩;rw[hd] at gb;simp only[Bool.true_and,H',decide_eq_false_iff_not] at gb;omega
   ·have Rx:=Ou Rx;have:k=b.locals.length:=Qo;subst this;refine PI ?_;rw[Is,R5];constructor
    ·intro hs;exact⟨g1.1,g1.2,Qo,Qo,hdl,g4.1,g4.2,g5.1,g5.2,hI,hs⟩
    ·exact λp=>p.sum
section
variable {W:Q8}{m:MW}{w:Wo}{bs:List Nat}
theorem Lp.R0{gs:List ZX}{ms:Nat->MG}{o:OA}(h:Lp bs w o gs ms){i:Int}(h0:0<=i)(h1:i<(gs.length:Int)):Q1 bs w o (Int.toNat i*14+13) [.slice (ms i.toNat).sO (gi gs i).IF.length (ms i.toNat).sC]:=(h.cells i h0 h1).get 13 _ rfl
theorem Lp.IE{gs:List ZX}{ms:Nat->MG}{o:OA}(h:Lp bs w o gs ms){i:Int}(h0:0<=i)(h1:i<(gs.length:Int)):Q1 bs w o (Int.toNat i*14+4) [I (gi gs i).IE]:=(h.cells i h0 h1).get 4 _ rfl
theorem Lp.IP{gs:List ZX}{ms:Nat->MG}{o:OA}(h:Lp bs w o gs ms){i:Int}(h0:0<=i)(h1:i<(gs.length:Int)):Q1 bs w o (Int.toNat i*14+8) (Zy (gi gs i).IP (ms i.toNat)):=M6 λj v hj=>by
 have e:YJ (gi gs i) (ms i.toNat)=((YJ (gi gs i) (ms i.toNat)).take 8++Zy (gi gs i).IP (ms i.toNat))++[.slice (ms i.toNat).sO (gi gs i).IF.length (ms i.toNat).sC]:=rfl
 have hj':j<5:=by
  have:=(I8.1 hj).1
  simpa[Zy] using this
 have:=(h.cells i h0 h1).get (8+j) v (by
  rw[e,Ip (by simp[YJ,Zy]; omega),List.getElem?_append_right (by simp[YJ])]
  simpa[YJ] using hj)
 rwa[<-Nat.add_assoc] at this
theorem zrw.f{ts:List Lm}{o:OA}(h:zrw bs w o ts){i:Int}(h0:0<=i)(h1:i<(ts.length:Int)){j:Nat}{v:Va}(hj:(XS (gi ts i))[j]? = some v):Q1 bs w o (Int.toNat i*9+j) [v]:=YZ ((h i h0 h1).get j v hj)
theorem z4i.f{cs:List KI}{o:OA}(h:z4i bs w o cs){i:Int}(h0:0<=i)(h1:i<(cs.length:Int)){j:Nat}{v:Va}(hj:(Ge (gi cs i))[j]? = some v):Q1 bs w o (Int.toNat i*5+j) [v]:=YZ ((h i h0 h1).get j v hj)
theorem zna.f{ss:List LR}{o:OA}(h:zna bs w o ss){i:Int}(h0:0<=i)(h1:i<(ss.length:Int)){j:Nat}{v:Va}(hj:(Po (gi ss i))[j]? = some v):Q1 bs w o (Int.toNat i*5+j) [v]:=YZ ((h i h0 h1).get j v hj)
theorem Lz(h:XE bs w W m)(h4:W.IE.length<=4):PX bs Vs #[.agg (Qb W m).toArray] w (I (U1 W.IE)):=
 zml _ _ _ _ _ _ _ _ _ _ λwr hx=>by
  have h:=(h.ext hx).less (cs:=[]) Qs;intro _ _;refine TX W.IE.length 0 rfl (λx k=>k<=W.IE.length/\x=Vy W.IE k) ⟨Ic _,rfl⟩ λx k ⟨hk,R5⟩=>⟨λIN=>?_,λRx=>?_⟩
  ·have IN:=Ot IN;have hb:=Kq (k:=k) Qo;have hl:=HV W.IE k Qo;have dH:(1*2 ^ (min (Int.toNat (k:Int)) 64):Int)=XU k:=rfl;refine⟨h.c.ix Y6 Qo IN,_,h.c.f Qo IN (j:=0) rfl,λhu=>?_,λhu=>?_⟩
   ·rw[dH];refine⟨z2f Qo,⟨Qo,Qo,Qo⟩,⟨Qo,Qo⟩,⟨Qo,Qo⟩,QH Qo ⟨Qo,?_⟩⟩;rw[R5]; simp only[Vy]; rw[C' hu]
   ·refine⟨⟨Qo,Qo⟩,QH Qo ⟨Qo,?_⟩⟩;rw[R5]; simp only[Vy]; rw[B' (by rw[hu]; decide)]
  ·have Rx:=Ou Rx;have:k=W.IE.length:=Qo;subst this;rw[R5]; rfl
theorem zh2{g:Int}(h:XE bs w W m)(ht:Y8 W.ID)(hu:Q6 W.ID g=true):PX bs Mw #[.agg (Qb W m).toArray,I g] w (I (zo5 W.ID g)):=
 ziv _ _ _ _ _ _ _ _ _ _ g λwr hx=>by
  have h:=(h.ext hx).less (cs:=[]) Qs;intro _ _;obtain⟨u1,u2,_⟩:=Q4.1 hu;refine⟨h.g.ix u1 u2,_,h.g.IE u1 u2,λvs=>∃(x s:Int),vs=[I x,I s]/\Q6 W.ID x=true/\(QP W.ID x).foldl (λs x=>TY s (gi W.ID (gi W.ID x).parent).IE) s=zo5 W.ID g,λvs=>(dep 3 W.ID (ZE 0 vs)).toNat,⟨g,_,rfl,hu,rfl⟩,?_⟩;rintro x s ⟨x',s',he,tB,hI⟩;simp only[I4,I5,true_and,and_true] at he;obtain⟨rfl,rfl⟩:=he;refine⟨λhz=>?_,λhz=>?_⟩
  ·have hz:x≠0:=by simpa using hz
   obtain⟨hp,a,b,d,e,e2,hd⟩:=Y3 ht tB hz;obtain⟨v1,v2,_⟩:=Q4.1 hp;rw[Yt ht tB hz,List.foldl_cons] at hI
   exact⟨h.g.ix a b,_,h.g.parent a b,h.g.ix v1 v2,_,h.g.IE v1 v2,_,MH,⟨_,_,rfl,hp,hI⟩,by
    show (dep 3 W.ID (gi W.ID x).parent).toNat<(dep 3 W.ID x).toNat;omega⟩
  ·have hz:x=0:=by simpa using hz
   subst hz;rw[show QP W.ID 0=[] from Zi _ _,List.foldl_nil] at hI;rw[hI]
theorem XI{g mask:Int}(h:XE bs w W m)(h4:W.IE.length<=4)(ht:Y8 W.ID)(hu:Q6 W.ID g=true):PX bs Yn #[.agg (Qb W m).toArray,I g,I mask] w (I (Qx W g mask)):=
 zfc _ _ _ _ _ _ _ _ _ _ g mask λwr hx=>by
  have h:=(h.ext hx).less (cs:=[]) Qs;intro _ _;have hk:=MH (a:=zo5 W.ID g) (b:=U1 W.IE) (w:=wr) (bs:=[]);rw[zy2 ht hu] at hk;refine⟨_,Lz h h4,_,zh2 h ht hu,_,hk,_,MH,λg1=>?_,λg1=>⟨λg2=>?_,λg2=>?_⟩⟩
  ·unfold Qx; rw[C' (by simpa using g1)]
  ·unfold Qx; rw[B' (by simpa using g1),C' (by simpa using g2)]
  ·unfold Qx; rw[B' (by simpa using g1),B' (by simpa using g2)]
theorem PZ{g c:Int}(h:XE bs w W m)(ha:WA W)(hu:Q6 W.ID g=true)(c0:0<=c)(c1:c<(W.IE.length:Int)):PX bs U3 #[.agg (Qb W m).toArray,I g,I c] w (.bool (Yx W g c)):=
 zmk _ _ _ _ _ _ _ _ _ _ g c λwr hx=>by
  have h:=(h.ext hx).less (cs:=[]) Qs;intro _ _;obtain⟨u1,u2,_⟩:=Q4.1 hu
  have hd:(decide ((gi W.ID g).IP.IX>0))=true->c<((gi W.ID g).IP.Ry.length:Int):=λg1=>by
   have:=Ot g1;rw[(ha.dl hu Qo).1]; exact c1
  exact⟨h.g.ix u1 u2,_,_,_,_,_,_,_,_,_,h.g.IP u1 u2,λ_ _=>⟨λg1=>(h.g.Ry g u1 u2).ix Lv c0 (hd g1),_,λg1=>(h.g.Ry g u1 u2) c c0 (hd g1),rfl⟩⟩
theorem VN{g c:Int}(h:XE bs w W m)(ha:WA W)(hu:Q6 W.ID g=true)(c0:0<=c)(c1:c<(W.IE.length:Int)):PX bs XC #[.agg (Qb W m).toArray,I g,I c] w (.bool (Qa W g c).on):=
 za0 _ _ _ _ _ _ _ _ _ _ g c λwr hx=>by
  have h:=(h.ext hx).less (cs:=[]) Qs;intro _ _;obtain⟨u1,u2,_⟩:=Q4.1 hu;have hs:=ha.sl hu;have c2:c<((gi W.ID g).IF.length:Int):=Qo;exact⟨h.g.ix u1 u2,_,_,_,h.g.R0 u1 u2,(h.g.IF g u1 u2).ix X0 c0 c2,_,zna.f (h.g.IF g u1 u2) c0 c2 (j:=1) rfl,rfl⟩
theorem zm5{gs:List ZX}{k:Nat}(hk:(k:Int)<(gs.length:Int))(hu:(gi gs (k:Int)).used=true):Q6 gs (k:Int)=true:=Q4.2 ⟨Qo,hk,hu⟩
theorem PB{g c:Int}(h:XE bs w W m)(ha:WA W)(c0:0<=c)(c1:c<(W.IE.length:Int)):PX bs Js #[.agg (Qb W m).toArray,I g,I c] w (.bool (QJ W g c)):=
 zax _ _ _ _ _ _ _ _ _ _ g c λwr hx=>by
  have h:=(h.ext hx).less (cs:=[]) Qs;intro _ _;have bZ:=ha.gl;have hm9:=ZV;refine YV W.tasks.length 0 rfl (λk=>k<=W.tasks.length/\∀j:Nat,j<k->Od W g c j=false) ⟨Ic _,λj hj=>Ir hj (Nat.not_lt_zero j)⟩ λk ⟨hk,hI⟩=>⟨λIN=>?_,λRx=>?_⟩
  ·have IN:=Ot IN;have ht:=ha.t;refine⟨h.t.ix QF Qo IN,_,h.t.f Qo IN (j:=0) rfl,λ_=>h.t.ix QF Qo IN,_,λ_=>h.t.f Qo IN (j:=1) rfl,λ_=>h.t.ix QF Qo IN,_,λ_=>h.t.f Qo IN (j:=2) rfl,λhy=>?_,λhn=>⟨⟨Qo,Qo⟩,Qu Qo ⟨Qo,λj hj=>?_⟩⟩⟩
   ·unfold QJ;rw[Pk.2 ⟨k,Qo,hy⟩]; rfl
   ·by_cases fN:j<k
    ·exact hI j fN
    ·have:j=k:=Qo;subst this; exact hn
  ·have Rx:=Ou Rx;have iX:O8 (Od W g c) W.tasks.length=false:=zco λj hj=>hI j Qo
   refine YV W.ID.length 1 rfl (λk=>1<=k/\k<=W.ID.length/\∀j:Nat,j<k->Jd W g c j=false) ⟨I7 _,Qo,λj hj=>by
    have:j=0:=Qo;subst this; simp[Jd]⟩ λk ⟨hk1,hk,hI⟩=>⟨λIN=>?_,λRx=>?_⟩
   ·have IN:=Ot IN;refine⟨h.g.ix Qo IN,_,h.g.used Qo IN,λ_=>h.g.ix Qo IN,_,λ_=>h.g.parent Qo IN,(Qa W (k:Int) c).on,λhu=>VN h ha (zm5 IN (by simp only[A'] at hu; exact hu.1)) c0 c1,λhy=>?_,λhn=>⟨⟨Qo,Qo⟩,Qu Qo ⟨Qo,Qo,λj hj=>?_⟩⟩⟩
    ·unfold QJ
     have:O8 (Jd W g c) W.ID.length=true:=Pk.2 ⟨k,Qo,by
      unfold Jd;rw[Ih hk1,Bool.true_and]; exact hy⟩
     rw[this,Bool.or_true]
    ·by_cases fN:j<k
     ·exact hI j fN
     ·have:j=k:=Qo;subst this;unfold Jd;rw[Ih hk1,Bool.true_and]; exact hn
   ·have Rx:=Ou Rx;have:O8 (Jd W g c) W.ID.length=false:=zco λj hj=>hI j Qo
    unfold QJ;rw[iX,this]; rfl
theorem JZ{t:Int}(h:XE bs w W m)(ha:WA W)(t0:0<=t)(t1:t<(W.tasks.length:Int))(hu:(Q7 W t).state=1->Q6 W.ID (Q7 W t).group=true/\0<=(Q7 W t).IZ/\(Q7 W t).IZ<(W.IE.length:Int)) :
  PX bs Yr #[.agg (Qb W m).toArray,I t] w (.bool (Z3 W t)):=
 zay _ _ _ _ _ _ _ _ _ _ t λwr hx=>by
  have h:=(h.ext hx).less (cs:=[]) Qs;intro _ _;refine⟨h.t.ix QF t0 t1,_,_,_,_,_,_,_,_,_,h.t t t0 t1,λ_ _=>⟨λg=>?_,λg=>?_⟩⟩
  ·have:((Q7 W t).state==1)=false:=by simpa[Q7] using g
   unfold Z3; rw[this]; rfl
  ·have hs:(Q7 W t).state=1:=by simpa[Q7] using g
   obtain⟨hug,hc0,sS⟩:=hu hs;have hL:Z3 W t=Vb W (Q7 W t).group (Q7 W t).IZ:=by unfold Z3; rw[Is.2 hs,Bool.true_and]
   rw[hL];refine⟨λvs=>∃x:Int,vs=[I x]/\Q6 W.ID x=true/\Vb W x (Q7 W t).IZ=Vb W (Q7 W t).group (Q7 W t).IZ,λvs=>(dep 3 W.ID (ZE 0 vs)).toNat,⟨_,rfl,hug,rfl⟩,?_⟩;rintro x ⟨x',he,tB,hI⟩;simp only[I4,I5,true_and,and_true] at he;subst he;refine⟨λhz=>?_,λhz=>?_⟩
   ·have hz:x≠0:=by simpa using hz
    obtain⟨hp,a,b,d,e,e2,hd⟩:=Y3 ha.tree tB hz;unfold Vb at hI;rw[Yt ha.tree tB hz,List.all_cons] at hI
    refine⟨_,VN h ha tB hc0 sS,λg2=>?_,λg2=>⟨h.g.ix a b,_,h.g.parent a b,⟨_,rfl,hp,?_⟩,by
     show (dep 3 W.ID (gi W.ID x).parent).toNat<(dep 3 W.ID x).toNat;omega⟩⟩
    ·have g2:(Qa W x (Q7 W t).IZ).on=false:=by simpa[Q7] using g2
     rw[g2,Bool.false_and] at hI;unfold Vb;rw[<-hI]
    ·have g2:(Qa W x (Q7 W t).IZ).on=true:=by simpa[Q7] using g2
     rw[g2,Bool.true_and] at hI;exact hI
   ·have hz:x=0:=by simpa using hz
    subst hz;unfold Vb at hI;rw[show QP W.ID 0=[] from Zi _ _,List.all_nil] at hI;unfold Vb;rw[<-hI]
end
theorem GZ{v f k:Int}{w:Wo}{bs:List Nat}:PX bs VK #[I v,I f,I k] w (.bool (KG v f k)):=
 zfb v f k λwr hx=>⟨IntKind.i64.wrap (v-f),λ_ wq=>by simp[eqGuard,binOp,Op.intArith],_,λ_=>GV,rfl⟩
theorem NJ:zbr Tryz.prog QO:=⟨Qk,Qk,Qk⟩
theorem zlp(a b:Lm):DO Tryz.prog (Tryz.prog.fieldsOf QO).toList 0 (XS a) (XS b)=some ((a.state==b.state)&&((a.group==b.group)&&((a.IZ==b.IZ)&&((a.nice==b.nice)&&((a.mask==b.mask)&&((a.v==b.v)&&((a.sum==b.sum)&&((a.used==b.used)&&((a.load==b.load)&&true))))))))):=Qk
theorem zm0{a b:Lm}:((a.state==b.state)&&((a.group==b.group)&&((a.IZ==b.IZ)&&((a.nice==b.nice)&&((a.mask==b.mask)&&((a.v==b.v)&&((a.sum==b.sum)&&((a.used==b.used)&&((a.load==b.load)&&true)))))))))=decide (a=b):=by
 cases a; cases b
 simp only[Lm.mk.injEq,Bool.and_true];rw[Bool.eq_iff_iff];simp only[A',Is,Ij]
section
variable {W:Q8}{m:MW}{w:Wo}{bs:List Nat}
theorem A2{k:Int}(h:XE bs w W m)(hn:0<=W.now)(k0:0<=k)(k1:k<(W.ID.length:Int))(hf:zpl (gi W.ID k)):PX bs TO #[.agg (Qb W m).toArray,I k] w (.bool (Ub (Kn W k))):=
 Ar _ _ _ _ _ _ _ _ _ _ k λwr hx=>by
  have h:=(h.ext hx).less (cs:=[]) Qs;intro _ _;refine⟨h.g.ix k0 k1,_,_,_,_,_,_,_,_,_,_,_,_,_,_,_,_,_,_,_,_,h.g.cells k k0 k1,λ_ _=>⟨λg=>?_,λg=>?_⟩⟩
  ·have hu:(gi W.ID k).used=false:=by simpa using g
   refine⟨_,λ_=>G3 (b:=(gi W.ID k).IP) (m:=m.ms k.toNat),PI ?_⟩;simp only[A',Is,U8];constructor
   ·rintro⟨⟨⟨⟨⟨⟨⟨⟨e1,e2⟩,e3⟩,e4⟩,e5⟩,e6⟩,e7⟩,e8⟩,e9⟩;exact⟨λ_=>⟨e1,e2,e3,e4,e5,e6,e7,Qo,e9⟩,λhu'=>by rw[hu'] at hu; cases hu⟩
   ·intro p;have q:=p.1 hu;exact⟨⟨⟨⟨⟨⟨⟨⟨q.p,q.n⟩,q.w⟩,q.c⟩,q.pe⟩,q.ne⟩,q.s⟩,by have:=q.l; omega⟩,q.b⟩
  ·have hu:(gi W.ID k).used=true:=by simpa using g
   have mk:zpm W k (gi W.ID k)->Kn W k:=λq=>⟨λhu'=>(by rw[hu'] at hu; cases hu),λ_=>q⟩
   refine⟨_,JY,_,λ_=>Xw,_,λ_=>X7,λg2=>Gg λp=>?_,λg2=>⟨λg3=>Gg λp=>?_,λg3=>⟨λg4=>⟨_,G3 (b:=(gi W.ID k).IP) (m:=m.ms k.toNat),PI ?_⟩,λg4=>⟨_,DV (b:=(gi W.ID k).IP) (m:=m.ms k.toNat) (h.g.locals k k0 k1) (h.g.Ry k k0 k1) hf.lo,_,λ_=>Qm,λg5=>?_,PI ?_⟩⟩⟩⟩
   ·have q:=p.2 hu;have e1:YP (gi W.ID k).weight 1 20=true:=Qv.2 ⟨q.w1,q.w2⟩;have e3:((gi W.ID k).IE==0)=false:=by simpa using q.m0
    have e5:(((gi W.ID k).IF.length:Nat):Int)=((W.IE.length:Nat):Int):=by have:=q.len; omega
    rw[e1,q.m,e3,q.s,e5] at g2;simp at g2
   ·have q:=p.2 hu;simp only[A',Is] at g3;have r:=q.root g3.1;rw[r.1,r.2.1,r.2.2] at g3;simp at g3
   all_goals
    simp only[H',I6,bne_eq_false_iff_eq,Qv,beq_eq_false_iff_ne] at g2;obtain⟨⟨⟨⟨a1,a2⟩,a3⟩,a4⟩,a5⟩:=g2;have hlen:(gi W.ID k).IF.length=W.IE.length:=Qo
    have B24:k=0->(gi W.ID k).weight=10/\(gi W.ID k).IE=15/\(gi W.ID k).IP.IX=0:=λhk=>by
     rw[Is.2 hk,Bool.true_and] at g3;simp only[H',bne_eq_false_iff_eq] at g3;exact⟨g3.1.1,g3.1.2,g3.2⟩
   ·have q0:(gi W.ID k).IP.IX=0:=by simpa using g4
    simp only[A',Is];constructor
    ·rintro⟨⟨e1,e2⟩,e3⟩;exact mk ⟨a1.1,a1.2,a2,a3,a4,hlen,B24,λ_=>⟨e1,e2,e3⟩,λbT=>Ir q0 bT⟩
    ·intro p;have q:=(p.2 hu).none q0;exact⟨⟨q.1,q.2.1⟩,q.2.2⟩
   ·simp only[A',Is,Ij] at g5;have:=hf.nx;exact⟨by have:=this.1; omega,by have:=this.2; omega⟩
   ·have q0:(gi W.ID k).IP.IX≠0:=by simpa using g4
    simp only[A',Is,Ij,Qj,Qv];constructor
    ·rintro⟨⟨⟨⟨e1,e2⟩,e3⟩,e4⟩,e5⟩;exact mk ⟨a1.1,a1.2,a2,a3,a4,hlen,B24,λbT=>Ir bT q0,λ_=>⟨e1,Qo,e3.1,e3.2,e4,e5⟩⟩
    ·intro p;have q:=(p.2 hu).IP q0;exact⟨⟨⟨⟨q.1,by have:=q.2.1; omega⟩,q.2.2.1,q.2.2.2.1⟩,q.2.2.2.2.1⟩,q.2.2.2.2.2⟩
theorem GB{W:Q8}(ha:WA W){g mask c:Int}(hc:QZ (Qx W g mask) c=true):0<=c/\c<(W.IE.length:Int):=by
 have h1:=zvr hc;exact⟨(MK h1).2.1,(zm3 W.IE _ ha.c2 h1).1⟩
theorem zag{t:Int}(h:XE bs w W m)(ha:WA W)(t0:0<=t)(t1:t<(W.tasks.length:Int)):PX bs OB #[.agg (Qb W m).toArray,I t] w (.bool (Ub (C3 W t))):=
 za2 _ _ _ _ _ _ _ _ _ _ t λwr hx=>by
  have h:=(h.ext hx).less (cs:=[]) Qs;intro _ _;have bZ:=ha.gl;have hm9:=ZV;refine⟨h.t.ix QF t0 t1,_,_,_,_,_,_,_,_,_,h.t t t0 t1,λ_ _=>⟨λg=>?_,λg=>?_⟩⟩
  ·have hs:(gi W.tasks t).state=0:=by simpa using g
   refine⟨_,λwq=>zfm NJ (zlp (gi W.tasks t) Oc) _ _ wq,PI ?_⟩;rw[zm0,Ij];constructor
   ·exact λe=>.inl ⟨hs,e⟩
   ·rintro (⟨_,e⟩ | ⟨e,_⟩)
    ·exact e
    ·exact Ir hs e
  ·have hs:(gi W.tasks t).state≠0:=by simpa using g
   have no:∀{q:C3 W t},zz0 W (gi W.tasks t):=λ{q}=>by
    rcases q with ⟨e,_⟩ | ⟨_,q⟩
    ·exact Ir e hs
    ·exact q
   refine⟨_,λ_=>X8 (c:=m.gC) h.g,_,λ_=>ZZ,_,λ_=>Xw,λg2=>Gg λp=>?_,λg2=>?_⟩
   ·have q:=no (q:=p);have e3:(Qe (gi W.tasks t).nice==0)=false:=by simpa using q.n
    have e4:((gi W.tasks t).mask==0)=false:=by simpa using q.m0
    rw[q.g,e3,q.m,e4] at g2;simp only[Bool.not_true,Bool.or_false,A',It] at g2;have:=q.st;omega
   ·simp only[H',I6,beq_eq_false_iff_ne] at g2;obtain⟨⟨⟨⟨a1,a2⟩,a3⟩,a4⟩,a5⟩:=g2
    have st:(gi W.tasks t).state=1\/(gi W.tasks t).state=2:=by
     by_cases h1:(gi W.tasks t).state=1
     ·exact .inl h1
     ·refine .inr ?_;have:((gi W.tasks t).state != 1)=true:=by simpa using h1
      rw[this,Bool.true_and] at a1
      simpa using a1
    refine⟨_,X7,_,λ_=>X7,_,λ_=>X7,_,λ_=>Qm,Qx W (gi W.tasks t).group (gi W.tasks t).mask,λ_=>XI h ha.c2 ha.tree a2,_,λ_=>ZS,λg3=>Gg λp=>?_,λg3=>?_⟩
    ·have q:=no (q:=p);have e4:YP (gi W.tasks t).load 0 8000000=true:=Qv.2 ⟨q.l1,q.l2⟩;rw[q.v,q.s,q.u,e4,q.c] at g3;simp at g3
    ·simp only[H',I6,Qv] at g3;obtain⟨⟨⟨⟨b1,b2⟩,b3⟩,b4⟩,b5⟩:=g3;obtain⟨u1,u2,_⟩:=Q4.1 a2;obtain⟨c0,c1⟩:=GB ha b5;have hsl:=ha.sl a2;have c2:(gi W.tasks t).IZ<((gi W.ID (gi W.tasks t).group).IF.length:Int):=Qo;refine⟨λ_=>h.g.ix u1 u2,_,_,_,λ_=>h.g.R0 u1 u2,λ_=>(h.g.IF _ u1 u2).ix X0 c0 c2,_,λ_=>zna.f (h.g.IF _ u1 u2) c0 c2 (j:=0) rfl,_,λ_=>ZZ,_,λ_=>GZ,PI ?_⟩;simp only[Iu,Is];constructor
     ·intro e
      exact .inr ⟨hs,⟨st,a2,a3,a4,a5,b1,b2,b3,b4.1,b4.2,b5,λe1=>by
       rcases e with e | e
       ·have e:(gi W.tasks t).state=2:=e;have e1:(gi W.tasks t).state=1:=e1;omega
       ·exact e⟩⟩
     ·intro p;have q:=no (q:=p);rcases st with e | e
      ·exact .inr (q.f e)
      ·exact .inl e
theorem A3{k c:Int}(h:XE bs w W m)(ha:WA W)(k0:0<=k)(k1:k<(W.ID.length:Int))(c0:0<=c)(c2:c<((gi W.ID k).IF.length:Int)):PX bs TP #[.agg (Qb W m).toArray,I k,I c] w (.bool (Ub (Ko W k c))):=
 As _ _ _ _ _ _ _ _ _ _ k c λwr hx=>by
  have h:=(h.ext hx).less (cs:=[]) Qs;intro _ _;have bZ:=ha.gl
  have hus:(gi W.ID k).used=true:=by
   cases hu:(gi W.ID k).used with
   | true=>rfl
   | false=>
    have:=((ha.grp k k0 Qo).1 hu).l;omega
  have hu:Q6 W.ID k=true:=Q4.2 ⟨k0,k1,hus⟩;have hsl:=ha.sl hu;have c1:c<(W.IE.length:Int):=Qo;refine⟨h.g.ix k0 k1,_,_,_,_,_,_,_,_,_,_,_,_,_,_,_,_,_,_,_,_,h.g.cells k k0 k1,λ_ _=>⟨(h.g.IF k k0 k1).ix X0 c0 c2,_,_,_,_,_,(h.g.IF k k0 k1) c c0 c2,λ_ _=>⟨_,X7,_,λ_=>X7,_,λ_=>X7,_,λ_=>JY,λg=>Gg λp=>?_,λg=>⟨λg2=>PI ?_,λg2=>⟨_,PB h ha c0 c1,_,λ_=>PZ h ha hu c0 c1,λg3=>Gg λp=>?_,λg3=>?_⟩⟩⟩⟩⟩
  ·have e1:=p.f;have e2:=p.v;have e3:=p.s;have e4:YP (Qa W k c).w 1 20=true:=Qv.2 ⟨p.w1,p.w2⟩;have g':(((!ZW (Qa W k c).floor || !ZW (Qa W k c).v) || !ZW (Qa W k c).sum) || !YP (Qa W k c).w 1 20)=true:=g;rw[e1,e2,e3,e4] at g'
   cases g'
  ·have g':(((!ZW (Qa W k c).floor || !ZW (Qa W k c).v) || !ZW (Qa W k c).sum) || !YP (Qa W k c).w 1 20)=false:=g;simp only[H',I6,Qv] at g';obtain⟨⟨⟨a1,a2⟩,a3⟩,a4⟩:=g';have hk:k=0:=by simpa using g2
   show ((!(Qa W k c).on&&((Qa W k c).v==0))&&((Qa W k c).w==10))=true↔_;simp only[A',IC,Is];constructor
   ·rintro⟨⟨e1,e2⟩,e3⟩;exact⟨a1,a2,a3,a4.1,a4.2,λ_=>⟨e1,e2,e3⟩,λbT=>Ir hk bT,λbT=>Ir hk bT⟩
   ·intro p;have q:=p.root hk;exact⟨⟨q.1,q.2.1⟩,q.2.2⟩
  ·have hk:k≠0:=by simpa using g2
   have g3':(!((Qa W k c).on==(QJ W k c && !Yx W k c)))=true:=g3;rw[p.on hk] at g3';simp at g3'
  ·have g':(((!ZW (Qa W k c).floor || !ZW (Qa W k c).v) || !ZW (Qa W k c).sum) || !YP (Qa W k c).w 1 20)=false:=g;simp only[H',I6,Qv] at g';obtain⟨⟨⟨a1,a2⟩,a3⟩,a4⟩:=g';have hk:k≠0:=by simpa using g2
   have hon:(Qa W k c).on=(QJ W k c && !Yx W k c):=by
    have g3':(!((Qa W k c).on==(QJ W k c && !Yx W k c)))=false:=g3
    simpa using g3'
   have hp:=ha.up hu hk;obtain⟨v1,v2,_⟩:=Q4.1 hp;have hpl:=ha.sl hp;have c3:c<((gi W.ID (gi W.ID k).parent).IF.length:Int):=Qo;refine⟨λ_=>h.g.ix v1 v2,_,_,_,λ_=>h.g.R0 v1 v2,λ_=>(h.g.IF _ v1 v2).ix X0 c0 c3,_,λ_=>zna.f (h.g.IF _ v1 v2) c0 c3 (j:=0) rfl,_,λ_=>GZ,PI ?_⟩;show (!(Qa W k c).on||KG (Qa W k c).v (Qa W (gi W.ID k).parent c).floor (Qa W k c).w)=true↔_;simp only[Iu,IC];constructor
   ·intro e
    exact⟨a1,a2,a3,a4.1,a4.2,λe0=>Ir e0 hk,λ_=>hon,λ_ ho=>by
     rcases e with e | e
     ·rw[ho] at e; cases e
     ·exact e⟩
   ·intro p
    cases ho:(Qa W k c).on with
    | false=>exact .inl rfl
    | true=>exact .inr (p.st hk ho)
theorem zl7{t:Int}(ht:C3 W t)(hl:Z3 W t=true):zz0 W (Q7 W t)/\(Q7 W t).state=1:=by
 have hs:(Q7 W t).state=1:=by
  unfold Z3 at hl;simp only[A',Is] at hl;exact hl.1
 rcases ht with ⟨e,_⟩ | ⟨_,q⟩
 ·omega
 ·exact⟨q,hs⟩
theorem NO{a b:Int}(ha:ZW a=true)(hb:ZW b=true):Ql .i64 (a-b):=by
 have:=Xl.1 ha;have:=Xl.1 hb;exact⟨Qo,Qo⟩
theorem zaf{c:Int}(h:XE bs w W m)(ha:WA W)(hts:∀t:Int,0<=t->t<12->C3 W t)(tA:∀k c:Int,0<=k->k<8->0<=c->c<((gi W.ID k).IF.length:Int)->Ko W k c)(c0:0<=c)(c1:c<(W.IE.length:Int))(t0:0<=(gi W.IE c).cur)(t1:(gi W.IE c).cur<(W.tasks.length:Int))(hl:Z3 W (gi W.IE c).cur=true) :
  PX bs Oz #[.agg (Qb W m).toArray,I c] w (.bool (MQ W c)):=
 za1 _ _ _ _ _ _ _ _ _ _ c λwr hx=>by
  have h:=(h.ext hx).less (cs:=[]) Qs;intro _ _;have eM:=ha.t;have bZ:=ha.gl;obtain⟨q,_⟩:=zl7 (hts _ t0 Qo) hl;have a2:=q.g;obtain⟨u1,u2,_⟩:=Q4.1 a2
  have sl:∀{x:Int},Q6 W.ID x=true->0<=x/\x<(W.ID.length:Int)/\c<((gi W.ID x).IF.length:Int)/\Ko W x c:=λ{x} hx=>by
   obtain⟨v1,v2,_⟩:=Q4.1 hx;have e:=ha.sl hx;have c3:c<((gi W.ID x).IF.length:Int):=Qo;exact⟨v1,v2,c3,tA x c v1 Qo c0 c3⟩
  obtain⟨_,_,c2,sp⟩:=sl a2;refine⟨h.c.ix Y6 c0 c1,_,_,_,_,_,h.c c c0 c1,λ_ _=>⟨h.t.ix QF t0 t1,_,_,_,_,_,_,_,_,_,h.t _ t0 t1,λ_ _=>⟨h.g.ix u1 u2,_,_,_,h.g.R0 u1 u2,(h.g.IF _ u1 u2).ix X0 c0 c2,_,zna.f (h.g.IF _ u1 u2) c0 c2 (j:=0) rfl,NO q.v sp.f,_,ZZ,_,XH,λg=>?_,λg=>?_⟩⟩⟩
  ·have g:=Ot g;have hd:¬((Q7 W (gi W.IE c).cur).v-(Qa W (Q7 W (gi W.IE c).cur).group c).floor<=Ze (gi W.IE c).WQ (Qe (Q7 W (gi W.IE c).cur).nice)):=Int.not_le.2 g;unfold MQ;rw[decide_eq_false hd];rfl
  ·have g:=Ou g
   have hS:MQ W c=Oa W (Q7 W (gi W.IE c).cur).group c (gi W.IE c).WQ:=by
    have hd:(Q7 W (gi W.IE c).cur).v-(Qa W (Q7 W (gi W.IE c).cur).group c).floor<=Ze (gi W.IE c).WQ (Qe (Q7 W (gi W.IE c).cur).nice):=Int.not_lt.1 g;unfold MQ;rw[Ih hd,Bool.true_and]
   rw[hS];refine⟨λvs=>∃x:Int,vs=[I x]/\Q6 W.ID x=true/\Oa W x c (gi W.IE c).WQ=Oa W (Q7 W (gi W.IE c).cur).group c (gi W.IE c).WQ,λvs=>(dep 3 W.ID (ZE 0 vs)).toNat,⟨_,rfl,a2,rfl⟩,?_⟩;rintro x ⟨x',he,tB,hI⟩;simp only[I4,I5,true_and,and_true] at he;subst he;refine⟨λhz=>?_,λhz=>?_⟩
   ·have hz:x≠0:=by simpa using hz
    obtain⟨hp,a,b,d,e,e2,hd⟩:=Y3 ha.tree tB hz;obtain⟨x1,x2,x3,xs⟩:=sl tB;obtain⟨p1,p2,p3,ps⟩:=sl hp;unfold Oa at hI;rw[Yt ha.tree tB hz,List.all_cons] at hI
    refine⟨h.g.ix x1 x2,_,_,_,h.g.R0 x1 x2,(h.g.IF _ x1 x2).ix X0 c0 x3,_,_,_,_,_,(h.g.IF _ x1 x2) c c0 x3,λ_ _=>⟨h.g.ix x1 x2,_,h.g.parent x1 x2,h.g.ix p1 p2,_,_,_,h.g.R0 p1 p2,(h.g.IF _ p1 p2).ix X0 c0 p3,_,zna.f (h.g.IF _ p1 p2) c0 p3 (j:=0) rfl,NO xs.v ps.f,_,XH,λg2=>?_,λg2=>⟨h.g.ix x1 x2,_,h.g.parent x1 x2,⟨_,rfl,hp,?_⟩,by
     show (dep 3 W.ID (gi W.ID x).parent).toNat<(dep 3 W.ID x).toNat;omega⟩⟩⟩
    ·have g2:=Ot g2;have hd:¬((Qa W x c).v-(Qa W (gi W.ID x).parent c).floor<=Ze (gi W.IE c).WQ (Qa W x c).w):=Int.not_le.2 g2;rw[decide_eq_false hd,Bool.false_and] at hI;unfold Oa;rw[<-hI]
    ·have g2:=Ou g2;have hd:(Qa W x c).v-(Qa W (gi W.ID x).parent c).floor<=Ze (gi W.IE c).WQ (Qa W x c).w:=Int.not_lt.1 g2;rw[Ih hd,Bool.true_and] at hI;exact hI
   ·have hz:x=0:=by simpa using hz
    subst hz;unfold Oa at hI;rw[show QP W.ID 0=[] from Zi _ _,List.all_nil] at hI;unfold Oa;rw[<-hI]
theorem Bm{t:Int}(ha:WA W)(ht:C3 W t)(hs:(Q7 W t).state=1):Q6 W.ID (Q7 W t).group=true/\0<=(Q7 W t).IZ/\(Q7 W t).IZ<(W.IE.length:Int):=by
 rcases ht with ⟨e,_⟩ | ⟨_,q⟩
 ·omega
 ·exact⟨q.g,GB ha q.c⟩
theorem zec{c:Int}(h:XE bs w W m)(ha:WA W)(hts:∀t:Int,0<=t->t<12->C3 W t)(tA:∀k c:Int,0<=k->k<8->0<=c->c<((gi W.ID k).IF.length:Int)->Ko W k c)(c0:0<=c)(c1:c<(W.IE.length:Int)) :
  PX bs Px #[.agg (Qb W m).toArray,I c] w (.bool (Ub (BW W c))):=
 ze9 _ _ _ _ _ _ _ _ _ _ c λwr hx=>by
  have h:=(h.ext hx).less (cs:=[]) Qs;intro _ _;have eM:=ha.t;refine⟨h.c.ix Y6 c0 c1,_,_,_,_,_,h.c c c0 c1,λ_ _=>⟨_,X7,_,λ_=>X7,λ_=>⟨Qo,Qo⟩,_,λ_=>Qm,λg=>Gg λp=>?_,λg=>⟨λg2=>PI ?_,λg2=>?_⟩⟩⟩
  ·have e3:YP (gi W.IE c).cur (-1) (((W.tasks.length:Nat):Int)-1)=true:=Qv.2 (by have:=p.c1; have:=p.c2; omega);rw[p.b,p.i,e3] at g;cases g
  ·simp only[H',I6,Qv] at g;obtain⟨⟨a1,a2⟩,a3⟩:=g;have g2:=Ot g2;rw[Is];exact⟨λe=>⟨a1,a2,a3.1,Qo,λ_=>e,λhc=>by omega⟩,λp=>p.no g2⟩
  ·simp only[H',I6,Qv] at g;obtain⟨⟨a1,a2⟩,a3⟩:=g;have g2:=Ou g2;have t0:0<=(gi W.IE c).cur:=Qo;have t1:(gi W.IE c).cur<(W.tasks.length:Int):=Qo;refine⟨_,λ_=>Qm,λ_=>h.t.ix QF t0 t1,_,λ_=>h.t.f t0 t1 (j:=2) rfl,Z3 W (gi W.IE c).cur,λ_=>JZ h ha t0 t1 λhs=>Bm ha (hts _ t0 Qo) hs,MQ W c,λg3=>zaf h ha hts tA c0 c1 t0 t1 (by simp only[A'] at g3; exact g3.2),PI ?_⟩;simp only[A',Is,Qv];constructor
   ·rintro⟨⟨⟨⟨e1,e2⟩,e3⟩,e4⟩,e5⟩;exact⟨a1,a2,a3.1,Qo,λhc=>by omega,λ_=>⟨e1,e2.1,e2.2,e3,e4,e5⟩⟩
   ·intro p;have q:=p.yes t0;exact⟨⟨⟨⟨q.1,q.2.1,q.2.2.1⟩,q.2.2.2.1⟩,q.2.2.2.2.1⟩,q.2.2.2.2.2⟩
theorem YC(h:XE bs w W m)(lc:W.IE.length<=maxLen)(lt:W.tasks.length<=maxLen)(lg:W.ID.length<=maxLen)(hf:∀i:Int,0<=i->i<(W.ID.length:Int)->zpl (gi W.ID i)) :
  PX bs Zz #[.agg (Qb W m).toArray] w (.bool (QD W)):=
 ze4 _ _ _ _ _ _ _ _ _ _ λwr hx=>by
  have h:=(h.ext hx).less (cs:=[]) Qs;intro _ _;have hm9:=XD;refine⟨_,Qm,_,λ_=>Qm,Ki W.ID,λ_=>DX h.g lg,U1 W.IE,λg=>Lz h ?_,λg=>Gg λp=>?_,λg=>?_⟩
  ·simp only[H',I6,Qv] at g;omega
  ·have a:=p.a;have e1:YP W.now 0 100000000000000000=true:=Qv.2 ⟨a.n1,a.n2⟩;have e2:YP ((W.IE.length:Nat):Int) 1 4=true:=Qv.2 (by have:=a.c1; have:=a.c2; omega);have e3:((W.tasks.length:Nat):Int)=12:=by have:=a.t; omega
   have e5:(U1 W.IE==0)=false:=by simpa using a.ups
   rw[e1,e2,e3,Tf.2 a.tree,e5] at g;simp at g
  simp only[H',I6,Qv,bne_eq_false_iff_eq,beq_eq_false_iff_ne] at g;obtain⟨⟨⟨⟨g1,g2⟩,g3⟩,g4⟩,g5⟩:=g;have ht:=Tf.1 g4;have bZ:=ht.len;refine YV W.ID.length 0 rfl (λk=>k<=W.ID.length/\∀j:Int,0<=j->j<(k:Int)->Kn W j) ⟨Ic _,λj h0 h1=>by omega⟩ λk ⟨hk,hI⟩=>⟨λIN=>?_,λRx=>?_⟩
  ·have IN:=Ot IN;refine⟨_,A2 h g1.1 Qo IN (hf _ Qo IN),λg6=>Gg λp=>?_,λg6=>⟨⟨Qo,Qo⟩,Qu Qo ⟨Qo,λj h0 h1=>?_⟩⟩⟩
   ·have g6:Ub (Kn W (k:Int))=false:=by simpa using g6
    exact GC.1 g6 (p.a.grp _ Qo Qo)
   ·by_cases fN:j<(k:Int)
    ·exact hI j h0 fN
    ·have:j=(k:Int):=Qo;subst this;exact Qj.1 (by simpa using g6)
  have Rx:=Ou Rx;have ha:WA W:=⟨g1.1,g1.2,Qo,Qo,Qo,ht,g5,λj h0 h1=>hI j h0 Qo⟩;refine YV W.tasks.length 0 rfl (λk=>k<=W.tasks.length/\∀j:Int,0<=j->j<(k:Int)->C3 W j) ⟨Ic _,λj h0 h1=>by omega⟩ λk2 ⟨uP,hI2⟩=>⟨λIN=>?_,λaN=>?_⟩
  ·have IN:=Ot IN;refine⟨_,zag h ha Qo IN,λg6=>Gg λp=>?_,λg6=>⟨⟨Qo,Qo⟩,Qu Qo ⟨Qo,λj h0 h1=>?_⟩⟩⟩
   ·have g6:Ub (C3 W (k2:Int))=false:=by simpa using g6
    exact GC.1 g6 (p.t _ Qo Qo)
   ·by_cases fN:j<(k2:Int)
    ·exact hI2 j h0 fN
    ·have:j=(k2:Int):=Qo;subst this;exact Qj.1 (by simpa using g6)
  have aN:=Ou aN;have hts:∀t:Int,0<=t->t<12->C3 W t:=λt h0 h1=>hI2 t h0 Qo
  refine YV W.ID.length 0 rfl (λk=>k<=W.ID.length/\∀j c:Int,0<=j->j<(k:Int)->0<=c->c<((gi W.ID j).IF.length:Int)->Ko W j c) ⟨Ic _,λj c h0 h1=>by omega⟩ λk3 ⟨hk3,hI3⟩=>⟨λIN=>?_,λBX0=>?_⟩
  ·have IN:=Ot IN;have k30:(0:Int)<=(k3:Int):=Qo;refine YV (gi W.ID (k3:Int)).IF.length 0 rfl (λc=>c<=(gi W.ID (k3:Int)).IF.length/\∀d:Int,0<=d->d<(c:Int)->Ko W (k3:Int) d) ⟨Ic _,λj h0 h1=>by omega⟩ λc ⟨hc,hJ⟩=>⟨h.g.ix k30 IN,_,_,_,h.g.R0 k30 IN,λkE=>?_,λAQ0=>?_⟩
   ·have kE:=Ot kE;have hsm:(gi W.ID (k3:Int)).IF.length<=maxLen:=(hf _ k30 IN).sh;refine⟨_,A3 h ha k30 IN Qo kE,λg6=>Gg λp=>?_,λg6=>⟨⟨Qo,Qo⟩,Qu Qo ⟨Qo,λd h0 h1=>?_⟩⟩⟩
    ·have g6:Ub (Ko W (k3:Int) (c:Int))=false:=by simpa using g6
     exact GC.1 g6 (p.s _ _ Qo Qo Qo kE)
    ·by_cases fN:d<(c:Int)
     ·exact hJ d h0 fN
     ·have:d=(c:Int):=Qo;subst this;exact Qj.1 (by simpa using g6)
   ·have AQ0:=Ou AQ0;refine⟨⟨Qo,Qo⟩,Qu Qo ⟨Qo,λj d h0 h1 h2 h3=>?_⟩⟩
    by_cases fN:j<(k3:Int)
    ·exact hI3 j d h0 fN h2 h3
    ·have:j=(k3:Int):=Qo;subst this;exact hJ d h2 Qo
  have BX0:=Ou BX0;have tA:∀k c:Int,0<=k->k<8->0<=c->c<((gi W.ID k).IF.length:Int)->Ko W k c:=λk c h0 h1 h2 h3=>hI3 k c h0 Qo h2 h3
  refine YV W.IE.length 0 rfl (λk=>k<=W.IE.length/\∀j:Int,0<=j->j<(k:Int)->BW W j) ⟨Ic _,λj h0 h1=>by omega⟩ λk4 ⟨hk4,hI4⟩=>⟨λIN=>?_,λCO9=>?_⟩
  ·have IN:=Ot IN;refine⟨_,zec h ha hts tA Qo IN,λg6=>Gg λp=>?_,λg6=>⟨⟨Qo,Qo⟩,Qu Qo ⟨Qo,λj h0 h1=>?_⟩⟩⟩
   ·have g6:Ub (BW W (k4:Int))=false:=by simpa using g6
    exact GC.1 g6 (p.c _ Qo IN)
   ·by_cases fN:j<(k4:Int)
    ·exact hI4 j h0 fN
    ·have:j=(k4:Int):=Qo;subst this;exact Qj.1 (by simpa using g6)
  ·have CO9:=Ou CO9;exact zpi ⟨ha,hts,tA,λc h0 h1=>hI4 c h0 Qo⟩
end
theorem Zd{n p:Nat}{vs us:List Va}{k:Nat}(h1:ZE p vs=(k:Int)+1)(h2:ZE p us=(k:Int))(hk:k<n):Xy n p vs<Xy n p us:=by
 unfold Xy;rw[h1,h2];omega
theorem za7{α:Type}[Inhabited α]{l:List α}{p:α->Bool}:l.all p=true↔∀k:Nat,k<l.length->p (gi l (k:Int))=true:=by
 rw[List.all_eq_true];constructor
 ·intro h k hk; exact h _ (NN Qo Qo)
 ·intro h x hx;obtain⟨k,hk,rfl⟩:=List.getElem_of_mem hx;rw[<-JX hk]; exact h k hk
theorem Lc{bs:List Nat}{w:Wo}{b:Nat}{l:List Int}{t:TypeId}{fz:Nat×Nat}(h:w.heap[b]? = some (.cells (l.flatMap Jz).toArray t fz))(hb:b∉bs):zm9 bs w (some ⟨b,0,none⟩) l:=λi h0 hi=>by
 have IN:i.toNat<l.length:=Qo;refine U2 h hb (k0:=0) ?_;have:=FZ (enc:=Jz) (z:=1) (λ_=>rfl) l i.toNat 0 IN Qd;rw[Nat.add_zero] at this;rw[Nat.zero_add,this]
 have e:gi l i=l[i.toNat]:=by
  have:=JX IN
  rwa[show ((i.toNat:Nat):Int)=i by omega] at this
 rw[e]; rfl
theorem A4{l:List Int}{o:OA}{c:Nat}{w:Wo}{bs:List Nat}(h:zm9 bs w o l)(hl:l.length<=maxLen):PX bs ZN #[.slice o l.length c] w (.bool (l.all ZW)):=
 zig o l.length c λwr hx=>by
  have h:=(h.ext hx).less (cs:=[]) Qs;refine YV l.length 0 rfl (λk=>k<=l.length/\∀j:Nat,j<k->ZW (gi l (j:Int))=true) ⟨Ic _,λj hj=>Ir hj (Nat.not_lt_zero j)⟩ λk ⟨hk,hI⟩=>⟨λIN=>?_,λRx=>?_⟩
  ·have IN:=Ot IN;refine⟨h.ix XV Qo IN,_,h k Qo IN,_,QC,λg=>?_,λg=>⟨zlw IN hl,Qu Qo ⟨Qo,λj hj=>?_⟩⟩⟩
   ·have:l.all ZW=false:=by
     cases hb:l.all ZW with
     | false=>rfl
     | true=>
      have:=za7.1 hb k Qo;unfold ZW at this;rw[this] at g;cases g
    rw[this]
   ·by_cases fN:j<k
    ·exact hI j fN
    ·have:j=k:=Qo;subst this;unfold ZW
     simpa using g
  ·have Rx:=Ou Rx;have hk:k=l.length:=Qo;subst hk;rw[za7.2 hI]
theorem z5r{a:Int}{w:Wo}{b:Nat}{t:TypeId}{fz:Nat×Nat}(h:w.heap[b]? = some (.cells ([I a]:List Va).toArray t fz)):PX [] ZN #[.slice (some ⟨b,0,none⟩) 1 1] w (.bool (ZW a)):=by
 have:=A4 (l:=[a]) (c:=1) (bs:=[]) (Lc h Qs) (by simp[maxLen])
 simpa using this
theorem z6e{a b2:Int}{w:Wo}{b:Nat}{t:TypeId}{fz:Nat×Nat}(h:w.heap[b]? = some (.cells ([I a,I b2]:List Va).toArray t fz)):PX [] ZN #[.slice (some ⟨b,0,none⟩) 2 2] w (.bool (ZW a&&ZW b2)):=by
 have:=A4 (l:=[a,b2]) (c:=2) (bs:=[]) (Lc h Qs) (by simp[maxLen])
 simpa using this
theorem z52{a b2 b3:Int}{w:Wo}{b:Nat}{t:TypeId}{fz:Nat×Nat}(h:w.heap[b]? = some (.cells ([I a,I b2,I b3]:List Va).toArray t fz)):PX [] ZN #[.slice (some ⟨b,0,none⟩) 3 3] w (.bool (ZW a&&(ZW b2&&ZW b3))):=by
 have:=A4 (l:=[a,b2,b3]) (c:=3) (bs:=[]) (Lc h Qs) (by simp[maxLen])
 simpa using this
theorem zdy{m:Int}{w:Wo}{bs:List Nat}:PX bs Ue #[I m] w (.bool (M1 m)):=Ae m λwr hx=>rfl
theorem Kx{m:Int}{w:Wo}{bs:List Nat}:PX bs UA #[I m] w (.bool (M1 m)):=zib m λwr hx=>⟨_,zdy,rfl⟩
theorem LZ{m:Int}{w:Wo}{bs:List Nat}:PX bs UW #[I m] w (.bool ((m != 0)&&M1 m)):=zan m λwr hx=>⟨_,λ_=>Kx,rfl⟩
theorem z0q:∀(m:Fin 16) (c:Fin 4),(Tg .and .i64 (Int.fdiv (m.val:Int) (2 ^ (min (Int.toNat (c.val:Int)) 64))) 1==1)=(Int.tmod (Int.fdiv (m.val:Int) (2 ^ (min (Int.toNat (c.val:Int)) 64))) 2==1):=by decide +kernel
theorem zdx{m c:Int}{w:Wo}{bs:List Nat}:PX bs JJ #[I m,I c] w (.bool (QZ m c)):=
 Bv m c λwr hx=>by
  refine⟨_,zdy,_,λ_=>QC,λg=>?_,?_⟩
  ·simp only[A'] at g;exact(Qv.1 g.2).1
  ·unfold QZ
   cases h1:M1 m with
   | false=>rfl
   | true=>
    cases h2:YP c 0 3 with
    | false=>rfl
    | true=>
     obtain⟨x,rfl⟩:=Ke h1;have:=Qv.1 h2;have e:=z0q x ⟨c.toNat,Qo⟩;rw[show ((⟨c.toNat,Qo⟩:Fin 4).val:Int)=c by show ((c.toNat:Nat):Int)=c; omega] at e;rw[e]
theorem GR{m c:Int}{w:Wo}{bs:List Nat}:PX bs VA #[I m,I c] w (.bool (QZ m c)):=zew m c λwr hx=>⟨_,zdx,rfl⟩
theorem MF{a b:Int}{w:Wo}{bs:List Nat}:PX bs JU #[I a,I b] w (I (TY a b)):=
 zev a b λwr hx=>by
  refine⟨_,Kx,_,λ_=>Kx,λg=>?_,λg=>?_⟩
  ·rw[XK]; simpa using g
  ·simp only[H',I6] at g;rw[OU g.1 g.2]
theorem LW{b:Ve}{m:MG}{w:Wo}{bs:List Nat}:PX bs UV #[.agg (Zy b m).toArray] w (.bool (OJ b)):=
 zak b.IX b.RD b.Sl m.lO b.locals.length m.lC m.dO b.Ry.length m.dC λwr hx=>λ_ _=>rfl
theorem NR{g:ZX}{m:MG}{w:Wo}{bs:List Nat}(hu:g.used=false):PX bs Tv #[.agg (YJ g m).toArray] w (.bool (Ub (zv0 g))):=
 Ag g.used g.parent g.name g.weight g.IE g.period g.next g.sum g.IP.IX g.IP.RD g.IP.Sl m.lO g.IP.locals.length m.lC m.dO g.IP.Ry.length m.dC m.sO g.IF.length m.sC λwr hx=>by
  intro _ _;refine⟨_,λ_=>LW (b:=g.IP) (m:=m),PI ?_⟩;simp only[hu,Bool.not_false,Bool.true_and,A',Is,U8];constructor
  ·rintro⟨⟨⟨⟨⟨⟨⟨⟨e1,e2⟩,e3⟩,e4⟩,e5⟩,e6⟩,e7⟩,e9⟩,e8⟩;exact⟨e1,e2,e3,e4,e5,e6,e7,Qo,e9⟩
  ·intro q;exact⟨⟨⟨⟨⟨⟨⟨⟨q.p,q.n⟩,q.w⟩,q.c⟩,q.pe⟩,q.ne⟩,q.s⟩,q.b⟩,by have:=q.l; omega⟩
theorem zhn{b:Ve}{m:MG}{w:Wo}{bs:List Nat}(h1:zm9 bs w m.lO b.locals)(h2:zv3 bs w m.dO b.Ry)(hl:b.locals.length<=maxLen):PX bs Mj #[.agg (Zy b m).toArray] w (.bool (Ub (P0 b))):=
 zh9 b.IX b.RD b.Sl m.lO b.locals.length m.lC m.dO b.Ry.length m.dC λwr hx=>by
  have h1:=(h1.ext hx).less (cs:=[]) Qs;have h2:=(h2.ext hx).less (cs:=[]) Qs;intro _ _;refine⟨_,QC,_,λ_=>QC,λg=>Gg λp=>?_,λg=>⟨_,QC,_,λ_=>QC,λg'=>Gg λp=>?_,λg'=>?_⟩⟩
  ·rw[Qv.2 ⟨p.q1,p.q2⟩,Qv.2 (by have:=p.l1; have:=p.l2; omega),p.dl] at g;simp at g
  ·rw[Qv.2 ⟨p.p1,p.p2⟩,Qv.2 ⟨p.s1,p.s2⟩] at g'
   cases g'
  ·simp only[H',I6,bne_eq_false_iff_eq,Qv] at g g';obtain⟨⟨g1,g2⟩,g3⟩:=g;obtain⟨g4,g5⟩:=g';have hdl:b.Ry.length=b.locals.length:=Qo
   have all:∀{k:Nat},k<=b.locals.length->(∀c:Int,0<=c->c<(k:Int)->0<=gi b.locals c/\gi b.locals c<=b.IX/\(gi b.Ry c=true->gi b.locals c=0/\b.RD=0))->0<=Xg b.locals k/\Xg b.locals k<=40000:=λ{k} hk h=>by
    have key:∀j:Nat,j<=k->0<=Xg b.locals j/\Xg b.locals j<=(j:Int)*10000:=λj=>by
     induction j with
     | zero=>intro _; simp[Xg]
     | succ j ih=>
      intro hj;have:=ih Qo;have:=h (j:Int) Qo Qo;simp only[Xg]; omega
    have:=key k (I7 _);omega
   refine⟨⟨Qo,Qo⟩,?_⟩;refine TX b.locals.length 0 rfl (λx k=>k<=b.locals.length/\x=b.RD+b.Sl+Xg b.locals k/\∀c:Int,0<=c->c<(k:Int)->0<=gi b.locals c/\gi b.locals c<=b.IX/\(gi b.Ry c=true->gi b.locals c=0/\b.RD=0)) ⟨Ic _,by simp[Xg],λc h0 h1=>by omega⟩ λx k ⟨hk,R5,hI⟩=>⟨λIN=>?_,λRx=>?_⟩
   ·have IN:=Ot IN;have RA:(k:Int)<(b.Ry.length:Int):=Qo;have hsr:=all hk hI;refine⟨h1.ix XV Qo IN,_,h1 k Qo IN,_,QC,λ_=>h2.ix Lv Qo RA,_,λ_=>h2 k Qo RA,λg=>Gg λp=>?_,λg=>?_⟩
    ·have pe:=p.each (k:Int) Qo IN;rw[Qv.2 ⟨pe.1,pe.2.1⟩] at g;simp only[Bool.not_true,Bool.false_or,A',Iu,It] at g;have:=pe.2.2 g.1;rcases g.2 with h | h
     ·exact h this.1
     ·exact h this.2
    ·simp only[H',I6,Qv] at g;obtain⟨ga,gb⟩:=g;refine⟨⟨Qo,Qo⟩,⟨Qo,Qo⟩,QH Qo ⟨Qo,by simp only[Xg]; omega,λc hc0 hc=>?_⟩⟩
     by_cases hck:c<(k:Int)
     ·exact hI c hc0 hck
     ·have:c=(k:Int):=Qo;subst this;refine⟨ga.1,ga.2,λhd=>?_⟩;rw[hd] at gb;simp only[Bool.true_and,H',bne_eq_false_iff_eq] at gb;exact gb
   ·have Rx:=Ou Rx;have:k=b.locals.length:=Qo;subst this;refine PI ?_;rw[Is,R5];constructor
    ·intro hs;exact⟨g1.1,g1.2,Qo,Qo,hdl,g4.1,g4.2,g5.1,g5.2,hI,hs⟩
    ·exact λp=>p.sum
def zy5(v f k:Int):Bool:=decide (v>=f)&&decide (v-f<=ZM k)
theorem z16{a b:Int}(ha:ZW a=true)(hb:ZW b=true):IntKind.i64.wrap (a-b)=a-b:=(NO ha hb).wrap
theorem zy6{v f k:Int}(hv:ZW v=true)(hf:ZW f=true):KG v f k=zy5 v f k:=by unfold KG zy5; rw[z16 hv hf]
theorem GU{v f k:Int}{w:Wo}{bs:List Nat}(h:ZW v=true)(hf:ZW f=true):PX bs TB #[I v,I f,I k] w (.bool (KG v f k)):=by
 rw[zy6 h hf];exact zif v f k λwr hx=>⟨λ_=>NO h hf,_,λ_=>GQ,rfl⟩
theorem zhs{n:Int}{w:Wo}{bs:List Nat}:PX bs Mm #[I n] w (.bool (YP n 0 8000000)):=zid n λwr hx=>⟨_,QC,rfl⟩
structure Tj (bs:List Nat) (w:Wo) (p:OA) (W:Q8) (m:MW):Prop where
 cs:Q1 bs w p 0 (Qb W m)
 rd:XE bs w W m
theorem KN{bs:List Nat}{w:Wo}{o:OA}{n:Nat}{vs:List Va}(h:Q1 bs w o n vs){j:Nat}{v:Va}(hj:vs[j]? = some v):Q1 bs w (o.map (·.add n)) (0+j) [v]:=by
 obtain⟨a,ha,hb,hc⟩:=h.get j v hj;refine YZ ⟨a.add n,by rw[ha]; rfl,by rw[ZC]; exact hb,?_⟩;rw[Uv,Nat.zero_add]; exact hc
theorem Lf{bs:List Nat}{w:Wo}{o:OA}{n k:Nat}{v:Va}{r:List Va}(h:Q1 bs w o k (v::r)):(o.map (·.add n)).isSome=true:=by
 have:=h.some
 cases o with
 | none=>cases this
 | some a=>rfl
section
variable {W:Q8}{m:MW}{w w':Wo}{bs cs:List Nat}{p:OA}
theorem Tj.ext(h:Tj bs w p W m)(hx:Q0 bs w w'):Tj bs w' p W m:=⟨h.cs.ext hx,h.rd.ext hx⟩
theorem Tj.less(h:Tj bs w p W m)(hs:∀x∈cs,x∈bs):Tj cs w p W m:=⟨h.cs.less hs,h.rd.less hs⟩
theorem Tj.wide(h:Tj bs w p W m)(hs:∀x∈cs,x∈bs\/w.heap.size<=x):Tj cs w p W m:=⟨h.cs.wide hs,h.rd.wide hs⟩
theorem Tj.some(h:Tj bs w p W m):p.isSome=true:=by
 have h1:=h.cs.get 0 _ (rfl:(Qb W m)[0]? = Option.some (I W.now));obtain⟨a,rfl,_⟩:=h1;rfl
theorem Tj.c(h:Tj bs w p W m){j:Nat}{v:Va}(hj:(Qb W m)[j]? = Option.some v):Q1 bs w p (0+j) [v]:=YZ (h.cs.get j v hj)
theorem Tj.now(h:Tj bs w p W m):Q1 bs w p (0+0) [I W.now]:=h.c rfl
theorem Tj.IE(h:Tj bs w p W m):Q1 bs w p (0+1) [.slice m.cO W.IE.length m.cC]:=h.c rfl
theorem Tj.tasks(h:Tj bs w p W m):Q1 bs w p (0+2) [.slice m.tO W.tasks.length m.tC]:=h.c rfl
theorem Tj.ID(h:Tj bs w p W m):Q1 bs w p (0+3) [.slice m.gO W.ID.length m.gC]:=h.c rfl
def zvy(m:MW)(g c:Int):OA:=(m.ms g.toNat).sO.map (·.add (Int.toNat c*5))
theorem Tj.sh(h:Tj bs w p W m){g c:Int}(g0:0<=g)(g1:g<(W.ID.length:Int))(c0:0<=c)(c1:c<((gi W.ID g).IF.length:Int)):(zvy m g c).isSome=true/\∀{j:Nat} {v:Va},(Po (Qa W g c))[j]? = Option.some v->Q1 bs w (zvy m g c) (0+j) [v]:=
 ⟨Lf (h.rd.g.IF g g0 g1 c c0 c1),λ{j v} hj=>KN (h.rd.g.IF g g0 g1 c c0 c1) hj⟩
theorem ZR{c:Int}:PX bs QG #[.pointer p,I c] w (.agg #[.pointer p,I c]):=Bs p c λwr hx=>λ_ _=>rfl
theorem Zj{g c:Int}(h:Tj bs w p W m)(g0:0<=g)(g1:g<(W.ID.length:Int))(c0:0<=c)(c1:c<((gi W.ID g).IF.length:Int)):PX bs Qy #[.agg #[.pointer p,I c],I g] w (.pointer (zvy m g c)):=
 Bx p c g λwr hx=>by
  have h:=(h.ext hx).less (cs:=[]) Qs;exact λ_ _=>⟨h.some,_,_,_,h.ID,h.rd.g.ix g0 g1,_,_,_,h.rd.g.R0 g0 g1,(h.rd.g.IF g g0 g1).ix X0 c0 c1,rfl⟩
theorem OF{c:Int}(h:Tj bs w p W m)(c0:0<=c)(c1:c<(W.IE.length:Int)):PX bs Y7 #[.agg #[.pointer p,I c]] w (.pointer (m.cO.map (·.add (Int.toNat c*5)))):=
 zal p c λwr hx=>by
  have h:=(h.ext hx).less (cs:=[]) Qs;exact λ_ _=>⟨h.some,_,_,_,h.IE,h.rd.c.ix Y6 c0 c1,rfl⟩
theorem LY{c:Int}(h:Tj bs w p W m)(hl:W.IE.length<=maxLen):PX bs Xt #[.pointer p,I c] w (.bool (YP c 0 ((W.IE.length:Int)-1))):=
 Gh p c λwr hx=>by
  have h:=(h.ext hx).less (cs:=[]) Qs;have:=XD;exact⟨h.some,_,_,_,h.IE,⟨Qo,Qo⟩,_,QC,rfl⟩
theorem NU{t:Int}(h:Tj bs w p W m)(hl:W.tasks.length<=maxLen):PX bs Jo #[.pointer p,I t] w (.bool (YP t 0 ((W.tasks.length:Int)-1)&&((Q7 W t).state != 0))):=
 LF p t λwr hx=>by
  have h:=(h.ext hx).less (cs:=[]) Qs;have:=XD;have hr:YP t 0 ((W.tasks.length:Int)-1)=true->0<=t/\t<(W.tasks.length:Int):=λg=>by have:=Qv.1 g; omega
  exact⟨h.some,_,_,_,h.tasks,⟨Qo,Qo⟩,_,QC,λ_=>h.some,_,_,_,λ_=>h.tasks,λg=>h.rd.t.ix QF (hr g).1 (hr g).2,_,λg=>h.rd.t.f (hr g).1 (hr g).2 (j:=0) rfl,rfl⟩
theorem KA(h:Tj bs w p W m)(h4:W.IE.length<=4):PX bs Xd #[.pointer p] w (I (U1 W.IE)):=
 Dy p λwr hx=>by
  have h:=(h.ext hx).less (cs:=[]) Qs;refine⟨h.some,_,_,_,h.IE,?_⟩;refine TX W.IE.length 0 rfl (λx k=>k<=W.IE.length/\x=Vy W.IE k) ⟨Ic _,rfl⟩ λx k ⟨hk,R5⟩=>⟨λIN=>?_,λRx=>?_⟩
  ·have IN:=Ot IN;have hb:=Kq (k:=k) Qo;have hl:=HV W.IE k Qo;have dH:(1*2 ^ (min (Int.toNat (k:Int)) 64):Int)=XU k:=rfl;refine⟨h.rd.c.ix Y6 Qo IN,_,_,_,_,_,h.rd.c k Qo IN,λ_ _=>⟨λhu=>?_,λhu=>?_⟩⟩
   ·rw[dH,R5,zyg Qo hl.1 hl.2];refine⟨⟨Qo,Qo,Qo⟩,⟨Qo,Qo⟩,QH Qo ⟨Qo,?_⟩⟩;simp only[Vy]; rw[C' hu]
   ·refine⟨⟨Qo,Qo⟩,QH Qo ⟨Qo,?_⟩⟩;rw[R5]; simp only[Vy]; rw[B' (by rw[hu]; decide)]
  ·have Rx:=Ou Rx;have:k=W.IE.length:=Qo;subst this;rw[R5]; rfl
theorem zn9{g:Int}(h:Tj bs w p W m)(h4:W.IE.length<=4)(ht:Y8 W.ID)(hu:Q6 W.ID g=true):PX bs VU #[.pointer p,I g] w (I (Ti W.ID g (U1 W.IE))):=
 Bt p g λwr hx=>by
  have h:=(h.ext hx).less (cs:=[]) Qs;have hr:Q6 W.ID 0=true:=Q4.2 ⟨Qd,by have:=ht.len; omega,ht.ru⟩;obtain⟨r1,r2,_⟩:=Q4.1 hr;refine⟨_,KA h h4,λvs=>∃(x s:Int),vs=[I x,I s]/\Q6 W.ID x=true/\Ti W.ID x s=Ti W.ID g (U1 W.IE),λvs=>(dep 3 W.ID (ZE 0 vs)).toNat,⟨g,_,rfl,hu,rfl⟩,?_⟩;rintro x s ⟨x',s',he,tB,hI⟩;simp only[I4,I5,true_and,and_true] at he;obtain⟨rfl,rfl⟩:=he;refine⟨λhz=>?_,λhz=>?_⟩
  ·have hz:x≠0:=by simpa using hz
   obtain⟨hp,a,b,d,e,e2,hd⟩:=Y3 ht tB hz;unfold Ti at hI;rw[Yt ht tB hz,List.cons_append,List.foldl_cons] at hI
   exact⟨h.some,_,_,_,h.ID,h.rd.g.ix a b,_,h.rd.g.IE a b,_,MF,h.some,_,_,_,h.ID,h.rd.g.ix a b,_,h.rd.g.parent a b,⟨_,_,rfl,hp,hI⟩,by
    show (dep 3 W.ID (gi W.ID x).parent).toNat<(dep 3 W.ID x).toNat;omega⟩
  ·have hz:x=0:=by simpa using hz
   subst hz;unfold Ti at hI;rw[show QP W.ID 0=[] from Zi _ _] at hI;refine⟨h.some,_,_,_,h.ID,h.rd.g.ix r1 r2,_,h.rd.g.IE r1 r2,_,MF,?_⟩;unfold Ti;rw[<-hI]; rfl
theorem NQ{g mask:Int}(h:Tj bs w p W m)(h4:W.IE.length<=4)(ht:Y8 W.ID)(hu:Q6 W.ID g=true):PX bs Jn #[.pointer p,I mask,I g] w (I (Qx W g mask)):=
 LD p mask g λwr hx=>by
  have h:=(h.ext hx).less (cs:=[]) Qs;refine⟨_,zn9 h h4 ht hu,_,MF,λg1=>?_,λg1=>⟨λg2=>?_,λg2=>⟨_,KA h h4,?_⟩⟩⟩
  ·unfold Qx; rw[C' (by simpa using g1)]
  ·unfold Qx; rw[B' (by simpa using g1),C' (by simpa using g2)]
  ·unfold Qx; rw[B' (by simpa using g1),B' (by simpa using g2)]
theorem GT{t:Int}(h:Tj bs w p W m)(h4:W.IE.length<=4)(ht:Y8 W.ID)(t0:0<=t)(t1:t<(W.tasks.length:Int))(hu:Q6 W.ID (Q7 W t).group=true):PX bs XN #[.pointer p,I t] w (I (Qx W (Q7 W t).group (Q7 W t).mask)):=
 He p t λwr hx=>by
  have h:=(h.ext hx).less (cs:=[]) Qs;exact⟨h.some,_,_,_,h.tasks,h.rd.t.ix QF t0 t1,_,h.rd.t.f t0 t1 (j:=4) rfl,h.some,_,_,_,h.tasks,h.rd.t.ix QF t0 t1,_,h.rd.t.f t0 t1 (j:=1) rfl,_,NQ h h4 ht hu,rfl⟩
theorem DT{t c g:Int}(h:Tj bs w p W m)(t0:0<=t)(t1:t<(W.tasks.length:Int)):PX bs Jj #[.agg #[.pointer p,I c],I t,I g] w (.bool (Od W g c t.toNat)):=
 ES p c t g λwr hx=>by
  have h:=(h.ext hx).less (cs:=[]) Qs;refine λ_ _=>⟨h.some,_,_,_,h.tasks,h.rd.t.ix QF t0 t1,_,_,_,_,_,_,_,_,_,h.rd.t t t0 t1,λ_ _=>?_⟩
  unfold Od;rw[show ((t.toNat:Nat):Int)=t by omega]
theorem B7{k c g:Int}(h:Tj bs w p W m)(ha:WA W)(k0:0<=k)(k1:k<(W.ID.length:Int))(c0:0<=c)(c1:c<(W.IE.length:Int)):PX bs JM #[.agg #[.pointer p,I c],I k,I g] w (.bool (Jd W g c k.toNat)):=
 Bw p c k g λwr hx=>by
  have h:=(h.ext hx).less (cs:=[]) Qs
  have hc:(((k != 0)&&(gi W.ID k).used)&&((gi W.ID k).parent==g))=true->c<((gi W.ID k).IF.length:Int):=λq=>by
   simp only[A'] at q;rw[ha.sl (Q4.2 ⟨k0,k1,q.1.2⟩)]; exact c1
  refine λ_ _=>⟨λ_=>h.some,_,_,_,λ_=>h.ID,λ_=>h.rd.g.ix k0 k1,_,λ_=>h.rd.g.used k0 k1,λ_=>h.some,_,_,_,λ_=>h.ID,λ_=>h.rd.g.ix k0 k1,_,λ_=>h.rd.g.parent k0 k1,zvy m k c,λq=>Zj h k0 k1 c0 (hc q),λq=>(h.sh k0 k1 c0 (hc q)).1,(Qa W k c).on,λq=>(h.sh k0 k1 c0 (hc q)).2 (j:=1) rfl,?_⟩
  unfold Jd;rw[show ((k.toNat:Nat):Int)=k by omega]
  have e:decide (1<=k.toNat)=(k != 0):=by
   by_cases hk:k=0
   ·subst hk; rfl
   ·rw[Ih Qo,It.2 hk]
  rw[e,Bool.and_assoc,Bool.and_assoc,Bool.and_assoc,Bool.and_assoc]
theorem Ky{g c:Int}(h:Tj bs w p W m)(ha:WA W)(c0:0<=c)(c1:c<(W.IE.length:Int)):PX bs Xq #[.agg #[.pointer p,I c],I g] w (.bool (QJ W g c)):=
 EQ p c g λwr hx=>by
  have h:=(h.ext hx).less (cs:=[]) Qs;have bZ:=ha.gl;have ht:=ha.t;refine λ_ _=>⟨h.some,_,_,_,h.tasks,?_⟩
  refine YV W.tasks.length 0 rfl (λk=>k<=W.tasks.length/\∀j:Nat,j<k->Od W g c j=false) ⟨Ic _,λj hj=>Ir hj (Nat.not_lt_zero j)⟩ λk ⟨hk,hI⟩=>⟨λIN=>?_,λRx=>?_⟩
  ·have IN:=Ot IN;refine⟨_,DT h Qo IN,λhy=>?_,λhn=>⟨⟨Qo,Qo⟩,Qu Qo ⟨Qo,λj hj=>?_⟩⟩⟩
   ·rw[Ig] at hy;unfold QJ;rw[Pk.2 ⟨k,Qo,hy⟩]; rfl
   ·by_cases fN:j<k
    ·exact hI j fN
    ·have:j=k:=Qo;subst this
     rwa[Ig] at hn
  ·have Rx:=Ou Rx;have iX:O8 (Od W g c) W.tasks.length=false:=zco λj hj=>hI j Qo
   refine⟨h.some,_,_,_,h.ID,?_⟩;refine YV W.ID.length 0 rfl (λk=>k<=W.ID.length/\∀j:Nat,j<k->Jd W g c j=false) ⟨Ic _,λj hj=>Ir hj (Nat.not_lt_zero j)⟩ λk ⟨hk,hI⟩=>⟨λIN=>?_,λRx=>?_⟩
   ·have IN:=Ot IN;refine⟨_,B7 h ha Qo IN c0 c1,λhy=>?_,λhn=>⟨⟨Qo,Qo⟩,Qu Qo ⟨Qo,λj hj=>?_⟩⟩⟩
    ·rw[Ig] at hy;unfold QJ;rw[Pk.2 ⟨k,Qo,hy⟩,Bool.or_true]
    ·by_cases fN:j<k
     ·exact hI j fN
     ·have:j=k:=Qo;subst this
      rwa[Ig] at hn
   ·have Rx:=Ou Rx;have:O8 (Jd W g c) W.ID.length=false:=zco λj hj=>hI j Qo
    unfold QJ;rw[iX,this]; rfl
theorem ED{g c:Int}(h:Tj bs w p W m)(ha:WA W)(hu:Q6 W.ID g=true)(c0:0<=c)(c1:c<(W.IE.length:Int)):PX bs Jp #[.agg #[.pointer p,I c],I g] w (.bool (Yx W g c)):=
 zam p c g λwr hx=>by
  have h:=(h.ext hx).less (cs:=[]) Qs;obtain⟨u1,u2,_⟩:=Q4.1 hu
  have hd:(decide ((gi W.ID g).IP.IX>0))=true->c<((gi W.ID g).IP.Ry.length:Int):=λg1=>by
   have:=Ot g1;rw[(ha.dl hu Qo).1]; exact c1
  exact λ_ _=>⟨h.some,_,_,_,h.ID,h.rd.g.ix u1 u2,_,_,_,_,_,_,_,_,_,h.rd.g.IP u1 u2,λ_ _=>⟨λg1=>(h.rd.g.Ry g u1 u2).ix Lv c0 (hd g1),_,λg1=>(h.rd.g.Ry g u1 u2) c c0 (hd g1),rfl⟩⟩
theorem OS{t c:Int}(h:Tj bs w p W m)(ha:WA W)(t0:0<=t)(t1:t<(W.tasks.length:Int))(c0:0<=c)(c1:c<(W.IE.length:Int))(hu:(Q7 W t).state=1->Q6 W.ID (Q7 W t).group=true) :
  PX bs YG #[.agg #[.pointer p,I c],I t] w (.bool (((Q7 W t).IZ==c)&&Z3 W t)):=
 ER p c t λwr hx=>by
  have h:=(h.ext hx).less (cs:=[]) Qs;refine λ_ _=>⟨h.some,_,_,_,h.tasks,h.rd.t.ix QF t0 t1,_,_,_,_,_,_,_,_,_,h.rd.t t t0 t1,λ_ _=>⟨λg=>?_,λg=>?_⟩⟩
  ·have g':(((Q7 W t).state != 1)||((Q7 W t).IZ != c))=true:=g
   have:(((Q7 W t).IZ==c)&&Z3 W t)=false:=by
    unfold Z3;simp only[Iu,It] at g';rcases g' with e | e
    ·rw[beq_eq_false_iff_ne.2 e,Bool.false_and,Bool.and_false]
    ·rw[beq_eq_false_iff_ne.2 e,Bool.false_and]
   rw[this]
  ·have g':(((Q7 W t).state != 1)||((Q7 W t).IZ != c))=false:=g;simp only[H',bne_eq_false_iff_eq] at g';obtain⟨hs,hc⟩:=g';have hug:=hu hs
   have hL:(((Q7 W t).IZ==c)&&Z3 W t)=Vb W (Q7 W t).group c:=by
    unfold Z3; rw[Is.2 hs,Is.2 hc,Bool.true_and,Bool.true_and,hc]
   rw[hL];refine⟨λvs=>∃x:Int,vs=[I x]/\Q6 W.ID x=true/\Vb W x c=Vb W (Q7 W t).group c,λvs=>(dep 3 W.ID (ZE 0 vs)).toNat,⟨_,rfl,hug,rfl⟩,?_⟩;rintro x ⟨x',he,tB,hI⟩;simp only[I4,I5,true_and,and_true] at he;subst he;refine⟨λhz=>?_,λhz=>?_⟩
   ·have hz:x≠0:=by simpa using hz
    obtain⟨hp,a,b,d,e,e2,hd⟩:=Y3 ha.tree tB hz;have sS:c<((gi W.ID x).IF.length:Int):=by rw[ha.sl tB]; exact c1
    unfold Vb at hI;rw[Yt ha.tree tB hz,List.all_cons] at hI
    refine⟨_,Zj h a b c0 sS,(h.sh a b c0 sS).1,_,(h.sh a b c0 sS).2 (j:=1) rfl,λg2=>?_,λg2=>⟨h.some,_,_,_,h.ID,h.rd.g.ix a b,_,h.rd.g.parent a b,⟨_,rfl,hp,?_⟩,by
     show (dep 3 W.ID (gi W.ID x).parent).toNat<(dep 3 W.ID x).toNat;omega⟩⟩
    ·have g2:(Qa W x c).on=false:=by simpa using g2
     rw[g2,Bool.false_and] at hI;unfold Vb;rw[<-hI]
    ·have g2:(Qa W x c).on=true:=by simpa using g2
     rw[g2,Bool.true_and] at hI;exact hI
   ·have hz:x=0:=by simpa using hz
    subst hz;unfold Vb at hI;rw[show QP W.ID 0=[] from Zi _ _,List.all_nil] at hI;unfold Vb;rw[<-hI]
end
structure zzr (W:Q8):Prop where
 n1:0<=W.now
 n2:W.now<=100000000000000000
 c1:1<=W.IE.length
 c2:W.IE.length<=4
 t:W.tasks.length=12
 tree:Y8 W.ID
 ups:U1 W.IE≠0
structure z4h (W:Q8) (g:ZX):Prop where
 none:g.IP.IX=0->OJ g.IP=true/\g.period=0/\g.next=0
 IP:g.IP.IX≠0->P0 g.IP/\g.IP.locals.length=W.IE.length/\1<=g.period/\g.period<=1000/\W.now<g.next/\g.next-W.now<=g.period
structure z4f (W:Q8) (g:ZX):Prop where
 w1:1<=g.weight
 w2:g.weight<=20
 m:M1 g.IE=true
 m0:g.IE≠0
 s:ZW g.sum=true
 len:g.IF.length=W.IE.length
 q:z4h W g
def zzy(W:Q8)(k:Int):Prop:=((gi W.ID k).used=false->zv0 (gi W.ID k))/\((gi W.ID k).used=true->z4f W (gi W.ID k))
theorem B2{W:Q8}{k:Int}:Kn W k↔zzy W k/\((gi W.ID k).used=true->k=0->(gi W.ID k).weight=10/\(gi W.ID k).IE=15/\(gi W.ID k).IP.IX=0):=by
 constructor
 ·intro p;exact⟨⟨p.1,λhu=>by have q:=p.2 hu; exact⟨q.w1,q.w2,q.m,q.m0,q.s,q.len,⟨q.none,q.IP⟩⟩⟩,λhu=>(p.2 hu).root⟩
 ·rintro⟨p,r⟩;exact⟨p.1,λhu=>by have q:=p.2 hu; exact⟨q.w1,q.w2,q.m,q.m0,q.s,q.len,r hu,q.q.none,q.q.IP⟩⟩
section
variable {W:Q8}{m:MW}{w:Wo}{bs:List Nat}{p:OA}
theorem zdz{k:Int}(h:Tj bs w p W m)(n1:0<=W.now)(n2:W.now<=100000000000000000)(k0:0<=k)(k1:k<(W.ID.length:Int))(hf:zpl (gi W.ID k)) :
  PX bs XO #[.pointer p,.agg (YJ (gi W.ID k) (m.ms k.toNat)).toArray] w (.bool (Ub (z4h W (gi W.ID k)))):=
 Hf p (gi W.ID k).used (gi W.ID k).parent (gi W.ID k).name (gi W.ID k).weight (gi W.ID k).IE (gi W.ID k).period (gi W.ID k).next (gi W.ID k).sum (gi W.ID k).IP.IX (gi W.ID k).IP.RD (gi W.ID k).IP.Sl (m.ms k.toNat).lO (gi W.ID k).IP.locals.length (m.ms k.toNat).lC (m.ms k.toNat).dO (gi W.ID k).IP.Ry.length (m.ms k.toNat).dC (m.ms k.toNat).sO (gi W.ID k).IF.length (m.ms k.toNat).sC λwr hx=>by
  have h:=(h.ext hx).less (cs:=[]) Qs
  have hp:((Ub (P0 (gi W.ID k).IP)&&(((gi W.ID k).IP.locals.length:Nat):Int)==((W.IE.length:Nat):Int))&&YP (gi W.ID k).period 1 1000)=true->1<=(gi W.ID k).period/\(gi W.ID k).period<=1000:=λq=>by
   simp only[A'] at q;exact Qv.1 q.2
  refine λ_ _=>⟨_,LW (b:=(gi W.ID k).IP) (m:=m.ms k.toNat),λg=>PI ?_,λg=>⟨_,zhn (b:=(gi W.ID k).IP) (m:=m.ms k.toNat) (h.rd.g.locals k k0 k1) (h.rd.g.Ry k k0 k1) hf.lo,λ_=>h.some,_,_,_,λ_=>h.IE,_,λ_=>QC,λ_=>h.some,_,λ_=>h.now,λ_=>⟨Qo,Qo⟩,λ_=>h.some,_,λ_=>h.now,λq=>⟨by have:=hp q; omega,by have:=hp q; omega⟩,_,λ_=>QC,PI ?_⟩⟩
  ·have q0:=(Ha g).1;simp only[A',Is];exact⟨λe=>⟨λ_=>⟨g,e.1,e.2⟩,λbT=>Ir q0 bT⟩,λq=>(q.none q0).2⟩
  ·simp only[A',Is,Qj,Qv];constructor
   ·rintro⟨⟨⟨e1,e2⟩,e3⟩,e4⟩;have:=e1.q1;exact⟨λhz=>by omega,λ_=>⟨e1,Qo,e3.1,e3.2,Qo,Qo⟩⟩
   ·intro q
    have hq:(gi W.ID k).IP.IX≠0:=λe=>by
     have:=(q.none e).1;rw[this] at g; cases g
    have r:=q.IP hq;exact⟨⟨⟨r.1,by have:=r.2.1; omega⟩,r.2.2.1,r.2.2.2.1⟩,by have:=r.2.2.2.2.1; omega,by have:=r.2.2.2.2.2; omega⟩
theorem y9(h:Tj bs w p W m)(hs:zzr W)(hf:∀i:Int,0<=i->i<(W.ID.length:Int)->zpl (gi W.ID i)):PX bs Xu #[.pointer p] w (.bool (Ub (∀k:Int,0<=k->k<8->Kn W k))):=
 Gi p λwr hx=>by
  have h:=(h.ext hx).less (cs:=[]) Qs;have bZ:=hs.tree.len;refine⟨h.some,_,_,_,h.ID,?_⟩;refine YV W.ID.length 0 rfl (λk=>k<=W.ID.length/\∀j:Int,0<=j->j<(k:Int)->zzy W j) ⟨Ic _,λj h0 h1=>by omega⟩ λk ⟨hk,hI⟩=>⟨λIN=>?_,λRx=>?_⟩
  ·have IN:=Ot IN;have k0:(0:Int)<=(k:Int):=Qo
   have nxt:zzy W (k:Int)->∀j:Int,0<=j->j<((k+1:Nat):Int)->zzy W j:=λhq j h0 h1=>by
    by_cases fN:j<(k:Int)
    ·exact hI j h0 fN
    ·have:j=(k:Int):=Qo;subst this; exact hq
   refine⟨h.rd.g.ix k0 IN,_,_,_,_,_,_,_,_,_,_,_,_,_,_,_,_,_,_,_,_,h.rd.g.cells k k0 IN,λ_ _=>⟨λg=>?_,λg=>?_⟩⟩
   ·have hu:(gi W.ID (k:Int)).used=false:=by simpa using g
    refine⟨_,NR (g:=gi W.ID (k:Int)) (m:=m.ms (k:Int).toNat) hu,λg2=>Gg λpp=>?_,λg2=>⟨⟨Qo,Qo⟩,Qu Qo ⟨Qo,nxt ⟨λ_=>Qj.1 (by simpa using g2),λhu'=>by rw[hu'] at hu; cases hu⟩⟩⟩⟩;have g2:Ub (zv0 (gi W.ID (k:Int)))=false:=by simpa using g2
    exact GC.1 g2 ((B2.1 (pp (k:Int) k0 Qo)).1.1 hu)
   ·have hu:(gi W.ID (k:Int)).used=true:=by simpa using g
    have bad:¬z4f W (gi W.ID (k:Int))->¬∀k:Int,0<=k->k<8->Kn W k:=λhn pp=>hn ((B2.1 (pp (k:Int) k0 Qo)).1.2 hu)
    refine⟨_,Pz,_,λ_=>LZ,λg2 b1 cJ=>⟨ZW (gi W.ID (k:Int)).sum,λ_ wx hxw hcx=>z5r hcx,λ_=>h.some,_,_,_,λ_=>h.IE,_,λ_=>zdz h hs.n1 hs.n2 k0 IN (hf _ k0 IN),λg3=>Gg (bad λq=>?_),λg3=>⟨⟨Qo,Qo⟩,Qu Qo ⟨Qo,nxt ⟨λhu'=>(by rw[hu'] at hu; cases hu),λ_=>?_⟩⟩⟩⟩,λg2=>⟨λe=>(by cases e),none,0,0,λe=>(by cases e),false,λe=>(by simp at e),λg3=>Gg (bad λq=>g2 ?_),λg3=>(by simp at g3)⟩⟩
    ·have e1:YP (gi W.ID (k:Int)).weight 1 20=true:=Qv.2 ⟨q.w1,q.w2⟩;have e2:((gi W.ID (k:Int)).IE != 0)=true:=by simpa using q.m0
     have e5:(((gi W.ID (k:Int)).IF.length:Nat):Int)=((W.IE.length:Nat):Int):=by have:=q.len; omega
     rw[e1,e2,q.m,q.s,e5,Qj.2 q.q] at g3;simp at g3
    ·simp only[H',I6,bne_eq_false_iff_eq,Qv,A',It,Qj] at g3;obtain⟨⟨⟨⟨a1,a2⟩,a3⟩,a4⟩,a5⟩:=g3;exact⟨a1.1,a1.2,a2.2,a2.1,a3,Qo,a5⟩
    ·have e1:YP (gi W.ID (k:Int)).weight 1 20=true:=Qv.2 ⟨q.w1,q.w2⟩;have e2:((gi W.ID (k:Int)).IE != 0)=true:=by simpa using q.m0
     rw[e1,e2,q.m]; rfl
  ·have Rx:=Ou Rx;have h0:(0:Int)<(W.ID.length:Int):=Qo;refine⟨h.some,_,_,_,h.ID,h.rd.g.ix Qd h0,_,_,_,_,_,_,_,_,_,_,_,_,_,_,_,_,_,_,_,_,h.rd.g.cells 0 Qd h0,λ_ _=>PI ?_⟩;simp only[A',Is];constructor
   ·rintro⟨⟨e1,e2⟩,e3⟩ j j0 j1;exact B2.2 ⟨hI j j0 Qo,λ_ hj=>by subst hj; exact⟨e1,e2,e3⟩⟩
   ·intro pp;have r:=(B2.1 (pp 0 Qd Qd)).2 hs.tree.ru rfl;exact⟨⟨r.1,r.2.1⟩,r.2.2⟩
theorem zzr.wa(hs:zzr W)(hg:∀k:Int,0<=k->k<8->Kn W k):WA W:=⟨hs.n1,hs.n2,hs.c1,hs.c2,hs.t,hs.tree,hs.ups,hg⟩
theorem zyb{n:Int}:YP n (-10) 9=true↔Qe n≠0:=by
 unfold Qe
 cases h:YP n (-10) 9 with
 | true=>
  have:=Qv.1 h;simp; omega
 | false=>simp
def zbu(W:Q8)(t:Int):Prop:=C3 W t/\((Q7 W t).state=1->ZW (Qa W (Q7 W t).group (Q7 W t).IZ).floor=true)
theorem zd3(h:Tj bs w p W m)(ha:WA W)(lg:W.ID.length<=maxLen):PX bs XQ #[.pointer p] w (.bool (Ub (∀t:Int,0<=t->t<12->zbu W t))):=
 Hh p λwr hx=>by
  have h:=(h.ext hx).less (cs:=[]) Qs;have bZ:=ha.gl;have eM:=ha.t;refine⟨h.some,_,_,_,h.tasks,?_⟩;refine YV W.tasks.length 0 rfl (λk=>k<=W.tasks.length/\∀j:Int,0<=j->j<(k:Int)->zbu W j) ⟨Ic _,λj h0 h1=>by omega⟩ λk ⟨hk,hI⟩=>⟨λIN=>?_,λRx=>?_⟩
  ·have IN:=Ot IN;have k0:(0:Int)<=(k:Int):=Qo
   have nxt:zbu W (k:Int)->Ql .i64 ((k:Int)+1)/\zt3 (λk=>k<=W.tasks.length/\∀j:Int,0<=j->j<(k:Int)->zbu W j) [I ((k:Int)+1)]/\Xy W.tasks.length 0 [I ((k:Int)+1)]<Xy W.tasks.length 0 [I (k:Int)]:=λhq=>⟨⟨Qo,Qo⟩,Qu Qo ⟨Qo,λj h0 h1=>by
    by_cases fN:j<(k:Int)
    ·exact hI j h0 fN
    ·have:j=(k:Int):=Qo;subst this; exact hq⟩⟩
   have bad:¬zbu W (k:Int)->¬∀t:Int,0<=t->t<12->zbu W t:=λhn pp=>hn (pp (k:Int) k0 Qo)
   refine⟨h.rd.t.ix QF k0 IN,_,_,_,_,_,_,_,_,_,h.rd.t k k0 IN,λ_ _=>⟨_,λwq=>zfm NJ (zlp (gi W.tasks (k:Int)) Oc) _ _ wq,λg=>?_,λg=>?_⟩⟩
   ·rw[zm0,Ij] at g;have hz:Q7 W (k:Int)=Oc:=g;exact nxt ⟨.inl ⟨by rw[hz]; rfl,hz⟩,λe=>by rw[hz] at e; cases e⟩
   ·rw[zm0,decide_eq_false_iff_not] at g;have hz:¬Q7 W (k:Int)=Oc:=g
    have get:zbu W (k:Int)->zz0 W (gi W.tasks (k:Int)):=λq=>by
     rcases q.1 with ⟨_,e⟩ | ⟨_,q⟩
     ·exact Ir e hz
     ·exact q
    refine⟨λ_=>h.some,_,_,_,λ_=>h.ID,_,λ_=>KV (c:=m.gC) h.rd.g lg,_,λ_=>DS,_,λ_=>LZ,λg2=>Gg (bad λq=>?_),λg2 b1 cJ=>?_⟩
    ·have q:=get q;have e3:YP (gi W.tasks (k:Int)).nice (-10) 9=true:=zyb.2 q.n;have e4:((gi W.tasks (k:Int)).mask != 0)=true:=by simpa using q.m0
     rw[q.g,e3,q.m,e4] at g2;simp only[Bool.not_true,Bool.or_false,Bool.and_true,A',It] at g2;have:=q.st;omega
    ·simp only[H',I6,A',It] at g2;obtain⟨⟨⟨a1,a2⟩,a3⟩,a4⟩:=g2
     have st:(gi W.tasks (k:Int)).state=1\/(gi W.tasks (k:Int)).state=2:=by
      by_cases h1:(gi W.tasks (k:Int)).state=1
      ·exact .inl h1
      ·refine .inr ?_;have:((gi W.tasks (k:Int)).state != 1)=true:=by simpa using h1
       rw[this,Bool.true_and] at a1
       simpa using a1
     refine⟨_,λwx hxw hcx=>z52 hcx,_,λ_=>zhs,_,λ_=>GT h ha.c2 ha.tree k0 IN a2,_,λ_=>GR,λg3=>Gg (bad λq=>?_),λg3=>?_⟩
     ·have q:=get q;have e4:YP (gi W.tasks (k:Int)).load 0 8000000=true:=Qv.2 ⟨q.l1,q.l2⟩;have e5:QZ (Qx W (Q7 W (k:Int)).group (Q7 W (k:Int)).mask) (gi W.tasks (k:Int)).IZ=true:=q.c;rw[q.v,q.s,q.u,e4,e5] at g3;cases g3
     ·simp only[H',I6,Qv,A'] at g3;obtain⟨⟨b1',b2⟩,b3⟩:=g3;obtain⟨u1,u2,_⟩:=Q4.1 a2;obtain⟨c0,c1⟩:=GB ha b3;have hsl:=ha.sl a2;have c2:(gi W.tasks (k:Int)).IZ<((gi W.ID (gi W.tasks (k:Int)).group).IF.length:Int):=Qo;have sh:=h.sh (g:=(gi W.tasks (k:Int)).group) u1 u2 c0 c2
      have mk:(((Q7 W (k:Int)).state=1->ZW (Qa W (Q7 W (k:Int)).group (Q7 W (k:Int)).IZ).floor=true/\KG (gi W.tasks (k:Int)).v (Qa W (gi W.tasks (k:Int)).group (gi W.tasks (k:Int)).IZ).floor (Qe (gi W.tasks (k:Int)).nice)=true))->zbu W (k:Int):=λhf=>⟨.inr ⟨λe=>by
        have e:(gi W.tasks (k:Int)).state=0:=e;omega,⟨st,a2,zyb.1 a3,a4.2,a4.1,b1'.1,b1'.2.1,b1'.2.2,b2.1,b2.2,b3,λe=>(hf e).2⟩⟩,λe=>(hf e).1⟩
      refine⟨_,_,ZR,_,Zj h u1 u2 c0 c2,sh.1,_,sh.2 (j:=0) rfl,λ_ b2 bR=>⟨ZW (Qa W (gi W.tasks (k:Int)).group (gi W.tasks (k:Int)).IZ).floor,λ_ wx hxw hcx=>z5r hcx,_,λ_ _=>Py,_,λg4 _=>GU b1'.1 (by simpa using g4),λg4=>Gg (bad λq=>?_),λg4=>nxt (mk λe=>?_)⟩,λg4=>⟨λe=>(by cases e),λ_=>nxt (mk λe=>Ir (Is.2 e) g4)⟩⟩
      ·simp only[A',Is,Iu,IC] at g4;have e1:=(get q).f g4.1;have e2:=q.2 g4.1;rcases g4.2 with g5 | g5
       ·have e2:ZW (Qa W (gi W.tasks (k:Int)).group (gi W.tasks (k:Int)).IZ).floor=true:=e2;rw[e2] at g5; cases g5
       ·rw[e1] at g5; cases g5
      ·have e':((gi W.tasks (k:Int)).state==1)=true:=Is.2 e;rw[e',Bool.true_and] at g4;simp only[H',I6] at g4;exact g4
  ·have Rx:=Ou Rx;exact zpi λt h0 h1=>hI t h0 Qo
theorem NT(h:Tj bs w p W m)(ha:WA W)(hf:∀i:Int,0<=i->i<(W.ID.length:Int)->zpl (gi W.ID i)):PX bs Xh #[.pointer p] w (.bool (Ub (∀k c:Int,0<=k->k<8->0<=c->c<((gi W.ID k).IF.length:Int)->Ko W k c))):=
 LE p λwr hx=>by
  have h:=(h.ext hx).less (cs:=[]) Qs;have bZ:=ha.gl;have rV:=ha.c2
  let TS:=λ(k c:Int)=>ZW (Qa W k c).floor=true/\ZW (Qa W k c).v=true/\ZW (Qa W k c).sum=true/\1<=(Qa W k c).w/\(Qa W k c).w<=20
  have ts:(∀k c:Int,0<=k->k<8->0<=c->c<((gi W.ID k).IF.length:Int)->Ko W k c)->∀k c:Int,0<=k->k<8->0<=c->c<((gi W.ID k).IF.length:Int)->TS k c:=λq k c h0 h1 h2 h3=>by
   have r:=q k c h0 h1 h2 h3;exact⟨r.f,r.v,r.s,r.w1,r.w2⟩
  refine⟨h.some,_,_,_,h.ID,?_⟩;refine YV W.ID.length 0 rfl (λk=>k<=W.ID.length/\∀j c:Int,0<=j->j<(k:Int)->0<=c->c<((gi W.ID j).IF.length:Int)->TS j c) ⟨Ic _,λj c h0 h1=>by omega⟩ λk ⟨hk,hI⟩=>⟨λIN=>?_,λRx=>?_⟩
  ·have IN:=Ot IN;have k0:(0:Int)<=(k:Int):=Qo;have hsm:(gi W.ID (k:Int)).IF.length<=maxLen:=(hf _ k0 IN).sh;refine⟨h.rd.g.ix k0 IN,_,_,_,_,_,_,_,_,_,_,_,_,_,_,_,_,_,_,_,_,h.rd.g.cells k k0 IN,λ_ _=>?_⟩;refine YV (gi W.ID (k:Int)).IF.length 0 rfl (λc=>c<=(gi W.ID (k:Int)).IF.length/\∀d:Int,0<=d->d<(c:Int)->TS (k:Int) d) ⟨Ic _,λj h0 h1=>by omega⟩ λc ⟨hc,hJ⟩=>⟨λkE=>?_,λAQ0=>?_⟩
   ·have kE:=Ot kE;have c0:(0:Int)<=(c:Int):=Qo;have rs:=h.rd.g.IF (k:Int) k0 IN;refine⟨rs.ix X0 c0 kE,_,_,_,_,_,rs c c0 kE,λ_ _ b2 bR=>⟨_,λwx hxw hcx=>z52 hcx,_,λ_=>Pz,λg=>Gg λq=>?_,λg=>⟨zlw kE hsm,Qu Qo ⟨Qo,λd h0 h1=>?_⟩⟩⟩⟩
    ·have r:=ts q (k:Int) (c:Int) k0 Qo c0 kE;have e4:YP (Qa W (k:Int) (c:Int)).w 1 20=true:=Qv.2 ⟨r.2.2.2.1,r.2.2.2.2⟩;have g':((!(ZW (Qa W (k:Int) (c:Int)).floor&&(ZW (Qa W (k:Int) (c:Int)).v&&ZW (Qa W (k:Int) (c:Int)).sum))) || !YP (Qa W (k:Int) (c:Int)).w 1 20)=true:=g;rw[r.1,r.2.1,r.2.2.1,e4] at g'
     cases g'
    ·by_cases fN:d<(c:Int)
     ·exact hJ d h0 fN
     ·have:d=(c:Int):=Qo;subst this;have g':((!(ZW (Qa W (k:Int) (c:Int)).floor&&(ZW (Qa W (k:Int) (c:Int)).v&&ZW (Qa W (k:Int) (c:Int)).sum))) || !YP (Qa W (k:Int) (c:Int)).w 1 20)=false:=g;simp only[H',I6,A',Qv] at g';exact⟨g'.1.1,g'.1.2.1,g'.1.2.2,g'.2.1,g'.2.2⟩
   ·have AQ0:=Ou AQ0;refine⟨⟨Qo,Qo⟩,Qu Qo ⟨Qo,λj d h0 h1 h2 h3=>?_⟩⟩
    by_cases fN:j<(k:Int)
    ·exact hI j d h0 fN h2 h3
    ·have:j=(k:Int):=Qo;subst this;exact hJ d h2 Qo
  have Rx:=Ou Rx;have hT:∀j c:Int,0<=j->j<8->0<=c->c<((gi W.ID j).IF.length:Int)->TS j c:=λj c h0 h1=>hI j c h0 Qo
  refine⟨h.some,_,_,_,h.IE,?_⟩;refine YV W.IE.length 0 rfl (λc=>c<=W.IE.length/\∀d k:Int,0<=d->d<(c:Int)->0<=k->k<8->d<((gi W.ID k).IF.length:Int)->Ko W k d) ⟨Ic _,λj k h0 h1=>by omega⟩ λc ⟨hc,hJ⟩=>⟨λkE=>?_,λAQ0=>?_⟩
  ·have kE:=Ot kE;have c0:(0:Int)<=(c:Int):=Qo;obtain⟨r1,r2,_⟩:=Q4.1 ha.root;have hrc:(c:Int)<((gi W.ID 0).IF.length:Int):=by rw[ha.sl ha.root]; exact kE
   have sh:=h.sh (g:=0) r1 r2 c0 hrc;have tr:=hT 0 (c:Int) Qd Qd c0 hrc;refine⟨_,_,ZR,λ_ _=>⟨_,Zj h r1 r2 c0 hrc,sh.1,(Qa W 0 (c:Int)).on,sh.2 (j:=1) rfl,λ_=>sh.1,(Qa W 0 (c:Int)).v,λ_=>sh.2 (j:=2) rfl,λ_=>sh.1,(Qa W 0 (c:Int)).w,λ_=>sh.2 (j:=3) rfl,λg=>Gg λq=>?_,λg=>?_⟩⟩
   ·have r:=(q 0 (c:Int) Qd Qd c0 hrc).root rfl;rw[r.1,r.2.1,r.2.2] at g;simp at g
   simp only[H',bne_eq_false_iff_eq] at g;have root:Ko W 0 (c:Int):=⟨tr.1,tr.2.1,tr.2.2.1,tr.2.2.2.1,tr.2.2.2.2,λ_=>⟨g.1.1,g.1.2,g.2⟩,λbT=>Ir rfl bT,λbT=>Ir rfl bT⟩
   refine YV 8 1 rfl (λk=>1<=k/\k<=8/\∀j:Int,0<=j->j<(k:Int)->(c:Int)<((gi W.ID j).IF.length:Int)->Ko W j (c:Int)) ⟨I7 _,Qo,λj h0 h1 _=>by
    have:j=0:=Qo;subst this; exact root⟩ λk ⟨hk1,hk,hK⟩=>⟨λIN=>?_,λaN=>?_⟩
   ·have IN:=Ot IN;have k0:(0:Int)<=(k:Int):=Qo;have kl:(k:Int)<(W.ID.length:Int):=Qo
    have nxt:((c:Int)<((gi W.ID (k:Int)).IF.length:Int)->Ko W (k:Int) (c:Int))->Ql .i64 ((k:Int)+1)/\zt3 (λk=>1<=k/\k<=8/\∀j:Int,0<=j->j<(k:Int)->(c:Int)<((gi W.ID j).IF.length:Int)->Ko W j (c:Int)) [I ((k:Int)+1)]/\Xy 8 0 [I ((k:Int)+1)]<Xy 8 0 [I (k:Int)]:=λhq=>⟨⟨Qo,Qo⟩,Qu Qo ⟨Qo,Qo,λj h0 h1 h2=>by
     by_cases fN:j<(k:Int)
     ·exact hK j h0 fN h2
     ·have:j=(k:Int):=Qo;subst this; exact hq h2⟩⟩
    refine⟨h.some,_,_,_,h.ID,h.rd.g.ix k0 kl,_,h.rd.g.used k0 kl,λg2=>nxt λhh=>?_,λg2=>?_⟩
    ·have hu:(gi W.ID (k:Int)).used=false:=by simpa using g2
     have:=((ha.grp (k:Int) k0 Qo).1 hu).l;omega
    ·have hus:(gi W.ID (k:Int)).used=true:=by simpa using g2
     have hu:Q6 W.ID (k:Int)=true:=Q4.2 ⟨k0,kl,hus⟩;have hkc:(c:Int)<((gi W.ID (k:Int)).IF.length:Int):=by rw[ha.sl hu]; exact kE
     have hp:=ha.up hu Qo;obtain⟨v1,v2,_⟩:=Q4.1 hp;have mQ:(c:Int)<((gi W.ID (gi W.ID (k:Int)).parent).IF.length:Int):=by rw[ha.sl hp]; exact kE
     have sk:=h.sh (g:=(k:Int)) k0 kl c0 hkc;have sp:=h.sh (g:=(gi W.ID (k:Int)).parent) v1 v2 c0 mQ;have tk:=hT (k:Int) (c:Int) k0 Qo c0 hkc;have tp:=hT (gi W.ID (k:Int)).parent (c:Int) v1 Qo c0 mQ;refine⟨_,Zj h k0 kl c0 hkc,sk.1,(Qa W (k:Int) (c:Int)).on,sk.2 (j:=1) rfl,_,Ky h ha c0 kE,_,λ_=>ED h ha hu c0 kE,λ_=>sk.1,(Qa W (k:Int) (c:Int)).on,λ_=>sk.2 (j:=1) rfl,λ_ _=>sk.1,(Qa W (k:Int) (c:Int)).v,λ_ _=>sk.2 (j:=2) rfl,λ_ _=>h.some,_,_,_,λ_ _=>h.ID,λ_ _=>h.rd.g.ix k0 kl,_,λ_ _=>h.rd.g.parent k0 kl,_,λ_ _=>Zj h v1 v2 c0 mQ,λ_ _=>sp.1,(Qa W (gi W.ID (k:Int)).parent (c:Int)).floor,λ_ _=>sp.2 (j:=0) rfl,λ_ _=>sk.1,(Qa W (k:Int) (c:Int)).w,λ_ _=>sk.2 (j:=3) rfl,_,λ_ _=>GU tk.2.1 tp.1,λg3=>Gg λq=>?_,λg3=>nxt λ_=>?_⟩
     ·have r:=q (k:Int) (c:Int) k0 Qo c0 hkc;have r1:=r.on Qo;simp only[Iu,A',IC,beq_eq_false_iff_ne] at g3;rcases g3 with g3 | g3
      ·exact g3 r1
      ·have:=r.st Qo g3.1;rw[this] at g3
       cases g3.2
     ·simp only[H',I6,Is] at g3;refine⟨tk.1,tk.2.1,tk.2.2.1,tk.2.2.2.1,tk.2.2.2.2,λe=>by omega,λ_=>g3.1,λ_ ho=>?_⟩;have:=g3.2;rw[ho,Bool.true_and] at this
      simpa using this
   ·have aN:=Ou aN;refine⟨⟨Qo,Qo⟩,Qu Qo ⟨Qo,λd k' h0 h1 h2 h3 h4=>?_⟩⟩
    by_cases hdc:d<(c:Int)
    ·exact hJ d k' h0 hdc h2 h3 h4
    ·have:d=(c:Int):=Qo;subst this;exact hK k' h2 Qo h4
  ·have AQ0:=Ou AQ0;refine zpi λk d h0 h1 h2 h3=>hJ d k h2 ?_ h0 h1 h3
   have hus:(gi W.ID k).used=true:=by
    cases hu:(gi W.ID k).used with
    | true=>rfl
    | false=>
     have:=((ha.grp k h0 h1).1 hu).l;omega
   have:=ha.sl (Q4.2 ⟨h0,Qo,hus⟩);omega
theorem zhq(h:Tj bs w p W m)(ha:WA W)(hts:∀t:Int,0<=t->t<12->C3 W t)(tA:∀k c:Int,0<=k->k<8->0<=c->c<((gi W.ID k).IF.length:Int)->Ko W k c):PX bs J3 #[.pointer p] w (.bool (Ub (∀c:Int,0<=c->c<(W.IE.length:Int)->BW W c))):=
 Dx p λwr hx=>by
  have h:=(h.ext hx).less (cs:=[]) Qs;have bZ:=ha.gl;have eM:=ha.t;have rV:=ha.c2;have hm9:=ZV;refine⟨h.some,_,_,_,h.IE,?_⟩;refine YV W.IE.length 0 rfl (λc=>c<=W.IE.length/\∀j:Int,0<=j->j<(c:Int)->BW W j) ⟨Ic _,λj h0 h1=>by omega⟩ λc ⟨hc,hI⟩=>⟨λIN=>?_,λRx=>?_⟩
  ·have IN:=Ot IN;have c0:(0:Int)<=(c:Int):=Qo
   have nxt:BW W (c:Int)->Ql .i64 ((c:Int)+1)/\zt3 (λc=>c<=W.IE.length/\∀j:Int,0<=j->j<(c:Int)->BW W j) [I ((c:Int)+1)]/\Xy W.IE.length 0 [I ((c:Int)+1)]<Xy W.IE.length 0 [I (c:Int)]:=λhq=>⟨⟨Qo,Qo⟩,Qu Qo ⟨Qo,λj h0 h1=>by
    by_cases fN:j<(c:Int)
    ·exact hI j h0 fN
    ·have:j=(c:Int):=Qo;subst this; exact hq⟩⟩
   have bad:¬BW W (c:Int)->¬∀c:Int,0<=c->c<(W.IE.length:Int)->BW W c:=λhn pp=>hn (pp (c:Int) c0 IN)
   refine⟨h.rd.c.ix Y6 c0 IN,_,_,_,_,_,h.rd.c c c0 IN,λ_ _ b1 cJ=>⟨_,λwx hxw hcx=>z6e hcx,λg=>Gg (bad λq=>?_),λg=>⟨λg2=>nxt ?_,λg2=>?_⟩⟩⟩
   ·rw[q.b,q.i] at g; cases g
   ·simp only[I6,A'] at g;simp only[A',Is] at g2;exact⟨g.1,g.2,Qo,Qo,λ_=>g2.2,λhh=>by omega⟩
   ·simp only[I6,A'] at g
    have ne:BW W (c:Int)->0<=(gi W.IE (c:Int)).cur:=λq=>by
     rcases Int.lt_or_le (gi W.IE (c:Int)).cur 0 with Ct9 | Bj2
     ·have e1:=q.c1;have e2:=q.no Ct9;have e3:(gi W.IE (c:Int)).cur = -1:=Qo;rw[e3,e2] at g2;simp at g2
     ·exact Bj2
    have there:(YP (gi W.IE (c:Int)).cur 0 ((W.tasks.length:Int)-1)&&((Q7 W (gi W.IE (c:Int)).cur).state != 0))=true->0<=(gi W.IE (c:Int)).cur/\(gi W.IE (c:Int)).cur<(W.tasks.length:Int):=λq=>by
     simp only[A'] at q;have:=Qv.1 q.1;omega
    have lu:0<=(gi W.IE (c:Int)).cur/\(gi W.IE (c:Int)).cur<(W.tasks.length:Int)->(Q7 W (gi W.IE (c:Int)).cur).state=1->Q6 W.ID (Q7 W (gi W.IE (c:Int)).cur).group=true:=λq hs=>(Bm ha (hts _ q.1 Qo) hs).1
    refine⟨_,_,ZR,λ_ _=>⟨_,λ_=>NU h Qo,((Q7 W (gi W.IE (c:Int)).cur).IZ==(c:Int))&&Z3 W (gi W.IE (c:Int)).cur,λq=>?_,_,λ_=>QC,λg3=>Gg (bad λq=>?_),λg3=>?_⟩⟩
    ·simp only[H',I6] at q;have:=there q.2;exact OS h ha this.1 this.2 c0 IN (lu this)
    ·have t0:=ne q;have t1:=q.c2;have y:=q.yes t0;have e2:YP (gi W.IE (c:Int)).cur 0 ((W.tasks.length:Int)-1)=true:=Qv.2 Qo;have oH:(Q7 W (gi W.IE (c:Int)).cur).state=1:=(zl7 (hts _ t0 Qo) y.2.2.2.2.1).2;have e4:YP (gi W.IE (c:Int)).WQ 1 149=true:=Qv.2 ⟨y.2.1,y.2.2.1⟩;rw[y.1,e2,oH,y.2.2.2.1,y.2.2.2.2.1,e4] at g3;simp at g3
    ·simp only[H',I6] at g3;obtain⟨⟨⟨a1,a2⟩,a3⟩,a4⟩:=g3;obtain⟨t0,t1⟩:=there a2;have a4:=Qv.1 a4;simp only[A',Is] at a3;obtain⟨Bt5,mY⟩:=a3;obtain⟨q,_⟩:=zl7 (hts _ t0 Qo) mY;have au:=q.g;obtain⟨u1,u2,_⟩:=Q4.1 au
     have sl:∀{x:Int},Q6 W.ID x=true->0<=x/\x<(W.ID.length:Int)/\(c:Int)<((gi W.ID x).IF.length:Int)/\Ko W x (c:Int):=λ{x} hx=>by
      obtain⟨v1,v2,_⟩:=Q4.1 hx;have c3:(c:Int)<((gi W.ID x).IF.length:Int):=by rw[ha.sl hx]; exact IN
      exact⟨v1,v2,c3,tA x (c:Int) v1 Qo c0 c3⟩
     obtain⟨_,_,c2,sp⟩:=sl au;have sh:=h.sh (g:=(Q7 W (gi W.IE (c:Int)).cur).group) u1 u2 c0 c2;have mk:MQ W (c:Int)=true->BW W (c:Int):=λoH=>⟨g.1,g.2,Qo,t1,λhh=>by omega,λ_=>⟨a1,a4.1,a4.2,Bt5,mY,oH⟩⟩
     refine⟨h.some,_,_,_,h.tasks,h.rd.t.ix QF t0 t1,_,_,_,_,_,_,_,_,_,h.rd.t _ t0 t1,λ_ _=>⟨h.rd.t _ t0 t1,rfl,h.tasks,_,Zj h u1 u2 c0 c2,sh.1,_,sh.2 (j:=0) rfl,NO q.v sp.f,_,Py,_,T5,λg4=>Gg (bad λqq=>?_),λg4=>?_⟩⟩
     ·have g4:=Ot g4;have hd:¬((Q7 W (gi W.IE (c:Int)).cur).v-(Qa W (Q7 W (gi W.IE (c:Int)).cur).group (c:Int)).floor<=Ze (gi W.IE (c:Int)).WQ (Qe (Q7 W (gi W.IE (c:Int)).cur).nice)):=Int.not_le.2 g4;have:=(qq.yes t0).2.2.2.2.2;unfold MQ at this;rw[decide_eq_false hd] at this;cases this
     ·have g4:=Ou g4;have hd:(Q7 W (gi W.IE (c:Int)).cur).v-(Qa W (Q7 W (gi W.IE (c:Int)).cur).group (c:Int)).floor<=Ze (gi W.IE (c:Int)).WQ (Qe (Q7 W (gi W.IE (c:Int)).cur).nice):=Int.not_lt.1 g4
      have hS:MQ W (c:Int)=Oa W (Q7 W (gi W.IE (c:Int)).cur).group (c:Int) (gi W.IE (c:Int)).WQ:=by
       unfold MQ;rw[Ih hd,Bool.true_and]
      refine⟨λvs=>∃x:Int,vs=[I x]/\Q6 W.ID x=true/\Oa W x (c:Int) (gi W.IE (c:Int)).WQ=Oa W (Q7 W (gi W.IE (c:Int)).cur).group (c:Int) (gi W.IE (c:Int)).WQ,λvs=>(dep 3 W.ID (ZE 0 vs)).toNat,⟨_,rfl,au,rfl⟩,?_⟩;rintro x ⟨x',he,tB,hJ⟩;simp only[I4,I5,true_and,and_true] at he;subst he;refine⟨λhz=>?_,λhz=>?_⟩
      ·have hz:x≠0:=by simpa using hz
       obtain⟨hp,a,b,d,e,e2,hd⟩:=Y3 ha.tree tB hz;obtain⟨x1,x2,x3,xs⟩:=sl tB;obtain⟨p1,p2,p3,ps⟩:=sl hp;have sx:=h.sh (g:=x) x1 x2 c0 x3;have spp:=h.sh (g:=(gi W.ID x).parent) p1 p2 c0 p3;unfold Oa at hJ;rw[Yt ha.tree tB hz,List.all_cons] at hJ
       refine⟨_,Zj h x1 x2 c0 x3,sx.1,_,sx.2 (j:=2) rfl,h.some,_,_,_,h.ID,h.rd.g.ix x1 x2,_,h.rd.g.parent x1 x2,_,Zj h p1 p2 c0 p3,spp.1,_,spp.2 (j:=0) rfl,NO xs.v ps.f,sx.1,_,sx.2 (j:=3) rfl,_,T5,λg5=>Gg (bad λqq=>?_),λg5=>⟨h.some,_,_,_,h.ID,h.rd.g.ix x1 x2,_,h.rd.g.parent x1 x2,⟨_,rfl,hp,?_⟩,by
        show (dep 3 W.ID (gi W.ID x).parent).toNat<(dep 3 W.ID x).toNat;omega⟩⟩
       ·have g5:=Ot g5;have hd:¬((Qa W x (c:Int)).v-(Qa W (gi W.ID x).parent (c:Int)).floor<=Ze (gi W.IE (c:Int)).WQ (Qa W x (c:Int)).w):=Int.not_le.2 g5;rw[decide_eq_false hd,Bool.false_and] at hJ;have:=(qq.yes t0).2.2.2.2.2;rw[hS] at this;unfold Oa at this;rw[<-hJ] at this;cases this
       ·have g5:=Ou g5;have hd:(Qa W x (c:Int)).v-(Qa W (gi W.ID x).parent (c:Int)).floor<=Ze (gi W.IE (c:Int)).WQ (Qa W x (c:Int)).w:=Int.not_lt.1 g5;rw[Ih hd,Bool.true_and] at hJ;exact hJ
      ·have hz:x=0:=by simpa using hz
       subst hz;refine nxt (mk ?_);rw[hS,<-hJ];unfold Oa;rw[show QP W.ID 0=[] from Zi _ _,List.all_nil]
  ·have Rx:=Ou Rx;exact zpi λt h0 h1=>hI t h0 Qo
theorem zd2(h:Tj bs w p W m)(lc:W.IE.length<=maxLen)(lg:W.ID.length<=maxLen):PX bs XP #[.pointer p] w (.bool (Ub (zzr W))):=
 Hg p λwr hx=>by
  have h:=(h.ext hx).less (cs:=[]) Qs;refine⟨h.some,_,h.now,λb hb=>⟨ZW W.now,λwx hxw hcx=>z5r hcx,λ_=>h.some,_,_,_,λ_=>h.IE,_,λ_=>QC,U1 W.IE,λg=>KA h ?_,λ_=>h.some,_,_,_,λ_=>h.tasks,λ_=>h.some,_,_,_,λ_=>h.ID,Ki W.ID,λ_=>zhp h.rd.g lg,PI ?_⟩⟩
  ·simp only[A',Qv] at g;omega
  ·simp only[A',Qv,Is,It,Xl,Tf];constructor
   ·rintro⟨⟨⟨⟨e1,e2⟩,e3⟩,e4⟩,e5⟩;exact⟨e1.1,e1.2,Qo,Qo,Qo,e5,e3⟩
   ·intro q;have:=q.t;have:=q.c1;have:=q.c2;exact⟨⟨⟨⟨⟨q.n1,q.n2⟩,Qo⟩,q.ups⟩,Qo⟩,q.tree⟩
theorem GS(h:XE bs w W m)(lc:W.IE.length<=maxLen)(lg:W.ID.length<=maxLen)(hf:∀i:Int,0<=i->i<(W.ID.length:Int)->zpl (gi W.ID i)) :
  PX bs VB #[.agg (Qb W m).toArray] w (.bool (QD W)):=by
 refine O1 λuU mZ=>zc2 _ _ _ _ _ _ _ _ _ _ (R:=λv w'=>v=.bool (QD W)/\Q0 [] uU w') ?_
 have h:=(h.ext mZ).less (cs:=[]) Qs;intro b wb hxb hb Ss _ b1 cJ
 have hP:∀{bs:List Nat} {w1:Wo},Q0 [] wb w1->(∀x∈bs,wb.heap.size<=x)->Tj bs w1 (some ⟨b,0,none⟩) W m:=λ{bs w1} hx hbs=>by
  have hbn:b∉bs:=λhm=>by
   have:=hbs b hm;have:=JG Ss;omega
  have hrd:XE bs w1 W m:=((h.ext hxb).wide (cs:=bs) λx hm=>.inr (hbs x hm)).ext hx.of_nil;exact⟨VQ (QB Ss hx Qs) hbn (k0:=0) λj v hj=>by rw[Nat.zero_add,Nat.zero_add]; exact hj,hrd⟩
 let Cn:=λ(k:Nat)=>match k with
  | 0=>zzr W
  | 1=>∀k:Int,0<=k->k<8->Kn W k
  | 2=>∀t:Int,0<=t->t<12->zbu W t
  | 3=>∀k c:Int,0<=k->k<8->0<=c->c<((gi W.ID k).IF.length:Int)->Ko W k c
  | _=>∀c:Int,0<=c->c<(W.IE.length:Int)->BW W c
 have all:YI W->∀k:Nat,k<5->Cn k:=λq k hk=>by
  have:k=0\/k=1\/k=2\/k=3\/k=4:=Qo;rcases this with rfl | rfl | rfl | rfl | rfl
  ·exact⟨q.a.n1,q.a.n2,q.a.c1,q.a.c2,q.a.t,q.a.tree,q.a.ups⟩
  ·exact q.a.grp
  ·refine λt h0 h1=>⟨q.t t h0 h1,λhs=>?_⟩
   have hu:=Bm q.a (q.t t h0 h1) hs;obtain⟨u1,u2,_⟩:=Q4.1 hu.1;have:=q.a.gl;exact(q.s _ _ u1 Qo hu.2.1 (by rw[q.a.sl hu.1]; exact hu.2.2)).f
  ·exact q.s
  ·exact q.c
 have back:(∀k:Nat,k<5->Cn k)->YI W:=λq=>by
  have q0:zzr W:=q 0 Qd;have q1:∀k:Int,0<=k->k<8->Kn W k:=q 1 Qd;have q2:∀t:Int,0<=t->t<12->zbu W t:=q 2 Qd;exact⟨q0.wa q1,λt h0 h1=>(q2 t h0 h1).1,q 3 Qd,q 4 Qd⟩
 have cond:∀k:Nat,k<5->(∀j:Nat,j<k->Cn j)->∀{w1:Wo},Q0 [] wb w1->∃F:FuncId,(#[.func (.func XP) #[] #[],.func (.func Xu) #[] #[],.func (.func XQ) #[] #[],.func (.func Xh) #[] #[],.func (.func J3) #[] #[]]:Array Va)[k]? = some (.func (.func F) #[] #[])/\(∀(w:Wo) (x:Va),(zct (.func (.func F) #[] #[]) [x]).run Tryz.prog w=.ok (.enter F #[x]) w)/\∃rv:Bool,(rv=true↔Cn k)/\PX [b1] F #[.pointer (some ⟨b,0,none⟩)] w1 (.bool rv):=λk hk hj {w1} hx=>by
  have hp:=hP (bs:=[b1]) hx (by simpa using cJ);have:k=0\/k=1\/k=2\/k=3\/k=4:=Qo;rcases this with rfl | rfl | rfl | rfl | rfl
  ·exact⟨_,rfl,λ_ _=>rfl,_,Qj,zd2 hp lc lg⟩
  ·have q0:zzr W:=hj 0 Qd;exact⟨_,rfl,λ_ _=>rfl,_,Qj,y9 hp q0 hf⟩
  ·have q0:zzr W:=hj 0 Qd;have q1:∀k:Int,0<=k->k<8->Kn W k:=hj 1 Qd;exact⟨_,rfl,λ_ _=>rfl,_,Qj,zd3 hp (q0.wa q1) lg⟩
  ·have q0:zzr W:=hj 0 Qd;have q1:∀k:Int,0<=k->k<8->Kn W k:=hj 1 Qd;exact⟨_,rfl,λ_ _=>rfl,_,Qj,NT hp (q0.wa q1) hf⟩
  ·have q0:zzr W:=hj 0 Qd;have q1:∀k:Int,0<=k->k<8->Kn W k:=hj 1 Qd;have q2:∀t:Int,0<=t->t<12->zbu W t:=hj 2 Qd;have q3:∀k c:Int,0<=k->k<8->0<=c->c<((gi W.ID k).IF.length:Int)->Ko W k c:=hj 3 Qd;exact⟨_,rfl,λ_ _=>rfl,_,Qj,zhq hp (q0.wa q1) (λt h0 h1=>(q2 t h0 h1).1) q3⟩
 refine⟨λvs w1=>∃k:Nat,vs=[.bool true,I (k:Int)]/\k<=5/\Q0 [] wb w1/\∀j:Nat,j<k->Cn j,Zt 5 1,λwr hx _=>⟨0,rfl,Qo,hx,λj hj=>Ir hj (Nat.not_lt_zero j)⟩,?_⟩;rintro ok x w1 bX ⟨k,he,hk,hX,hI⟩;simp only[I4,I5,Value.bool.injEq,true_and,and_true] at he;obtain⟨rfl,rfl⟩:=he
 have fr:∀{w2:Wo},Q0 [b1] w1 w2->Q0 [] wb w2:=λ{w2} hx=>hX.fresh hx λy hm=>.inl (by
  have:y=b1:=by simpa using hm
  omega)
 refine⟨λIN=>?_,λRx wr hx=>⟨?_,hxb.trans (fr hx)⟩⟩
 ·have IN:=Ot IN;obtain⟨F,hF,_⟩:=cond k Qo hI hX;refine⟨.func F,#[],#[],⟨Qo,Qo,by rw[Ig]; exact hF⟩,λI' RZ SR=>?_⟩;obtain⟨F',hF',hcv,rv,hrv,hpu⟩:=cond k Qo hI (fr RZ);rw[hF] at hF';simp only[I0,Value.func.injEq,Fn.func.injEq,and_self,and_true] at hF';subst hF';refine .inl ⟨F,#[.pointer (some ⟨b,0,none⟩)],?_,?_⟩
  ·exact hcv _ _
  ·refine(hpu I' (Q0.refl _ _)).mono λe w3 ⟨he,R6⟩=>⟨rv,he,Qf R6 SR,λg M' SK=>⟨?_,hxb.trans ((fr RZ).trans R6 |>.fresh SK λy hm=>.inl (by
    have:y=b1:=by simpa using hm
    omega))⟩,λg=>⟨⟨Qo,Qo⟩,λRr SK _=>⟨⟨k+1,Qs,Qo,((fr RZ).trans R6).fresh SK λy hm=>.inl (by
    have:y=b1:=by simpa using hm
    omega),λj hj=>?_⟩,Zd (k:=k) rfl rfl Qo⟩⟩⟩
   ·have g:rv=false:=by simpa using g
    exact Gg λq=>by
     rw[hrv.2 (all q k Qo)] at g; cases g
   ·by_cases fN:j<k
    ·exact hI j fN
    ·have:j=k:=Qo;subst this;exact hrv.1 (by simpa using g)
 ·have Rx:=Ou Rx;have:k=5:=Qo;subst this;exact zpi (back hI)
end
theorem HE:zrr Tryz.prog Ge 5 Zb 40 (⟨false,0,0,0,0⟩:KI):=Ev Qk λ_=>rfl
theorem KH:Tryz.prog.underlying Zr=some (.slice Zb):=Qk
theorem Mi:zrr Tryz.prog XS 9 QO 72 (⟨0,0,0,0,0,0,0,0,0⟩:Lm):=Ev Qk λ_=>rfl
theorem MT:Tryz.prog.underlying Z0=some (.slice QO):=Qk
section
variable {W:Q8}{m:MW}{w w':Wo}
structure z2s (base:Nat) (w:Wo) (W:Q8) (m:MW):Prop where
 c:V3 Ge 5 Zb base w m.cO m.cC W.IE
 t:V3 XS 9 QO base w m.tO m.tC W.tasks
 g:∃ps:List (ZX×MG),ps.map (·.1)=W.ID/\(λk:Nat=>(gi ps (k:Int)).2)=m.ms/\Lo base w m.gO m.gC ps
theorem z2s.mono{base aC:Nat}(h:z2s base w W m)(hb:aC<=base):z2s aC w W m:=
 ⟨h.c.mono hb,h.t.mono hb,by
  obtain⟨ps,h1,h2,h3⟩:=h.g;exact⟨ps,h1,h2,h3.mono hb⟩⟩
end
theorem Bj{x bt n:Nat}(hm:x∈[bt])(h:n<=bt):n<=x:=by
 have:x=bt:=by simpa using hm
 omega
structure Sc (w0:Wo) (bs:List Nat) (w:Wo):Prop where
 ext:Q0 [] w0 w
 new:∀x∈bs,w0.heap.size<=x
theorem Sc.start(w:Wo):Sc w [] w:=⟨Q0.refl _ _,Qs⟩
theorem Sc.step{w0:Wo}{bs:List Nat}{w w':Wo}(h:Sc w0 bs w)(hx:Q0 bs w w'):Sc w0 bs w':=⟨h.ext.fresh hx λx hm=>.inl (h.new x hm),h.new⟩
theorem Sc.call{w0:Wo}{bs cs:List Nat}{w w':Wo}(h:Sc w0 bs w)(hx:Q0 cs w w')(hc:∀x∈cs,w0.heap.size<=x):Sc w0 bs w':=⟨h.ext.fresh hx λx hm=>.inl (hc x hm),h.new⟩
theorem Sc.R4{w0:Wo}{bs:List Nat}{w w':Wo}(h:Sc w0 bs w)(hx:Q0 [] w w'):Sc w0 bs w':=⟨h.ext.trans hx,h.new⟩
theorem Sc.add{w0:Wo}{bs:List Nat}{w:Wo}{b:Nat}(h:Sc w0 bs w)(hb:w.heap.size<=b):Sc w0 (bs++[b]) w:=⟨h.ext,λx hm=>by
 rcases Im.1 hm with hm | hm
 ·exact h.new x hm
 ·have:x=b:=by simpa using hm
  have:=h.ext.size;omega⟩
theorem Sc.sub{w0:Wo}{bs cs:List Nat}{w:Wo}(h:Sc w0 bs w)(hs:∀x∈cs,x∈bs):Sc w0 cs w:=⟨h.ext,λx hm=>h.new x (hs x hm)⟩
theorem Sc.put{w0:Wo}{bs:List Nat}{w w':Wo}{b:Nat}(h:Sc w0 bs w)(hx:Q0 bs w w')(hb:w.heap.size<=b):Sc w0 (bs++[b]) w':=⟨(h.step hx).ext,(h.add hb).new⟩
theorem Sc.AG3{w0:Wo}{bs:List Nat}{w w':Wo}{b b2:Nat}(h:Sc w0 bs w)(hx:Q0 bs w w')(hb:w.heap.size<=b)(bR:w.heap.size<=b2):Sc w0 (bs++[b]++[b2]) w':=⟨(h.step hx).ext,((h.add hb).add bR).new⟩
structure Ob {α:Type} (enc:α->List Va) (z:Nat) (ty:TypeId) (base:Nat) (bs:List Nat) (w:Wo) (o:OA) (cap:Nat) (l:List α):Prop where
 own:V3 enc z ty base w o cap l
 nb:∀x∈QL o,x∉bs
section
variable {α:Type}{enc:α->List Va}{z:Nat}{ty:TypeId}{base:Nat}{bs cs:List Nat}{w w':Wo}{o:OA}{cap:Nat}{l:List α}{b:Nat}
theorem Ob.of(h:V3 enc z ty base w o cap l)(hs:∀x∈bs,x<base):Ob enc z ty base bs w o cap l:=⟨h,λx hx hm=>by
 have:=(h.lt x hx).1;have:=hs x hm;omega⟩
theorem Ob.step(h:Ob enc z ty base bs w o cap l)(hx:Q0 bs w w'):Ob enc z ty base bs w' o cap l:=⟨h.own.ext hx h.nb,h.nb⟩
theorem Ob.R4(h:Ob enc z ty base bs w o cap l)(hx:Q0 [] w w'):Ob enc z ty base bs w' o cap l:=⟨h.own.Wt hx,h.nb⟩
theorem Ob.call(h:Ob enc z ty base bs w o cap l)(hx:Q0 cs w w')(hd:∀x∈QL o,x∉cs):Ob enc z ty base bs w' o cap l:=⟨h.own.ext hx hd,h.nb⟩
theorem Ob.add(h:Ob enc z ty base bs w o cap l)(hb:w.heap.size<=b):Ob enc z ty base (bs++[b]) w o cap l:=⟨h.own,λx hx hm=>by
 rcases Im.1 hm with hm | hm
 ·exact h.nb x hx hm
 ·have:x=b:=by simpa using hm
  have:=(h.own.lt x hx).2;omega⟩
theorem Ob.put(h:Ob enc z ty base bs w o cap l)(hx:Q0 bs w w')(hb:w.heap.size<=b):Ob enc z ty base (bs++[b]) w' o cap l:=⟨(h.step hx).own,(h.add hb).nb⟩
theorem Ob.AG3{b2:Nat}(h:Ob enc z ty base bs w o cap l)(hx:Q0 bs w w')(hb:w.heap.size<=b)(bR:w.heap.size<=b2):Ob enc z ty base (bs++[b]++[b2]) w' o cap l:=⟨(h.step hx).own,((h.add hb).add bR).nb⟩
theorem Ob.sub(h:Ob enc z ty base bs w o cap l)(hs:∀x∈cs,x∈bs):Ob enc z ty base cs w o cap l:=⟨h.own,λx hx hm=>h.nb x hx (hs x hm)⟩
theorem Ob.mono{aC:Nat}(h:Ob enc z ty base bs w o cap l)(hb:aC<=base):Ob enc z ty aC bs w o cap l:=⟨h.own.mono hb,h.nb⟩
theorem Ob.rd[Inhabited α](h:Ob enc z ty base bs w o cap l)(hz:∀x,(enc x).length=z):Rd enc z bs w o l:=h.own.rd hz h.nb
end
theorem Rd.scb{α:Type}[Inhabited α]{enc:α->List Va}{z:Nat}{w0:Wo}{bs:List Nat}{w:Wo}{o:OA}{l:List α}(h:Rd enc z [] w0 o l)(hs:Sc w0 bs w):Rd enc z bs w o l:=(h.wide (cs:=bs) λx hm=>.inr (hs.new x hm)).ext hs.ext.of_nil
theorem H0{bs cs:List Nat}{w w':Wo}(hx:Q0 cs w w')(hs:∀b∈bs,b<w.heap.size)(hd:∀x∈cs,x∉bs):Q9 bs w w':=λx hm=>hx.block x (hs x hm) λgI=>hd x gI hm
theorem Ob.AA1{α:Type}[Inhabited α]{P:Program}{enc:α->List Va}{z:Nat}{ty t:TypeId}{bytes:Nat}{zero:α}(E:zrr P enc z ty bytes zero)(ht:P.underlying t=some (.slice ty)){base:Nat}{bs:List Nat}{w:Wo}{o:OA}{cap:Nat}{l:List α}(hO:Ob enc z ty base bs w o cap l)(hs:∀x∈bs,x<w.heap.size)(sR:base<=w.heap.size){x:α}{b:Nat}{t':TypeId}{fz:Nat×Nat}(hb:w.heap[b]? = some (.cells (enc x).toArray t' fz))(h1:Zl (enc x)=true)(hl:l.length<=1048576)(hby:bytes<=1000)(tr:TypeId)(cs:Array Bool) :
  ∃o' qB w',(builtin .append #[t,t] tr cs #[.slice o l.length cap,.slice (some ⟨b,0,none⟩) 1 1]).run P w=.ok (.value (.slice o' (l++[x]).length qB)) w'/\Q9 bs w w'/\Ob enc z ty base bs w' o' qB (l++[x])/\Q0 (QL o) w w':=by
 have hbb:(2*(l.length+1))*bytes<=281474976710656:=IB (Nat.mul_le_mul (show 2*(l.length+1)<=2097154 by omega) hby) Qd;obtain⟨o2,c2,w2,W8,jQ,R5,ho2⟩:=zyv E ht hO.own hb h1 hbb Qo tr cs sR;refine⟨o2,c2,w2,W8,λy hm=>R5.block y (hs y hm) λgI=>hO.nb y gI hm,⟨jQ,λy hy hm=>?_⟩,R5⟩;rcases ho2 with rfl | rfl
 ·exact hO.nb y hy hm
 ·have:y=w.heap.size:=by simpa[QL] using hy
  have:=hs y hm;omega
def X9(f:Nat->Int):Nat->Int
 | 0=>0
 | k+1=>X9 f k+f k
theorem T9{f:Nat->Int}{B:Int}(h:∀j,0<=f j/\f j<=B):∀k:Nat,0<=X9 f k/\X9 f k<=(k:Int)*B
 | 0=>by simp[X9]
 | k+1=>by
  have ih:=T9 h k;have:=h k;simp only[X9];rw[show ((k+1:Nat):Int)*B=(k:Int)*B+B by rw[show ((k+1:Nat):Int)=(k:Int)+1 by omega,Int.add_mul,Int.one_mul]];omega
theorem zpa(l:List Int)(x:Int):Xg (l++[x]) (l++[x]).length=Xg l l.length+x:=by
 have key:∀k:Nat,k<=l.length->Xg (l++[x]) k=Xg l k:=λk=>by
  induction k with
  | zero=>intro _; rfl
  | succ k ih=>
   intro hk;simp only[Xg];rw[ih Qo,JX (by simp; omega),JX Qo,List.getElem_append_left]
 rw[Io];show Xg (l++[x]) (l.length+1)=_;simp only[Xg];rw[key _ (I7 _),JX Qs];simp
theorem Ym(n:Int):0<=Qe n/\Qe n<=20:=by
 unfold Qe;split
 ·rename_i h;have:=Qv.1 h;omega
 ·omega
def H1(W:Q8)(c:Int)(j:Nat):Int:=if (((Q7 W (j:Int)).IZ==c)&&Z3 W (j:Int))=true then Qe (Q7 W (j:Int)).nice else 0
def zhm(W:Q8)(g c:Int)(j:Nat):Int:=if ((((Q7 W (j:Int)).state==1)&&((Q7 W (j:Int)).IZ==c))&&JP 3 W.ID g (Q7 W (j:Int)).group)=true then Qe (Q7 W (j:Int)).nice else 0
theorem z1b{W:Q8}{c:Int}{k:Nat}(h:(((Q7 W (k:Int)).IZ==c)&&Z3 W (k:Int))=true):H1 W c k=Qe (Q7 W (k:Int)).nice:=C' h
theorem zxj{W:Q8}{g c:Int}{k:Nat}(h:((((Q7 W (k:Int)).state==1)&&((Q7 W (k:Int)).IZ==c))&&JP 3 W.ID g (Q7 W (k:Int)).group)=true):zhm W g c k=Qe (Q7 W (k:Int)).nice:=C' h
theorem zxi{W:Q8}{g c:Int}{k:Nat}(h:((((Q7 W (k:Int)).state==1)&&((Q7 W (k:Int)).IZ==c))&&JP 3 W.ID g (Q7 W (k:Int)).group)=false):zhm W g c k=0:=B' (by rw[h]; decide)
def Uo(W:Q8)(c:Int):Int:=X9 (H1 W c) W.tasks.length
def Dt(W:Q8)(g c:Int):Int:=X9 (zhm W g c) W.tasks.length
theorem H2(W:Q8)(c:Int)(j:Nat):0<=H1 W c j/\H1 W c j<=20:=by
 unfold H1;split
 ·exact Ym _
 ·omega
theorem zds(W:Q8)(g c:Int)(j:Nat):0<=zhm W g c j/\zhm W g c j<=20:=by
 unfold zhm;split
 ·exact Ym _
 ·omega
def YK(W:Q8)(c:Int):Bool:=YP c 0 ((W.IE.length:Int)-1)
theorem US{W:Q8}{c:Int}(h:YK W c=true):0<=c/\c<(W.IE.length:Int):=by have:=Qv.1 h; omega
noncomputable def E0(W:Q8)(c:Int):Int:=if QD W=true/\YK W c=true then Uo W c else 0
theorem YI.li{W:Q8}(wp:YI W){t:Int}(t0:0<=t)(t1:t<(W.tasks.length:Int))(hs:(Q7 W t).state=1):Q6 W.ID (Q7 W t).group=true/\0<=(Q7 W t).IZ/\(Q7 W t).IZ<(W.IE.length:Int):=by
 have:=wp.a.t;exact Bm wp.a (wp.t t t0 Qo) hs
structure TU (W:Q8):Prop where
 a:WA W
 li:∀{t:Int},0<=t->t<(W.tasks.length:Int)->(Q7 W t).state=1->Q6 W.ID (Q7 W t).group=true/\0<=(Q7 W t).IZ/\(Q7 W t).IZ<(W.IE.length:Int)
structure Ua (W:Q8):Prop where
 c:W.IE.length<=maxLen
 t:W.tasks.length<=maxLen
 g:W.ID.length<=maxLen
 f:∀i:Int,0<=i->i<(W.ID.length:Int)->zpl (gi W.ID i)
section
variable {W:Q8}{m:MW}{w:Wo}{bs:List Nat}{p:OA}
theorem UH{c:Int}(h:XE bs w W m)(wp:YI W):PX bs Xj #[.agg (Qb W m).toArray,I c] w (I (Uo W c)):=
 ze6 _ _ _ _ _ _ _ _ _ _ c λwr hx=>by
  have h:=(h.ext hx).less (cs:=[]) Qs;have eM:=wp.a.t;intro _ _;refine TX W.tasks.length 0 rfl (λx k=>k<=W.tasks.length/\x=X9 (H1 W c) k) ⟨Ic _,rfl⟩ λx k ⟨hk,R5⟩=>⟨λIN=>?_,λRx=>?_⟩
  ·have IN:=Ot IN;have hr:=T9 (H2 W c) k;have hw:=Ym (Q7 W (k:Int)).nice;have eF:H1 W c k=if (((Q7 W (k:Int)).IZ==c)&&Z3 W (k:Int))=true then Qe (Q7 W (k:Int)).nice else 0:=rfl;refine⟨h.t.ix QF Qo IN,_,h.t.f Qo IN (j:=0) rfl,λ_=>h.t.ix QF Qo IN,_,λ_=>h.t.f Qo IN (j:=2) rfl,Z3 W (k:Int),λ_=>JZ h wp.a Qo IN λhs=>wp.li Qo IN hs,λg2=>⟨h.t.ix QF Qo IN,_,h.t.f Qo IN (j:=3) rfl,Qe (Q7 W (k:Int)).nice,ZZ,⟨Qo,Qo⟩,⟨Qo,Qo⟩,QH Qo ⟨Qo,?_⟩⟩,λg2=>⟨⟨Qo,Qo⟩,QH Qo ⟨Qo,?_⟩⟩⟩
   ·have g2:((((Q7 W (k:Int)).state==1)&&((Q7 W (k:Int)).IZ==c))&&Z3 W (k:Int))=true:=g2;simp only[A'] at g2;simp only[X9]; rw[eF,C' (by rw[g2.1.2,g2.2]; rfl),R5]
   ·have g2:((((Q7 W (k:Int)).state==1)&&((Q7 W (k:Int)).IZ==c))&&Z3 W (k:Int))=false:=g2
    simp only[X9]; rw[eF,B' (λhc=>by
     simp only[A'] at hc;have hl:=hc.2;unfold Z3 at hl;simp only[A'] at hl;rw[hc.1,hc.2,hl.1] at g2
     cases g2),R5]; omega
  ·have Rx:=Ou Rx;have:k=W.tasks.length:=Qo;subst this;rw[R5]; rfl
theorem zd8{c:Int}(h:XE bs w W m)(hl:Ua W):PX bs Pt #[.agg (Qb W m).toArray,I c] w (I (E0 W c)):=
 ze0 _ _ _ _ _ _ _ _ _ _ c λwr hx=>by
  have h:=(h.ext hx).less (cs:=[]) Qs;have hm:=XD;have hlc:=hl.c;intro _ _;refine⟨_,YC h hl.c hl.t hl.g hl.f,λ_=>⟨Qo,Qo⟩,_,λ_=>Qm,λg=>?_,λg=>?_⟩
  ·unfold E0;rw[B'];rintro⟨h1,h2⟩;have h2:YP c 0 (((W.IE.length:Nat):Int)-1)=true:=h2;rw[h1,h2] at g; cases g
  ·simp only[H',I6] at g;have e:E0 W c=Uo W c:=by unfold E0; rw[C' ⟨g.1,g.2⟩]
   exact⟨_,UH h (Qj.1 g.1),by rw[e]⟩
theorem L2{g c:Int}(h:XE bs w W m)(wp:TU W)(hl:Ua W)(hu:Q6 W.ID g=true):PX bs Uk #[.agg (Qb W m).toArray,I g,I c] w (I (Dt W g c)):=
 Aq _ _ _ _ _ _ _ _ _ _ g c λwr hx=>by
  have h:=(h.ext hx).less (cs:=[]) Qs;have eM:=wp.a.t;intro _ _;refine TX W.tasks.length 0 rfl (λx k=>k<=W.tasks.length/\x=X9 (zhm W g c) k) ⟨Ic _,rfl⟩ λx k ⟨hk,R5⟩=>⟨λIN=>?_,λRx=>?_⟩
  ·have IN:=Ot IN;have hr:=T9 (zds W g c) k;have hw:=Ym (Q7 W (k:Int)).nice
   have hun:(((Q7 W (k:Int)).state==1)&&((Q7 W (k:Int)).IZ==c))=true->PE W.ID g (Q7 W (k:Int)).group=JP 3 W.ID g (Q7 W (k:Int)).group:=λq=>by
    simp only[A',Is] at q;unfold PE;rw[Tf.2 wp.a.tree,hu,(wp.li Qo IN q.1).1]; rfl
   have eF:zhm W g c k=if ((((Q7 W (k:Int)).state==1)&&((Q7 W (k:Int)).IZ==c))&&JP 3 W.ID g (Q7 W (k:Int)).group)=true then Qe (Q7 W (k:Int)).nice else 0:=rfl
   have e2:((((Q7 W (k:Int)).state==1)&&((Q7 W (k:Int)).IZ==c))&&JP 3 W.ID g (Q7 W (k:Int)).group)=((((Q7 W (k:Int)).state==1)&&((Q7 W (k:Int)).IZ==c))&&PE W.ID g (Q7 W (k:Int)).group):=by
    cases hq:(((Q7 W (k:Int)).state==1)&&((Q7 W (k:Int)).IZ==c)) with
    | false=>rfl
    | true=>rw[hun hq]
   refine⟨h.t.ix QF Qo IN,_,_,_,_,_,_,_,_,_,h.t k Qo IN,λ_ _=>⟨PE W.ID g (Q7 W (k:Int)).group,λ_=>OG h.g hl.g,λg2=>⟨Qe (Q7 W (k:Int)).nice,ZZ,⟨Qo,Qo⟩,⟨Qo,Qo⟩,QH Qo ⟨Qo,?_⟩⟩,λg2=>⟨⟨Qo,Qo⟩,QH Qo ⟨Qo,?_⟩⟩⟩⟩
   ·simp only[X9]; rw[zxj (W:=W) (g:=g) (c:=c) (k:=k) (e2.trans g2),R5]
   ·simp only[X9]; rw[zxi (W:=W) (g:=g) (c:=c) (k:=k) (e2.trans g2),R5]; omega
  ·have Rx:=Ou Rx;have:k=W.tasks.length:=Qo;subst this;rw[R5]; rfl
theorem z35{b:Nat}{wb w1:Wo}{t:TypeId}(Ss:wb.heap[b]? = some (.cells (Qb W m).toArray t (0,0)))(h:XE [] wb W m)(hx:Q0 [] wb w1)(hbs:∀x∈bs,wb.heap.size<=x):Tj bs w1 (some ⟨b,0,none⟩) W m:=by
 have hbn:b∉bs:=λhm=>by
  have:=hbs b hm;have:=JG Ss;omega
 have hrd:XE bs w1 W m:=(h.wide (cs:=bs) λx hm=>.inr (hbs x hm)).ext hx.of_nil;exact⟨VQ (QB Ss hx Qs) hbn (k0:=0) λj v hj=>by rw[Nat.zero_add,Nat.zero_add]; exact hj,hrd⟩
theorem Tj.sc{w0 w1:Wo}(h:Tj [] w0 p W m)(s:Sc w0 bs w1):Tj bs w1 p W m:=(h.wide (cs:=bs) λx hm=>.inr (s.new x hm)).ext s.ext.of_nil
theorem Ly{l:List Int}{o:OA}{c:Nat}(h:zm9 bs w o l)(hl:l.length<=1000)(hr:∀x∈l,0<=x/\x<=1000000):PX bs Vr #[.slice o l.length c] w (I (Xg l l.length)):=
 zmh o l.length c λwr hx=>by
  have h:=(h.ext hx).less (cs:=[]) Qs;have hs:=zfz (l:=l) (q:=1000000) (λi h0 h1=>hr _ (NN h0 h1)) Qd;refine TX l.length 0 rfl (λx k=>k<=l.length/\x=Xg l k) ⟨Ic _,rfl⟩ λx k ⟨hk,R5⟩=>⟨λIN=>?_,λRx=>?_⟩
  ·have IN:=Ot IN;have h1:=hs k hk;have h2:=hr _ (NN (l:=l) (i:=(k:Int)) Qo IN);exact⟨h.ix XV Qo IN,_,h k Qo IN,⟨Qo,Qo⟩,⟨Qo,Qo⟩,QH Qo ⟨Qo,by simp only[Xg]; rw[R5]⟩⟩
  ·have Rx:=Ou Rx;have:k=l.length:=Qo;subst this;rw[R5]
theorem OT{t:Int}(h:Tj bs w p W m)(t0:0<=t)(t1:t<(W.tasks.length:Int)):PX bs Yq #[.pointer p,I t] w (I (Qe (Q7 W t).nice)):=
 Dz p t λwr hx=>by
  have h:=(h.ext hx).less (cs:=[]) Qs;exact⟨h.some,_,_,_,h.tasks,h.rd.t.ix QF t0 t1,_,h.rd.t.f t0 t1 (j:=3) rfl,_,Py,rfl⟩
theorem Pb{c:Int}(h:Tj bs w p W m)(wp:YI W)(c0:0<=c)(c1:c<(W.IE.length:Int)):PX bs YB #[.agg #[.pointer p,I c]] w (I (Uo W c)):=by
 refine O1 λuU mZ=>Nx p c (R:=λv w'=>v=I (Uo W c)/\Q0 [] uU w') ?_
 have h:=(h.ext mZ).less (cs:=[]) Qs;have eM:=wp.a.t;intro b hb;refine⟨h.some,_,_,_,h.tasks,?_⟩
 refine⟨λvs w1=>∃(k:Nat) (ws:List Int) (o:OA) (c':Nat),vs=[.slice o ws.length c',I (k:Int)]/\k<=W.tasks.length/\ws.length<=k/\(∀x∈ws,0<=x/\x<=20)/\Xg ws ws.length=X9 (H1 W c) k/\Sc uU [b] w1/\Ob Jz 1 Qc uU.heap.size [b] w1 o c' ws,Zt W.tasks.length 1,
  λwr hx _=>⟨0,[],none,0,rfl,Ic _,I7 _,Qs,rfl,((Sc.start uU).R4 hx |> λs=>⟨s.ext,by simpa using hb⟩),⟨.inl ⟨rfl,rfl,rfl⟩,by simp[QL]⟩⟩,?_⟩
 rintro o1 L1 C1 x w1 bX ⟨k,ws,o',c',he,hk,hlen,hws,BF0,s1,hO⟩;simp only[I4,I5,Iv,true_and,and_true] at he;obtain⟨⟨rfl,rfl,rfl⟩,rfl⟩:=he;refine⟨λIN=>?_,λRx=>?_⟩
 ·have IN:=Ot IN;have hp:=h.sc s1;have hw:=Ym (Q7 W (k:Int)).nice;have eF:H1 W c k=if (((Q7 W (k:Int)).IZ==c)&&Z3 W (k:Int))=true then Qe (Q7 W (k:Int)).nice else 0:=rfl;refine⟨_,OS hp wp.a Qo IN c0 c1 λhs=>(wp.li Qo IN hs).1,λg=>⟨_,OT hp Qo IN,λb1 cJ I' RZ SR Ss=>?_⟩,λg=>⟨⟨Qo,Qo⟩,λRr R6 _=>⟨⟨k+1,ws,o1,C1,Qs,Qo,Qo,hws,?_,s1.step R6,hO.step R6⟩,Zd (k:=k) rfl rfl Qo⟩⟩⟩
  ·have s2:=s1.put RZ cJ;have jQ:=hO.put RZ cJ;obtain⟨o2,c2,w2,W8,uP,zW,R5⟩:=jQ.AA1 Y5 Vx (x:=Qe (Q7 W (k:Int)).nice) SR s2.ext.size Ss (zu0 _) Qo Qd Z9 #[false,false];have s3:=s2.call R5 λx hm=>(jQ.own.lt x hm).1
   refine⟨_,_,_,w2,W8,uP,⟨Qo,Qo⟩,λM' R6 _=>⟨⟨k+1,ws++[Qe (Q7 W (k:Int)).nice],o2,c2,Qs,Qo,by simp; omega,λx hm=>?_,?_,(s3.step R6).sub Qs,(zW.step R6).sub Qs⟩,Zd (k:=k) rfl rfl Qo⟩⟩
   ·rcases Im.1 hm with hm | hm
    ·exact hws x hm
    ·have:x=Qe (Q7 W (k:Int)).nice:=by simpa using hm
     rw[this]; exact hw
   ·rw[zpa,BF0];simp only[X9]; rw[eF,C' g]
  ·simp only[X9]; rw[eF,B' (by rw[g]; decide),BF0]; omega
 ·have Rx:=Ou Rx;have:k=W.tasks.length:=Qo;subst this;refine⟨_,Ly (hO.rd Y5.len) Qo (λx hm=>by have:=hws x hm; omega),λRu SK=>⟨?_,(s1.step SK).ext⟩⟩;rw[BF0]; rfl
theorem zql{g c:Int}(h:Tj bs w p W m)(wp:TU W):PX bs Vj #[.agg #[.pointer p,I c],I g] w (I (Dt W g c)):=by
 refine O1 λuU mZ=>Ep p c g (R:=λv w'=>v=I (Dt W g c)/\Q0 [] uU w') ?_
 have h:=(h.ext mZ).less (cs:=[]) Qs;have eM:=wp.a.t;intro b hb;refine⟨h.some,_,_,_,h.tasks,?_⟩
 refine⟨λvs w1=>∃(k:Nat) (ws:List Int) (o:OA) (c':Nat),vs=[.slice o ws.length c',I (k:Int)]/\k<=W.tasks.length/\ws.length<=k/\(∀x∈ws,0<=x/\x<=20)/\Xg ws ws.length=X9 (zhm W g c) k/\Sc uU [b] w1/\Ob Jz 1 Qc uU.heap.size [b] w1 o c' ws,Zt W.tasks.length 1,
  λwr hx _=>⟨0,[],none,0,rfl,Ic _,I7 _,Qs,rfl,((Sc.start uU).R4 hx |> λs=>⟨s.ext,by simpa using hb⟩),⟨.inl ⟨rfl,rfl,rfl⟩,by simp[QL]⟩⟩,?_⟩
 rintro o1 L1 C1 x w1 bX ⟨k,ws,o',c',he,hk,hlen,hws,BF0,s1,hO⟩;simp only[I4,I5,Iv,true_and,and_true] at he;obtain⟨⟨rfl,rfl,rfl⟩,rfl⟩:=he;refine⟨λIN=>?_,λRx=>?_⟩
 ·have IN:=Ot IN;have hp:=h.sc s1;have hw:=Ym (Q7 W (k:Int)).nice;have eF:zhm W g c k=if ((((Q7 W (k:Int)).state==1)&&((Q7 W (k:Int)).IZ==c))&&JP 3 W.ID g (Q7 W (k:Int)).group)=true then Qe (Q7 W (k:Int)).nice else 0:=rfl
  refine⟨h.rd.t.ix QF Qo IN,_,_,_,_,_,_,_,_,_,hp.rd.t k Qo IN,λb1 cJ=>⟨λ_=>h.some,_,_,_,λ_=>hp.ID,_,λq=>Kz (c:=m.gC) hp.rd.g wp.a.tree (by
   simp only[A',Is] at q;exact(wp.li Qo IN q.1).1),λq=>⟨_,OT hp Qo IN,λb2 bR I' RZ SR Ss=>?_⟩,λq=>⟨⟨Qo,Qo⟩,λRr R6 _=>⟨⟨k+1,ws,o1,C1,Qs,Qo,Qo,hws,?_,s1.step R6,hO.step R6⟩,Zd (k:=k) rfl rfl Qo⟩⟩⟩⟩
  ·have s2:=s1.AG3 RZ cJ bR;have jQ:=hO.AG3 RZ cJ bR;obtain⟨o2,c2,w2,W8,uP,zW,R5⟩:=jQ.AA1 Y5 Vx (x:=Qe (Q7 W (k:Int)).nice) SR s2.ext.size Ss (zu0 _) Qo Qd Z9 #[false,false];have s3:=s2.call R5 λx hm=>(jQ.own.lt x hm).1
   refine⟨_,_,_,w2,W8,uP,⟨Qo,Qo⟩,λM' R6 _=>⟨⟨k+1,ws++[Qe (Q7 W (k:Int)).nice],o2,c2,Qs,Qo,by simp; omega,λx hm=>?_,?_,(s3.step R6).sub Qs,(zW.step R6).sub Qs⟩,Zd (k:=k) rfl rfl Qo⟩⟩
   ·rcases Im.1 hm with hm | hm
    ·exact hws x hm
    ·have:x=Qe (Q7 W (k:Int)).nice:=by simpa using hm
     rw[this]; exact hw
   ·rw[zpa,BF0];simp only[X9]; rw[zxj (W:=W) (g:=g) (c:=c) (k:=k) q]
  ·simp only[X9]; rw[zxi (W:=W) (g:=g) (c:=c) (k:=k) q,BF0]; omega
 ·have Rx:=Ou Rx;have:k=W.tasks.length:=Qo;subst this;refine⟨_,Ly (hO.rd Y5.len) Qo (λx hm=>by have:=hws x hm; omega),λRu SK=>⟨?_,(s1.step SK).ext⟩⟩;rw[BF0]; rfl
theorem zdv{c:Int}(h:XE bs w W m)(hl:Ua W):PX bs Pq #[.agg (Qb W m).toArray,I c] w (I (E0 W c)):=by
 refine O1 λuU mZ=>zc1 _ _ _ _ _ _ _ _ _ _ c (R:=λv w'=>v=I (E0 W c)/\Q0 [] uU w') ?_
 have h:=(h.ext mZ).less (cs:=[]) Qs;intro b wb hxb hb Ss _;have hrd:=h.ext hxb;have hp:=z35 (bs:=[]) Ss hrd (Q0.refl _ _) Qs;refine⟨_,_,_,_,_,_,_,_,_,_,hp.cs,_,GS hrd hl.c hl.g hl.f,YK W c,λ_=>by exact LY hp hl.c,λg wr hx=>⟨?_,hxb.trans hx⟩,λg=>?_⟩
 ·unfold E0;rw[B'];rintro⟨h1,h2⟩;rw[h1,h2] at g; cases g
 simp only[H',I6] at g;have wp:=Qj.1 g.1;obtain⟨c0,c1⟩:=US g.2;have e:E0 W c=Uo W c:=by unfold E0; rw[C' ⟨g.1,g.2⟩]
 rw[e];exact⟨some ⟨b,0,none⟩,c,by exact ZR,_,Pb hp wp c0 c1,λwr hx=>⟨rfl,hxb.trans hx⟩⟩
end
def QY(p:Nat->Bool)(v:Nat->Int):Nat->Int
 | 0 => -1
 | k+1=>if (p k&&(decide (QY p v k<0)||decide (v k<v (QY p v k).toNat)))=true then (k:Int) else QY p v k
theorem Zu(p:Nat->Bool)(v:Nat->Int):∀k:Nat,(QY p v k = -1/\∀j,j<k->p j=false) \/
  (0<=QY p v k/\QY p v k<(k:Int)/\p (QY p v k).toNat=true/\(∀j,j<k->p j=true->v (QY p v k).toNat<=v j)/\∀j:Nat,(j:Int)<QY p v k->p j=true->v (QY p v k).toNat<v j)
 | 0=>.inl ⟨rfl,λj hj=>Ir hj (Nat.not_lt_zero j)⟩
 | k+1=>by
  simp only[QY];split
  ·rename_i h;simp only[A',Iu,Ij] at h;refine .inr ⟨Qo,Qo,by simpa using h.1,λj hj hp=>?_,λj hj hp=>?_⟩
   ·rw[Ig]
    by_cases fN:j=k
    ·subst fN; exact I2 _
    ·rcases Zu p v k with ⟨_,h2⟩ | ⟨h1,_,_,h4,_⟩
     ·rw[h2 j Qo] at hp; cases hp
     ·have:=h4 j Qo hp;rcases h.2 with h5 | h5 <;> omega
   ·rw[Ig];rcases Zu p v k with ⟨_,h2⟩ | ⟨h1,_,_,h4,_⟩
    ·rw[h2 j Qo] at hp; cases hp
    ·have:=h4 j Qo hp;rcases h.2 with h5 | h5 <;> omega
  ·rename_i h;rcases Zu p v k with ⟨h1,h2⟩ | ⟨h1,h2,h3,h4,h5⟩
   ·refine .inl ⟨h1,λj hj=>?_⟩
    by_cases fN:j=k
    ·subst fN
     cases hp:p j with
     | false=>rfl
     | true=>
      exfalso; apply h
      rw[hp,h1]; rfl
    ·exact h2 j Qo
   ·refine .inr ⟨h1,Qo,h3,λj hj hp=>?_,h5⟩
    by_cases fN:j=k
    ·subst fN;rcases Int.lt_or_le (v j) (v (QY p v j).toNat) with h6 | h6
     ·exfalso; apply h
      rw[hp,Ih h6]; simp
     ·exact h6
    ·exact h4 j Qo hp
theorem zqp{p:Nat->Bool}{v:Nat->Int}{n k:Nat}(hk:k<n)(hp:p k=true)(h0:0<=QY p v n)(hv:v k=v (QY p v n).toNat)(hb:∀j,j<k->p j=true->v j≠v (QY p v n).toNat):QY p v n=(k:Int):=by
 rcases Zu p v n with ⟨h1,_⟩ | ⟨_,h2,h3,h4,h5⟩
 ·omega
 ·by_cases IN:(k:Int)<QY p v n
  ·have:=h5 k IN hp; omega
  ·by_cases hgt:QY p v n<(k:Int)
   ·exact Ir rfl (hb _ Qo h3)
   ·omega
def Zq(W:Q8)(g c:Int)(i:Nat):Bool:=if i<12 then Od W g c i else Jd W g c (i-12)
def Zm(W:Q8)(c:Int)(i:Nat):Int:=if i<12 then (Q7 W (i:Int)).v else (Qa W ((i-12:Nat):Int) c).v
def QW(W:Q8)(g c:Int):Int:=QY (Zq W g c) (Zm W c) 20
def zsu:Nat->Q8->Int->Int->Int
 | 0,_,_,_ => -1
 | f+1,W,g,c=>if QW W g c<0 then -1 else if QW W g c<12 then QW W g c else zsu f W (QW W g c-12) c
def L6(W:Q8)(g c:Int):Int:=zsu (4-dep 3 W.ID g).toNat W g c
def Qw(W:Q8)(c:Int):Int:=if (gi W.IE c).cur>=0/\(gi W.IE c).WQ<50 then (gi W.IE c).cur else L6 W 0 c
theorem Vo{W:Q8}{g c:Int}{i:Nat}(h:i<12):Zq W g c i=Od W g c i:=C' h
theorem Uc{W:Q8}{g c:Int}{i:Nat}:Zq W g c (12+i)=Jd W g c i:=by
 unfold Zq;rw[B' Qo,show 12+i-12=i by omega]
theorem EJ{W:Q8}{c:Int}{i:Nat}(h:i<12):Zm W c i=(Q7 W (i:Int)).v:=C' h
theorem EI{W:Q8}{c:Int}{i:Nat}:Zm W c (12+i)=(Qa W (i:Int) c).v:=by
 unfold Zm;rw[B' Qo,show 12+i-12=i by omega]
theorem zsq(W:Q8)(g c:Int):Zq W g c 12=false:=by
 rw[show (12:Nat)=12+0 from rfl,Uc]; rfl
theorem HF{W:Q8}{g c:Int}(ha:WA W)(hu:Q6 W.ID g=true)(h:12<=QW W g c):Q6 W.ID (QW W g c-12)=true/\QW W g c-12≠0/\dep 3 W.ID (QW W g c-12)=dep 3 W.ID g+1/\QW W g c<20:=by
 unfold QW at *;rcases Zu (Zq W g c) (Zm W c) 20 with ⟨h1,_⟩ | ⟨h1,h2,h3,_,_⟩
 ·omega
 ·have e:(QY (Zq W g c) (Zm W c) 20).toNat=12+((QY (Zq W g c) (Zm W c) 20).toNat-12):=Qo;rw[e,Uc] at h3;unfold Jd at h3;simp only[A',Ij,Is] at h3;obtain⟨⟨k1,k2,k3⟩,_⟩:=h3;have ek:(((QY (Zq W g c) (Zm W c) 20).toNat-12:Nat):Int)=QY (Zq W g c) (Zm W c) 20-12:=Qo;rw[ek] at k2 k3;have bZ:=ha.gl;have hk:Q6 W.ID (QY (Zq W g c) (Zm W c) 20-12)=true:=Q4.2 ⟨Qo,Qo,k2⟩;have hz:QY (Zq W g c) (Zm W c) 20-12≠0:=Qo;obtain⟨_,_,_,d,e1,e2,_⟩:=Y3 ha.tree hk hz;rw[k3] at e2;exact⟨hk,hz,Qo,Qo⟩
theorem GD{W:Q8}(ha:WA W){g:Int}(hu:Q6 W.ID g=true):0<=dep 3 W.ID g/\dep 3 W.ID g<=3:=by
 have hr:=Of W.ID 3 g
 by_cases hz:g=0
 ·subst hz; rw[Yj]; omega
 ·obtain⟨_,_,_,d,e1,_⟩:=Y3 ha.tree hu hz;omega
theorem Aa{W:Q8}(ha:WA W){g c:Int}(hu:Q6 W.ID g=true):L6 W g c=if QW W g c<0 then -1 else if QW W g c<12 then QW W g c else L6 W (QW W g c-12) c:=by
 have hd:=GD ha hu;have e:(4-dep 3 W.ID g).toNat=(3-dep 3 W.ID g).toNat+1:=Qo;show zsu (4-dep 3 W.ID g).toNat W g c=_;rw[e];simp only[zsu];split
 ·rfl
 ·split
  ·rfl
  ·obtain⟨_,_,hk,_⟩:=HF ha hu (c:=c) Qo;unfold L6;rw[hk,show (4-(dep 3 W.ID g+1))=3-dep 3 W.ID g by omega]
section
variable {W:Q8}{m:MW}{w:Wo}{bs:List Nat}{p:OA}
def Z2(W:Q8)(g c:Int)(k:Nat):Int:=if QY (Zq W g c) (Zm W c) k<0 then 0 else Zm W c (QY (Zq W g c) (Zm W c) k).toNat
def Zx(W:Q8)(g c:Int)(k:Nat):Bool:=decide (0<=QY (Zq W g c) (Zm W c) k)
theorem zi9{W:Q8}{g c:Int}{k:Nat}:(decide (QY (Zq W g c) (Zm W c) k<0)||decide (Zm W c k<Zm W c (QY (Zq W g c) (Zm W c) k).toNat))=(!Zx W g c k||decide (Zm W c k<Z2 W g c k)):=by
 unfold Zx Z2
 by_cases h:QY (Zq W g c) (Zm W c) k<0
 ·have h2:decide (0<=QY (Zq W g c) (Zm W c) k)=false:=decide_eq_false Qo;rw[C' h,Ih h,h2]; rfl
 ·have h2:decide (0<=QY (Zq W g c) (Zm W c) k)=true:=Ih Qo;rw[B' h,decide_eq_false h,h2]; rfl
theorem FJ{W:Q8}{g c:Int}{k:Nat}(h:(Zq W g c k&&(!Zx W g c k||decide (Zm W c k<Z2 W g c k)))=true):Z2 W g c (k+1)=Zm W c k/\Zx W g c (k+1)=true:=by
 rw[<-zi9] at h
 have e:QY (Zq W g c) (Zm W c) (k+1)=(k:Int):=by
  simp only[QY]; rw[C' h]
 unfold Z2 Zx;rw[e,B' Qo,Ig];exact⟨rfl,Ih Qo⟩
theorem FI{W:Q8}{g c:Int}{k:Nat}(h:(Zq W g c k&&(!Zx W g c k||decide (Zm W c k<Z2 W g c k)))=false):Z2 W g c (k+1)=Z2 W g c k/\Zx W g c (k+1)=Zx W g c k:=by
 rw[<-zi9] at h
 have e:QY (Zq W g c) (Zm W c) (k+1)=QY (Zq W g c) (Zm W c) k:=by
  simp only[QY]; rw[B' (by rw[h]; decide)]
 unfold Z2 Zx;rw[e];exact⟨rfl,rfl⟩
theorem GX{g c:Int}(h:XE bs w W m)(ha:WA W)(c0:0<=c)(c1:c<(W.IE.length:Int)):PX bs VI #[.agg (Qb W m).toArray,I g,I c] w (.tuple #[I (Z2 W g c 20),.bool (Zx W g c 20)]):=
 zfa _ _ _ _ _ _ _ _ _ _ g c λwr hx=>by
  have h:=(h.ext hx).less (cs:=[]) Qs;have bZ:=ha.gl;have eM:=ha.t;intro _ _;refine⟨λvs=>∃k:Nat,k<=12/\vs=[I (Z2 W g c k),.bool (Zx W g c k),I (k:Int)],Xy 12 2,⟨0,Qo,rfl⟩,?_⟩;rintro aM some t ⟨k,hk,he⟩;simp only[I4,I5,Value.bool.injEq,true_and,and_true] at he;obtain⟨rfl,rfl,rfl⟩:=he;refine⟨λIN=>?_,λRx=>?_⟩
  ·have IN:=Ot IN;have uI:k<12:=Qo;refine⟨h.t.ix QF Qo IN,_,_,_,_,_,_,_,_,_,h.t k Qo IN,λ_ _=>⟨λq=>⟨⟨Qo,Qo⟩,⟨k+1,Qo,?_⟩,Zd (k:=k) rfl rfl uI⟩,λq=>⟨⟨Qo,Qo⟩,⟨k+1,Qo,?_⟩,Zd (k:=k) rfl rfl uI⟩⟩⟩
   ·have q':(Zq W g c k&&(!Zx W g c k||decide (Zm W c k<Z2 W g c k)))=true:=by rw[Vo uI,EJ uI]; exact q
    obtain⟨e1,e2⟩:=FJ q';rw[e1,e2,EJ uI]; simp[Q7]
   ·have q':(Zq W g c k&&(!Zx W g c k||decide (Zm W c k<Z2 W g c k)))=false:=by rw[Vo uI,EJ uI]; exact q
    obtain⟨e1,e2⟩:=FI q';rw[e1,e2]; simp
  ·have Rx:=Ou Rx;have:k=12:=Qo;subst this;have e12:Z2 W g c 13=Z2 W g c 12/\Zx W g c 13=Zx W g c 12:=FI (by rw[zsq]; rfl);refine⟨λvs=>∃k:Nat,1<=k/\k<=8/\vs=[I (Z2 W g c (12+k)),.bool (Zx W g c (12+k)),I (k:Int)],Xy 8 2,⟨1,Qo,Qo,by rw[show 12+1=13 from rfl,e12.1,e12.2]; rfl⟩,?_⟩;rintro jC C84 t1 ⟨k,hk1,hk,he⟩;simp only[I4,I5,Value.bool.injEq,true_and,and_true] at he;obtain⟨rfl,rfl,rfl⟩:=he;refine⟨λIN=>?_,λRx=>?_⟩
   ·have IN:=Ot IN;have dS:(0:Int)<=(k:Int):=Qo
    have used:∀{x:Bool},(((gi W.ID (k:Int)).used&&((gi W.ID (k:Int)).parent==g))&&x)=true->Q6 W.ID (k:Int)=true/\c<((gi W.ID (k:Int)).IF.length:Int):=λ{x} q=>by
     simp only[A'] at q;have hu:=zm5 IN q.1.1;exact⟨hu,by rw[ha.sl hu]; exact c1⟩
    have eA:Jd W g c k=(((gi W.ID (k:Int)).used&&((gi W.ID (k:Int)).parent==g))&&(Qa W (k:Int) c).on):=by
     unfold Jd; rw[Ih hk1,Bool.true_and]
    have eP:Zq W g c (12+k)=(((gi W.ID (k:Int)).used&&((gi W.ID (k:Int)).parent==g))&&(Qa W (k:Int) c).on):=by rw[Uc,eA]
    refine⟨h.g.ix dS IN,_,h.g.used dS IN,λ_=>h.g.ix dS IN,_,λ_=>h.g.parent dS IN,(Qa W (k:Int) c).on,λq=>VN h ha (used (x:=true) (by rw[q]; rfl)).1 c0 c1,λ_ _=>h.g.ix dS IN,_,_,_,λ_ _=>h.g.R0 dS IN,λ_ q=>(h.g.IF _ dS IN).ix X0 c0 (used q).2,(Qa W (k:Int) c).v,λ_ q=>zna.f (h.g.IF _ dS IN) c0 (used q).2 (j:=2) rfl,λq=>?_,λq=>⟨⟨Qo,Qo⟩,⟨k+1,Qo,Qo,?_⟩,Zd (k:=k) rfl rfl Qo⟩⟩
    ·have q2:=q;simp only[A'] at q2;have hu:=used (x:=(Qa W (k:Int) c).on) (by simp only[A']; exact q2.1);have q':(Zq W g c (12+k)&&(!Zx W g c (12+k)||decide (Zm W c (12+k)<Z2 W g c (12+k))))=true:=by rw[eP,EI]; exact q
     obtain⟨e1,e2⟩:=FJ q';refine⟨h.g.ix dS IN,_,_,_,h.g.R0 dS IN,(h.g.IF _ dS IN).ix X0 c0 hu.2,_,zna.f (h.g.IF _ dS IN) c0 hu.2 (j:=2) rfl,⟨Qo,Qo⟩,⟨k+1,Qo,Qo,?_⟩,Zd (k:=k) rfl rfl Qo⟩;rw[show 12+(k+1)=12+k+1 from rfl,e1,e2,EI]; simp[Qa]
    ·have q':(Zq W g c (12+k)&&(!Zx W g c (12+k)||decide (Zm W c (12+k)<Z2 W g c (12+k))))=false:=by rw[eP,EI]; exact q
     obtain⟨e1,e2⟩:=FI q';rw[show 12+(k+1)=12+k+1 from rfl,e1,e2]; simp
   ·have Rx:=Ou Rx;have:k=8:=Qo;subst this;rfl
theorem zh4{g c:Int}(h:XE bs w W m)(ha:WA W)(hu:Q6 W.ID g=true)(c0:0<=c)(c1:c<(W.IE.length:Int)):PX bs UE #[.agg (Qb W m).toArray,I g,I c] w (I (L6 W g c)):=by
 have bZ:=ha.gl;have eM:=ha.t
 have key:∀(n:Nat) (g:Int),Q6 W.ID g=true->(3-dep 3 W.ID g).toNat=n->∀{bs:List Nat} {w:Wo},XE bs w W m->PX bs UE #[.agg (Qb W m).toArray,I g,I c] w (I (L6 W g c)):=by
  intro n
  induction n using Nat.strongRecOn with
  | ind n ih=>
   intro g hu hn bs w h;refine ziy _ _ _ _ _ _ _ _ _ _ g c λwr hx=>?_
   have h:=(h.ext hx).less (cs:=[]) Qs;have cA:=Aa ha hu (c:=c);have hd:=GD ha hu;intro _ _;refine⟨_,_,GX h ha c0 c1,λq=>?_,λq=>?_⟩
   ·have q:¬0<=QY (Zq W g c) (Zm W c) 20:=by
     unfold Zx at q
     simpa using q
    have q:¬0<=QW W g c:=q;rw[cA,C' Qo]
   have hF0:0<=QY (Zq W g c) (Zm W c) 20:=by
    unfold Zx at q
    simpa using q
   have hF:0<=QW W g c:=hF0
   have AZ7:Z2 W g c 20=Zm W c (QW W g c).toNat:=by
    show (if QW W g c<0 then 0 else Zm W c (QW W g c).toNat)=_;rw[B' (show ¬QW W g c<0 by omega)]
   have found:∀k:Nat,k<20->Zq W g c k=true->Zm W c k=Z2 W g c 20->(∀j,j<k->Zq W g c j=true->Zm W c j≠Z2 W g c 20)->QW W g c=(k:Int):=λk hk hp hv hb=>by
    rw[AZ7] at hv hb;exact zqp hk hp hF hv hb
   refine⟨λvs=>∃k:Nat,vs=[I (k:Int)]/\k<=12/\∀j,j<k->Zq W g c j=true->Zm W c j≠Z2 W g c 20,Xy 12 0,⟨0,rfl,Qo,λj hj=>Ir hj (Nat.not_lt_zero j)⟩,?_⟩;rintro t ⟨k,he,hk,hI⟩;simp only[I4,I5,true_and,and_true] at he;subst he;refine⟨λIN=>?_,λRx=>?_⟩
   ·have IN:=Ot IN;have uI:k<12:=Qo;refine⟨h.t.ix QF Qo IN,_,_,_,_,_,_,_,_,_,h.t k Qo IN,λb1 cJ=>⟨λq2=>?_,λq2=>⟨⟨Qo,Qo⟩,⟨k+1,Qs,Qo,λj hj hp hv=>?_⟩,Zd (k:=k) rfl rfl uI⟩⟩⟩
    ·have q2':(Od W g c k&&((Q7 W (k:Int)).v==Z2 W g c 20))=true:=q2;simp only[A',Is] at q2';have:=found k Qo (by rw[Vo uI]; exact q2'.1) (by rw[EJ uI]; exact q2'.2) hI;rw[cA,B' Qo,C' Qo,this]
    ·by_cases fN:j<k
     ·exact hI j fN hp hv
     ·have:j=k:=Qo;subst this;rw[Vo uI] at hp;rw[EJ uI] at hv;have q2':(Od W g c j&&((Q7 W (j:Int)).v==Z2 W g c 20))=false:=q2;rw[hp,hv] at q2';simp at q2'
   ·have Rx:=Ou Rx;have:k=12:=Qo;subst this
    refine⟨λvs=>∃k:Nat,vs=[I (k:Int)]/\1<=k/\k<=8/\∀j,j<12+k->Zq W g c j=true->Zm W c j≠Z2 W g c 20,Xy 8 0,⟨1,rfl,Qo,Qo,λj hj hp=>by
     by_cases mP:j<12
     ·exact hI j mP hp
     ·have:j=12:=Qo;subst this;rw[zsq] at hp; cases hp⟩,?_⟩
    rintro t2 ⟨k,he,hk1,hk,hI2⟩;simp only[I4,I5,true_and,and_true] at he;subst he;refine⟨λIN=>?_,λaN=>?_⟩
    ·have IN:=Ot IN;have dS:(0:Int)<=(k:Int):=Qo
     have used:∀{x:Bool},(((gi W.ID (k:Int)).used&&((gi W.ID (k:Int)).parent==g))&&x)=true->Q6 W.ID (k:Int)=true/\c<((gi W.ID (k:Int)).IF.length:Int):=λ{x} q=>by
      simp only[A'] at q;have hu:=zm5 IN q.1.1;exact⟨hu,by rw[ha.sl hu]; exact c1⟩
     have eA:Jd W g c k=(((gi W.ID (k:Int)).used&&((gi W.ID (k:Int)).parent==g))&&(Qa W (k:Int) c).on):=by
      unfold Jd; rw[Ih hk1,Bool.true_and]
     have eP:Zq W g c (12+k)=(((gi W.ID (k:Int)).used&&((gi W.ID (k:Int)).parent==g))&&(Qa W (k:Int) c).on):=by rw[Uc,eA]
     refine⟨h.g.ix dS IN,_,h.g.used dS IN,λ_=>h.g.ix dS IN,_,λ_=>h.g.parent dS IN,(Qa W (k:Int) c).on,λq=>VN h ha (used (x:=true) (by rw[q]; rfl)).1 c0 c1,λ_=>h.g.ix dS IN,_,_,_,λ_=>h.g.R0 dS IN,λq=>(h.g.IF _ dS IN).ix X0 c0 (used q).2,(Qa W (k:Int) c).v,λq=>zna.f (h.g.IF _ dS IN) c0 (used q).2 (j:=2) rfl,λq=>?_,λq=>⟨⟨Qo,Qo⟩,⟨k+1,Qs,Qo,Qo,λj hj hp hv=>?_⟩,Zd (k:=k) rfl rfl Qo⟩⟩
     ·have q2:=q;simp only[A',Is] at q2;have hfk:=found (12+k) Qo (by rw[eP]; simp only[A',Is]; exact q2.1) (by rw[EI]; exact q2.2) hI2;have B90:=HF ha hu (c:=c) Qo;have ek:QW W g c-12=(k:Int):=Qo;rw[ek] at B90;have hdk:=GD ha B90.1;refine⟨_,ih _ (show (3-dep 3 W.ID (k:Int)).toNat<n by omega) (k:Int) B90.1 rfl h,?_⟩;rw[cA,B' Qo,B' Qo,ek]
     ·by_cases fN:j<12+k
      ·exact hI2 j fN hp hv
      ·have:j=12+k:=Qo;subst this;rw[eP] at hp;rw[EI] at hv;rw[hp,hv] at q;simp at q
    ·have aN:=Ou aN;have:k=8:=Qo;subst this;rcases Zu (Zq W g c) (Zm W c) 20 with ⟨h1,_⟩ | ⟨h1,h2,h3,_,_⟩
     ·have:QW W g c = -1:=h1;omega
     ·exact Ir AZ7.symm (hI2 (QW W g c).toNat (by unfold QW; omega) h3)
 exact key _ g hu rfl h
theorem zh5{c:Int}(h:XE bs w W m)(ha:WA W)(c0:0<=c)(c1:c<(W.IE.length:Int)):PX bs My #[.agg (Qb W m).toArray,I c] w (I (Qw W c)):=by
 refine ziz _ _ _ _ _ _ _ _ _ _ c λwr hx=>?_
 have h:=(h.ext hx).less (cs:=[]) Qs;intro _ _;refine⟨h.c.ix Y6 c0 c1,_,h.c.f c0 c1 (j:=1) rfl,λ_=>h.c.ix Y6 c0 c1,_,λ_=>h.c.f c0 c1 (j:=2) rfl,λg=>⟨h.c.ix Y6 c0 c1,_,h.c.f c0 c1 (j:=1) rfl,?_⟩,λg=>⟨_,zh4 h ha ha.root c0 c1,?_⟩⟩
 ·simp only[A',Ij] at g;unfold Qw; rw[C' g]
 ·unfold Qw; rw[B' (λhc=>by
   rw[Ih hc.1,Ih hc.2] at g; cases g)]
end
end Go.Proofs.YtnclplgaicdapaaGreatDoor
