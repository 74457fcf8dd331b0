/- Part 8 of what the law FnParts needs. -/
import Derived.Test.YtjinkcmkgnofjaaGreatDoorFnPartsPg
import Derived.Laws.StructEq
set_option linter.all false
set_option maxRecDepth 100000
set_option maxHeartbeats 8000000
namespace Go.Proofs.YtjinkcmkgnofjaaGreatDoor
open Go.RowKit
def DG (P:Program):List Field->Nat->List Va->List Va->Option Bool
 |[],_,[],[]=>some true
 |f :: r, k, x :: xs, y :: ys => bif decide (f.name ≠ "_") && Nat.beq f.offset k then
   (match DG P r (k+1) xs ys with
   |some q=>(match P.underlying f.type,x,y with
    |some (.int _),.int a n,.int b m=>bif decide (a=b) then some ((n==m)&&q) else none
    |some .bool,.bool n,.bool m=>some ((n==m)&&q)
    |some .string,.string n,.string m=>some (ZC n m&&q)
    |_,_,_=>none)
   |none=>none) else none
 |_,_,_,_=>none
def Bp {P:Program} (d:Nat) (w:Wo) (xs ys:List Va):∀(fs:List Field) (k:Nat) (b:Bool),DG P fs k (xs.drop k) (ys.drop k)=some b->(Op.eqFields (d+1) xs.toArray ys.toArray fs).run P w=.ok b w
 |[],k,b,h=>by
  have hb:some true=some b:=by
   cases ex:xs.drop k with
   |nil=>
    cases ey:ys.drop k with
    |nil=>rw[ex,ey] at h;exact h
    |cons y ys'=>rw[ex,ey] at h;cases h
   |cons x xs'=>rw[ex] at h;cases h
  simp only[I0] at hb
  subst hb
  simp[Op.eqFields]
 |f::r,k,b,h=>by
  have hx:∀{l:List Va} {x:Va} {q:List Va},l.drop k=x::q->l[k]? = some x/\l.drop (k+1)=q:=λ{l x q} e=>by
   have h1:l[k]? = (l.drop k)[0]? := by simp
   have h2:l.drop (k+1)=(l.drop k).drop 1:=Qs
   rw[h1,h2,e];simp
  cases exx:xs.drop k with
  |nil=>rw[exx] at h;cases h
  |cons x xs'=>
  cases eyy:ys.drop k with
  |nil=>rw[exx,eyy] at h;cases h
  |cons y ys'=>
   rw[exx,eyy] at h
   simp only[DG] at h
   obtain⟨gx,dx⟩:=hx exx
   obtain⟨gy,dy⟩:=hx eyy
   cases hc : (decide (f.name ≠ "_") && Nat.beq f.offset k) with
   |false=>rw[hc] at h;cases h
   |true=>
    rw[hc] at h
    simp only[cond_true] at h
    simp only[A',Ij] at hc
    have hof:=Ib hc.2
    split at h
    ·rename_i q hq
     have ih:=Bp d w xs ys r (k+1) q (by rw[dx,dy];exact hq)
     have Bp8:∀{D:TypeDesc},P.underlying f.type=some D->Kx D=false->(part f.type xs.toArray f.offset).run P w=.ok x w/\(part f.type ys.toArray f.offset).run P w=.ok y w:=λ{D} hu hD=>by
      rw[hof]
      simp[part,VX hu,hD,gx,gy]
     split at h
     ·rename_i K a n b' m hu
      cases hab:decide (a=b') with
      |false=>rw[hab] at h;cases h
      |true=>
       have:=Ot hab
       subst this
       rw[hab] at h
       simp only[cond_true,I0] at h
       subst h
       obtain⟨p1,p2⟩:=Bp8 hu rfl
       simp only[Op.eqFields,C' hc.1,Sem.run_bind,p1,p2,Result.andThen_ok,run_equalIn_int w d f.type a K n m hu,Sem.run_ite]
       cases n==m <;> simp[ih]
     ·rename_i n m hu
      simp only[I0] at h
      subst h
      obtain⟨p1,p2⟩:=Bp8 hu rfl
      simp only[Op.eqFields,C' hc.1,Sem.run_bind,p1,p2,Result.andThen_ok,run_equalIn_bool' w d f.type n m hu,Sem.run_ite]
      cases n==m <;> simp[ih]
     ·rename_i n m hu
      simp only[I0] at h
      subst h
      obtain⟨p1,p2⟩:=Bp8 hu rfl
      simp only[Op.eqFields,C' hc.1,Sem.run_bind,p1,p2,Result.andThen_ok,run_equalIn_string w d f.type n m hu,Sem.run_ite]
      unfold ZC
      cases n.toList==m.toList <;> simp[ih]
     ·cases h
    ·cases h
structure zbl (P:Program) (t:TypeId):Prop where
 u:P.underlying t=some (.struct (P.fieldsOf t))
 s:P.stoodInHeld t=false
 g:P.eqGuardType P.depth t=false
def G3{P:Program}{t:TypeId}(F:zbl P t){xs ys:List Va}{b:Bool}(h:DG P (P.fieldsOf t).toList 0 xs ys=some b)(w:Wo):(Op.equal t (.agg xs.toArray) (.agg ys.toArray)).run P w=.ok b w:=by
 have:=run_equalIn_struct (P:=P) w 9999 t xs.toArray ys.toArray F.u F.s;rw[Bp 9998 w xs ys _ 0 b (by simpa using h)] at this;exact this
def zfh{P:Program}{t:TypeId}(F:zbl P t){xs ys:List Va}{b:Bool}(h:DG P (P.fieldsOf t).toList 0 xs ys=some b)(x y:Operand)(w:Wo):((do eqGuard .eql t x y (.agg xs.toArray) (.agg ys.toArray);binOp .eql t (.agg xs.toArray) (.agg ys.toArray)):Sem Va).run P w=.ok (.bool b) w:=by
 have:=G3 F h w;simp only[Op.equal,Op.maxDepth] at this;simp only[Sem.run_bind,run_eqGuard_agg w .eql t x y _ _ F.g,Result.andThen_ok,run_eql_struct,this]
def EI{P:Program}{t:TypeId}(F:zbl P t){xs ys:List Va}{b:Bool}(h:DG P (P.fieldsOf t).toList 0 xs ys=some b)(x y:Operand)(w:Wo):((do eqGuard .neq t x y (.agg xs.toArray) (.agg ys.toArray);binOp .neq t (.agg xs.toArray) (.agg ys.toArray)):Sem Va).run P w=.ok (.bool (!b)) w:=by
 have:=G3 F h w;simp only[Op.equal,Op.maxDepth] at this;simp only[Sem.run_bind,run_eqGuard_agg w .neq t x y _ _ F.g,Result.andThen_ok,run_neq_struct,this]
def PZ:zbl Tryz.prog QW:=⟨Qk,Qk,Qk⟩
def Uz(p:Int)(n:ByteArray):Va:=.agg #[I p,.string n]
def zp6(p q:Int)(n m:ByteArray):DG Tryz.prog (Tryz.prog.fieldsOf QW).toList 0 [I p,.string n] [I q,.string m]=some ((p==q)&&(ZC n m&&true)):=Qk
def zjt(p q:Int)(n m:ByteArray)(w:Wo):(Op.equal QW (Uz p n) (Uz q m)).run Tryz.prog w=.ok (decide (p=q/\n=m)) w:=by
 have:=G3 PZ (zp6 p q n m) w
 have e:((p==q)&&(ZC n m&&true))=decide (p=q/\n=m):=by
  rw[Bu,Bool.and_true]
  by_cases h1:p=q <;> by_cases h2:n=m <;> simp[h1,h2]
 rw[e] at this;exact this
def zoy(p:Int)(n:ByteArray)(w:Wo):∀(es:List MapEntry) (i:Nat),(∀e∈es,∃q m v,e.key=Uz q m/\e.val=I v)->
  (∃(j:Nat) (v:Int),(Instr.findAsking QW (Uz p n) es i).run Tryz.prog w=.ok (some (j,I v)) w/\∃e∈es,e.key=Uz p n) \/
  ((Instr.findAsking QW (Uz p n) es i).run Tryz.prog w=.ok none w/\∀e∈es,e.key≠Uz p n)
 |[],i,_=>.inr ⟨by simp[Instr.findAsking],λe he=>by cases he⟩
 |e::r,i,h=>by
  obtain⟨q,m,v,hk,hv⟩:=h e (I9 ..)
  by_cases hq:p=q/\n=m
  ·refine .inl ⟨i,v,?_,e,I9 ..,by rw[hk,hq.1,hq.2]⟩;simp only[Instr.findAsking,hk,Sem.run_bind,zjt,Ih hq,Result.andThen_ok,if_true,Sem.run_pure,hv]
  ·have cE:(Instr.findAsking QW (Uz p n) (e::r) i).run Tryz.prog w=(Instr.findAsking QW (Uz p n) r (i+1)).run Tryz.prog w:=by
    simp only[Instr.findAsking,hk,Sem.run_bind,zjt,decide_eq_false hq,Result.andThen_ok,Bool.false_eq_true,if_false]
   have cU:e.key≠Uz p n:=λe'=>by
    rw[hk] at e';simp only[Uz,Value.agg.injEq,List.toArray_inj,Array.mk.injEq,I4,I5,true_and,Value.string.injEq,and_true] at e';exact hq ⟨e'.1.symm,e'.2.symm⟩
   rcases zoy p n w r (i+1) (λx hx=>h x (I1 _ hx)) with ⟨j,v',h1,x,hx,h2⟩|⟨h1,h2⟩
   ·exact .inl ⟨j,v',by rw[cE];exact h1,x,I1 _ hx,h2⟩
   ·exact .inr ⟨by rw[cE];exact h1,λx hx=>by
     rcases Ii.1 hx with rfl|hx
     ·exact cU
     ·exact h2 x hx⟩
def AC(p:Int)(n:ByteArray)(w:Wo)(es:List MapEntry)(h:∀e∈es,∃q m v,e.key=Uz q m/\e.val=I v) :
  (∃(j:Nat) (v:Int),(Instr.findKey QW (Uz p n) es).run Tryz.prog w=.ok (some (j,I v)) w/\∃e∈es,e.key=Uz p n) \/
  ((Instr.findKey QW (Uz p n) es).run Tryz.prog w=.ok none w/\∀e∈es,e.key≠Uz p n):=by
 cases es with
 |nil=>exact .inr ⟨by simp[Instr.findKey,run_underlying PZ.u,Instr.findNow],λe he=>by cases he⟩
 |cons e r=>
  have hs:(Instr.findKey QW (Uz p n) (e::r)).run Tryz.prog w=(Instr.findAsking QW (Uz p n) (e::r) 0).run Tryz.prog w:=by
   simp[Instr.findKey,run_underlying PZ.u,Instr.findNow,Instr.sameNow]
  rw[hs];exact zoy p n w (e::r) 0 h
def zdd:∃a b:Field,(Tryz.prog.fieldsOf QW).toList=[a,b]/\a.type=Qg/\a.offset=0/\b.type=ZZ/\b.offset=1:=⟨(Tryz.prog.fieldsOf QW)[0]!,(Tryz.prog.fieldsOf QW)[1]!,Qk,Qk,Qk,Qk,Qk⟩
def G2 (em:Bool) (p:Int) (n:ByteArray) (w:Wo):(Instr.checkKey em 10000 QW (Uz p n)).run Tryz.prog w=.ok () w:=by
 obtain⟨a,b,hl,a1,a2,b1,b2⟩:=zdd
 have p1:(part Qg #[.int .i64 p,.string n] 0).run Tryz.prog w=.ok (.int .i64 p) w:=by simp[part,VX z3y,Kx]
 have p2:(part ZZ #[.int .i64 p,.string n] 1).run Tryz.prog w=.ok (.string n) w:=by simp[part,VX zfw,Kx]
 have c1:∀d:Nat,(Instr.checkKey em (d+1) Qg (.int .i64 p)).run Tryz.prog w=.ok () w:=λd=>by simp[Instr.checkKey,run_underlying z3y]
 have c2:∀d:Nat,(Instr.checkKey em (d+1) ZZ (.string n)).run Tryz.prog w=.ok () w:=λd=>by simp[Instr.checkKey,run_underlying zfw]
 have key:∀d:Nat,(Instr.checkKey em (d+1+1) QW (Uz p n)).run Tryz.prog w=.ok () w:=λd=>by
  rw[Instr.checkKey]
  simp only[Uz,Sem.run_bind,run_underlying PZ.u,Result.andThen_ok]
  rw[<-Array.forIn_toList,hl]
  by_cases ha : a.name ≠ "_" <;> by_cases hb : b.name ≠ "_" <;> simp [ha, hb, a1, a2, b1, b2, p1, p2, c1, c2]
 exact key 9998
def Am:Tryz.prog.underlying ZY=some (.map QW Qg):=Qk
def z66(w:Wo):(zeroValue Qg).run Tryz.prog w=.ok (I 0) w:=by
 have h:(match Tryz.prog.info? Qg with|some i=>i.zero|none=>none)=some (I 0):=Qk
 cases hi:Tryz.prog.info? Qg with
 |none=>rw[hi] at h;cases h
 |some i=>
  rw[hi] at h;simp only at h;simp[zeroValue,JW hi,h]
def ET(w:Wo)(b:Nat)(es:Array MapEntry):Prop:=(∃c,w.heap[b]? = some (.map es c))/\∀e∈es.toList,∃q m v,e.key=Uz q m/\e.val=I v
def zzh{w:Wo}{b:Nat}{es:Array MapEntry}(h:ET w b es)(p:Int)(n:ByteArray) :
  ∃(v:Int) (ok:Bool),(Instr.lookup ZY (.map (some b)) (Uz p n) true).run Tryz.prog w=.ok (.tuple #[I v,.bool ok]) w/\(ok=true↔∃e∈es.toList,e.key=Uz p n):=by
 obtain⟨⟨c,hc⟩,hes⟩:=h;have hg:(getObj b).run Tryz.prog w=.ok (.map es c) w:=by simp[getObj,Sem.run,hc]
 rcases AC p n w es.toList hes with ⟨j,v,h1,h2⟩|⟨h1,h2⟩
 ·exact⟨v,true,by simp[Instr.lookup,run_underlying Am,hg,G2,h1],by simpa using h2⟩
 ·exact⟨0,false,by simp[Instr.lookup,run_underlying Am,hg,G2,h1,z66],⟨λh=>(by cases h),λ⟨e,he,hk⟩=>Ir hk (h2 e he)⟩⟩
def z2s{w:Wo}{b:Nat}{es:Array MapEntry}(h:ET w b es){p:Int}{n:ByteArray}(kD:∀e∈es.toList,e.key≠Uz p n)(v:Int) :
  ∃w' c,((do Instr.mapUpdate ZY (.map (some b)) (Uz p n) (I v);pure undef):Sem Va).run Tryz.prog w=.ok undef w'/\Q0 [b] w w'/\ET w' b (es.push { key:=Uz p n,val:=I v,born:=c }):=by
 obtain⟨⟨c,hc⟩,hes⟩:=h;have hg:(getObj b).run Tryz.prog w=.ok (.map es c) w:=by simp[getObj,Sem.run,hc]
 have hfk:(Instr.findKey QW (Uz p n) es.toList).run Tryz.prog w=.ok none w:=by
  rcases AC p n w es.toList hes with ⟨j,v,_,e,he,hk⟩|⟨h1,_⟩
  ·exact Ir hk (kD e he)
  ·exact h1
 have hs:(setObj b (.map (es.push { key:=Uz p n,val:=I v,born:=c }) (c+1))).run Tryz.prog w=.ok () { w with heap:=w.heap.setIfInBounds b (.map (es.push { key:=Uz p n,val:=I v,born:=c }) (c+1)) }:=by
  simp[setObj,Sem.run,hc]
 have IW:=V3 hc;refine⟨{ w with heap:=w.heap.setIfInBounds b (.map (es.push { key:=Uz p n,val:=I v,born:=c }) (c+1)) },c,by simp[Instr.mapUpdate,run_underlying Am,hg,G2,hfk,hs],⟨rfl,rfl,rfl,Qs,λk _ hk=>?_⟩,⟨c+1,by simp[IW]⟩,λe he=>?_⟩
 ·have:b≠k:=λe=>hk (by simp[e])
  show (w.heap.setIfInBounds b _)[k]? = _;rw[Array.getElem?_setIfInBounds_ne this]
 ·rw[Array.toList_push,Im] at he;rcases he with he|he
  ·exact hes e he
  ·rw[IA] at he;subst he;exact⟨p,n,v,rfl,rfl⟩
def ET.ext{w w':Wo}{b:Nat}{es:Array MapEntry}{bs:List Nat}(h:ET w b es)(hx:Q0 bs w w')(hb:b∉bs):ET w' b es:=by
 obtain⟨⟨c,hc⟩,hes⟩:=h;exact⟨⟨c,QP hc hx hb⟩,hes⟩
def zda(p:OA):List Va:=[.pointer p]
def Mg:zpl Tryz.prog zda 1 YF 8 none:=H3 Qk λ_=>rfl
def zv3:Tryz.prog.underlying Kk=some (.slice YF):=Qk
def VC(w:Wo)(b:Nat)(g:Int)(n:ByteArray)(up:OA):Prop:=w.heap[b]? = some (.cells ([I g,.string n,.pointer up]:List Va).toArray Bz (0,0))
def VC.ext{w w':Wo}{b:Nat}{g:Int}{n:ByteArray}{up:OA}{bs:List Nat}(h:VC w b g n up)(hx:Q0 bs w w')(hb:b∉bs):VC w' b g n up:=QP h hx hb
def VC.cells{w:Wo}{b:Nat}{g:Int}{n:ByteArray}{up:OA}(h:VC w b g n up){bs:List Nat}(hb:b∉bs):Q1 bs w (some ⟨b,0,none⟩) 0 [I g,.string n,.pointer up]:=
 VE h hb λj v hj=>by rw[Nat.zero_add,Nat.zero_add];exact hj
def zrs(gs:List ZD)(nb:Int->Nat)(x:Int):OA:=if x=0 then none else some ⟨nb (gi gs x).IG,0,none⟩
structure Ns (bs:List Nat) (w:Wo) (gs:List ZD) (nb:Int->Nat):Prop where
 node:∀x:Int,Q6 gs x->Q1 bs w (some ⟨nb x,0,none⟩) 0 [I x,.string (gi gs x).name,.pointer (zrs gs nb x)]
 par:∀x:Int,x≠0->Q6 gs x->Q6 gs (gi gs x).IG=true
def Ns.ext{bs:List Nat}{w w':Wo}{gs:List ZD}{nb:Int->Nat}(h:Ns bs w gs nb)(hx:Q0 bs w w'):Ns bs w' gs nb:=⟨λx hu=>(h.node x hu).ext hx,h.par⟩
def Ns.less{bs cs:List Nat}{w:Wo}{gs:List ZD}{nb:Int->Nat}(h:Ns bs w gs nb)(hs:∀x∈cs,x∈bs):Ns cs w gs nb:=⟨λx hu=>(h.node x hu).less hs,h.par⟩
def zen(gs:List ZD)(f:Nat)(x:Int)(s:Int):Int:=if dep f gs x<0 then -1 else s+dep f gs x
def z1y{gs:List ZD}{nb:Int->Nat}{w:Wo}{bs:List Nat}(h:Ns bs w gs nb){x:Int}(hu:Q6 gs x):PX bs VL #[.pointer (some ⟨nb x,0,none⟩)] w (I (zen gs 3 x 0)):=
 Bh (some ⟨nb x,0,none⟩) λwr hx=>by
  have h:=(h.ext hx).less (cs:=[]) Qs;refine⟨λvs=>(∃(y:Int) (s:Nat),Q6 gs y/\s<=4/\vs=[.pointer (some ⟨nb y,0,none⟩),I (s:Int)]/\(s<=3->zen gs (3-s) y s=zen gs 3 x 0)/\(s=4->zen gs 3 x 0 = -1))\/∃s:Nat,s<=4/\vs=[.pointer none,I (s:Int)]/\zen gs 3 x 0 = -1,λvs=>(5-Ye 1 vs).toNat,.inl ⟨x,0,hu,Qo,rfl,λ_=>rfl,λh=>by omega⟩,?_⟩;rintro n1 st (⟨y,s,hy,hs,he,h1,h2⟩|⟨s,hs,he,h1⟩)
  ·simp only[I4,I5,Value.pointer.injEq,true_and,and_true] at he;obtain⟨rfl,rfl⟩:=he;refine⟨λhc=>?_,λhc=>?_⟩
   ·have fY:s<=3:=by
     simp only[Option.isNone_some,Bool.not_false,Bool.true_and,Ij] at hc;omega
    have hn:=h.node y hy;refine⟨rfl,y,hn.get 0 _ rfl,λhz=>?_,λhz=>?_⟩
    ·have hz:y=0:=by simpa using hz
     rw[<-h1 fY];subst hz;unfold zen;rw[ZR,B' Qo,Int.add_zero]
    ·have hz:y≠0:=by simpa using hz
     have hm:zrs gs nb y=some ⟨nb (gi gs y).IG,0,none⟩:=by unfold zrs;rw[B' hz]
     refine⟨⟨Qo,Qo⟩,rfl,_,by have:=hn.get 2 _ rfl;exact this,.inl ⟨(gi gs y).IG,s+1,h.par y hz hy,Qo,by rw[hm];simp,λhs'=>?_,λhs'=>?_⟩,?_⟩
     ·rw[<-h1 fY];have e:3-s=(3-(s+1))+1:=Qo;rw[e];unfold zen;simp only[dep,B' hz]
      by_cases hd:dep (3-(s+1)) gs (gi gs y).IG<0
      ·rw[C' hd,C' hd,C' Qo]
      ·rw[B' hd,B' hd,B' Qo];omega
     ·rw[<-h1 fY];have e:3-s=0:=Qo;rw[e];unfold zen;simp only[dep,B' hz];rfl
     ·show (5-((s:Int)+1)).toNat<(5-(s:Int)).toNat;omega
   ·have dT:s=4:=by
     simp only[Option.isNone_some,Bool.not_false,Bool.true_and,decide_eq_false_iff_not] at hc;omega
    rw[h2 dT]
  ·simp only[I4,I5,Value.pointer.injEq,true_and,and_true] at he;obtain⟨rfl,rfl⟩:=he;refine⟨λhc=>by simp at hc,λ_=>by rw[h1]⟩
section
variable {gs:List ZD}{ms:Nat->MG}{o:OA}{c:Nat}{w:Wo}{bs:List Nat}
def L4{g:Int}(h:Gd bs w o gs ms)(hl:gs.length<=maxLen):PX bs U6 #[.slice o gs.length c,I g] w (.bool (Q6 gs g)):=
 NR o gs.length c g λwr hx=>by
  have h:=(h.ext hx).less (cs:=[]) Qs;have:=XX
  have e:YY g 0 ((gs.length:Int)-1)=(decide (g>=0)&&decide (g<(gs.length:Int))):=by
   unfold YY
   congr 1
   exact decide_eq_decide.2 Qo
  refine⟨⟨Qo,Qo⟩,_,QK,λq=>?_,(gi gs g).IV,λq=>?_,by rw[e];rfl⟩
  ·have q:=Qu.1 q;exact h.ix Qo Qo
  ·have q:=Qu.1 q;exact h.IV Qo Qo
def z1z(h:Gd [] w o gs ms)(hl:gs.length<=maxLen) :
  Cz Ku #[.slice o gs.length c] w λe w'=>∃(o':OA) (L C:Nat) (ok:Bool),e=.returned (.tuple #[.slice o' L C,.bool ok])/\ok=Kj gs/\Q0 [] w w'/\
   (ok=false->L=0)/\(ok->L=8/\∃(pl:List (OA)) (nb:Int->Nat),pl.length=8/\Rd zda 1 [] w' o' pl/\(∀g:Int,0<=g->g<8->gi pl g=if (gi gs g).IV then some ⟨nb g,0,none⟩ else none)/\Ns [] w' gs nb):=by
 refine(zk4 o gs.length c (R:=λv w'=>∃(o':OA) (L C:Nat) (ok:Bool),v=.tuple #[.slice o' L C,.bool ok]/\ok=Kj gs/\Q0 [] w w'/\
   (ok=false->L=0)/\(ok->L=8/\∃(pl:List (OA)) (nb:Int->Nat),pl.length=8/\Rd zda 1 [] w' o' pl/\(∀g:Int,0<=g->g<8->gi pl g=if (gi gs g).IV then some ⟨nb g,0,none⟩ else none)/\Ns [] w' gs nb)) ?_).mono λe w' ⟨v,he,o',L,C,ok,hv,hr⟩=>⟨o',L,C,ok,by rw[he,hv],hr⟩
 have bad:∀w',Q0 [] w w'->¬Yr gs->∃(o':OA) (L C:Nat) (ok:Bool),Value.tuple #[.slice none 0 0,.bool false]=.tuple #[.slice o' L C,.bool ok]/\ok=Kj gs/\Q0 [] w w'/\
   (ok=false->L=0)/\(ok->L=8/\∃(pl:List (OA)) (nb:Int->Nat),pl.length=8/\Rd zda 1 [] w' o' pl/\(∀g:Int,0<=g->g<8->gi pl g=if (gi gs g).IV then some ⟨nb g,0,none⟩ else none)/\Ns [] w' gs nb):=λw' hx kD=>
  ⟨none,0,0,false,rfl,(By kD).symm,hx,λ_=>rfl,λh=>by cases h⟩
 have l8:((((gs.length:Nat):Int) != 8)=false)->gs.length=8:=λq=>by have:=(bne_eq_false_iff_eq).1 q;omega
 have i0:∀q:(((gs.length:Nat):Int) != 8)=false,(0:Int)<(gs.length:Int):=λq=>by have:=l8 q;omega
 refine⟨λq=>h.ix (I2 _) (i0 q),(gi gs 0).IV,λq=>h.IV (I2 _) (i0 q),λq=>?_,(gi gs 0).IG,λq=>?_,λq=>?_,(gi gs 0).name,λq=>?_,λq=>?_,λq=>?_⟩
 ·simp only[H'] at q;exact h.ix (I2 _) (i0 q.1)
 ·simp only[H'] at q;exact h.IG (I2 _) (i0 q.1)
 ·simp only[H'] at q;exact h.ix (I2 _) (i0 q.1.1)
 ·simp only[H'] at q;exact h.name (I2 _) (i0 q.1.1)
 ·intro w1 S9;refine bad w1 S9 λht=>?_
  have e:((gs.length:Nat):Int)=8:=by have:=ht.len;omega
  rw[e,ht.ru,ht.rp,ht.rn,Bu] at q;simp at q
 simp only[H',I6,bne_eq_false_iff_eq,JX] at q;obtain⟨⟨⟨q1,ru⟩,rp⟩,rn⟩:=q;have hl8:gs.length=8:=Qo;intro wr hx _;refine⟨some ⟨wr.heap.size,0,none⟩,8,8,wr.alloc (.cells ((List.replicate 8 none).flatMap zda).toArray YF),KI Mg zv3 8 Qd (by simp[maxLen]) wr,Xm,?_⟩;have hO0:=Vj (enc:=zda) Mg.len YF 8 none wr;have hX0:Q0 [] wr (wr.alloc (.cells ((List.replicate 8 none).flatMap zda).toArray YF)):=Zc wr _;generalize wr.alloc (.cells ((List.replicate 8 (none:OA)).flatMap zda).toArray YF)=wv at hO0 hX0
 refine Jm 8 0 rfl (λk w1=>k<=8/\Q0 [] wr w1/\∃(pl:List (OA)) (nb:Int->Nat),pl.length=8/\UD zda 1 YF wr.heap.size w1 (some ⟨wr.heap.size,0,none⟩) 8 pl/\
   (∀g:Int,0<=g->g<8->gi pl g=if g<(k:Int)/\(gi gs g).IV then some ⟨nb g,0,none⟩ else none)/\
   (∀g:Int,0<=g->g<(k:Int)->(gi gs g).IV->wr.heap.size<=nb g/\VC w1 (nb g) g (gi gs g).name none)/\
   (∀g g':Int,0<=g->g<(k:Int)->0<=g'->g'<(k:Int)->(gi gs g).IV->(gi gs g').IV->nb g=nb g'->g=g')) (λw1 S9 _=>⟨Ic _,hX0.trans S9,List.replicate 8 none,λ_=>0,rfl,hO0.WH S9,λg h0 h1=>?_,λg h0 h1=>by omega,λg g' h0 h1=>by omega⟩) λk w1 _ ⟨hk,hX,pl,nb,hpl,hO,hP,hN,B14⟩=>⟨λIW=>?_,λRM=>?_⟩
 ·rw[B' (λhc=>by omega)];exact List.eq_of_mem_replicate (zqd h0 (by simpa using h1))
 ·have IW:=Ot IW;have hr:=(h.ext hx).ext hX;have cY:(0:Int)<=(k:Int):=Qo;refine⟨hr.ix cY IW,_,hr.IV cY IW,λhu=>⟨hr.ix cY IW,_,hr.name cY IW,λb wb hxb hb hhb _=>?_⟩,λhu=>⟨⟨Qo,Qo⟩,λw2 Rk _=>Qw Qo ⟨Qo,hX.trans Rk,pl,nb,hpl,hO.WH Rk,λg h0 h1=>?_,λg h0 h1 hg=>?_,λg g' h0 h1 h0' h1' hg hg'=>?_⟩⟩⟩
  ·have hOb:=hO.WH hxb;have nN:(k:Int)<(pl.length:Int):=by rw[hpl];omega
   have Wn:=hOb.ix cY nN;rw[hpl] at Wn;refine⟨Wn,hOb.wr Mg.len Qs cY nN (j:=0) (n:=1) Qo,⟨Qo,Qo⟩,λw2 Rk _=>Qw Qo ⟨Qo,?_,pl.set k (some ⟨b,0,none⟩),λg=>if g=(k:Int) then b else nb g,by rw[E'];exact hpl,?_,λg h0 h1=>?_,λg h0 h1 hg=>?_,λg g' h0 h1 h0' h1' hg hg' he=>?_⟩⟩
   ·exact(hOb.Cf2 _ _ (hX.trans hxb) (I7 _)).trans Rk
   ·exact(hOb.Rw Mg.len (i:=(k:Int)) cY nN (j:=0) (vs:=[.pointer (some ⟨b,0,none⟩)]) (x:=some ⟨b,0,none⟩) rfl Qs).WH Rk
   ·have:=Qx pl (some ⟨b,0,none⟩) (i:=(k:Int)) (j:=g) cY nN h0;rw[Ig] at this;rw[this]
    by_cases sU:(k:Int)=g
    ·subst sU;rw[C' rfl,C' ⟨Qo,hu⟩]
     dsimp only
     rw[C' rfl]
    ·rw[B' sU,hP g h0 h1]
     dsimp only
     rw[show (if g=(k:Int) then b else nb g)=nb g from B' (λe=>sU e.symm)]
     by_cases Rh:g<(k:Int)
     ·by_cases kJ:(gi gs g).IV=true
      ·rw[C' ⟨Rh,kJ⟩,C' ⟨Qo,kJ⟩]
      ·rw[B' (λhc=>kJ hc.2),B' (λhc=>kJ hc.2)]
     ·rw[B' (λhc=>Rh hc.1),B' (λhc=>by omega)]
   ·have sI:Q0 (QL (some ⟨wr.heap.size,0,none⟩)) wb (Rw wb (some ⟨wr.heap.size,0,none⟩) (Int.toNat (k:Int)*1) [.pointer (some ⟨b,0,none⟩)]):=hOb.rP _ _
    have cU:∀q,VC wb q g (gi gs g).name none->q∉QL (some (⟨wr.heap.size,0,none⟩:Addr)):=λq hq hm=>by
     simp only[QL,IA] at hm;subst hm;rcases hOb with ⟨hc,_⟩|⟨b',sp,he,_,h2,_⟩
     ·cases hc
     ·simp only[I0,Addr.mk.injEq,and_true] at he;subst he;unfold VC at hq;rw[h2] at hq;simp only[I0,Obj.cells.injEq] at hq;exact Ir hq.2.1 Qd
    dsimp only
    by_cases sU:g=(k:Int)
    ·subst sU;rw[C' rfl];have hq:VC wb b (k:Int) (gi gs (k:Int)).name none:=hhb;exact⟨IB hX.size hb,((hq.ext sI (cU b hq)).ext Rk Qs)⟩
    ·rw[B' sU];obtain⟨n1,n2⟩:=hN g h0 Qo hg;have n3:=n2.ext hxb Qs;exact⟨n1,(n3.ext sI (cU _ n3)).ext Rk Qs⟩
   ·have fresh:∀q:Int,0<=q->q<(k:Int)->(gi gs q).IV->nb q≠b:=λq a1 a2 a3 e=>by
     have:=V3 (hN q a1 a2 a3).2;omega
    dsimp only at he
    by_cases sU:g=(k:Int)
    ·by_cases hgk':g'=(k:Int)
     ·rw[sU,hgk']
     ·rw[C' sU,B' hgk'] at he;exact Ir he.symm (fresh g' h0' Qo hg')
    ·by_cases hgk':g'=(k:Int)
     ·rw[B' sU,C' hgk'] at he;exact Ir he (fresh g h0 Qo hg)
     ·rw[B' sU,B' hgk'] at he;exact B14 g g' h0 Qo h0' Qo hg hg' he
  ·rw[hP g h0 h1]
   by_cases sU:g=(k:Int)
   ·subst sU;rw[B' (λhc=>by omega),B' (λhc=>by rw[hu] at hc;exact Ir hc.2 Qd)]
   ·by_cases Rh:g<(k:Int)
    ·by_cases kJ:(gi gs g).IV=true
     ·rw[C' ⟨Rh,kJ⟩,C' ⟨Qo,kJ⟩]
     ·rw[B' (λhc=>kJ hc.2),B' (λhc=>kJ hc.2)]
    ·rw[B' (λhc=>Rh hc.1),B' (λhc=>by omega)]
  ·by_cases sU:g=(k:Int)
   ·subst sU;rw[hu] at hg;cases hg
   ·obtain⟨n1,n2⟩:=hN g h0 Qo hg;exact⟨n1,n2.ext Rk Qs⟩
  ·have e1:g≠(k:Int):=λe=>by subst e;rw[hu] at hg;cases hg
   have e2:g'≠(k:Int):=λe=>by subst e;rw[hu] at hg';cases hg'
   exact B14 g g' h0 Qo h0' Qo hg hg'
 ·have RM:=Ou RM;have hk8:k=8:=Qo;subst hk8;intro w2 Rk _;refine⟨.map (some w2.heap.size),w2.alloc (.map #[] 0),by simp[Instr.makeMap],Xm,?_⟩;have hM0:ET (w2.alloc (.map #[] 0)) w2.heap.size #[]:=⟨⟨0,Array.getElem?_push_size ..⟩,λe he=>by cases he⟩;have hX2:Q0 [] wr (w2.alloc (.map #[] 0)):=(hX.trans Rk).trans (Zc w2 _);have nG:=(hO.WH Rk).WH (Zc w2 (.map #[] 0))
  have hN2:∀g:Int,0<=g->g<8->(gi gs g).IV->wr.heap.size<=nb g/\VC (w2.alloc (.map #[] 0)) (nb g) g (gi gs g).name none:=λg h0 h1 hg=>
   ⟨(hN g h0 Qo hg).1,((hN g h0 Qo hg).2.ext Rk Qs).ext (Zc w2 _) Qs⟩
  have hP2:∀g:Int,0<=g->g<8->gi pl g=if (gi gs g).IV=true then some ⟨nb g,0,none⟩ else none:=λg h0 h1=>by
   rw[hP g h0 h1]
   by_cases kJ:(gi gs g).IV=true
   ·rw[C' ⟨Qo,kJ⟩,C' kJ]
   ·rw[B' (λhc=>kJ hc.2),B' kJ]
  have CW8:∀g g':Int,0<=g->g<8->0<=g'->g'<8->(gi gs g).IV->(gi gs g').IV->nb g=nb g'->g=g':=λg g' a b c d=>B14 g g' a Qo c Qo
  have hmb:wr.heap.size<=w2.heap.size:=(hX.trans Rk).size;generalize w2.heap.size=mb at hM0 hmb;generalize w2.alloc (.map #[] 0)=w3 at hM0 hX2 nG hN2;clear hX hO hN hP B14
  refine Jm 8 1 rfl (λk w1=>1<=k/\k<=8/\Q0 [] wr w1/\UD zda 1 YF wr.heap.size w1 (some ⟨wr.heap.size,0,none⟩) 8 pl/\
    (∀g:Int,0<=g->g<8->(gi gs g).IV->VC w1 (nb g) g (gi gs g).name (if g<(k:Int) then zrs gs nb g else none))/\
    (∃es,ET w1 mb es/\(∀e∈es.toList,∃g:Int,1<=g/\g<(k:Int)/\(gi gs g).IV/\e.key=Uz (gi gs g).IG (gi gs g).name)/\∀g:Int,1<=g->g<(k:Int)->(gi gs g).IV->∃e∈es.toList,e.key=Uz (gi gs g).IG (gi gs g).name)/\
    (∀g:Int,1<=g->g<(k:Int)->(gi gs g).IV->UC (gi gs g).name/\Q6 gs (gi gs g).IG/\∀h:Int,1<=h->h<g->(gi gs h).IV->¬((gi gs h).IG=(gi gs g).IG/\(gi gs h).name=(gi gs g).name)))
   (λw4 T' _=>⟨I7 _,Qo,hX2.trans T',nG.WH T',λg h0 h1 hg=>?_,⟨#[],hM0.ext T' Qs,(λe he=>by cases he),λg h1 h2=>by omega⟩,λg h1 h2=>by omega⟩) λk w4 _ ⟨hk1,hk,hX,hO,hN,⟨es,hM,hE1,hE2⟩,hT⟩=>⟨λIW=>?_,λRM=>?_⟩
  ·have:=(hN2 g h0 h1 hg).2.ext T' Qs
   by_cases hg1:g<((1:Nat):Int)
   ·rw[C' hg1];have:g=0:=Qo;subst this;exact this
   ·rw[B' hg1];exact this
  ·have IW:=Ot IW;have hr:=(h.ext hx).ext hX;have cY:(0:Int)<=(k:Int):=Qo;have nN:(k:Int)<(pl.length:Int):=Qo;have bU:(k:Int)<(gs.length:Int):=Qo;have hPl:=hO.rd Mg.len (bs:=[]) Qs;have Wn:=hO.ix cY nN;rw[hpl] at Wn;have hXw:Q0 [] w w4:=hx.trans hX;refine⟨Wn,gi pl (k:Int),hPl k cY nN,λkD=>?_,λAM7=>?_⟩
   ·have hu:¬(gi gs (k:Int)).IV:=λhu=>by rw[hP2 k cY IW,C' hu] at kD;cases kD
    refine⟨⟨Qo,Qo⟩,λw5 Su _=>Qw Qo ⟨Qo,Qo,hX.trans Su,hO.WH Su,λg h0 h1 hg=>?_,⟨es,hM.ext Su Qs,λe he=>?_,λg h1 h2 hg=>?_⟩,λg h1 h2 hg=>?_⟩⟩
    ·have:=(hN g h0 h1 hg).ext Su Qs;have sU:g≠(k:Int):=λe=>hu (e▸hg)
     by_cases hg1:g<(k:Int)
     ·rw[C' hg1] at this;rw[C' Qo];exact this
     ·rw[B' hg1] at this;rw[B' Qo];exact this
    ·obtain⟨g,a1,a2,a3⟩:=hE1 e he;exact⟨g,a1,Qo,a3⟩
    ·have sU:g≠(k:Int):=λe=>hu (e▸hg)
     exact hE2 g h1 Qo hg
    ·have sU:g≠(k:Int):=λe=>hu (e▸hg)
     exact hT g h1 Qo hg
   ·have hu:(gi gs (k:Int)).IV:=by
     cases hq:(gi gs (k:Int)).IV with
     |true=>rfl
     |false=>rw[hP2 k cY IW,hq] at AM7;cases AM7
    have hpk:gi pl (k:Int)=some ⟨nb (k:Int),0,none⟩:=by rw[hP2 k cY IW,C' hu]
    refine⟨hr.ix cY bU,_,hr.name cY bU,_,zhc,λ_=>hr.ix cY bU,(gi gs (k:Int)).IG,λ_=>hr.IG cY bU,Q6 gs (gi gs (k:Int)).IG,λ_=>L4 hr hl,λq=>?_,λq=>?_⟩
    ·intro w5 Su;refine bad w5 (hXw.trans Su) λht=>?_
     rw[ht.nm k Qo IW hu,ht.par k Qo IW hu] at q;cases q
    ·simp only[H',I6] at q;obtain⟨qn,qp⟩:=q;obtain⟨p0,p1,pu⟩:=Q2.1 qp;have p8:(gi gs (k:Int)).IG<8:=Qo;have CX2:=hO.ix p0 Qo;rw[hpl] at CX2;have hnk:=hN k cY IW hu;rw[B' Qo] at hnk;have hpp:gi pl (gi gs (k:Int)).IG=some ⟨nb (gi gs (k:Int)).IG,0,none⟩:=by rw[hP2 _ p0 p8,C' pu]
     have hnb:nb (k:Int)∉QL (some (⟨wr.heap.size,0,none⟩:Addr)):=λhm=>by
      simp only[QL,IA] at hm;rcases hO with ⟨hc,_⟩|⟨b',sp,he,_,h2,_⟩
      ·cases hc
      ·simp only[I0,Addr.mk.injEq,and_true] at he;subst he;unfold VC at hnk;rw[hm,h2] at hnk;simp only[I0,Obj.cells.injEq] at hnk;exact Ir hnk.2.1 Qd
     have hWr:Xh [] w4 (some ⟨nb (k:Int),0,none⟩) (0+2) 1:=BD hnk Qs (by show 0+(0+2+1)<=3;omega);have hsx:Q0 [nb (k:Int)] w4 (Rw w4 (some ⟨nb (k:Int),0,none⟩) (0+2) [.pointer (some ⟨nb (gi gs (k:Int)).IG,0,none⟩)]):=TR λa ha=>by cases ha;simp
     have hbk:wr.heap.size<=nb (k:Int):=(hN2 k cY IW hu).1;have hXs:Q0 [] wr (Rw w4 (some ⟨nb (k:Int),0,none⟩) (0+2) [.pointer (some ⟨nb (gi gs (k:Int)).IG,0,none⟩)]):=hX.fresh hsx λx hm=>.inl (by rw[IA.1 hm];exact hbk)
     have hrs:=(h.ext hx).ext hXs;have hup:zrs gs nb (k:Int)=some ⟨nb (gi gs (k:Int)).IG,0,none⟩:=by unfold zrs;rw[B' Qo]
     have hNs:∀g:Int,0<=g->g<8->(gi gs g).IV->VC (Rw w4 (some ⟨nb (k:Int),0,none⟩) (0+2) [.pointer (some ⟨nb (gi gs (k:Int)).IG,0,none⟩)]) (nb g) g (gi gs g).name (if g<((k+1:Nat):Int) then zrs gs nb g else none):=λg h0 h1 hg=>by
      by_cases sU:g=(k:Int)
      ·subst sU;rw[C' Qo,hup];exact Kg hnk
      ·have cU:nb g≠nb (k:Int):=λe=>sU (CW8 g k h0 h1 cY IW hg hu e)
       have:=(hN g h0 h1 hg).ext hsx (by simpa using cU)
       by_cases hg1:g<(k:Int)
       ·rw[C' hg1] at this;rw[C' Qo];exact this
       ·rw[B' hg1] at this;rw[B' Qo];exact this
     have hOs:UD zda 1 YF wr.heap.size (Rw w4 (some ⟨nb (k:Int),0,none⟩) (0+2) [.pointer (some ⟨nb (gi gs (k:Int)).IG,0,none⟩)]) (some ⟨wr.heap.size,0,none⟩) 8 pl:=hO.ext hsx λb hm gZ=>hnb (by rw[IA.1 gZ] at hm;exact hm)
     have hMs:ET (Rw w4 (some ⟨nb (k:Int),0,none⟩) (0+2) [.pointer (some ⟨nb (gi gs (k:Int)).IG,0,none⟩)]) mb es:=hM.ext hsx λhm=>by
      rw[IA] at hm;obtain⟨⟨cc,hc⟩,_⟩:=hM;unfold VC at hnk;rw[<-hm,hc] at hnk;cases hnk
     refine⟨Wn,some ⟨nb (k:Int),0,none⟩,by rw[<-hpk];exact hPl k cY nN,hr.ix cY bU,_,hr.IG cY bU,CX2,some ⟨nb (gi gs (k:Int)).IG,0,none⟩,by rw[<-hpp];exact hPl _ p0 Qo,rfl,hWr,?_⟩;generalize Rw w4 (some ⟨nb (k:Int),0,none⟩) (0+2) [.pointer (some ⟨nb (gi gs (k:Int)).IG,0,none⟩)]=w5 at hXs hrs hNs hOs hMs;refine⟨hrs.ix cY bU,_,hrs.IG cY bU,hrs.ix cY bU,_,hrs.name cY bU,λb1 bY=>⟨hrs.name cY bU,hrs.IG cY bU,λw6 bE hs6=>?_⟩⟩;have jX:=hMs.ext bE Qs;obtain⟨v,okk,CX7,hok⟩:=zzh jX (gi gs (k:Int)).IG (gi gs (k:Int)).name;have CF5:∀x∈[b1],wr.heap.size<=x\/x∈([]:List Nat):=λx hm=>.inl (by rw[IA.1 hm];exact IB hXs.size bY)
     refine⟨v,okk,w6,CX7,λ_ _=>rfl,λCw5=>?_,λAw8 w7 eQ sH=>?_⟩
     ·intro w7 eQ;refine bad w7 (hx.trans (((hXs.trans bE).fresh eQ CF5))) λht=>?_
      obtain⟨e,he,hk⟩:=hok.1 Cw5;obtain⟨g,a1,a2,a3,a4⟩:=hE1 e he;rw[a4] at hk;simp only[Uz,Value.agg.injEq,List.toArray_inj,Array.mk.injEq,I4,I5,true_and,Value.string.injEq,and_true] at hk;exact ht.uniq k g a1 a2 IW hu a3 hk
     ·have lR:=jX.ext eQ (λhm=>by
       rw[IA] at hm;obtain⟨⟨cc,hc⟩,_⟩:=hMs;have:=V3 hc;omega)
      have CY7:¬∃e∈es.toList,e.key=Uz (gi gs (k:Int)).IG (gi gs (k:Int)).name:=λhc=>by
       have:=hok.2 hc;rw[Aw8] at this;cases this
      obtain⟨w8,cc,C24,sV,hM8⟩:=z2s lR (λe he hk=>CY7 ⟨e,he,hk⟩) (k:Int);have hmx:∀x∈[mb],wr.heap.size<=x\/x∈([]:List Nat):=λx hm=>.inl (by rw[IA.1 hm];exact hmb)
      have hX7:Q0 [] wr w7:=(hXs.trans bE).fresh eQ CF5;have hX8:Q0 [] wr w8:=hX7.fresh sV hmx;refine⟨w8,C24,λx hm=>sV.block x (sH x hm) (λgZ=>?_),⟨Qo,Qo⟩,λw9 kL hs9=>Qw Qo ⟨Qo,Qo,hX8.fresh kL CF5,?_,λg h0 h1 hg=>?_,⟨_,hM8.ext kL ?_,λe he=>?_,λg h1 h2 hg=>?_⟩,λg h1 h2 hg=>?_⟩⟩
      ·rw[IA] at hm gZ;subst gZ;obtain⟨⟨c2,hc⟩,_⟩:=hMs;have:=V3 hc;omega
      ·have hnm:∀b∈QL (some (⟨wr.heap.size,0,none⟩:Addr)),b∉[mb]:=λb hm gZ=>by
        simp only[QL,IA] at hm gZ;rcases hOs with ⟨hc,_⟩|⟨b',sp,he,_,h2,_⟩
        ·cases hc
        ·simp only[I0,Addr.mk.injEq,and_true] at he;subst he;obtain⟨⟨c2,hc⟩,_⟩:=hMs;rw[<-gZ,hm,h2] at hc;cases hc
       have hn1:∀b∈QL (some (⟨wr.heap.size,0,none⟩:Addr)),b∉[b1]:=λb hm gZ=>by
        have:=(hOs.lt b hm).2;rw[IA] at gZ;omega
       exact(((hOs.WH bE).ext eQ hn1).ext sV hnm).ext kL hn1
      ·have hq:=hNs g h0 h1 hg;have hql:=V3 hq;have n1:nb g∉[b1]:=λhm=>by rw[IA] at hm;omega
       have n2:nb g∉[mb]:=λhm=>by
        rw[IA] at hm;obtain⟨⟨c2,hc⟩,_⟩:=hMs;unfold VC at hq;rw[hm,hc] at hq;cases hq
       exact(((hq.ext bE Qs).ext eQ n1).ext sV n2).ext kL n1
      ·intro hm;rw[IA] at hm;obtain⟨⟨c2,hc⟩,_⟩:=hMs;have:=V3 hc;omega
      ·rw[Array.toList_push,Im] at he;rcases he with he|he
       ·obtain⟨g,a1,a2,a3⟩:=hE1 e he;exact⟨g,a1,Qo,a3⟩
       ·rw[IA] at he;subst he;exact⟨k,Qo,Qo,hu,rfl⟩
      ·rw[Array.toList_push]
       by_cases sU:g=(k:Int)
       ·subst sU;exact⟨_,Iy _ (IA.2 rfl),rfl⟩
       ·obtain⟨e,he,hk⟩:=hE2 g h1 Qo hg;exact⟨e,Ia _ he,hk⟩
      ·by_cases sU:g=(k:Int)
       ·subst sU;refine⟨qn,qp,λq a1 a2 a3 a4=>CY7 ?_⟩;obtain⟨e,he,hk⟩:=hE2 q a1 a2 a3;exact⟨e,he,by rw[hk,a4.1,a4.2]⟩
       ·exact hT g h1 Qo hg
  ·have RM:=Ou RM;have hk8:k=8:=Qo;subst hk8;have hXw:Q0 [] w w4:=hx.trans hX
   have hNs:Ns [] w4 gs nb:=⟨λx hu=>by
     obtain⟨a1,a2,a3⟩:=Q2.1 hu;have:=hN x a1 Qo a3;rw[C' Qo] at this;exact this.cells Qs,λx hz hu=>by
     obtain⟨a1,a2,a3⟩:=Q2.1 hu;exact(hT x Qo Qo a3).2.1⟩
   refine Jm 8 0 rfl (λj w5=>j<=8/\Q0 [] w4 w5/\∀g:Int,0<=g->g<(j:Int)->(gi gs g).IV->0<=dep 3 gs g) (λw5 Su _=>⟨Ic _,Su,λg h0 h1=>by omega⟩) λj w5 _ ⟨hj,hX5,hD⟩=>⟨λIW=>?_,λRM=>?_⟩
   ·have IW:=Ot IW;have hj0:(0:Int)<=(j:Int):=Qo;have hjl:(j:Int)<(pl.length:Int):=Qo;have hO5:=hO.WH hX5;have Wn:=hO5.ix hj0 hjl;rw[hpl] at Wn;refine⟨Wn,gi pl (j:Int),hO5.rd Mg.len Qs j hj0 hjl,zen gs 3 (j:Int) 0,λhs=>?_,λhb=>?_,λhb=>⟨⟨Qo,Qo⟩,λw6 bE _=>Qw Qo ⟨Qo,hX5.trans bE,λg h0 h1 hg=>?_⟩⟩⟩
    ·have hu:(gi gs (j:Int)).IV:=by
      cases hq:(gi gs (j:Int)).IV with
      |true=>rfl
      |false=>rw[hP2 j hj0 IW,hq] at hs;cases hs
     rw[hP2 j hj0 IW,C' hu];exact z1y (hNs.ext hX5) (Q2.2 ⟨hj0,Qo,hu⟩)
    ·intro w6 bE;refine bad w6 ((hXw.trans hX5).trans bE) λht=>?_
     simp only[A',Ij] at hb
     have hu:(gi gs (j:Int)).IV:=by
      cases hq:(gi gs (j:Int)).IV with
      |true=>rfl
      |false=>rw[hP2 j hj0 IW,hq] at hb;cases hb.1
     have hd:0<=dep 3 gs (j:Int):=by
      by_cases hj0':(j:Int)=0
      ·rw[hj0',ZR];omega
      ·exact ht.dp j Qo IW hu
     have:=hb.2;unfold zen at this;rw[B' Qo] at this;omega
    ·by_cases hgj:g=(j:Int)
     ·subst hgj;have hpj:gi pl (j:Int)=some ⟨nb (j:Int),0,none⟩:=by rw[hP2 j hj0 IW,C' hg]
      rw[hpj] at hb;simp only[Option.isNone_some,Bool.not_false,Bool.true_and,decide_eq_false_iff_not] at hb;unfold zen at hb;have:=Ol gs 3 (j:Int)
      split at hb <;> omega
     ·exact hD g h0 Qo hg
   ·have RM:=Ou RM;have hj8:j=8:=Qo;subst hj8;have ht:Yr gs:=⟨hl8,ru,rp,rn,λg h1 h2 hg=>(hT g h1 h2 hg).1,λg h1 h2 hg=>(hT g h1 h2 hg).2.1,λg h1 h2 hg=>hD g Qo h2 hg,λg q a1 a2 a3 a4 a5=>(hT g Qo a3 a4).2.2 q a1 a2 a5⟩;intro w6 bE;refine⟨some ⟨wr.heap.size,0,none⟩,8,8,true,rfl,(T6.2 ht).symm,(hXw.trans hX5).trans bE,λh=>(by cases h),λ_=>⟨rfl,pl,nb,hpl,?_,hP2,(hNs.ext hX5).ext bE⟩⟩;exact((hO.WH hX5).WH bE).rd Mg.len Qs
def zhd{bs:List Nat}(h:Gd bs w o gs ms)(hl:gs.length<=maxLen):PX bs Ml #[.slice o gs.length c] w (.bool (Kj gs)):=by
 refine Lk λwr hx=>zg2 o gs.length c (R:=λv w'=>v=.bool (Kj gs)/\Q0 [] wr w') ?_
 have h:=(h.ext hx).less (cs:=[]) Qs;intro w1 S9 _;refine(z1z (h.ext S9) hl).mono λe w2 ⟨o',L,C,ok,he,hok,Rk,_⟩=>⟨_,_,_,_,he,Xm,λw3 Rl=>⟨by rw[hok],(S9.trans Rk).trans Rl⟩⟩
end
def XG{n k:Int}{w:Wo}{bs:List Nat}:PX bs Yk #[I n,I k] w (I (QS n k)):=
 EE n k λwr hx=>by
  refine⟨_,JQ,_,λ_=>Qq,λh=>?_,λh=>?_⟩
  ·congr 1;unfold QS;rw[B'];intro h2;simp only[A'] at h2;simp[h2] at h
  ·have h2:YY k 1 20/\YY n 0 100000000:=by simpa using h
   rw[Qu,Qu] at h2;have hm:=zl1 h2.2.1 h2.2.2 h2.1.1 h2.1.2;have hs:=zfr h2.1.1 h2.1.2;unfold zj3 at hm hs;refine⟨⟨Qo,Uc Qo Qo⟩,Uc Qo Qo,?_⟩;rw[Pk h2.2.1 h2.2.2 h2.1.1 h2.1.2];rfl
def Ha{k:Int}{w:Wo}{bs:List Nat}:PX bs Vp #[I k] w (I (ZT k)):=
 zey k λwr hx=>⟨_,XG,rfl⟩
def Zr(a b:Int):Int:=if a<b then a else b
def zlw(a b:Int):Int:=if a>b then a else b
def JE{a b:Int}{w:Wo}{bs:List Nat}:PX bs X1 #[I a,I b] w (I (Zr a b)):=
 zl8 a b λwr hx=>⟨λh=>by rw[Zr,C' (Ot h)],λh=>by rw[Zr,B' (Ou h)]⟩
def TJ{a b:Int}{w:Wo}{bs:List Nat}:PX bs X0 #[I a,I b] w (I (zlw a b)):=
 zl7 a b λwr hx=>⟨λh=>by rw[zlw,C' (Ot h)],λh=>by rw[zlw,B' (Ou h)]⟩
def Yg(l k:Int):Int:=if (if ZT k<l then ZT k else l)>0 then (if ZT k<l then ZT k else l) else 0
def ZN(k:Int):0<=ZT k/\ZT k<=34686091440:=by
 unfold ZT
 by_cases h:1<=k/\k<=20
 ·rw[Pk Qd Qd h.1 h.2];have:=zfr h.1 h.2;omega
 ·rw[D5 Qo];omega
def ZF(l k:Int):0<=Yg l k/\Yg l k<=ZT k:=by
 have:=ZN k;unfold Yg;by_cases h1:ZT k<l <;> simp only[h1,if_true,if_false] <;> split <;> omega
def zhb{l k:Int}{w:Wo}{bs:List Nat}:PX bs Mj #[I l,I k] w (I (Yg l k)):=
 zhu l k λwr hx=>⟨_,H8,rfl⟩
def KD{l k:Int}{w:Wo}{bs:List Nat}:PX bs Uv #[I l,I k] w (I (Yg l k)):=
 zh4 l k λwr hx=>by
  have hr:=ZN k;refine⟨_,JQ,λh=>?_,λh=>⟨_,TJ,_,Ha,_,JE,?_⟩⟩
  ·have h:YY k 1 20=false:=by simpa using h
   rw[z3i] at h;have h0:ZT k=0:=D5 Qo
   congr 1;unfold Yg;rw[h0];by_cases h1:0<l <;> simp only[h1,if_true,if_false] <;> (repeat' split) <;> omega
  ·congr 1;unfold Yg Zr zlw;by_cases h1:ZT k<l <;> simp only[h1,if_true,if_false] <;> by_cases h2:l>0 <;> simp only[h2,if_true,if_false] <;> (repeat' split) <;> omega
def Qf(n:Int):Int:=if YY n (-10) 9 then 10-n else 0
def Px{k:Int}{w:Wo}{bs:List Nat}:PX bs Je #[I k] w (I (Qf k)):=
 zad k λwr hx=>by
  refine⟨_,DK,λh=>?_,λh=>?_⟩
  ·have h:YY k (-10) 9=false:=by simpa using h
   rw[Qf,h];rfl
  ·have h:YY k (-10) 9:=by simpa using h
   have h2:=Qu.1 h;refine⟨Uc Qo Qo,?_⟩;rw[Qf,h];rfl
structure OS (b:Nat) (c:OA) (L N:Nat) (w:Wo):Prop where
 hd:∃(C:Nat) (p:Int),w.heap[b]? = some (.cells [.slice c L C,I p].toArray OZ (0,0))/\0<=p/\p<=N
 bytes:∀i<L,∃(a:Addr) (x:Int),c=some a/\a.block≠b/\0<=x/\x<=255/\w.cell? (a.add i)=some (.int .u8 x)
def OS.ext{b:Nat}{c:OA}{L N:Nat}{w w':Wo}{bs:List Nat}(h:OS b c L N w)(hx:Q0 bs w w')(hb:b∉bs)(hc:∀a,c=some a->a.block∉bs\/L=0):OS b c L N w':=by
 obtain⟨⟨C,p,h1,h2,h3⟩,hby⟩:=h;refine⟨⟨C,p,QP h1 hx hb,h2,h3⟩,λi hi=>?_⟩;obtain⟨a,x,ha,cU,S9,Rk,Rl⟩:=hby i hi;refine⟨a,x,ha,cU,S9,Rk,?_⟩
 have hbk:a.block∉bs:=by
  rcases hc a ha with h|h
  ·exact h
  ·omega
 obtain⟨a',e,_,h''⟩:=(show JH bs w c i (.int .u8 x) from ⟨a,ha,hbk,Rl⟩).ext hx;rw[ha] at e;cases e;exact h''
def OS.WH{b:Nat}{c:OA}{L N:Nat}{w w':Wo}(h:OS b c L N w)(hx:Q0 [] w w'):OS b c L N w':=h.ext hx Qs (λ_ _=>.inl Qs)
def OS.mono{b:Nat}{c:OA}{L N M:Nat}{w:Wo}(h:OS b c L N w)(hm:N<=M):OS b c L M w:=by
 obtain⟨⟨C,p,h1,h2,h3⟩,hby⟩:=h;exact⟨⟨C,p,h1,h2,Qo⟩,hby⟩
def OS.lt{b:Nat}{c:OA}{L N:Nat}{w:Wo}(h:OS b c L N w):b<w.heap.size:=by
 obtain⟨⟨C,p,h1,h2,h3⟩,hby⟩:=h;exact V3 h1
def OS.ltc{b:Nat}{c:OA}{L N:Nat}{w:Wo}(h:OS b c L N w)(a:Addr)(ha:c=some a):a.block<w.heap.size\/L=0:=by
 rcases Nat.eq_zero_or_pos L with h0|h0
 ·exact .inr h0
 ·obtain⟨a',x,ha',cU,S9,Rk,Rl⟩:=h.bytes 0 h0;rw[ha] at ha';cases ha';have:=World.block_lt_of_cell? w _ Rl;rw[ZW] at this;exact .inl this
def OS.Cs8{b:Nat}{c:OA}{L N M:Nat}{w0 w w':Wo}{bs:List Nat}(h0:OS b c L M w0)(h:OS b c L N w)(hx:Q0 bs w w')(hb:∀x∈bs,w0.heap.size<=x):OS b c L N w':=
 h.ext hx (λhm=>by have:=hb _ hm;have:=h0.lt;omega) λa ha=>by
  rcases h0.ltc a ha with hl|hl
  ·exact .inl λhm=>by have:=hb _ hm;omega
  ·exact .inr hl
def zbn(n v:Int):Prop:=0<=v/\(n<1->v=0)/\(1<=n->v<n)
def zjm{x n:Int}(hx:0<=x)(hn:1<=n):zbn n (Int.tmod x n):=by
 refine⟨Int.tmod_nonneg _ hx,Qo,λ_=>Int.tmod_lt_of_pos _ Qo⟩
def zrx{x y:Int}(h1:0<=x)(h2:x<=9223372036854775807)(h3:0<=y)(h4:y<=9223372036854775807):0<=TY .xor .i64 x y:=by
 have IW:(BitVec.ofInt 64 x ^^^ BitVec.ofInt 64 y).toNat<2 ^ 63:=by
  rw[BitVec.toNat_xor];refine Nat.xor_lt_two_pow ?_ ?_
  ·rw[BitVec.toNat_ofInt];omega
  ·rw[BitVec.toNat_ofInt];omega
 have h:=Qp.wrap (k:=.i64) (z:=((BitVec.ofInt 64 x ^^^ BitVec.ofInt 64 y).toNat:Int)) (Uc Qo Qo);show 0<=IntKind.i64.wrap ((BitVec.ofInt 64 x ^^^ BitVec.ofInt 64 y).toNat:Int);rw[h];omega
def zd3{b:Nat}{c:OA}{L N:Nat}{w:Wo}{n:Int}(h:OS b c L N w)(hN:N<=1000000000000) :
  Cz Q4 #[.pointer (some ⟨b,0,none⟩),I n] w λe w'=>∃v,e=.returned (I v)/\zbn n v/\OS b c L (N+1) w'/\Q0 [b] w w':=by
 refine(FD (some ⟨b,0,none⟩) n (R:=λv w'=>∃x,v=I x/\zbn n x/\OS b c L (N+1) w'/\Q0 [b] w w') ?_).mono λe w' ⟨v,he,x,hv,h1,h2,h3⟩=>⟨x,by rw[he,hv],h1,h2,h3⟩
 obtain⟨C,p,hh,hp0,hpN⟩:=h.hd;have hs:=Kg (k:=0) (n:=1) (vs:=[I (p+1)]) hh;have hxt:Q0 [b] w (Rw w (some ⟨b,0,none⟩) 1 [I (p+1)]):=TR λa ha=>by cases ha;exact IA.2 rfl
 generalize vZ:Rw w (some ⟨b,0,none⟩) 1 [I (p+1)]=w1 at hs hxt;have hs:w1.heap[b]? = some (.cells [.slice c L C,I (p+1)].toArray OZ (0,0)):=hs;have hc:Q1 [] w1 (some ⟨b,0,none⟩) (0+0) [.slice c L C]:=T1 hs Qs rfl;have hpp:Q1 [] w1 (some ⟨b,0,none⟩) (0+1) [I (p+1)]:=T1 hs Qs rfl
 have hby:∀i:Int,0<=i->i<L->∃x:Int,0<=x/\x<=255/\c.isSome/\Q1 [] w1 c (Int.toNat i*1) [.int .u8 x]:=λi h0 hi=>by
  obtain⟨a,x,ha,cU,S9,Rk,Rl⟩:=h.bytes i.toNat Qo;refine⟨x,S9,Rk,by rw[ha];rfl,?_⟩;have:=(show JH [b] w c i.toNat (.int .u8 x) from ⟨a,ha,by simpa using cU,Rl⟩).ext hxt;rw[Nat.mul_one];exact Uo (this.less Qs)
 have fin:∀(v:Int),zbn n v->∀wr,Q0 [] w1 wr->∃x,I v=I x/\zbn n x/\OS b c L (N+1) wr/\Q0 [b] w wr:=λv hv wr hr=>
  ⟨v,rfl,hv,OS.WH ⟨⟨C,p+1,hs,Qo,Qo⟩,λi hi=>by
   obtain⟨a,x,ha,cU,S9,Rk,Rl⟩:=h.bytes i hi;have:=(show JH [b] w c i (.int .u8 x) from ⟨a,ha,by simpa using cU,Rl⟩).ext hxt;obtain⟨a',ha',_,hc'⟩:=this;rw[ha] at ha';cases ha';exact⟨a,x,ha,cU,S9,Rk,hc'⟩⟩ hr,hxt.trans hr.of_nil⟩
 refine⟨rfl,p,T1 hh Qs rfl,Uc Qo Qo,rfl,BD hh Qs Qs,?_⟩;rw[show (0+1:Nat)=1 from rfl,vZ];refine⟨λ_=>rfl,c,L,C,λ_=>hc,λh=>?_,λh=>?_⟩
 ·simp only[Iu,Ij,Is] at h;refine fin 0 ⟨Qo,Qo,λhn=>by omega⟩
 ·have h:1<=n/\L≠0:=by simpa using h
  refine⟨rfl,p+1,hpp,Uc Qo Qo,rfl,c,L,C,hc,λIW=>?_,λIW=>?_⟩
  ·have IW:=Ot IW;obtain⟨x,S9,Rk,Rl,T'⟩:=hby (p+1-1) Qo IW;exact⟨rfl,c,L,C,hc,⟨Qo,IW,Rl⟩,x,T',Uc Qo Qo,Qo,fin _ (zjm S9 h.1)⟩
  ·have hLp:(0:Int)<(L:Int):=Qo;have hm1:=Int.tmod_nonneg (L:Int) (show 0<=p+1-1 by omega);have hm2:=Int.tmod_lt_of_pos (p+1-1) hLp;have hm3:=Int.tmod_nonneg (L:Int) (show 0<=(p+1-1)*7+3 by omega);have hm4:=Int.tmod_lt_of_pos ((p+1-1)*7+3) hLp;have hd1:0<=Int.tdiv (p+1-1) (L:Int):=Int.tdiv_nonneg Qo Qo
   have hd2:Int.tdiv (p+1-1) (L:Int)<=p+1-1:=by
    rw[Int.tdiv_eq_ediv_of_nonneg Qo];exact Int.ediv_le_self _ Qo
   obtain⟨x1,S9,Rk,Rl,T'⟩:=hby _ hm1 hm2;obtain⟨x2,cW,SQ,eD,iD⟩:=hby _ hm3 hm4;have hX0:0<=(x1*131+x2*1117+(p+1-1)*29)+Int.tdiv (p+1-1) (L:Int)*53:=Qo;have hX1:(x1*131+x2*1117+(p+1-1)*29)+Int.tdiv (p+1-1) (L:Int)*53<=1000000000000000:=Qo;have hq0:=Int.tdiv_nonneg hX0 (show (0:Int)<=64 by decide)
   have hq1:Int.tdiv ((x1*131+x2*1117+(p+1-1)*29)+Int.tdiv (p+1-1) (L:Int)*53) 64<=(x1*131+x2*1117+(p+1-1)*29)+Int.tdiv (p+1-1) (L:Int)*53:=by
    rw[Int.tdiv_eq_ediv_of_nonneg hX0];exact Int.ediv_le_self _ hX0
   refine⟨rfl,c,L,C,hc,rfl,c,L,C,hc,Qo,⟨hm1,hm2,Rl⟩,x1,T',Uc Qo Qo,Uc Qo Qo,rfl,c,L,C,hc,Uc Qo Qo,Uc Qo Qo,rfl,c,L,C,hc,Qo,⟨hm3,hm4,eD⟩,x2,iD,
    Uc Qo Qo,Uc Qo Qo,Uc Qo Qo,Uc Qo Qo,Uc Qo Qo,rfl,c,L,C,hc,⟨Qo,Uc Qo Qo⟩,Uc Qo Qo,Uc Qo Qo,⟨Qd,Uc Qo Qo⟩,Qo,?_⟩
   exact fin _ (zjm (zrx hX0 Qo hq0 Qo) h.1)
section
open Go.RowKit Go.ChangeShapes
section
variable {H:Type}{en:TypeId×Va->H}{w:Wo}{base:Nat}{spare:Nat->Bool}{held:Bool}{fuel:Nat}{cs:List Va}{x:DataW H×List MemPlace}
structure MW where
 cO:OA
 cC:Nat
 tO:OA
 tC:Nat
 gO:OA
 gC:Nat
 ms:Nat->MG
def Qc(W:Q7)(m:MW):List Va:=[.int .i64 W.now,.slice m.cO W.IF.length m.cC,.slice m.tO W.IJ.length m.tC,.slice m.gO W.IE.length m.gC]
structure XV (bs:List Nat) (w:Wo) (W:Q7) (m:MW):Prop where
 c:z56 bs w m.cO W.IF
 t:z0d bs w m.tO W.IJ
 g:Gd bs w m.gO W.IE m.ms
def XV.ext{bs:List Nat}{w w':Wo}{W:Q7}{m:MW}(h:XV bs w W m)(hx:Q0 bs w w'):XV bs w' W m:=⟨h.c.ext hx,h.t.ext hx,h.g.ext hx⟩
def XV.less{bs cs:List Nat}{w:Wo}{W:Q7}{m:MW}(h:XV bs w W m)(hs:∀x∈cs,x∈bs):XV cs w W m:=⟨h.c.less hs,h.t.less hs,h.g.less hs⟩
def XV.wide{bs cs:List Nat}{w:Wo}{W:Q7}{m:MW}(h:XV bs w W m)(hs:∀x∈cs,x∈bs\/w.heap.size<=x):XV cs w W m:=⟨h.c.wide hs,h.t.wide hs,h.g.wide hs⟩
end
end
def Uh(k:Nat):Int:=1*2 ^ (min (Int.toNat (k:Int)) 64)
def M1(m:Int):Bool:=YY m 0 15
def Zq(m c:Int):Bool:=(M1 m&&YY c 0 3)&&(Int.tmod (Int.fdiv m (2 ^ (min (Int.toNat c) 64))) 2==1)
def TL(a b:Int):Int:=if M1 a=true/\M1 b then TY .and .i64 a b else 0
def zcg(a b:Int):Nat->Int
 |0=>0
 |k+1=>if (Zq a (k:Int)&&Zq b (k:Int))=true then zcg a b k+Uh k else zcg a b k
def Kd{m:Int}(h:M1 m):∃f:Fin 16,m=(f.val:Int):=by
 have:=Qu.1 h;exact⟨⟨m.toNat,Qo⟩,by show m=((m.toNat:Nat):Int);omega⟩
def zwq:∀a b:Fin 16,zcg (a.val:Int) (b.val:Int) 4=TY .and .i64 (a.val:Int) (b.val:Int):=by decide +kernel
def zwr:∀a b:Fin 16,0<=TY .and .i64 (a.val:Int) (b.val:Int)/\TY .and .i64 (a.val:Int) (b.val:Int)<=15:=by decide +kernel
def zwo:∀a b:Fin 16,TY .and .i64 (a.val:Int) (b.val:Int)=TY .and .i64 (b.val:Int) (a.val:Int):=by decide +kernel
def zwn:∀a b c:Fin 16,TY .and .i64 (TY .and .i64 (a.val:Int) (b.val:Int)) (c.val:Int)=TY .and .i64 (a.val:Int) (TY .and .i64 (b.val:Int) (c.val:Int)):=by decide +kernel
def zwp:∀(a b:Fin 16) (c:Fin 4),Zq (TY .and .i64 (a.val:Int) (b.val:Int)) (c.val:Int)=(Zq (a.val:Int) (c.val:Int)&&Zq (b.val:Int) (c.val:Int)):=by decide +kernel
def zwm:∀a:Fin 16,TY .and .i64 (a.val:Int) 0=0:=by decide +kernel
def zbb(a b:Int):M1 (TL a b):=by
 unfold TL;split
 ·rename_i h;obtain⟨x,rfl⟩:=Kd h.1;obtain⟨y,rfl⟩:=Kd h.2;exact Qu.2 (zwr x y)
 ·exact Qu.2 Qd
def OV{a b:Int}(ha:M1 a)(hb:M1 b):TL a b=TY .and .i64 a b:=by unfold TL;rw[C' ⟨ha,hb⟩]
def XH{a b:Int}(h:M1 a=false\/M1 b=false):TL a b=0:=by
 unfold TL;rw[B'];rintro⟨h1,h2⟩;rcases h with h|h
 ·rw[h1] at h;cases h
 ·rw[h2] at h;cases h
def NL(a b:Int):TL a b=TL b a:=by
 cases ha:M1 a with
 |false=>rw[XH (.inl ha),XH (.inr ha)]
 |true=>
  cases hb:M1 b with
  |false=>rw[XH (.inr hb),XH (.inl hb)]
  |true=>
   rw[OV ha hb,OV hb ha];obtain⟨x,rfl⟩:=Kd ha;obtain⟨y,rfl⟩:=Kd hb;exact zwo x y
def HR(a:Int):TL a 0=0:=by
 cases ha:M1 a with
 |false=>exact XH (.inl ha)
 |true=>
  rw[OV ha Qd];obtain⟨x,rfl⟩:=Kd ha;exact zwm x
def zqs(a b c:Int):TL (TL a b) c=TL a (TL b c):=by
 cases hb:M1 b with
 |false=>rw[XH (a:=a) (.inr hb),XH (b:=c) (.inl hb),NL 0 c,HR,HR]
 |true=>
  cases ha:M1 a with
  |false=>rw[XH (b:=b) (.inl ha),XH (b:=TL b c) (.inl ha),NL,HR]
  |true=>
   cases hc:M1 c with
   |false=>rw[XH (a:=TL a b) (.inr hc),XH (a:=b) (.inr hc),HR]
   |true=>
    have h1:=zbb a b;have h2:=zbb b c;rw[OV h1 hc,OV ha h2,OV ha hb,OV hb hc];obtain⟨x,rfl⟩:=Kd ha;obtain⟨y,rfl⟩:=Kd hb;obtain⟨z,rfl⟩:=Kd hc;exact zwn x y z
def MH{m c:Int}(h:Zq m c):M1 m/\0<=c/\c<=3:=by
 unfold Zq at h;simp only[A'] at h;exact⟨h.1.1,Qu.1 h.1.2⟩
def zn9{a b c:Int}(h:Zq (TL a b) c):Zq a c/\Zq b c:=by
 have hr:=MH h
 have hz:Zq 0 c=false:=by
  have:c=0\/c=1\/c=2\/c=3:=Qo;rcases this with rfl|rfl|rfl|rfl <;> decide
 cases ha:M1 a with
 |false=>rw[XH (.inl ha),hz] at h;cases h
 |true=>
  cases hb:M1 b with
  |false=>rw[XH (.inr hb),hz] at h;cases h
  |true=>
   rw[OV ha hb] at h;obtain⟨x,rfl⟩:=Kd ha;obtain⟨y,rfl⟩:=Kd hb;have:=zwp x y ⟨c.toNat,Qo⟩;rw[show ((⟨c.toNat,Qo⟩:Fin 4).val:Int)=c by show ((c.toNat:Nat):Int)=c;omega] at this;rw[this] at h
   simpa using h
def Vm(cs:List PP):Nat->Int
 |0=>0
 |k+1=>if (gi cs (k:Int)).up=true then Vm cs k+Uh k else Vm cs k
def JG(cs:List PP):Int:=Vm cs cs.length
def D4(cs:List PP):∀k:Nat,k<=4->0<=Vm cs k/\Vm cs k<Uh k
 |0,_=>by simp[Vm,Uh]
 |k+1,h=>by
  have ih:=D4 cs k Qo
  have hb:Uh (k+1)=2*Uh k/\0<=Uh k:=by
   have:k=0\/k=1\/k=2\/k=3:=Qo;rcases this with rfl|rfl|rfl|rfl <;> decide
  simp only[Vm]
  split <;> omega
def N4{k:Nat}(h:k<=4):1<=Uh k/\Uh k<=16:=by
 have:k=0\/k=1\/k=2\/k=3\/k=4:=Qo;rcases this with rfl|rfl|rfl|rfl|rfl <;> decide
def z27{cs:List PP}(h:cs.length<=4):M1 (JG cs):=by
 have:=D4 cs cs.length h;have:=N4 h;exact Qu.2 (by unfold JG;omega)
def z48:∀(k:Fin 4) (s:Fin 8),(s.val:Int)<Uh k.val->TY .or .i64 (s.val:Int) (Uh k.val)=(s.val:Int)+Uh k.val:=by decide +kernel
def z47{k:Nat}{s:Int}(hk:k<4)(h0:0<=s)(h1:s<Uh k):TY .or .i64 s (Uh k)=s+Uh k:=by
 have hb:Uh k<=8:=by
  have:k=0\/k=1\/k=2\/k=3:=Qo;rcases this with rfl|rfl|rfl|rfl <;> decide
 have:=z48 ⟨k,hk⟩ ⟨s.toNat,Qo⟩;rw[show ((⟨s.toNat,Qo⟩:Fin 8).val:Int)=s by show ((s.toNat:Nat):Int)=s;omega] at this;exact this h1
def znt:∀(k:Fin 4) (s:Fin 8) (c:Fin 4),(s.val:Int)<Uh k.val->Zq ((s.val:Int)+Uh k.val) (c.val:Int)=(decide (c.val=k.val)||Zq (s.val:Int) (c.val:Int)):=by decide +kernel
def zmu(cs:List PP){c:Int}:∀k:Nat,k<=4->Zq (Vm cs k) c->c<(k:Int)/\(gi cs c).up=true
 |0,_,h=>by
  have hr:=MH h;have:c=0\/c=1\/c=2\/c=3:=Qo;rcases this with rfl|rfl|rfl|rfl <;> exact Ir h (by simp only[Vm];decide)
 |k+1,hk,h=>by
  have hr:=MH h;have ih:=zmu cs (c:=c) k Qo;have hl:=D4 cs k Qo
  have hb:Uh k<=8:=by
   have:k=0\/k=1\/k=2\/k=3:=Qo;rcases this with rfl|rfl|rfl|rfl <;> decide
  simp only[Vm] at h
  split at h
  ·rename_i hu;have:=znt ⟨k,Qo⟩ ⟨(Vm cs k).toNat,Qo⟩ ⟨c.toNat,Qo⟩;rw[show ((⟨(Vm cs k).toNat,Qo⟩:Fin 8).val:Int)=Vm cs k by show (((Vm cs k).toNat:Nat):Int)=Vm cs k;omega,show ((⟨c.toNat,Qo⟩:Fin 4).val:Int)=c by show ((c.toNat:Nat):Int)=c;omega] at this;rw[this hl.2] at h;simp only[Iu,Ij] at h;rcases h with h|h
   ·have:c=(k:Int):=Qo;subst this;exact⟨Qo,hu⟩
   ·have:=ih h;exact⟨Qo,this.2⟩
  ·have:=ih h;exact⟨Qo,this.2⟩
def UZ:Nat->List ZD->Int->List Int
 |0,_,_=>[]
 |f+1,gs,g=>if g=0 then [] else g::UZ f gs (gi gs g).IG
abbrev QR(gs:List ZD)(g:Int):List Int:=UZ 3 gs g
def Zh(gs:List ZD)(f:Nat):UZ f gs 0=[]:=by cases f <;> simp[UZ]
def zvf{gs:List ZD}(ht:Yr gs):∀(f f':Nat) (h:Int),Q6 gs h->dep 3 gs h<=f->dep 3 gs h<=f'->UZ f gs h=UZ f' gs h:=by
 intro f
 induction f with
 |zero=>
  intro f' h hu h1 h2
  have hz:h=0:=Iq λhz=>by
   obtain⟨_,_,_,d,e,_⟩:=Y0 ht hu hz;omega
  subst hz;rw[Zh,Zh]
 |succ f ih=>
  intro f' h hu h1 h2
  by_cases hz:h=0
  ·subst hz;rw[Zh,Zh]
  ·obtain⟨hp,_,_,d,e,e2,_⟩:=Y0 ht hu hz
   cases f' with
   |zero=>omega
   |succ f'=>
    simp only[UZ];rw[B' hz,B' hz,ih f' (gi gs h).IG hp Qo Qo]
def Yq{gs:List ZD}(ht:Yr gs){h:Int}(hu:Q6 gs h)(hz:h≠0):QR gs h=h::QR gs (gi gs h).IG:=by
 obtain⟨hp,_,_,d,e,e2,hd⟩:=Y0 ht hu hz;show UZ 3 gs h=_;rw[show UZ 3 gs h=if h=0 then [] else h::UZ 2 gs (gi gs h).IG from rfl,B' hz,zvf ht 2 3 _ hp Qo Qo]
def MK{gs:List ZD}(ht:Yr gs){Q:Int->Prop}(h0:Q 0)(hs:∀h:Int,Q6 gs h->h≠0->Q (gi gs h).IG->Q h):∀h:Int,Q6 gs h->Q h:=by
 have key:∀(n:Nat) (h:Int),Q6 gs h->dep 3 gs h<=n->Q h:=by
  intro n
  induction n with
  |zero=>
   intro h hu hd
   by_cases hz:h=0
   ·subst hz;exact h0
   ·obtain⟨_,_,_,d,e,_⟩:=Y0 ht hu hz;omega
  |succ n ih=>
   intro h hu hd
   by_cases hz:h=0
   ·subst hz;exact h0
   ·obtain⟨hp,_,_,d,e,e2,_⟩:=Y0 ht hu hz;exact hs h hu hz (ih _ hp Qo)
 intro h hu;have:=Ol gs 3 h;exact key 3 h hu Qo
def zy8{gs:List ZD}(ht:Yr gs){h:Int}(hu:Q6 gs h):QR gs h++[0]=h::(QR gs h).map λx=>(gi gs x).IG:=by
 refine MK ht (Q:=λh=>QR gs h++[0]=h::(QR gs h).map λx=>(gi gs x).IG) (by simp[QR,Zh]) (λh hu hz ih=>?_) h hu;rw[Yq ht hu hz,List.cons_append,ih,List.map_cons]
def Ta(gs:List ZD)(g u:Int):Int:=(QR gs g++[0]).foldl (λs x=>TL s (gi gs x).IF) u
def zo3(gs:List ZD)(g:Int):Int:=(QR gs g).foldl (λs x=>TL s (gi gs (gi gs x).IG).IF) (gi gs g).IF
def znn(f:Int->Int):∀(l:List Int) (m u:Int),TL (l.foldl (λs x=>TL s (f x)) m) u=l.foldl (λs x=>TL s (f x)) (TL u m)
 |[],m,u=>NL m u
 |x::l,m,u=>by
  simp only[List.foldl_cons];rw[znn f l,zqs]
def zzn{gs:List ZD}(ht:Yr gs){g u:Int}(hu:Q6 gs g):TL (zo3 gs g) u=Ta gs g u:=by
 unfold zo3 Ta;rw[zy8 ht hu,List.foldl_cons,List.foldl_map,znn (λx=>(gi gs (gi gs x).IG).IF)]
def zs7{gs:List ZD}{g u c:Int}(h:Zq (Ta gs g u) c):Zq u c:=by
 unfold Ta at h
 revert h
 generalize QR gs g++[0]=l
 induction l generalizing u with
 |nil=>exact λh=>h
 |cons x l ih=>
  intro h;rw[List.foldl_cons] at h;exact(zn9 (ih h)).1
def QD(W:Q7)(g mask:Int):Int:=
 if TL mask (Ta W.IE g (JG W.IF))≠0 then TL mask (Ta W.IE g (JG W.IF)) else if Ta W.IE g (JG W.IF)≠0 then Ta W.IE g (JG W.IF) else JG W.IF
def zv6{W:Q7}{g mask c:Int}(h:Zq (QD W g mask) c):Zq (JG W.IF) c:=by
 unfold QD at h
 split at h
 ·exact zs7 (zn9 h).2
 ·split at h
  ·exact zs7 h
  ·exact h
def Vl(l:List Int):Nat->Int
 |0=>0
 |k+1=>Vl l k+gi l (k:Int)
def O1(p:Nat->Bool):Nat->Bool
 |0=>false
 |k+1=>O1 p k||p k
def LB{p:Nat->Bool}:∀{n:Nat},O1 p n=true↔∃j,j<n/\p j=true
 |0=>by simp[O1]
 |n+1=>by
  simp only[O1,Iu,LB (n:=n)];constructor
  ·rintro (⟨j,hj,h⟩|h)
   ·exact⟨j,Qo,h⟩
   ·exact⟨n,Qo,h⟩
  ·rintro⟨j,hj,h⟩
   by_cases hjn:j=n
   ·subst hjn;exact .inr h
   ·exact .inl ⟨j,Qo,h⟩
def zko{p:Nat->Bool}{n:Nat}(h:∀j,j<n->p j=false):O1 p n=false:=by
 cases ha:O1 p n with
 |false=>rfl
 |true=>
  obtain⟨j,hj,hp⟩:=LB.1 ha;rw[h j hj] at hp;cases hp
noncomputable def U0(P:Prop):Bool:=@decide P (Classical.propDecidable P)
def Qm{P:Prop}:U0 P=true↔P:=@decide_eq_true_iff P (Classical.propDecidable P)
def GZ{P:Prop}:U0 P=false↔¬P:=by
 constructor
 ·intro h hp;rw[Qm.2 hp] at h;cases h
 ·intro h
  cases hb:U0 P with
  |false=>rfl
  |true=>exact Ir (Qm.1 hb) h
def PI{b:Bool}{P:Prop}(h:b=true↔P):Value.bool b=.bool (U0 P):=by
 have:b=U0 P:=by
  cases hb:U0 P with
  |true=>exact h.2 (Qm.1 hb)
  |false=>
   cases hc:b with
   |false=>rfl
   |true=>exact Ir (h.1 hc) (GZ.1 hb)
 rw[this]
def GB{P:Prop}(h:¬P):Value.bool false=.bool (U0 P):=by rw[GZ.2 h]
def zph{P:Prop}(h:P):Value.bool true=.bool (U0 P):=by rw[Qm.2 h]
def Q8(W:Q7)(t:Int):PS:=gi W.IJ t
def Qa(W:Q7)(g c:Int):KM:=gi (gi W.IE g).IH c
def Ya(v:Int):Bool:=YY v 0 100000000000000000
def Xj{v:Int}:Ya v=true↔0<=v/\v<=100000000000000000:=Qu
def ON(b:Um):Bool:=((((b.I'==0)&&(b.RH==0))&&(b.So==0))&&(((b.locals.length:Nat):Int)==0))&&(((b.Ry.length:Nat):Int)==0)
structure P2 (b:Um):Prop where
 q1:1<=b.I'
 q2:b.I'<=10000
 l1:1<=b.locals.length
 l2:b.locals.length<=4
 dl:b.Ry.length=b.locals.length
 p1:0<=b.RH
 p2:b.RH<=b.I'
 s1:0<=b.So
 s2:b.So<=b.I'
 each:∀c:Int,0<=c->c<(b.locals.length:Int)->0<=gi b.locals c/\gi b.locals c<=b.I'/\(gi b.Ry c=true->gi b.locals c=0/\b.RH=0)
 sum:b.RH+b.So+Vl b.locals b.locals.length=b.I'
structure zpn (W:Q7) (k:Int) (g:ZD):Prop where
 w1:1<=g.R2
 w2:g.R2<=20
 m:M1 g.IF=true
 m0:g.IF≠0
 s:Ya g.sum=true
 len:g.IH.length=W.IF.length
 root:k=0->g.R2=10/\g.IF=15/\g.IL.I'=0
 none:g.IL.I'=0->ON g.IL/\g.period=0/\g.next=0
 IL:g.IL.I'≠0->P2 g.IL/\g.IL.locals.length=W.IF.length/\1<=g.period/\g.period<=1000/\W.now<g.next/\g.next-W.now<=g.period
structure zwf (g:ZD):Prop where
 p:g.IG=0
 n:g.name=⟨[].toArray⟩
 w:g.R2=0
 c:g.IF=0
 pe:g.period=0
 ne:g.next=0
 s:g.sum=0
 l:g.IH.length=0
 b:ON g.IL=true
def Kn(W:Q7)(k:Int):Prop:=((gi W.IE k).IV=false->zwf (gi W.IE k))/\((gi W.IE k).IV->zpn W k (gi W.IE k))
structure WA (W:Q7):Prop where
 n1:0<=W.now
 n2:W.now<=100000000000000000
 c1:1<=W.IF.length
 c2:W.IF.length<=4
 t:W.IJ.length=12
 tree:Yr W.IE
 ups:JG W.IF≠0
 grp:∀k:Int,0<=k->k<8->Kn W k
def Xu(W:Q7)(g c:Int):Bool:=decide ((gi W.IE g).IL.I'>0)&&gi (gi W.IE g).IL.Ry c
def Ug(W:Q7)(g c:Int)(j:Nat):Bool:=(((gi W.IJ (j:Int)).state==1)&&((gi W.IJ (j:Int)).II==g))&&((gi W.IJ (j:Int)).R1==c)
def Xb(W:Q7)(g c:Int)(j:Nat):Bool:=(decide (1<=j)&&((gi W.IE (j:Int)).IV&&((gi W.IE (j:Int)).IG==g)))&&(Qa W (j:Int) c).on
def Qv(W:Q7)(g c:Int):Bool:=O1 (Ug W g c) W.IJ.length||O1 (Xb W g c) W.IE.length
def JR(W:Q7)(g c:Int):Bool:=(QR W.IE g).all λx=>(Qa W x c).on
def Zf(W:Q7)(t:Int):Bool:=((Q8 W t).state==1)&&JR W (Q8 W t).II (Q8 W t).R1
def KJ(v f k:Int):Bool:=decide (v>=f)&&decide (IntKind.i64.wrap (v-f)<=ZT k)
def Oi(W:Q7)(g c SX:Int):Bool:=(QR W.IE g).all λx=>decide ((Qa W x c).v-(Qa W (gi W.IE x).IG c).IM<=QS SX (Qa W x c).w)
def MR(W:Q7)(c:Int):Bool:=
 decide ((Q8 W (gi W.IF c).cur).v-(Qa W (Q8 W (gi W.IF c).cur).II c).IM<=QS (gi W.IF c).SX (Qf (Q8 W (gi W.IF c).cur).nice))&&Oi W (Q8 W (gi W.IF c).cur).II c (gi W.IF c).SX
def T8:PS:=⟨0,0,0,0,0,0,0,0,0⟩
structure z0o (W:Q7) (x:PS):Prop where
 st:x.state=1\/x.state=2
 g:Q6 W.IE x.II=true
 n:Qf x.nice≠0
 m:M1 x.mask=true
 m0:x.mask≠0
 v:Ya x.v=true
 s:Ya x.sum=true
 u:Ya x.IV=true
 l1:0<=x.load
 l2:x.load<=8000000
 c:Zq (QD W x.II x.mask) x.R1=true
 f:x.state=1->KJ x.v (Qa W x.II x.R1).IM (Qf x.nice)=true
def AM(W:Q7)(t:Int):Prop:=(Q8 W t).state=0/\Q8 W t=T8\/(Q8 W t).state≠0/\z0o W (Q8 W t)
structure Ko (W:Q7) (k c:Int):Prop where
 f:Ya (Qa W k c).IM=true
 v:Ya (Qa W k c).v=true
 s:Ya (Qa W k c).sum=true
 w1:1<=(Qa W k c).w
 w2:(Qa W k c).w<=20
 root:k=0->(Qa W k c).on=false/\(Qa W k c).v=0/\(Qa W k c).w=10
 on:k≠0->(Qa W k c).on=(Qv W k c && !Xu W k c)
 st:k≠0->(Qa W k c).on->KJ (Qa W k c).v (Qa W (gi W.IE k).IG c).IM (Qa W k c).w=true
structure BH (W:Q7) (c:Int):Prop where
 b:Ya (gi W.IF c).busy=true
 i:Ya (gi W.IF c).idle=true
 c1 : -1<=(gi W.IF c).cur
 c2:(gi W.IF c).cur<(W.IJ.length:Int)
 no:(gi W.IF c).cur<0->(gi W.IF c).SX=0
 yes:0<=(gi W.IF c).cur->(gi W.IF c).up/\1<=(gi W.IF c).SX/\(gi W.IF c).SX<=149/\(Q8 W (gi W.IF c).cur).R1=c/\Zf W (gi W.IF c).cur/\MR W c=true
structure XQ (W:Q7):Prop where
 a:WA W
 t:∀t:Int,0<=t->t<12->AM W t
 s:∀k c:Int,0<=k->k<8->0<=c->c<((gi W.IE k).IH.length:Int)->Ko W k c
 c:∀c:Int,0<=c->c<(W.IF.length:Int)->BH W c
noncomputable def Qr(W:Q7):Bool:=U0 (XQ W)
section
variable {W:Q7}
def WA.gl(h:WA W):W.IE.length=8:=h.tree.len
def WA.u(h:WA W){g:Int}(hu:Q6 W.IE g):0<=g/\g<8/\zpn W g (gi W.IE g):=by
 obtain⟨a,b,c⟩:=Q2.1 hu;have:=h.gl;exact⟨a,Qo,(h.grp g a Qo).2 c⟩
def WA.root(h:WA W):Q6 W.IE 0:=Q2.2 ⟨Qd,by have:=h.gl;omega,h.tree.ru⟩
def WA.sl(h:WA W){g:Int}(hu:Q6 W.IE g):(gi W.IE g).IH.length=W.IF.length:=(h.u hu).2.2.len
def WA.up(h:WA W){g:Int}(hu:Q6 W.IE g)(hz:g≠0):Q6 W.IE (gi W.IE g).IG:=(Y0 h.tree hu hz).1
def WA.dl(h:WA W){g:Int}(hu:Q6 W.IE g)(hq:(gi W.IE g).IL.I'≠0):(gi W.IE g).IL.Ry.length=W.IF.length/\(gi W.IE g).IL.locals.length=W.IF.length:=by
 have hb:=(h.u hu).2.2.IL hq;exact⟨by rw[hb.1.dl,hb.2.1],hb.2.1⟩
end
def X2{v:Int}{w:Wo}{bs:List Nat}:PX bs Y4 #[I v] w (.bool (Ya v)):=zh9 v λwr hx=>⟨_,Qq,rfl⟩
def Yc{n:Int}{w:Wo}{bs:List Nat}:PX bs Zm #[I n] w (I (Qf n)):=
 zaj n λwr hx=>⟨_,Qq,λg=>by
  unfold Qf;rw[B' (by simpa using g)],λg=>by
  have g':YY n (-10) 9:=by simpa using g
  have:=Qu.1 g';refine⟨⟨Qo,Qo⟩,?_⟩;unfold Qf;rw[C' g']⟩
def Xq{m:Int}{w:Wo}{bs:List Nat}:PX bs Ys #[I m] w (.bool (M1 m)):=zh5 m λwr hx=>⟨_,Qq,rfl⟩
def Yu{m c:Int}{w:Wo}{bs:List Nat}:PX bs Zu #[I m,I c] w (.bool (Zq m c)):=
 ze0 m c λwr hx=>by
  have hr:(M1 m&&YY c 0 3)->0<=c/\c<=3:=λg=>by
   simp only[A'] at g;exact Qu.1 g.2
  exact⟨_,Xq,_,λ_=>Qq,λg=>by have:=hr g;exact⟨Qo,by show c<=18446744073709551615;omega⟩,λg=>(hr g).1,λ_=>by decide,rfl⟩
def zr4(a b:Int):∀k:Nat,k<=4->0<=zcg a b k/\zcg a b k<Uh k
 |0,_=>by simp[zcg,Uh]
 |k+1,h=>by
  have ih:=zr4 a b k Qo
  have hb:Uh (k+1)=2*Uh k/\0<=Uh k:=by
   have:k=0\/k=1\/k=2\/k=3:=Qo;rcases this with rfl|rfl|rfl|rfl <;> decide
  simp only[zcg]
  split <;> omega
def z3j{k:Nat}(h:k<=64):Qp .u64 (k:Int):=⟨by show (0:Int)<=(k:Int);omega,by show (k:Int)<=18446744073709551615;omega⟩
def ME{a b:Int}{w:Wo}{bs:List Nat}:PX bs JN #[I a,I b] w (I (TL a b)):=
 zez a b λwr hx=>by
  refine⟨_,Xq,_,λ_=>Xq,λg=>?_,λg=>?_⟩
  ·rw[XH]
   simpa using g
  ·simp only[H',I6] at g
   have he:TL a b=zcg a b 4:=by
    rw[OV g.1 g.2];obtain⟨x,rfl⟩:=Kd g.1;obtain⟨y,rfl⟩:=Kd g.2;exact(zwq x y).symm
   rw[he];refine Pc 4 0 rfl (λx k=>k<=4/\x=zcg a b k) ⟨Qo,rfl⟩ λx k ⟨hk,hx⟩=>⟨λIW=>?_,λRM=>?_⟩
   ·have IW:=Ot IW;have hb:=N4 (k:=k) Qo;have hl:=zr4 a b k hk;have eI:(1*2 ^ (min (Int.toNat (k:Int)) 64):Int)=Uh k:=rfl;refine⟨_,Yu,_,λ_=>Yu,λh=>?_,λh=>?_⟩
    ·rw[eI];refine⟨z3j Qo,⟨Qo,Qo,Qo⟩,⟨Qo,Qo⟩,⟨Qo,Qo⟩,QN Qo ⟨Qo,?_⟩⟩;rw[hx];simp only[zcg];rw[C' h]
    ·refine⟨⟨Qo,Qo⟩,QN Qo ⟨Qo,?_⟩⟩;rw[hx];simp only[zcg];rw[B' (by rw[h];decide)]
   ·have RM:=Ou RM;have:k=4:=Qo;subst this;rw[hx]
def Hm{b:Um}(h:ON b):b.I'=0/\b.RH=0/\b.So=0/\b.locals.length=0/\b.Ry.length=0:=by
 unfold ON at h;simp only[A',Is] at h;omega
def Gp{b:Um}{m:MG}{w:Wo}{bs:List Nat}:PX bs UP #[.agg (ZI b m).toArray] w (.bool (ON b)):=
 zas b.I' b.RH b.So m.lO b.locals.length m.lC m.dO b.Ry.length m.dC λwr hx=>λ_ _=>rfl
def DN{b:Um}{m:MG}{w:Wo}{bs:List Nat}(h1:zm3 bs w m.lO b.locals)(h2:zwi bs w m.dO b.Ry)(hl:b.locals.length<=maxLen):PX bs Ts #[.agg (ZI b m).toArray] w (.bool (U0 (P2 b))):=
 zh3 b.I' b.RH b.So m.lO b.locals.length m.lC m.dO b.Ry.length m.dC λwr hx=>by
  have h1:=(h1.ext hx).less (cs:=[]) Qs;have h2:=(h2.ext hx).less (cs:=[]) Qs;intro _ _;refine⟨_,Qq,_,λ_=>Qq,_,λ_=>Qq,_,λ_=>Qq,λg=>GB λp=>?_,λg=>?_⟩
  ·rw[Qu.2 ⟨p.q1,p.q2⟩,Qu.2 (by have:=p.l1;have:=p.l2;omega),Qu.2 ⟨p.p1,p.p2⟩,Qu.2 ⟨p.s1,p.s2⟩,p.dl] at g;simp at g
  ·simp only[H',I6,bne_eq_false_iff_eq,Qu] at g;obtain⟨⟨⟨⟨g1,g2⟩,g3⟩,g4⟩,g5⟩:=g;have hdl:b.Ry.length=b.locals.length:=Qo
   have all:∀{k:Nat},k<=b.locals.length->(∀c:Int,0<=c->c<(k:Int)->0<=gi b.locals c/\gi b.locals c<=b.I'/\(gi b.Ry c=true->gi b.locals c=0/\b.RH=0))->0<=Vl b.locals k/\Vl b.locals k<=40000:=λ{k} hk h=>by
    have key:∀j:Nat,j<=k->0<=Vl b.locals j/\Vl b.locals j<=(j:Int)*10000:=λj=>by
     induction j with
     |zero=>intro _;simp[Vl]
     |succ j ih=>
      intro hj;have:=ih Qo;have:=h (j:Int) Qo Qo;simp only[Vl];omega
    have:=key k (I7 _);omega
   refine⟨⟨Qo,Qo⟩,?_⟩;refine Pc b.locals.length 0 rfl (λx k=>k<=b.locals.length/\x=b.RH+b.So+Vl b.locals k/\∀c:Int,0<=c->c<(k:Int)->0<=gi b.locals c/\gi b.locals c<=b.I'/\(gi b.Ry c=true->gi b.locals c=0/\b.RH=0)) ⟨Ic _,by simp[Vl],λc h0 h1=>by omega⟩ λx k ⟨hk,Rk,hI⟩=>⟨λIW=>?_,λRM=>?_⟩
   ·have IW:=Ot IW;have Rh:(k:Int)<(b.Ry.length:Int):=Qo;have hsr:=all hk hI;refine⟨h1.ix XU Qo IW,_,h1 k Qo IW,_,Qq,λ_=>h2.ix LF Qo Rh,_,λ_=>h2 k Qo Rh,λ_ _=>h1.ix XU Qo IW,_,λ_ _=>h1 k Qo IW,λg=>GB λp=>?_,λg=>⟨h1.ix XU Qo IW,_,h1 k Qo IW,?_⟩⟩
    ·have pe:=p.each (k:Int) Qo IW;rw[Qu.2 ⟨pe.1,pe.2.1⟩] at g;simp only[Bool.not_true,Bool.false_or,A',Iu,Ij] at g;have:=pe.2.2 g.1;omega
    ·simp only[H',I6,Qu] at g;obtain⟨ga,gb⟩:=g;refine⟨⟨Qo,Qo⟩,⟨Qo,Qo⟩,QN Qo ⟨Qo,by simp only[Vl];omega,λc hc0 hc=>?_⟩⟩
     by_cases hck:c<(k:Int)
     ·exact hI c hc0 hck
     ·have:c=(k:Int):=Qo;subst this;refine⟨ga.1,ga.2,λhd=>?_⟩;rw[hd] at gb;simp only[Bool.true_and,H',decide_eq_false_iff_not] at gb;omega
   ·have RM:=Ou RM;have:k=b.locals.length:=Qo;subst this;refine PI ?_;rw[Is,Rk];constructor
    ·intro hs;exact⟨g1.1,g1.2,Qo,Qo,hdl,g4.1,g4.2,g5.1,g5.2,hI,hs⟩
    ·exact λp=>p.sum
section
variable {W:Q7}{m:MW}{w:Wo}{bs:List Nat}
def Gd.Rn{gs:List ZD}{ms:Nat->MG}{o:OA}(h:Gd bs w o gs ms){i:Int}(h0:0<=i)(h1:i<(gs.length:Int)):Q1 bs w o (Int.toNat i*14+13) [.slice (ms i.toNat).sO (gi gs i).IH.length (ms i.toNat).sC]:=(h.cells i h0 h1).get 13 _ rfl
def Gd.IF{gs:List ZD}{ms:Nat->MG}{o:OA}(h:Gd bs w o gs ms){i:Int}(h0:0<=i)(h1:i<(gs.length:Int)):Q1 bs w o (Int.toNat i*14+4) [I (gi gs i).IF]:=(h.cells i h0 h1).get 4 _ rfl
def Gd.IL{gs:List ZD}{ms:Nat->MG}{o:OA}(h:Gd bs w o gs ms){i:Int}(h0:0<=i)(h1:i<(gs.length:Int)):Q1 bs w o (Int.toNat i*14+8) (ZI (gi gs i).IL (ms i.toNat)):=Ok λj v hj=>by
 have e:YA (gi gs i) (ms i.toNat)=((YA (gi gs i) (ms i.toNat)).take 8++ZI (gi gs i).IL (ms i.toNat))++[.slice (ms i.toNat).sO (gi gs i).IH.length (ms i.toNat).sC]:=rfl
 have hj':j<5:=by
  have:=(I8.1 hj).1
  simpa[ZI] using this
 have:=(h.cells i h0 h1).get (8+j) v (by
  rw[e,Ip (by simp[YA,ZI];omega),List.getElem?_append_right (by simp[YA])]
  simpa[YA] using hj)
 rwa[<-Nat.add_assoc] at this
def z0d.f{ts:List PS}{o:OA}(h:z0d bs w o ts){i:Int}(h0:0<=i)(h1:i<(ts.length:Int)){j:Nat}{v:Va}(hj:(Xc (gi ts i))[j]? = some v):Q1 bs w o (Int.toNat i*9+j) [v]:=Uo ((h i h0 h1).get j v hj)
def z56.f{cs:List PP}{o:OA}(h:z56 bs w o cs){i:Int}(h0:0<=i)(h1:i<(cs.length:Int)){j:Nat}{v:Va}(hj:(Gv (gi cs i))[j]? = some v):Q1 bs w o (Int.toNat i*5+j) [v]:=Uo ((h i h0 h1).get j v hj)
def zm2.f{ss:List KM}{o:OA}(h:zm2 bs w o ss){i:Int}(h0:0<=i)(h1:i<(ss.length:Int)){j:Nat}{v:Va}(hj:(T9 (gi ss i))[j]? = some v):Q1 bs w o (Int.toNat i*5+j) [v]:=Uo ((h i h0 h1).get j v hj)
def LL(h:XV bs w W m)(h4:W.IF.length<=4):PX bs Vg #[.agg (Qc W m).toArray] w (I (JG W.IF)):=
 zma _ _ _ _ _ _ _ _ _ _ λwr hx=>by
  have h:=(h.ext hx).less (cs:=[]) Qs;intro _ _;refine Pc W.IF.length 0 rfl (λx k=>k<=W.IF.length/\x=Vm W.IF k) ⟨Ic _,rfl⟩ λx k ⟨hk,Rk⟩=>⟨λIW=>?_,λRM=>?_⟩
  ·have IW:=Ot IW;have hb:=N4 (k:=k) Qo;have hl:=D4 W.IF k Qo;have eI:(1*2 ^ (min (Int.toNat (k:Int)) 64):Int)=Uh k:=rfl;refine⟨h.c.ix Y1 Qo IW,_,h.c.f Qo IW (j:=0) rfl,λhu=>?_,λhu=>?_⟩
   ·rw[eI];refine⟨z3j Qo,⟨Qo,Qo,Qo⟩,⟨Qo,Qo⟩,⟨Qo,Qo⟩,QN Qo ⟨Qo,?_⟩⟩;rw[Rk];simp only[Vm];rw[C' hu]
   ·refine⟨⟨Qo,Qo⟩,QN Qo ⟨Qo,?_⟩⟩;rw[Rk];simp only[Vm];rw[B' (by rw[hu];decide)]
  ·have RM:=Ou RM;have:k=W.IF.length:=Qo;subst this;rw[Rk];rfl
def zhn{g:Int}(h:XV bs w W m)(ht:Yr W.IE)(hu:Q6 W.IE g):PX bs Mt #[.agg (Qc W m).toArray,I g] w (I (zo3 W.IE g)):=
 zid _ _ _ _ _ _ _ _ _ _ g λwr hx=>by
  have h:=(h.ext hx).less (cs:=[]) Qs;intro _ _;obtain⟨u1,u2,_⟩:=Q2.1 hu;refine⟨h.g.ix u1 u2,_,h.g.IF u1 u2,λvs=>∃(x s:Int),vs=[I x,I s]/\Q6 W.IE x/\(QR W.IE x).foldl (λs x=>TL s (gi W.IE (gi W.IE x).IG).IF) s=zo3 W.IE g,λvs=>(dep 3 W.IE (Ye 0 vs)).toNat,⟨g,_,rfl,hu,rfl⟩,?_⟩;rintro x s ⟨x',s',he,hux,hI⟩;simp only[I4,I5,true_and,and_true] at he;obtain⟨rfl,rfl⟩:=he;refine⟨λhz=>?_,λhz=>?_⟩
  ·have hz:x≠0:=by simpa using hz
   obtain⟨hp,a,b,d,e,e2,hd⟩:=Y0 ht hux hz;obtain⟨v1,v2,_⟩:=Q2.1 hp;rw[Yq ht hux hz,List.foldl_cons] at hI
   exact⟨h.g.ix a b,_,h.g.IG a b,h.g.ix v1 v2,_,h.g.IF v1 v2,_,ME,⟨_,_,rfl,hp,hI⟩,by
    show (dep 3 W.IE (gi W.IE x).IG).toNat<(dep 3 W.IE x).toNat;omega⟩
  ·have hz:x=0:=by simpa using hz
   subst hz;rw[show QR W.IE 0=[] from Zh _ _,List.foldl_nil] at hI;rw[hI]
def Jl{g mask:Int}(h:XV bs w W m)(h4:W.IF.length<=4)(ht:Yr W.IE)(hu:Q6 W.IE g):PX bs YJ #[.agg (Qc W m).toArray,I g,I mask] w (I (QD W g mask)):=
 ze9 _ _ _ _ _ _ _ _ _ _ g mask λwr hx=>by
  have h:=(h.ext hx).less (cs:=[]) Qs;intro _ _;have hk:=ME (a:=zo3 W.IE g) (b:=JG W.IF) (w:=wr) (bs:=[]);rw[zzn ht hu] at hk;refine⟨_,LL h h4,_,zhn h ht hu,_,hk,_,ME,λg1=>?_,λg1=>⟨λg2=>?_,λg2=>?_⟩⟩
  ·unfold QD;rw[C' (by simpa using g1)]
  ·unfold QD;rw[B' (by simpa using g1),C' (by simpa using g2)]
  ·unfold QD;rw[B' (by simpa using g1),B' (by simpa using g2)]
def LK{g c:Int}(h:XV bs w W m)(ha:WA W)(hu:Q6 W.IE g)(c0:0<=c)(c1:c<(W.IF.length:Int)):PX bs Vf #[.agg (Qc W m).toArray,I g,I c] w (.bool (Xu W g c)):=
 zl9 _ _ _ _ _ _ _ _ _ _ g c λwr hx=>by
  have h:=(h.ext hx).less (cs:=[]) Qs;intro _ _;obtain⟨u1,u2,_⟩:=Q2.1 hu
  have hd:(decide ((gi W.IE g).IL.I'>0))->c<((gi W.IE g).IL.Ry.length:Int):=λg1=>by
   have:=Ot g1;rw[(ha.dl hu Qo).1];exact c1
  exact⟨h.g.ix u1 u2,_,_,_,_,_,_,_,_,_,h.g.IL u1 u2,λ_ _=>⟨λg1=>(h.g.Ry g u1 u2).ix LF c0 (hd g1),_,λg1=>(h.g.Ry g u1 u2) c c0 (hd g1),rfl⟩⟩
def Vz{g c:Int}(h:XV bs w W m)(ha:WA W)(hu:Q6 W.IE g)(c0:0<=c)(c1:c<(W.IF.length:Int)):PX bs Xy #[.agg (Qc W m).toArray,I g,I c] w (.bool (Qa W g c).on):=
 zat _ _ _ _ _ _ _ _ _ _ g c λwr hx=>by
  have h:=(h.ext hx).less (cs:=[]) Qs;intro _ _;obtain⟨u1,u2,_⟩:=Q2.1 hu;have hs:=ha.sl hu;have c2:c<((gi W.IE g).IH.length:Int):=Qo;exact⟨h.g.ix u1 u2,_,_,_,h.g.Rn u1 u2,(h.g.IH g u1 u2).ix YT c0 c2,_,zm2.f (h.g.IH g u1 u2) c0 c2 (j:=1) rfl,rfl⟩
def zbi{gs:List ZD}{k:Nat}(hk:(k:Int)<(gs.length:Int))(hu:(gi gs (k:Int)).IV):Q6 gs (k:Int):=Q2.2 ⟨Qo,hk,hu⟩
def PB{g c:Int}(h:XV bs w W m)(ha:WA W)(c0:0<=c)(c1:c<(W.IF.length:Int)):PX bs Jk #[.agg (Qc W m).toArray,I g,I c] w (.bool (Qv W g c)):=
 zaq _ _ _ _ _ _ _ _ _ _ g c λwr hx=>by
  have h:=(h.ext hx).less (cs:=[]) Qs;intro _ _;have bU:=ha.gl;have hm9:=Y5;refine X7 W.IJ.length 0 rfl (λk=>k<=W.IJ.length/\∀j:Nat,j<k->Ug W g c j=false) ⟨Ic _,λj hj=>Ir hj (Nat.not_lt_zero j)⟩ λk ⟨hk,hI⟩=>⟨λIW=>?_,λRM=>?_⟩
  ·have IW:=Ot IW;have ht:=ha.t;refine⟨h.t.ix QT Qo IW,_,h.t.f Qo IW (j:=0) rfl,λ_=>h.t.ix QT Qo IW,_,λ_=>h.t.f Qo IW (j:=1) rfl,λ_=>h.t.ix QT Qo IW,_,λ_=>h.t.f Qo IW (j:=2) rfl,λhy=>?_,λhn=>⟨⟨Qo,Qo⟩,QB Qo ⟨Qo,λj hj=>?_⟩⟩⟩
   ·unfold Qv;rw[LB.2 ⟨k,Qo,hy⟩];rfl
   ·by_cases gG:j<k
    ·exact hI j gG
    ·have:j=k:=Qo;subst this;exact hn
  ·have RM:=Ou RM;have kD:O1 (Ug W g c) W.IJ.length=false:=zko λj hj=>hI j Qo
   refine X7 W.IE.length 1 rfl (λk=>1<=k/\k<=W.IE.length/\∀j:Nat,j<k->Xb W g c j=false) ⟨I7 _,Qo,λj hj=>by
    have:j=0:=Qo;subst this;simp[Xb]⟩ λk ⟨hk1,hk,hI⟩=>⟨λIW=>?_,λRM=>?_⟩
   ·have IW:=Ot IW;refine⟨h.g.ix Qo IW,_,h.g.IV Qo IW,λ_=>h.g.ix Qo IW,_,λ_=>h.g.IG Qo IW,(Qa W (k:Int) c).on,λhu=>Vz h ha (zbi IW (by simp only[A'] at hu;exact hu.1)) c0 c1,λhy=>?_,λhn=>⟨⟨Qo,Qo⟩,QB Qo ⟨Qo,Qo,λj hj=>?_⟩⟩⟩
    ·unfold Qv
     have:O1 (Xb W g c) W.IE.length:=LB.2 ⟨k,Qo,by
      unfold Xb;rw[Ih hk1,Bool.true_and];exact hy⟩
     rw[this,Bool.or_true]
    ·by_cases gG:j<k
     ·exact hI j gG
     ·have:j=k:=Qo;subst this;unfold Xb;rw[Ih hk1,Bool.true_and];exact hn
   ·have RM:=Ou RM;have:O1 (Xb W g c) W.IE.length=false:=zko λj hj=>hI j Qo
    unfold Qv;rw[kD,this];rfl
def Vy{t:Int}(h:XV bs w W m)(ha:WA W)(t0:0<=t)(t1:t<(W.IJ.length:Int))(hu:(Q8 W t).state=1->Q6 W.IE (Q8 W t).II/\0<=(Q8 W t).R1/\(Q8 W t).R1<(W.IF.length:Int)) :
  PX bs YW #[.agg (Qc W m).toArray,I t] w (.bool (Zf W t)):=
 zar _ _ _ _ _ _ _ _ _ _ t λwr hx=>by
  have h:=(h.ext hx).less (cs:=[]) Qs;intro _ _;refine⟨h.t.ix QT t0 t1,_,_,_,_,_,_,_,_,_,h.t t t0 t1,λ_ _=>⟨λg=>?_,λg=>?_⟩⟩
  ·have:((Q8 W t).state==1)=false:=by simpa[Q8] using g
   unfold Zf;rw[this];rfl
  ·have hs:(Q8 W t).state=1:=by simpa[Q8] using g
   obtain⟨tI,hc0,sR⟩:=hu hs;have hL:Zf W t=JR W (Q8 W t).II (Q8 W t).R1:=by unfold Zf;rw[Is.2 hs,Bool.true_and]
   rw[hL];refine⟨λvs=>∃x:Int,vs=[I x]/\Q6 W.IE x/\JR W x (Q8 W t).R1=JR W (Q8 W t).II (Q8 W t).R1,λvs=>(dep 3 W.IE (Ye 0 vs)).toNat,⟨_,rfl,tI,rfl⟩,?_⟩;rintro x ⟨x',he,hux,hI⟩;simp only[I4,I5,true_and,and_true] at he;subst he;refine⟨λhz=>?_,λhz=>?_⟩
   ·have hz:x≠0:=by simpa using hz
    obtain⟨hp,a,b,d,e,e2,hd⟩:=Y0 ha.tree hux hz;unfold JR at hI;rw[Yq ha.tree hux hz,List.all_cons] at hI
    refine⟨_,Vz h ha hux hc0 sR,λg2=>?_,λg2=>⟨h.g.ix a b,_,h.g.IG a b,⟨_,rfl,hp,?_⟩,by
     show (dep 3 W.IE (gi W.IE x).IG).toNat<(dep 3 W.IE x).toNat;omega⟩⟩
    ·have g2:(Qa W x (Q8 W t).R1).on=false:=by simpa[Q8] using g2
     rw[g2,Bool.false_and] at hI;unfold JR;rw[<-hI]
    ·have g2:(Qa W x (Q8 W t).R1).on:=by simpa[Q8] using g2
     rw[g2,Bool.true_and] at hI;exact hI
   ·have hz:x=0:=by simpa using hz
    subst hz;unfold JR at hI;rw[show QR W.IE 0=[] from Zh _ _,List.all_nil] at hI;unfold JR;rw[<-hI]
end
def He{v f k:Int}{w:Wo}{bs:List Nat}:PX bs Vv #[I v,I f,I k] w (.bool (KJ v f k)):=
 ze8 v f k λwr hx=>⟨IntKind.i64.wrap (v-f),λ_ wq=>by simp[eqGuard,binOp,Op.intArith],_,λ_=>Ha,rfl⟩
def Nl:zbl Tryz.prog QQ:=⟨Qk,Qk,Qk⟩
def zlb(a b:PS):DG Tryz.prog (Tryz.prog.fieldsOf QQ).toList 0 (Xc a) (Xc b)=some ((a.state==b.state)&&((a.II==b.II)&&((a.R1==b.R1)&&((a.nice==b.nice)&&((a.mask==b.mask)&&((a.v==b.v)&&((a.sum==b.sum)&&((a.IV==b.IV)&&((a.load==b.load)&&true))))))))):=Qk
def zms{a b:PS}:((a.state==b.state)&&((a.II==b.II)&&((a.R1==b.R1)&&((a.nice==b.nice)&&((a.mask==b.mask)&&((a.v==b.v)&&((a.sum==b.sum)&&((a.IV==b.IV)&&((a.load==b.load)&&true)))))))))=decide (a=b):=by
 cases a;cases b
 simp only[PS.mk.injEq,Bool.and_true];rw[Bool.eq_iff_iff];simp only[A',Is,Ij]
section
variable {W:Q7}{m:MW}{w:Wo}{bs:List Nat}
def NE{k:Int}(h:XV bs w W m)(hn:0<=W.now)(k0:0<=k)(k1:k<(W.IE.length:Int))(hf:zpm (gi W.IE k)):PX bs TC #[.agg (Qc W m).toArray,I k] w (.bool (U0 (Kn W k))):=
 NZ _ _ _ _ _ _ _ _ _ _ k λwr hx=>by
  have h:=(h.ext hx).less (cs:=[]) Qs;intro _ _;refine⟨h.g.ix k0 k1,_,_,_,_,_,_,_,_,_,_,_,_,_,_,_,_,_,_,_,_,h.g.cells k k0 k1,λ_ _=>⟨λg=>?_,λg=>?_⟩⟩
  ·have hu:(gi W.IE k).IV=false:=by simpa using g
   refine⟨_,λ_=>Gp (b:=(gi W.IE k).IL) (m:=m.ms k.toNat),PI ?_⟩;simp only[A',Is,JX];constructor
   ·rintro⟨⟨⟨⟨⟨⟨⟨⟨e1,e2⟩,e3⟩,e4⟩,e5⟩,e6⟩,e7⟩,e8⟩,e9⟩;exact⟨λ_=>⟨e1,e2,e3,e4,e5,e6,e7,Qo,e9⟩,λhu'=>by rw[hu'] at hu;cases hu⟩
   ·intro p;have q:=p.1 hu;exact⟨⟨⟨⟨⟨⟨⟨⟨q.p,q.n⟩,q.w⟩,q.c⟩,q.pe⟩,q.ne⟩,q.s⟩,by have:=q.l;omega⟩,q.b⟩
  ·have hu:(gi W.IE k).IV:=by simpa using g
   have mk:zpn W k (gi W.IE k)->Kn W k:=λq=>⟨λhu'=>(by rw[hu'] at hu;cases hu),λ_=>q⟩
   refine⟨_,JQ,_,λ_=>Xq,_,λ_=>X2,λg2=>GB λp=>?_,λg2=>⟨λg3=>GB λp=>?_,λg3=>⟨λg4=>⟨_,Gp (b:=(gi W.IE k).IL) (m:=m.ms k.toNat),PI ?_⟩,λg4=>⟨_,DN (b:=(gi W.IE k).IL) (m:=m.ms k.toNat) (h.g.locals k k0 k1) (h.g.Ry k k0 k1) hf.lo,_,λ_=>Qq,λg5=>?_,PI ?_⟩⟩⟩⟩
   ·have q:=p.2 hu;have e1:YY (gi W.IE k).R2 1 20:=Qu.2 ⟨q.w1,q.w2⟩;have e3:((gi W.IE k).IF==0)=false:=by simpa using q.m0
    have e5:(((gi W.IE k).IH.length:Nat):Int)=((W.IF.length:Nat):Int):=by have:=q.len;omega
    rw[e1,q.m,e3,q.s,e5] at g2;simp at g2
   ·have q:=p.2 hu;simp only[A',Is] at g3;have r:=q.root g3.1;rw[r.1,r.2.1,r.2.2] at g3;simp at g3
   all_goals
    simp only[H',I6,bne_eq_false_iff_eq,Qu,beq_eq_false_iff_ne] at g2;obtain⟨⟨⟨⟨a1,a2⟩,a3⟩,a4⟩,a5⟩:=g2;have hlen:(gi W.IE k).IH.length=W.IF.length:=Qo
    have B97:k=0->(gi W.IE k).R2=10/\(gi W.IE k).IF=15/\(gi W.IE k).IL.I'=0:=λhk=>by
     rw[Is.2 hk,Bool.true_and] at g3;simp only[H',bne_eq_false_iff_eq] at g3;exact⟨g3.1.1,g3.1.2,g3.2⟩
   ·have q0:(gi W.IE k).IL.I'=0:=by simpa using g4
    simp only[A',Is];constructor
    ·rintro⟨⟨e1,e2⟩,e3⟩;exact mk ⟨a1.1,a1.2,a2,a3,a4,hlen,B97,λ_=>⟨e1,e2,e3⟩,λcU=>Ir q0 cU⟩
    ·intro p;have q:=(p.2 hu).none q0;exact⟨⟨q.1,q.2.1⟩,q.2.2⟩
   ·simp only[A',Is,Ij] at g5;have:=hf.nx;exact⟨by have:=this.1;omega,by have:=this.2;omega⟩
   ·have q0:(gi W.IE k).IL.I'≠0:=by simpa using g4
    simp only[A',Is,Ij,Qm,Qu];constructor
    ·rintro⟨⟨⟨⟨e1,e2⟩,e3⟩,e4⟩,e5⟩;exact mk ⟨a1.1,a1.2,a2,a3,a4,hlen,B97,λcU=>Ir cU q0,λ_=>⟨e1,Qo,e3.1,e3.2,e4,e5⟩⟩
    ·intro p;have q:=(p.2 hu).IL q0;exact⟨⟨⟨⟨q.1,by have:=q.2.1;omega⟩,q.2.2.1,q.2.2.2.1⟩,q.2.2.2.2.1⟩,q.2.2.2.2.2⟩
def GY{W:Q7}(ha:WA W){g mask c:Int}(hc:Zq (QD W g mask) c):0<=c/\c<(W.IF.length:Int):=by
 have h1:=zv6 hc;exact⟨(MH h1).2.1,(zmu W.IF _ ha.c2 h1).1⟩
def z8{t:Int}(h:XV bs w W m)(ha:WA W)(t0:0<=t)(t1:t<(W.IJ.length:Int)):PX bs OI #[.agg (Qc W m).toArray,I t] w (.bool (U0 (AM W t))):=
 zav _ _ _ _ _ _ _ _ _ _ t λwr hx=>by
  have h:=(h.ext hx).less (cs:=[]) Qs;intro _ _;have bU:=ha.gl;have hm9:=Y5;refine⟨h.t.ix QT t0 t1,_,_,_,_,_,_,_,_,_,h.t t t0 t1,λ_ _=>⟨λg=>?_,λg=>?_⟩⟩
  ·have hs:(gi W.IJ t).state=0:=by simpa using g
   refine⟨_,λwq=>zfh Nl (zlb (gi W.IJ t) T8) _ _ wq,PI ?_⟩;rw[zms,Ij];constructor
   ·exact λe=>.inl ⟨hs,e⟩
   ·rintro (⟨_,e⟩|⟨e,_⟩)
    ·exact e
    ·exact Ir hs e
  ·have hs:(gi W.IJ t).state≠0:=by simpa using g
   have no:∀{q:AM W t},z0o W (gi W.IJ t):=λ{q}=>by
    rcases q with ⟨e,_⟩|⟨_,q⟩
    ·exact Ir e hs
    ·exact q
   refine⟨_,λ_=>Xr (c:=m.gC) h.g,_,λ_=>Yc,_,λ_=>Xq,λg2=>GB λp=>?_,λg2=>?_⟩
   ·have q:=no (q:=p);have e3:(Qf (gi W.IJ t).nice==0)=false:=by simpa using q.n
    have e4:((gi W.IJ t).mask==0)=false:=by simpa using q.m0
    rw[q.g,e3,q.m,e4] at g2;simp only[Bool.not_true,Bool.or_false,A',It] at g2;have:=q.st;omega
   ·simp only[H',I6,beq_eq_false_iff_ne] at g2;obtain⟨⟨⟨⟨a1,a2⟩,a3⟩,a4⟩,a5⟩:=g2
    have st:(gi W.IJ t).state=1\/(gi W.IJ t).state=2:=by
     by_cases h1:(gi W.IJ t).state=1
     ·exact .inl h1
     ·refine .inr ?_;have:((gi W.IJ t).state != 1):=by simpa using h1
      rw[this,Bool.true_and] at a1
      simpa using a1
    refine⟨_,X2,_,λ_=>X2,_,λ_=>X2,_,λ_=>Qq,QD W (gi W.IJ t).II (gi W.IJ t).mask,λ_=>Jl h ha.c2 ha.tree a2,_,λ_=>Yu,λg3=>GB λp=>?_,λg3=>?_⟩
    ·have q:=no (q:=p);have e4:YY (gi W.IJ t).load 0 8000000:=Qu.2 ⟨q.l1,q.l2⟩;rw[q.v,q.s,q.u,e4,q.c] at g3;simp at g3
    ·simp only[H',I6,Qu] at g3;obtain⟨⟨⟨⟨b1,b2⟩,b3⟩,b4⟩,b5⟩:=g3;obtain⟨u1,u2,_⟩:=Q2.1 a2;obtain⟨c0,c1⟩:=GY ha b5;have hsl:=ha.sl a2;have c2:(gi W.IJ t).R1<((gi W.IE (gi W.IJ t).II).IH.length:Int):=Qo;refine⟨λ_=>h.g.ix u1 u2,_,_,_,λ_=>h.g.Rn u1 u2,λ_=>(h.g.IH _ u1 u2).ix YT c0 c2,_,λ_=>zm2.f (h.g.IH _ u1 u2) c0 c2 (j:=0) rfl,_,λ_=>Yc,_,λ_=>He,PI ?_⟩;simp only[Iu,Is];constructor
     ·intro e
      exact .inr ⟨hs,⟨st,a2,a3,a4,a5,b1,b2,b3,b4.1,b4.2,b5,λe1=>by
       rcases e with e|e
       ·have e:(gi W.IJ t).state=2:=e;have e1:(gi W.IJ t).state=1:=e1;omega
       ·exact e⟩⟩
     ·intro p;have q:=no (q:=p);rcases st with e|e
      ·exact .inr (q.f e)
      ·exact .inl e
def NF{k c:Int}(h:XV bs w W m)(ha:WA W)(k0:0<=k)(k1:k<(W.IE.length:Int))(c0:0<=c)(c2:c<((gi W.IE k).IH.length:Int)):PX bs TE #[.agg (Qc W m).toArray,I k,I c] w (.bool (U0 (Ko W k c))):=
 A0 _ _ _ _ _ _ _ _ _ _ k c λwr hx=>by
  have h:=(h.ext hx).less (cs:=[]) Qs;intro _ _;have bU:=ha.gl
  have hus:(gi W.IE k).IV:=by
   cases hu:(gi W.IE k).IV with
   |true=>rfl
   |false=>
    have:=((ha.grp k k0 Qo).1 hu).l;omega
  have hu:Q6 W.IE k:=Q2.2 ⟨k0,k1,hus⟩;have hsl:=ha.sl hu;have c1:c<(W.IF.length:Int):=Qo;refine⟨h.g.ix k0 k1,_,_,_,_,_,_,_,_,_,_,_,_,_,_,_,_,_,_,_,_,h.g.cells k k0 k1,λ_ _=>⟨(h.g.IH k k0 k1).ix YT c0 c2,_,_,_,_,_,(h.g.IH k k0 k1) c c0 c2,λ_ _=>⟨_,X2,_,λ_=>X2,_,λ_=>X2,_,λ_=>JQ,λg=>GB λp=>?_,λg=>⟨λg2=>PI ?_,λg2=>⟨_,PB h ha c0 c1,_,λ_=>LK h ha hu c0 c1,λg3=>GB λp=>?_,λg3=>?_⟩⟩⟩⟩⟩
  ·have e1:=p.f;have e2:=p.v;have e3:=p.s;have e4:YY (Qa W k c).w 1 20:=Qu.2 ⟨p.w1,p.w2⟩;have g':(((!Ya (Qa W k c).IM || !Ya (Qa W k c).v) || !Ya (Qa W k c).sum) || !YY (Qa W k c).w 1 20):=g;rw[e1,e2,e3,e4] at g'
   cases g'
  ·have g':(((!Ya (Qa W k c).IM || !Ya (Qa W k c).v) || !Ya (Qa W k c).sum) || !YY (Qa W k c).w 1 20)=false:=g;simp only[H',I6,Qu] at g';obtain⟨⟨⟨a1,a2⟩,a3⟩,a4⟩:=g';have hk:k=0:=by simpa using g2
   show ((!(Qa W k c).on&&((Qa W k c).v==0))&&((Qa W k c).w==10))=true↔_;simp only[A',ID,Is];constructor
   ·rintro⟨⟨e1,e2⟩,e3⟩;exact⟨a1,a2,a3,a4.1,a4.2,λ_=>⟨e1,e2,e3⟩,λcU=>Ir hk cU,λcU=>Ir hk cU⟩
   ·intro p;have q:=p.root hk;exact⟨⟨q.1,q.2.1⟩,q.2.2⟩
  ·have hk:k≠0:=by simpa using g2
   have g3':(!((Qa W k c).on==(Qv W k c && !Xu W k c))):=g3;rw[p.on hk] at g3';simp at g3'
  ·have g':(((!Ya (Qa W k c).IM || !Ya (Qa W k c).v) || !Ya (Qa W k c).sum) || !YY (Qa W k c).w 1 20)=false:=g;simp only[H',I6,Qu] at g';obtain⟨⟨⟨a1,a2⟩,a3⟩,a4⟩:=g';have hk:k≠0:=by simpa using g2
   have hon:(Qa W k c).on=(Qv W k c && !Xu W k c):=by
    have g3':(!((Qa W k c).on==(Qv W k c && !Xu W k c)))=false:=g3
    simpa using g3'
   have hp:=ha.up hu hk;obtain⟨v1,v2,_⟩:=Q2.1 hp;have hpl:=ha.sl hp;have c3:c<((gi W.IE (gi W.IE k).IG).IH.length:Int):=Qo;refine⟨λ_=>h.g.ix v1 v2,_,_,_,λ_=>h.g.Rn v1 v2,λ_=>(h.g.IH _ v1 v2).ix YT c0 c3,_,λ_=>zm2.f (h.g.IH _ v1 v2) c0 c3 (j:=0) rfl,_,λ_=>He,PI ?_⟩;show (!(Qa W k c).on||KJ (Qa W k c).v (Qa W (gi W.IE k).IG c).IM (Qa W k c).w)=true↔_;simp only[Iu,ID];constructor
   ·intro e
    exact⟨a1,a2,a3,a4.1,a4.2,λe0=>Ir e0 hk,λ_=>hon,λ_ ho=>by
     rcases e with e|e
     ·rw[ho] at e;cases e
     ·exact e⟩
   ·intro p
    cases ho:(Qa W k c).on with
    |false=>exact .inl rfl
    |true=>exact .inr (p.st hk ho)
def zlv{t:Int}(ht:AM W t)(hl:Zf W t):z0o W (Q8 W t)/\(Q8 W t).state=1:=by
 have hs:(Q8 W t).state=1:=by
  unfold Zf at hl;simp only[A',Is] at hl;exact hl.1
 rcases ht with ⟨e,_⟩|⟨_,q⟩
 ·omega
 ·exact⟨q,hs⟩
def Nr{a b:Int}(ha:Ya a)(hb:Ya b):Qp .i64 (a-b):=by
 have:=Xj.1 ha;have:=Xj.1 hb;exact⟨Qo,Qo⟩
def z7{c:Int}(h:XV bs w W m)(ha:WA W)(hts:∀t:Int,0<=t->t<12->AM W t)(hss:∀k c:Int,0<=k->k<8->0<=c->c<((gi W.IE k).IH.length:Int)->Ko W k c)(c0:0<=c)(c1:c<(W.IF.length:Int))(t0:0<=(gi W.IF c).cur)(t1:(gi W.IF c).cur<(W.IJ.length:Int))(hl:Zf W (gi W.IF c).cur) :
  PX bs OH #[.agg (Qc W m).toArray,I c] w (.bool (MR W c)):=
 zau _ _ _ _ _ _ _ _ _ _ c λwr hx=>by
  have h:=(h.ext hx).less (cs:=[]) Qs;intro _ _;have jF:=ha.t;have bU:=ha.gl;obtain⟨q,_⟩:=zlv (hts _ t0 Qo) hl;have a2:=q.g;obtain⟨u1,u2,_⟩:=Q2.1 a2
  have sl:∀{x:Int},Q6 W.IE x->0<=x/\x<(W.IE.length:Int)/\c<((gi W.IE x).IH.length:Int)/\Ko W x c:=λ{x} hx=>by
   obtain⟨v1,v2,_⟩:=Q2.1 hx;have e:=ha.sl hx;have c3:c<((gi W.IE x).IH.length:Int):=Qo;exact⟨v1,v2,c3,hss x c v1 Qo c0 c3⟩
  obtain⟨_,_,c2,sp⟩:=sl a2;refine⟨h.c.ix Y1 c0 c1,_,_,_,_,_,h.c c c0 c1,λ_ _=>⟨h.t.ix QT t0 t1,_,_,_,_,_,_,_,_,_,h.t _ t0 t1,λ_ _=>⟨h.g.ix u1 u2,_,_,_,h.g.Rn u1 u2,(h.g.IH _ u1 u2).ix YT c0 c2,_,zm2.f (h.g.IH _ u1 u2) c0 c2 (j:=0) rfl,Nr q.v sp.f,_,Yc,_,XG,λg=>?_,λg=>?_⟩⟩⟩
  ·have g:=Ot g;have hd:¬((Q8 W (gi W.IF c).cur).v-(Qa W (Q8 W (gi W.IF c).cur).II c).IM<=QS (gi W.IF c).SX (Qf (Q8 W (gi W.IF c).cur).nice)):=Int.not_le.2 g;unfold MR;rw[decide_eq_false hd];rfl
  ·have g:=Ou g
   have hS:MR W c=Oi W (Q8 W (gi W.IF c).cur).II c (gi W.IF c).SX:=by
    have hd:(Q8 W (gi W.IF c).cur).v-(Qa W (Q8 W (gi W.IF c).cur).II c).IM<=QS (gi W.IF c).SX (Qf (Q8 W (gi W.IF c).cur).nice):=Int.not_lt.1 g;unfold MR;rw[Ih hd,Bool.true_and]
   rw[hS];refine⟨λvs=>∃x:Int,vs=[I x]/\Q6 W.IE x/\Oi W x c (gi W.IF c).SX=Oi W (Q8 W (gi W.IF c).cur).II c (gi W.IF c).SX,λvs=>(dep 3 W.IE (Ye 0 vs)).toNat,⟨_,rfl,a2,rfl⟩,?_⟩;rintro x ⟨x',he,hux,hI⟩;simp only[I4,I5,true_and,and_true] at he;subst he;refine⟨λhz=>?_,λhz=>?_⟩
   ·have hz:x≠0:=by simpa using hz
    obtain⟨hp,a,b,d,e,e2,hd⟩:=Y0 ha.tree hux hz;obtain⟨x1,x2,x3,xs⟩:=sl hux;obtain⟨p1,p2,p3,ps⟩:=sl hp;unfold Oi at hI;rw[Yq ha.tree hux hz,List.all_cons] at hI
    refine⟨h.g.ix x1 x2,_,_,_,h.g.Rn x1 x2,(h.g.IH _ x1 x2).ix YT c0 x3,_,_,_,_,_,(h.g.IH _ x1 x2) c c0 x3,λ_ _=>⟨h.g.ix x1 x2,_,h.g.IG x1 x2,h.g.ix p1 p2,_,_,_,h.g.Rn p1 p2,(h.g.IH _ p1 p2).ix YT c0 p3,_,zm2.f (h.g.IH _ p1 p2) c0 p3 (j:=0) rfl,Nr xs.v ps.f,_,XG,λg2=>?_,λg2=>⟨h.g.ix x1 x2,_,h.g.IG x1 x2,⟨_,rfl,hp,?_⟩,by
     show (dep 3 W.IE (gi W.IE x).IG).toNat<(dep 3 W.IE x).toNat;omega⟩⟩⟩
    ·have g2:=Ot g2;have hd:¬((Qa W x c).v-(Qa W (gi W.IE x).IG c).IM<=QS (gi W.IF c).SX (Qa W x c).w):=Int.not_le.2 g2;rw[decide_eq_false hd,Bool.false_and] at hI;unfold Oi;rw[<-hI]
    ·have g2:=Ou g2;have hd:(Qa W x c).v-(Qa W (gi W.IE x).IG c).IM<=QS (gi W.IF c).SX (Qa W x c).w:=Int.not_lt.1 g2;rw[Ih hd,Bool.true_and] at hI;exact hI
   ·have hz:x=0:=by simpa using hz
    subst hz;unfold Oi at hI;rw[show QR W.IE 0=[] from Zh _ _,List.all_nil] at hI;unfold Oi;rw[<-hI]
def B0{t:Int}(ha:WA W)(ht:AM W t)(hs:(Q8 W t).state=1):Q6 W.IE (Q8 W t).II/\0<=(Q8 W t).R1/\(Q8 W t).R1<(W.IF.length:Int):=by
 rcases ht with ⟨e,_⟩|⟨_,q⟩
 ·omega
 ·exact⟨q.g,GY ha q.c⟩
def zd8{c:Int}(h:XV bs w W m)(ha:WA W)(hts:∀t:Int,0<=t->t<12->AM W t)(hss:∀k c:Int,0<=k->k<8->0<=c->c<((gi W.IE k).IH.length:Int)->Ko W k c)(c0:0<=c)(c1:c<(W.IF.length:Int)) :
  PX bs Pw #[.agg (Qc W m).toArray,I c] w (.bool (U0 (BH W c))):=
 ze6 _ _ _ _ _ _ _ _ _ _ c λwr hx=>by
  have h:=(h.ext hx).less (cs:=[]) Qs;intro _ _;have jF:=ha.t;refine⟨h.c.ix Y1 c0 c1,_,_,_,_,_,h.c c c0 c1,λ_ _=>⟨_,X2,_,λ_=>X2,λ_=>⟨Qo,Qo⟩,_,λ_=>Qq,λg=>GB λp=>?_,λg=>⟨λg2=>PI ?_,λg2=>?_⟩⟩⟩
  ·have e3:YY (gi W.IF c).cur (-1) (((W.IJ.length:Nat):Int)-1):=Qu.2 (by have:=p.c1;have:=p.c2;omega);rw[p.b,p.i,e3] at g;cases g
  ·simp only[H',I6,Qu] at g;obtain⟨⟨a1,a2⟩,a3⟩:=g;have g2:=Ot g2;rw[Is];exact⟨λe=>⟨a1,a2,a3.1,Qo,λ_=>e,λhc=>by omega⟩,λp=>p.no g2⟩
  ·simp only[H',I6,Qu] at g;obtain⟨⟨a1,a2⟩,a3⟩:=g;have g2:=Ou g2;have t0:0<=(gi W.IF c).cur:=Qo;have t1:(gi W.IF c).cur<(W.IJ.length:Int):=Qo;refine⟨_,λ_=>Qq,λ_=>h.t.ix QT t0 t1,_,λ_=>h.t.f t0 t1 (j:=2) rfl,Zf W (gi W.IF c).cur,λ_=>Vy h ha t0 t1 λhs=>B0 ha (hts _ t0 Qo) hs,MR W c,λg3=>z7 h ha hts hss c0 c1 t0 t1 (by simp only[A'] at g3;exact g3.2),PI ?_⟩;simp only[A',Is,Qu];constructor
   ·rintro⟨⟨⟨⟨e1,e2⟩,e3⟩,e4⟩,e5⟩;exact⟨a1,a2,a3.1,Qo,λhc=>by omega,λ_=>⟨e1,e2.1,e2.2,e3,e4,e5⟩⟩
   ·intro p;have q:=p.yes t0;exact⟨⟨⟨⟨q.1,q.2.1,q.2.2.1⟩,q.2.2.2.1⟩,q.2.2.2.2.1⟩,q.2.2.2.2.2⟩
def Uy(h:XV bs w W m)(lc:W.IF.length<=maxLen)(lt:W.IJ.length<=maxLen)(lg:W.IE.length<=maxLen)(hf:∀i:Int,0<=i->i<(W.IE.length:Int)->zpm (gi W.IE i)) :
  PX bs Xi #[.agg (Qc W m).toArray] w (.bool (Qr W)):=
 ze1 _ _ _ _ _ _ _ _ _ _ λwr hx=>by
  have h:=(h.ext hx).less (cs:=[]) Qs;intro _ _;have hm9:=XX;refine⟨_,Qq,_,λ_=>Qq,Kj W.IE,λ_=>DP h.g lg,JG W.IF,λg=>LL h ?_,λg=>GB λp=>?_,λg=>?_⟩
  ·simp only[H',I6,Qu] at g;omega
  ·have a:=p.a;have e1:YY W.now 0 100000000000000000:=Qu.2 ⟨a.n1,a.n2⟩;have e2:YY ((W.IF.length:Nat):Int) 1 4:=Qu.2 (by have:=a.c1;have:=a.c2;omega);have e3:((W.IJ.length:Nat):Int)=12:=by have:=a.t;omega
   have e5:(JG W.IF==0)=false:=by simpa using a.ups
   rw[e1,e2,e3,T6.2 a.tree,e5] at g;simp at g
  simp only[H',I6,Qu,bne_eq_false_iff_eq,beq_eq_false_iff_ne] at g;obtain⟨⟨⟨⟨g1,g2⟩,g3⟩,g4⟩,g5⟩:=g;have ht:=T6.1 g4;have bU:=ht.len;refine X7 W.IE.length 0 rfl (λk=>k<=W.IE.length/\∀j:Int,0<=j->j<(k:Int)->Kn W j) ⟨Ic _,λj h0 h1=>by omega⟩ λk ⟨hk,hI⟩=>⟨λIW=>?_,λRM=>?_⟩
  ·have IW:=Ot IW;refine⟨_,NE h g1.1 Qo IW (hf _ Qo IW),λg6=>GB λp=>?_,λg6=>⟨⟨Qo,Qo⟩,QB Qo ⟨Qo,λj h0 h1=>?_⟩⟩⟩
   ·have g6:U0 (Kn W (k:Int))=false:=by simpa using g6
    exact GZ.1 g6 (p.a.grp _ Qo Qo)
   ·by_cases gG:j<(k:Int)
    ·exact hI j h0 gG
    ·have:j=(k:Int):=Qo;subst this;exact Qm.1 (by simpa using g6)
  have RM:=Ou RM;have ha:WA W:=⟨g1.1,g1.2,Qo,Qo,Qo,ht,g5,λj h0 h1=>hI j h0 Qo⟩;refine X7 W.IJ.length 0 rfl (λk=>k<=W.IJ.length/\∀j:Int,0<=j->j<(k:Int)->AM W j) ⟨Ic _,λj h0 h1=>by omega⟩ λk2 ⟨uF,hI2⟩=>⟨λIW=>?_,λaX=>?_⟩
  ·have IW:=Ot IW;refine⟨_,z8 h ha Qo IW,λg6=>GB λp=>?_,λg6=>⟨⟨Qo,Qo⟩,QB Qo ⟨Qo,λj h0 h1=>?_⟩⟩⟩
   ·have g6:U0 (AM W (k2:Int))=false:=by simpa using g6
    exact GZ.1 g6 (p.t _ Qo Qo)
   ·by_cases gG:j<(k2:Int)
    ·exact hI2 j h0 gG
    ·have:j=(k2:Int):=Qo;subst this;exact Qm.1 (by simpa using g6)
  have aX:=Ou aX;have hts:∀t:Int,0<=t->t<12->AM W t:=λt h0 h1=>hI2 t h0 Qo
  refine X7 W.IE.length 0 rfl (λk=>k<=W.IE.length/\∀j c:Int,0<=j->j<(k:Int)->0<=c->c<((gi W.IE j).IH.length:Int)->Ko W j c) ⟨Ic _,λj c h0 h1=>by omega⟩ λk3 ⟨hk3,hI3⟩=>⟨λIW=>?_,λBc9=>?_⟩
  ·have IW:=Ot IW;have k30:(0:Int)<=(k3:Int):=Qo;refine X7 (gi W.IE (k3:Int)).IH.length 0 rfl (λc=>c<=(gi W.IE (k3:Int)).IH.length/\∀d:Int,0<=d->d<(c:Int)->Ko W (k3:Int) d) ⟨Ic _,λj h0 h1=>by omega⟩ λc ⟨hc,hJ⟩=>⟨h.g.ix k30 IW,_,_,_,h.g.Rn k30 IW,λkN=>?_,λAR3=>?_⟩
   ·have kN:=Ot kN;have hsm:(gi W.IE (k3:Int)).IH.length<=maxLen:=(hf _ k30 IW).sh;refine⟨_,NF h ha k30 IW Qo kN,λg6=>GB λp=>?_,λg6=>⟨⟨Qo,Qo⟩,QB Qo ⟨Qo,λd h0 h1=>?_⟩⟩⟩
    ·have g6:U0 (Ko W (k3:Int) (c:Int))=false:=by simpa using g6
     exact GZ.1 g6 (p.s _ _ Qo Qo Qo kN)
    ·by_cases gG:d<(c:Int)
     ·exact hJ d h0 gG
     ·have:d=(c:Int):=Qo;subst this;exact Qm.1 (by simpa using g6)
   ·have AR3:=Ou AR3;refine⟨⟨Qo,Qo⟩,QB Qo ⟨Qo,λj d h0 h1 h2 h3=>?_⟩⟩
    by_cases gG:j<(k3:Int)
    ·exact hI3 j d h0 gG h2 h3
    ·have:j=(k3:Int):=Qo;subst this;exact hJ d h2 Qo
  have Bc9:=Ou Bc9;have hss:∀k c:Int,0<=k->k<8->0<=c->c<((gi W.IE k).IH.length:Int)->Ko W k c:=λk c h0 h1 h2 h3=>hI3 k c h0 Qo h2 h3
  refine X7 W.IF.length 0 rfl (λk=>k<=W.IF.length/\∀j:Int,0<=j->j<(k:Int)->BH W j) ⟨Ic _,λj h0 h1=>by omega⟩ λk4 ⟨hk4,hI4⟩=>⟨λIW=>?_,λCV9=>?_⟩
  ·have IW:=Ot IW;refine⟨_,zd8 h ha hts hss Qo IW,λg6=>GB λp=>?_,λg6=>⟨⟨Qo,Qo⟩,QB Qo ⟨Qo,λj h0 h1=>?_⟩⟩⟩
   ·have g6:U0 (BH W (k4:Int))=false:=by simpa using g6
    exact GZ.1 g6 (p.c _ Qo IW)
   ·by_cases gG:j<(k4:Int)
    ·exact hI4 j h0 gG
    ·have:j=(k4:Int):=Qo;subst this;exact Qm.1 (by simpa using g6)
  ·have CV9:=Ou CV9;exact zph ⟨ha,hts,hss,λc h0 h1=>hI4 c h0 Qo⟩
end
def Zo{n p:Nat}{vs us:List Va}{k:Nat}(h1:Ye p vs=(k:Int)+1)(h2:Ye p us=(k:Int))(hk:k<n):Xt n p vs<Xt n p us:=by
 unfold Xt;rw[h1,h2];omega
def zaz{α:Type}[Inhabited α]{l:List α}{p:α->Bool}:l.all p=true↔∀k:Nat,k<l.length->p (gi l (k:Int)):=by
 rw[List.all_eq_true];constructor
 ·intro h k hk;exact h _ (zqd Qo Qo)
 ·intro h x hx;obtain⟨k,hk,rfl⟩:=List.getElem_of_mem hx;rw[<-Ju hk];exact h k hk
def Ll{bs:List Nat}{w:Wo}{b:Nat}{l:List Int}{t:TypeId}{fz:Nat×Nat}(h:w.heap[b]? = some (.cells (l.flatMap U2).toArray t fz))(hb:b∉bs):zm3 bs w (some ⟨b,0,none⟩) l:=λi h0 hi=>by
 have IW:i.toNat<l.length:=Qo;refine T1 h hb (k0:=0) ?_;have:=FI (enc:=U2) (z:=1) (λ_=>rfl) l i.toNat 0 IW Qd;rw[Nat.add_zero] at this;rw[Nat.zero_add,this]
 have e:gi l i=l[i.toNat]:=by
  have:=Ju IW
  rwa[show ((i.toNat:Nat):Int)=i by omega] at this
 rw[e];rfl
def NG{l:List Int}{o:OA}{c:Nat}{w:Wo}{bs:List Nat}(h:zm3 bs w o l)(hl:l.length<=maxLen):PX bs Y2 #[.slice o l.length c] w (.bool (l.all Ya)):=
 zhz o l.length c λwr hx=>by
  have h:=(h.ext hx).less (cs:=[]) Qs;refine X7 l.length 0 rfl (λk=>k<=l.length/\∀j:Nat,j<k->Ya (gi l (j:Int))) ⟨Ic _,λj hj=>Ir hj (Nat.not_lt_zero j)⟩ λk ⟨hk,hI⟩=>⟨λIW=>?_,λRM=>?_⟩
  ·have IW:=Ot IW;refine⟨h.ix XU Qo IW,_,h k Qo IW,_,QK,λg=>?_,λg=>⟨zlk IW hl,QB Qo ⟨Qo,λj hj=>?_⟩⟩⟩
   ·have:l.all Ya=false:=by
     cases hb:l.all Ya with
     |false=>rfl
     |true=>
      have:=zaz.1 hb k Qo;unfold Ya at this;rw[this] at g;cases g
    rw[this]
   ·by_cases gG:j<k
    ·exact hI j gG
    ·have:j=k:=Qo;subst this;unfold Ya
     simpa using g
  ·have RM:=Ou RM;have hk:k=l.length:=Qo;subst hk;rw[zaz.2 hI]
def z7m{a:Int}{w:Wo}{b:Nat}{t:TypeId}{fz:Nat×Nat}(h:w.heap[b]? = some (.cells ([I a]:List Va).toArray t fz)):PX [] Y2 #[.slice (some ⟨b,0,none⟩) 1 1] w (.bool (Ya a)):=by
 have:=NG (l:=[a]) (c:=1) (bs:=[]) (Ll h Qs) (by simp[maxLen])
 simpa using this
def z8a{a b2:Int}{w:Wo}{b:Nat}{t:TypeId}{fz:Nat×Nat}(h:w.heap[b]? = some (.cells ([I a,I b2]:List Va).toArray t fz)):PX [] Y2 #[.slice (some ⟨b,0,none⟩) 2 2] w (.bool (Ya a&&Ya b2)):=by
 have:=NG (l:=[a,b2]) (c:=2) (bs:=[]) (Ll h Qs) (by simp[maxLen])
 simpa using this
def z7y{a b2 b3:Int}{w:Wo}{b:Nat}{t:TypeId}{fz:Nat×Nat}(h:w.heap[b]? = some (.cells ([I a,I b2,I b3]:List Va).toArray t fz)):PX [] Y2 #[.slice (some ⟨b,0,none⟩) 3 3] w (.bool (Ya a&&(Ya b2&&Ya b3))):=by
 have:=NG (l:=[a,b2,b3]) (c:=3) (bs:=[]) (Ll h Qs) (by simp[maxLen])
 simpa using this
def zdv{m:Int}{w:Wo}{bs:List Nat}:PX bs U5 #[I m] w (.bool (M1 m)):=NQ m λwr hx=>rfl
def Ky{m:Int}{w:Wo}{bs:List Nat}:PX bs Us #[I m] w (.bool (M1 m)):=zhv m λwr hx=>⟨_,zdv,rfl⟩
def Gj{m:Int}{w:Wo}{bs:List Nat}:PX bs UL #[I m] w (.bool ((m != 0)&&M1 m)):=zah m λwr hx=>⟨_,λ_=>Ky,rfl⟩
def z1m:∀(m:Fin 16) (c:Fin 4),(TY .and .i64 (Int.fdiv (m.val:Int) (2 ^ (min (Int.toNat (c.val:Int)) 64))) 1==1)=(Int.tmod (Int.fdiv (m.val:Int) (2 ^ (min (Int.toNat (c.val:Int)) 64))) 2==1):=by decide +kernel
def zqj{m c:Int}{w:Wo}{bs:List Nat}:PX bs VJ #[I m,I c] w (.bool (Zq m c)):=
 Bd m c λwr hx=>by
  refine⟨_,zdv,_,λ_=>QK,λg=>?_,?_⟩
  ·simp only[A'] at g;exact(Qu.1 g.2).1
  ·unfold Zq
   cases h1:M1 m with
   |false=>rfl
   |true=>
    cases h2:YY c 0 3 with
    |false=>rfl
    |true=>
     obtain⟨x,rfl⟩:=Kd h1;have:=Qu.1 h2;have e:=z1m x ⟨c.toNat,Qo⟩;rw[show ((⟨c.toNat,Qo⟩:Fin 4).val:Int)=c by show ((c.toNat:Nat):Int)=c;omega] at e;rw[e]
def zdp{m c:Int}{w:Wo}{bs:List Nat}:PX bs Pp #[I m,I c] w (.bool (Zq m c)):=zev m c λwr hx=>⟨_,zqj,rfl⟩
def MD{a b:Int}{w:Wo}{bs:List Nat}:PX bs JM #[I a,I b] w (I (TL a b)):=
 zeu a b λwr hx=>by
  refine⟨_,Ky,_,λ_=>Ky,λg=>?_,λg=>?_⟩
  ·rw[XH];simpa using g
  ·simp only[H',I6] at g;rw[OV g.1 g.2]
def Gi{b:Um}{m:MG}{w:Wo}{bs:List Nat}:PX bs UJ #[.agg (ZI b m).toArray] w (.bool (ON b)):=
 zae b.I' b.RH b.So m.lO b.locals.length m.lC m.dO b.Ry.length m.dC λwr hx=>λ_ _=>rfl
def Nv{g:ZD}{m:MG}{w:Wo}{bs:List Nat}(hu:g.IV=false):PX bs Tj #[.agg (YA g m).toArray] w (.bool (U0 (zwf g))):=
 NS g.IV g.IG g.name g.R2 g.IF g.period g.next g.sum g.IL.I' g.IL.RH g.IL.So m.lO g.IL.locals.length m.lC m.dO g.IL.Ry.length m.dC m.sO g.IH.length m.sC λwr hx=>by
  intro _ _;refine⟨_,λ_=>Gi (b:=g.IL) (m:=m),PI ?_⟩;simp only[hu,Bool.not_false,Bool.true_and,A',Is,JX];constructor
  ·rintro⟨⟨⟨⟨⟨⟨⟨⟨e1,e2⟩,e3⟩,e4⟩,e5⟩,e6⟩,e7⟩,e9⟩,e8⟩;exact⟨e1,e2,e3,e4,e5,e6,e7,Qo,e9⟩
  ·intro q;exact⟨⟨⟨⟨⟨⟨⟨⟨q.p,q.n⟩,q.w⟩,q.c⟩,q.pe⟩,q.ne⟩,q.s⟩,q.b⟩,by have:=q.l;omega⟩
def zha{b:Um}{m:MG}{w:Wo}{bs:List Nat}(h1:zm3 bs w m.lO b.locals)(h2:zwi bs w m.dO b.Ry)(hl:b.locals.length<=maxLen):PX bs Mi #[.agg (ZI b m).toArray] w (.bool (U0 (P2 b))):=
 zht b.I' b.RH b.So m.lO b.locals.length m.lC m.dO b.Ry.length m.dC λwr hx=>by
  have h1:=(h1.ext hx).less (cs:=[]) Qs;have h2:=(h2.ext hx).less (cs:=[]) Qs;intro _ _;refine⟨_,QK,_,λ_=>QK,λg=>GB λp=>?_,λg=>⟨_,QK,_,λ_=>QK,λg'=>GB λp=>?_,λg'=>?_⟩⟩
  ·rw[Qu.2 ⟨p.q1,p.q2⟩,Qu.2 (by have:=p.l1;have:=p.l2;omega),p.dl] at g;simp at g
  ·rw[Qu.2 ⟨p.p1,p.p2⟩,Qu.2 ⟨p.s1,p.s2⟩] at g'
   cases g'
  ·simp only[H',I6,bne_eq_false_iff_eq,Qu] at g g';obtain⟨⟨g1,g2⟩,g3⟩:=g;obtain⟨g4,g5⟩:=g';have hdl:b.Ry.length=b.locals.length:=Qo
   have all:∀{k:Nat},k<=b.locals.length->(∀c:Int,0<=c->c<(k:Int)->0<=gi b.locals c/\gi b.locals c<=b.I'/\(gi b.Ry c=true->gi b.locals c=0/\b.RH=0))->0<=Vl b.locals k/\Vl b.locals k<=40000:=λ{k} hk h=>by
    have key:∀j:Nat,j<=k->0<=Vl b.locals j/\Vl b.locals j<=(j:Int)*10000:=λj=>by
     induction j with
     |zero=>intro _;simp[Vl]
     |succ j ih=>
      intro hj;have:=ih Qo;have:=h (j:Int) Qo Qo;simp only[Vl];omega
    have:=key k (I7 _);omega
   refine⟨⟨Qo,Qo⟩,?_⟩;refine Pc b.locals.length 0 rfl (λx k=>k<=b.locals.length/\x=b.RH+b.So+Vl b.locals k/\∀c:Int,0<=c->c<(k:Int)->0<=gi b.locals c/\gi b.locals c<=b.I'/\(gi b.Ry c=true->gi b.locals c=0/\b.RH=0)) ⟨Ic _,by simp[Vl],λc h0 h1=>by omega⟩ λx k ⟨hk,Rk,hI⟩=>⟨λIW=>?_,λRM=>?_⟩
   ·have IW:=Ot IW;have Rh:(k:Int)<(b.Ry.length:Int):=Qo;have hsr:=all hk hI;refine⟨h1.ix XU Qo IW,_,h1 k Qo IW,_,QK,λ_=>h2.ix LF Qo Rh,_,λ_=>h2 k Qo Rh,λg=>GB λp=>?_,λg=>?_⟩
    ·have pe:=p.each (k:Int) Qo IW;rw[Qu.2 ⟨pe.1,pe.2.1⟩] at g;simp only[Bool.not_true,Bool.false_or,A',Iu,It] at g;have:=pe.2.2 g.1;rcases g.2 with h|h
     ·exact h this.1
     ·exact h this.2
    ·simp only[H',I6,Qu] at g;obtain⟨ga,gb⟩:=g;refine⟨⟨Qo,Qo⟩,⟨Qo,Qo⟩,QN Qo ⟨Qo,by simp only[Vl];omega,λc hc0 hc=>?_⟩⟩
     by_cases hck:c<(k:Int)
     ·exact hI c hc0 hck
     ·have:c=(k:Int):=Qo;subst this;refine⟨ga.1,ga.2,λhd=>?_⟩;rw[hd] at gb;simp only[Bool.true_and,H',bne_eq_false_iff_eq] at gb;exact gb
   ·have RM:=Ou RM;have:k=b.locals.length:=Qo;subst this;refine PI ?_;rw[Is,Rk];constructor
    ·intro hs;exact⟨g1.1,g1.2,Qo,Qo,hdl,g4.1,g4.2,g5.1,g5.2,hI,hs⟩
    ·exact λp=>p.sum
def zzs(v f k:Int):Bool:=decide (v>=f)&&decide (v-f<=ZT k)
def z3a{a b:Int}(ha:Ya a)(hb:Ya b):IntKind.i64.wrap (a-b)=a-b:=(Nr ha hb).wrap
def zzt{v f k:Int}(hv:Ya v)(hf:Ya f):KJ v f k=zzs v f k:=by unfold KJ zzs;rw[z3a hv hf]
def H9{v f k:Int}{w:Wo}{bs:List Nat}(h:Ya v)(hf:Ya f):PX bs Tp #[I v,I f,I k] w (.bool (KJ v f k)):=by
 rw[zzt h hf];exact zhy v f k λwr hx=>⟨λ_=>Nr h hf,_,λ_=>H8,rfl⟩
def zhg{n:Int}{w:Wo}{bs:List Nat}:PX bs Mm #[I n] w (.bool (YY n 0 8000000)):=zhw n λwr hx=>⟨_,QK,rfl⟩
structure Pn (bs:List Nat) (w:Wo) (p:OA) (W:Q7) (m:MW):Prop where
 cs:Q1 bs w p 0 (Qc W m)
 rd:XV bs w W m
def JK{bs:List Nat}{w:Wo}{o:OA}{n:Nat}{vs:List Va}(h:Q1 bs w o n vs){j:Nat}{v:Va}(hj:vs[j]? = some v):Q1 bs w (o.map (·.add n)) (0+j) [v]:=by
 obtain⟨a,ha,hb,hc⟩:=h.get j v hj;refine Uo ⟨a.add n,by rw[ha];rfl,by rw[ZW];exact hb,?_⟩;rw[JJ,Nat.zero_add];exact hc
def MQ{bs:List Nat}{w:Wo}{o:OA}{n k:Nat}{v:Va}{r:List Va}(h:Q1 bs w o k (v::r)):(o.map (·.add n)).isSome:=by
 have:=h.some
 cases o with
 |none=>cases this
 |some a=>rfl
section
variable {W:Q7}{m:MW}{w w':Wo}{bs cs:List Nat}{p:OA}
def Pn.ext(h:Pn bs w p W m)(hx:Q0 bs w w'):Pn bs w' p W m:=⟨h.cs.ext hx,h.rd.ext hx⟩
def Pn.less(h:Pn bs w p W m)(hs:∀x∈cs,x∈bs):Pn cs w p W m:=⟨h.cs.less hs,h.rd.less hs⟩
def Pn.wide(h:Pn bs w p W m)(hs:∀x∈cs,x∈bs\/w.heap.size<=x):Pn cs w p W m:=⟨h.cs.wide hs,h.rd.wide hs⟩
def Pn.some(h:Pn bs w p W m):p.isSome:=by
 have h1:=h.cs.get 0 _ (rfl:(Qc W m)[0]? = Option.some (I W.now));obtain⟨a,rfl,_⟩:=h1;rfl
def Pn.c(h:Pn bs w p W m){j:Nat}{v:Va}(hj:(Qc W m)[j]? = Option.some v):Q1 bs w p (0+j) [v]:=Uo (h.cs.get j v hj)
def Pn.now(h:Pn bs w p W m):Q1 bs w p (0+0) [I W.now]:=h.c rfl
def Pn.IF(h:Pn bs w p W m):Q1 bs w p (0+1) [.slice m.cO W.IF.length m.cC]:=h.c rfl
def Pn.IJ(h:Pn bs w p W m):Q1 bs w p (0+2) [.slice m.tO W.IJ.length m.tC]:=h.c rfl
def Pn.IE(h:Pn bs w p W m):Q1 bs w p (0+3) [.slice m.gO W.IE.length m.gC]:=h.c rfl
def zwb(m:MW)(g c:Int):OA:=(m.ms g.toNat).sO.map (·.add (Int.toNat c*5))
def Pn.sh(h:Pn bs w p W m){g c:Int}(g0:0<=g)(g1:g<(W.IE.length:Int))(c0:0<=c)(c1:c<((gi W.IE g).IH.length:Int)):(zwb m g c).isSome/\∀{j:Nat} {v:Va},(T9 (Qa W g c))[j]? = Option.some v->Q1 bs w (zwb m g c) (0+j) [v]:=
 ⟨MQ (h.rd.g.IH g g0 g1 c c0 c1),λ{j v} hj=>JK (h.rd.g.IH g g0 g1 c c0 c1) hj⟩
def Ux{c:Int}:PX bs ZE #[.pointer p,I c] w (.agg #[.pointer p,I c]):=Ba p c λwr hx=>λ_ _=>rfl
def Zt{g c:Int}(h:Pn bs w p W m)(g0:0<=g)(g1:g<(W.IE.length:Int))(c0:0<=c)(c1:c<((gi W.IE g).IH.length:Int)):PX bs QC #[.agg #[.pointer p,I c],I g] w (.pointer (zwb m g c)):=
 Bg p c g λwr hx=>by
  have h:=(h.ext hx).less (cs:=[]) Qs;exact λ_ _=>⟨h.some,_,_,_,h.IE,h.rd.g.ix g0 g1,_,_,_,h.rd.g.Rn g0 g1,(h.rd.g.IH g g0 g1).ix YT c0 c1,rfl⟩
def VU{c:Int}(h:Pn bs w p W m)(c0:0<=c)(c1:c<(W.IF.length:Int)):PX bs ZM #[.agg #[.pointer p,I c]] w (.pointer (m.cO.map (·.add (Int.toNat c*5)))):=
 zaf p c λwr hx=>by
  have h:=(h.ext hx).less (cs:=[]) Qs;exact λ_ _=>⟨h.some,_,_,_,h.IF,h.rd.c.ix Y1 c0 c1,rfl⟩
def j9{c:Int}(h:Pn bs w p W m)(hl:W.IF.length<=maxLen):PX bs Jz #[.pointer p,I c] w (.bool (YY c 0 ((W.IF.length:Int)-1))):=
 GD p c λwr hx=>by
  have h:=(h.ext hx).less (cs:=[]) Qs;have:=XX;exact⟨h.some,_,_,_,h.IF,⟨Qo,Qo⟩,_,QK,rfl⟩
def Nx{t:Int}(h:Pn bs w p W m)(hl:W.IJ.length<=maxLen):PX bs Jh #[.pointer p,I t] w (.bool (YY t 0 ((W.IJ.length:Int)-1)&&((Q8 W t).state != 0))):=
 LW p t λwr hx=>by
  have h:=(h.ext hx).less (cs:=[]) Qs;have:=XX;have hr:YY t 0 ((W.IJ.length:Int)-1)->0<=t/\t<(W.IJ.length:Int):=λg=>by have:=Qu.1 g;omega
  exact⟨h.some,_,_,_,h.IJ,⟨Qo,Qo⟩,_,QK,λ_=>h.some,_,_,_,λ_=>h.IJ,λg=>h.rd.t.ix QT (hr g).1 (hr g).2,_,λg=>h.rd.t.f (hr g).1 (hr g).2 (j:=0) rfl,rfl⟩
def KA(h:Pn bs w p W m)(h4:W.IF.length<=4):PX bs X4 #[.pointer p] w (I (JG W.IF)):=
 Dv p λwr hx=>by
  have h:=(h.ext hx).less (cs:=[]) Qs;refine⟨h.some,_,_,_,h.IF,?_⟩;refine Pc W.IF.length 0 rfl (λx k=>k<=W.IF.length/\x=Vm W.IF k) ⟨Ic _,rfl⟩ λx k ⟨hk,Rk⟩=>⟨λIW=>?_,λRM=>?_⟩
  ·have IW:=Ot IW;have hb:=N4 (k:=k) Qo;have hl:=D4 W.IF k Qo;have eI:(1*2 ^ (min (Int.toNat (k:Int)) 64):Int)=Uh k:=rfl;refine⟨h.rd.c.ix Y1 Qo IW,_,_,_,_,_,h.rd.c k Qo IW,λ_ _=>⟨λhu=>?_,λhu=>?_⟩⟩
   ·rw[eI,Rk,z47 Qo hl.1 hl.2];refine⟨⟨Qo,Qo,Qo⟩,⟨Qo,Qo⟩,QN Qo ⟨Qo,?_⟩⟩;simp only[Vm];rw[C' hu]
   ·refine⟨⟨Qo,Qo⟩,QN Qo ⟨Qo,?_⟩⟩;rw[Rk];simp only[Vm];rw[B' (by rw[hu];decide)]
  ·have RM:=Ou RM;have:k=W.IF.length:=Qo;subst this;rw[Rk];rfl
def zn1{g:Int}(h:Pn bs w p W m)(h4:W.IF.length<=4)(ht:Yr W.IE)(hu:Q6 W.IE g):PX bs VH #[.pointer p,I g] w (I (Ta W.IE g (JG W.IF))):=
 Bb p g λwr hx=>by
  have h:=(h.ext hx).less (cs:=[]) Qs;have hr:Q6 W.IE 0:=Q2.2 ⟨Qd,by have:=ht.len;omega,ht.ru⟩;obtain⟨r1,r2,_⟩:=Q2.1 hr;refine⟨_,KA h h4,λvs=>∃(x s:Int),vs=[I x,I s]/\Q6 W.IE x/\Ta W.IE x s=Ta W.IE g (JG W.IF),λvs=>(dep 3 W.IE (Ye 0 vs)).toNat,⟨g,_,rfl,hu,rfl⟩,?_⟩;rintro x s ⟨x',s',he,hux,hI⟩;simp only[I4,I5,true_and,and_true] at he;obtain⟨rfl,rfl⟩:=he;refine⟨λhz=>?_,λhz=>?_⟩
  ·have hz:x≠0:=by simpa using hz
   obtain⟨hp,a,b,d,e,e2,hd⟩:=Y0 ht hux hz;unfold Ta at hI;rw[Yq ht hux hz,List.cons_append,List.foldl_cons] at hI
   exact⟨h.some,_,_,_,h.IE,h.rd.g.ix a b,_,h.rd.g.IF a b,_,MD,h.some,_,_,_,h.IE,h.rd.g.ix a b,_,h.rd.g.IG a b,⟨_,_,rfl,hp,hI⟩,by
    show (dep 3 W.IE (gi W.IE x).IG).toNat<(dep 3 W.IE x).toNat;omega⟩
  ·have hz:x=0:=by simpa using hz
   subst hz;unfold Ta at hI;rw[show QR W.IE 0=[] from Zh _ _] at hI;refine⟨h.some,_,_,_,h.IE,h.rd.g.ix r1 r2,_,h.rd.g.IF r1 r2,_,MD,?_⟩;unfold Ta;rw[<-hI];rfl
def Nt{g mask:Int}(h:Pn bs w p W m)(h4:W.IF.length<=4)(ht:Yr W.IE)(hu:Q6 W.IE g):PX bs Jg #[.pointer p,I mask,I g] w (I (QD W g mask)):=
 LS p mask g λwr hx=>by
  have h:=(h.ext hx).less (cs:=[]) Qs;refine⟨_,zn1 h h4 ht hu,_,MD,λg1=>?_,λg1=>⟨λg2=>?_,λg2=>⟨_,KA h h4,?_⟩⟩⟩
  ·unfold QD;rw[C' (by simpa using g1)]
  ·unfold QD;rw[B' (by simpa using g1),C' (by simpa using g2)]
  ·unfold QD;rw[B' (by simpa using g1),B' (by simpa using g2)]
def zdr{t:Int}(h:Pn bs w p W m)(h4:W.IF.length<=4)(ht:Yr W.IE)(t0:0<=t)(t1:t<(W.IJ.length:Int))(hu:Q6 W.IE (Q8 W t).II):PX bs U3 #[.pointer p,I t] w (I (QD W (Q8 W t).II (Q8 W t).mask)):=
 Hp p t λwr hx=>by
  have h:=(h.ext hx).less (cs:=[]) Qs;exact⟨h.some,_,_,_,h.IJ,h.rd.t.ix QT t0 t1,_,h.rd.t.f t0 t1 (j:=4) rfl,h.some,_,_,_,h.IJ,h.rd.t.ix QT t0 t1,_,h.rd.t.f t0 t1 (j:=1) rfl,_,Nt h h4 ht hu,rfl⟩
def KB{t c g:Int}(h:Pn bs w p W m)(t0:0<=t)(t1:t<(W.IJ.length:Int)):PX bs Xl #[.agg #[.pointer p,I c],I t,I g] w (.bool (Ug W g c t.toNat)):=
 EC p c t g λwr hx=>by
  have h:=(h.ext hx).less (cs:=[]) Qs;refine λ_ _=>⟨h.some,_,_,_,h.IJ,h.rd.t.ix QT t0 t1,_,_,_,_,_,_,_,_,_,h.rd.t t t0 t1,λ_ _=>?_⟩
  unfold Ug;rw[show ((t.toNat:Nat):Int)=t by omega]
def LJ{k c g:Int}(h:Pn bs w p W m)(ha:WA W)(k0:0<=k)(k1:k<(W.IE.length:Int))(c0:0<=c)(c1:c<(W.IF.length:Int)):PX bs XC #[.agg #[.pointer p,I c],I k,I g] w (.bool (Xb W g c k.toNat)):=
 Be p c k g λwr hx=>by
  have h:=(h.ext hx).less (cs:=[]) Qs
  have hc:(((k != 0)&&(gi W.IE k).IV)&&((gi W.IE k).IG==g))->c<((gi W.IE k).IH.length:Int):=λq=>by
   simp only[A'] at q;rw[ha.sl (Q2.2 ⟨k0,k1,q.1.2⟩)];exact c1
  refine λ_ _=>⟨λ_=>h.some,_,_,_,λ_=>h.IE,λ_=>h.rd.g.ix k0 k1,_,λ_=>h.rd.g.IV k0 k1,λ_=>h.some,_,_,_,λ_=>h.IE,λ_=>h.rd.g.ix k0 k1,_,λ_=>h.rd.g.IG k0 k1,zwb m k c,λq=>Zt h k0 k1 c0 (hc q),λq=>(h.sh k0 k1 c0 (hc q)).1,(Qa W k c).on,λq=>(h.sh k0 k1 c0 (hc q)).2 (j:=1) rfl,?_⟩
  unfold Xb;rw[show ((k.toNat:Nat):Int)=k by omega]
  have e:decide (1<=k.toNat)=(k != 0):=by
   by_cases hk:k=0
   ·subst hk;rfl
   ·rw[Ih Qo,It.2 hk]
  rw[e,Bool.and_assoc,Bool.and_assoc,Bool.and_assoc,Bool.and_assoc]
def Kz{g c:Int}(h:Pn bs w p W m)(ha:WA W)(c0:0<=c)(c1:c<(W.IF.length:Int)):PX bs Xk #[.agg #[.pointer p,I c],I g] w (.bool (Qv W g c)):=
 EA p c g λwr hx=>by
  have h:=(h.ext hx).less (cs:=[]) Qs;have bU:=ha.gl;have ht:=ha.t;refine λ_ _=>⟨h.some,_,_,_,h.IJ,?_⟩
  refine X7 W.IJ.length 0 rfl (λk=>k<=W.IJ.length/\∀j:Nat,j<k->Ug W g c j=false) ⟨Ic _,λj hj=>Ir hj (Nat.not_lt_zero j)⟩ λk ⟨hk,hI⟩=>⟨λIW=>?_,λRM=>?_⟩
  ·have IW:=Ot IW;refine⟨_,KB h Qo IW,λhy=>?_,λhn=>⟨⟨Qo,Qo⟩,QB Qo ⟨Qo,λj hj=>?_⟩⟩⟩
   ·rw[Ig] at hy;unfold Qv;rw[LB.2 ⟨k,Qo,hy⟩];rfl
   ·by_cases gG:j<k
    ·exact hI j gG
    ·have:j=k:=Qo;subst this
     rwa[Ig] at hn
  ·have RM:=Ou RM;have kD:O1 (Ug W g c) W.IJ.length=false:=zko λj hj=>hI j Qo
   refine⟨h.some,_,_,_,h.IE,?_⟩;refine X7 W.IE.length 0 rfl (λk=>k<=W.IE.length/\∀j:Nat,j<k->Xb W g c j=false) ⟨Ic _,λj hj=>Ir hj (Nat.not_lt_zero j)⟩ λk ⟨hk,hI⟩=>⟨λIW=>?_,λRM=>?_⟩
   ·have IW:=Ot IW;refine⟨_,LJ h ha Qo IW c0 c1,λhy=>?_,λhn=>⟨⟨Qo,Qo⟩,QB Qo ⟨Qo,λj hj=>?_⟩⟩⟩
    ·rw[Ig] at hy;unfold Qv;rw[LB.2 ⟨k,Qo,hy⟩,Bool.or_true]
    ·by_cases gG:j<k
     ·exact hI j gG
     ·have:j=k:=Qo;subst this
      rwa[Ig] at hn
   ·have RM:=Ou RM;have:O1 (Xb W g c) W.IE.length=false:=zko λj hj=>hI j Qo
    unfold Qv;rw[kD,this];rfl
def zds{g c:Int}(h:Pn bs w p W m)(ha:WA W)(hu:Q6 W.IE g)(c0:0<=c)(c1:c<(W.IF.length:Int)):PX bs UK #[.agg #[.pointer p,I c],I g] w (.bool (Xu W g c)):=
 zag p c g λwr hx=>by
  have h:=(h.ext hx).less (cs:=[]) Qs;obtain⟨u1,u2,_⟩:=Q2.1 hu
  have hd:(decide ((gi W.IE g).IL.I'>0))->c<((gi W.IE g).IL.Ry.length:Int):=λg1=>by
   have:=Ot g1;rw[(ha.dl hu Qo).1];exact c1
  exact λ_ _=>⟨h.some,_,_,_,h.IE,h.rd.g.ix u1 u2,_,_,_,_,_,_,_,_,_,h.rd.g.IL u1 u2,λ_ _=>⟨λg1=>(h.rd.g.Ry g u1 u2).ix LF c0 (hd g1),_,λg1=>(h.rd.g.Ry g u1 u2) c c0 (hd g1),rfl⟩⟩
def DJ{t c:Int}(h:Pn bs w p W m)(ha:WA W)(t0:0<=t)(t1:t<(W.IJ.length:Int))(c0:0<=c)(c1:c<(W.IF.length:Int))(hu:(Q8 W t).state=1->Q6 W.IE (Q8 W t).II) :
  PX bs Jb #[.agg #[.pointer p,I c],I t] w (.bool (((Q8 W t).R1==c)&&Zf W t)):=
 EB p c t λwr hx=>by
  have h:=(h.ext hx).less (cs:=[]) Qs;refine λ_ _=>⟨h.some,_,_,_,h.IJ,h.rd.t.ix QT t0 t1,_,_,_,_,_,_,_,_,_,h.rd.t t t0 t1,λ_ _=>⟨λg=>?_,λg=>?_⟩⟩
  ·have g':(((Q8 W t).state != 1)||((Q8 W t).R1 != c)):=g
   have:(((Q8 W t).R1==c)&&Zf W t)=false:=by
    unfold Zf;simp only[Iu,It] at g';rcases g' with e|e
    ·rw[beq_eq_false_iff_ne.2 e,Bool.false_and,Bool.and_false]
    ·rw[beq_eq_false_iff_ne.2 e,Bool.false_and]
   rw[this]
  ·have g':(((Q8 W t).state != 1)||((Q8 W t).R1 != c))=false:=g;simp only[H',bne_eq_false_iff_eq] at g';obtain⟨hs,hc⟩:=g';have tI:=hu hs
   have hL:(((Q8 W t).R1==c)&&Zf W t)=JR W (Q8 W t).II c:=by
    unfold Zf;rw[Is.2 hs,Is.2 hc,Bool.true_and,Bool.true_and,hc]
   rw[hL];refine⟨λvs=>∃x:Int,vs=[I x]/\Q6 W.IE x/\JR W x c=JR W (Q8 W t).II c,λvs=>(dep 3 W.IE (Ye 0 vs)).toNat,⟨_,rfl,tI,rfl⟩,?_⟩;rintro x ⟨x',he,hux,hI⟩;simp only[I4,I5,true_and,and_true] at he;subst he;refine⟨λhz=>?_,λhz=>?_⟩
   ·have hz:x≠0:=by simpa using hz
    obtain⟨hp,a,b,d,e,e2,hd⟩:=Y0 ha.tree hux hz;have sR:c<((gi W.IE x).IH.length:Int):=by rw[ha.sl hux];exact c1
    unfold JR at hI;rw[Yq ha.tree hux hz,List.all_cons] at hI
    refine⟨_,Zt h a b c0 sR,(h.sh a b c0 sR).1,_,(h.sh a b c0 sR).2 (j:=1) rfl,λg2=>?_,λg2=>⟨h.some,_,_,_,h.IE,h.rd.g.ix a b,_,h.rd.g.IG a b,⟨_,rfl,hp,?_⟩,by
     show (dep 3 W.IE (gi W.IE x).IG).toNat<(dep 3 W.IE x).toNat;omega⟩⟩
    ·have g2:(Qa W x c).on=false:=by simpa using g2
     rw[g2,Bool.false_and] at hI;unfold JR;rw[<-hI]
    ·have g2:(Qa W x c).on:=by simpa using g2
     rw[g2,Bool.true_and] at hI;exact hI
   ·have hz:x=0:=by simpa using hz
    subst hz;unfold JR at hI;rw[show QR W.IE 0=[] from Zh _ _,List.all_nil] at hI;unfold JR;rw[<-hI]
end
structure z0e (W:Q7):Prop where
 n1:0<=W.now
 n2:W.now<=100000000000000000
 c1:1<=W.IF.length
 c2:W.IF.length<=4
 t:W.IJ.length=12
 tree:Yr W.IE
 ups:JG W.IF≠0
structure z55 (W:Q7) (g:ZD):Prop where
 none:g.IL.I'=0->ON g.IL/\g.period=0/\g.next=0
 IL:g.IL.I'≠0->P2 g.IL/\g.IL.locals.length=W.IF.length/\1<=g.period/\g.period<=1000/\W.now<g.next/\g.next-W.now<=g.period
structure z53 (W:Q7) (g:ZD):Prop where
 w1:1<=g.R2
 w2:g.R2<=20
 m:M1 g.IF=true
 m0:g.IF≠0
 s:Ya g.sum=true
 len:g.IH.length=W.IF.length
 q:z55 W g
def z0m(W:Q7)(k:Int):Prop:=((gi W.IE k).IV=false->zwf (gi W.IE k))/\((gi W.IE k).IV->z53 W (gi W.IE k))
def FL{W:Q7}{k:Int}:Kn W k↔z0m W k/\((gi W.IE k).IV->k=0->(gi W.IE k).R2=10/\(gi W.IE k).IF=15/\(gi W.IE k).IL.I'=0):=by
 constructor
 ·intro p;exact⟨⟨p.1,λhu=>by have q:=p.2 hu;exact⟨q.w1,q.w2,q.m,q.m0,q.s,q.len,⟨q.none,q.IL⟩⟩⟩,λhu=>(p.2 hu).root⟩
 ·rintro⟨p,r⟩;exact⟨p.1,λhu=>by have q:=p.2 hu;exact⟨q.w1,q.w2,q.m,q.m0,q.s,q.len,r hu,q.q.none,q.q.IL⟩⟩
section
variable {W:Q7}{m:MW}{w:Wo}{bs:List Nat}{p:OA}
def zdw{k:Int}(h:Pn bs w p W m)(n1:0<=W.now)(n2:W.now<=100000000000000000)(k0:0<=k)(k1:k<(W.IE.length:Int))(hf:zpm (gi W.IE k)) :
  PX bs XL #[.pointer p,.agg (YA (gi W.IE k) (m.ms k.toNat)).toArray] w (.bool (U0 (z55 W (gi W.IE k)))):=
 Hq p (gi W.IE k).IV (gi W.IE k).IG (gi W.IE k).name (gi W.IE k).R2 (gi W.IE k).IF (gi W.IE k).period (gi W.IE k).next (gi W.IE k).sum (gi W.IE k).IL.I' (gi W.IE k).IL.RH (gi W.IE k).IL.So (m.ms k.toNat).lO (gi W.IE k).IL.locals.length (m.ms k.toNat).lC (m.ms k.toNat).dO (gi W.IE k).IL.Ry.length (m.ms k.toNat).dC (m.ms k.toNat).sO (gi W.IE k).IH.length (m.ms k.toNat).sC λwr hx=>by
  have h:=(h.ext hx).less (cs:=[]) Qs
  have hp:((U0 (P2 (gi W.IE k).IL)&&(((gi W.IE k).IL.locals.length:Nat):Int)==((W.IF.length:Nat):Int))&&YY (gi W.IE k).period 1 1000)->1<=(gi W.IE k).period/\(gi W.IE k).period<=1000:=λq=>by
   simp only[A'] at q;exact Qu.1 q.2
  refine λ_ _=>⟨_,Gi (b:=(gi W.IE k).IL) (m:=m.ms k.toNat),λg=>PI ?_,λg=>⟨_,zha (b:=(gi W.IE k).IL) (m:=m.ms k.toNat) (h.rd.g.locals k k0 k1) (h.rd.g.Ry k k0 k1) hf.lo,λ_=>h.some,_,_,_,λ_=>h.IF,_,λ_=>QK,λ_=>h.some,_,λ_=>h.now,λ_=>⟨Qo,Qo⟩,λ_=>h.some,_,λ_=>h.now,λq=>⟨by have:=hp q;omega,by have:=hp q;omega⟩,_,λ_=>QK,PI ?_⟩⟩
  ·have q0:=(Hm g).1;simp only[A',Is];exact⟨λe=>⟨λ_=>⟨g,e.1,e.2⟩,λcU=>Ir q0 cU⟩,λq=>(q.none q0).2⟩
  ·simp only[A',Is,Qm,Qu];constructor
   ·rintro⟨⟨⟨e1,e2⟩,e3⟩,e4⟩;have:=e1.q1;exact⟨λhz=>by omega,λ_=>⟨e1,Qo,e3.1,e3.2,Qo,Qo⟩⟩
   ·intro q
    have hq:(gi W.IE k).IL.I'≠0:=λe=>by
     have:=(q.none e).1;rw[this] at g;cases g
    have r:=q.IL hq;exact⟨⟨⟨r.1,by have:=r.2.1;omega⟩,r.2.2.1,r.2.2.2.1⟩,by have:=r.2.2.2.2.1;omega,by have:=r.2.2.2.2.2;omega⟩
def q7(h:Pn bs w p W m)(hs:z0e W)(hf:∀i:Int,0<=i->i<(W.IE.length:Int)->zpm (gi W.IE i)):PX bs Xn #[.pointer p] w (.bool (U0 (∀k:Int,0<=k->k<8->Kn W k))):=
 GE p λwr hx=>by
  have h:=(h.ext hx).less (cs:=[]) Qs;have bU:=hs.tree.len;refine⟨h.some,_,_,_,h.IE,?_⟩;refine X7 W.IE.length 0 rfl (λk=>k<=W.IE.length/\∀j:Int,0<=j->j<(k:Int)->z0m W j) ⟨Ic _,λj h0 h1=>by omega⟩ λk ⟨hk,hI⟩=>⟨λIW=>?_,λRM=>?_⟩
  ·have IW:=Ot IW;have k0:(0:Int)<=(k:Int):=Qo
   have nxt:z0m W (k:Int)->∀j:Int,0<=j->j<((k+1:Nat):Int)->z0m W j:=λhq j h0 h1=>by
    by_cases gG:j<(k:Int)
    ·exact hI j h0 gG
    ·have:j=(k:Int):=Qo;subst this;exact hq
   refine⟨h.rd.g.ix k0 IW,_,_,_,_,_,_,_,_,_,_,_,_,_,_,_,_,_,_,_,_,h.rd.g.cells k k0 IW,λ_ _=>⟨λg=>?_,λg=>?_⟩⟩
   ·have hu:(gi W.IE (k:Int)).IV=false:=by simpa using g
    refine⟨_,Nv (g:=gi W.IE (k:Int)) (m:=m.ms (k:Int).toNat) hu,λg2=>GB λpp=>?_,λg2=>⟨⟨Qo,Qo⟩,QB Qo ⟨Qo,nxt ⟨λ_=>Qm.1 (by simpa using g2),λhu'=>by rw[hu'] at hu;cases hu⟩⟩⟩⟩;have g2:U0 (zwf (gi W.IE (k:Int)))=false:=by simpa using g2
    exact GZ.1 g2 ((FL.1 (pp (k:Int) k0 Qo)).1.1 hu)
   ·have hu:(gi W.IE (k:Int)).IV:=by simpa using g
    have bad:¬z53 W (gi W.IE (k:Int))->¬∀k:Int,0<=k->k<8->Kn W k:=λhn pp=>hn ((FL.1 (pp (k:Int) k0 Qo)).1.2 hu)
    refine⟨_,Pz,_,λ_=>Gj,λg2 b1 bY=>⟨Ya (gi W.IE (k:Int)).sum,λ_ wx hxw hcx=>z7m hcx,λ_=>h.some,_,_,_,λ_=>h.IF,_,λ_=>zdw h hs.n1 hs.n2 k0 IW (hf _ k0 IW),λg3=>GB (bad λq=>?_),λg3=>⟨⟨Qo,Qo⟩,QB Qo ⟨Qo,nxt ⟨λhu'=>(by rw[hu'] at hu;cases hu),λ_=>?_⟩⟩⟩⟩,λg2=>⟨λe=>(by cases e),none,0,0,λe=>(by cases e),false,λe=>(by simp at e),λg3=>GB (bad λq=>g2 ?_),λg3=>(by simp at g3)⟩⟩
    ·have e1:YY (gi W.IE (k:Int)).R2 1 20:=Qu.2 ⟨q.w1,q.w2⟩;have e2:((gi W.IE (k:Int)).IF != 0):=by simpa using q.m0
     have e5:(((gi W.IE (k:Int)).IH.length:Nat):Int)=((W.IF.length:Nat):Int):=by have:=q.len;omega
     rw[e1,e2,q.m,q.s,e5,Qm.2 q.q] at g3;simp at g3
    ·simp only[H',I6,bne_eq_false_iff_eq,Qu,A',It,Qm] at g3;obtain⟨⟨⟨⟨a1,a2⟩,a3⟩,a4⟩,a5⟩:=g3;exact⟨a1.1,a1.2,a2.2,a2.1,a3,Qo,a5⟩
    ·have e1:YY (gi W.IE (k:Int)).R2 1 20:=Qu.2 ⟨q.w1,q.w2⟩;have e2:((gi W.IE (k:Int)).IF != 0):=by simpa using q.m0
     rw[e1,e2,q.m];rfl
  ·have RM:=Ou RM;have h0:(0:Int)<(W.IE.length:Int):=Qo;refine⟨h.some,_,_,_,h.IE,h.rd.g.ix Qd h0,_,_,_,_,_,_,_,_,_,_,_,_,_,_,_,_,_,_,_,_,h.rd.g.cells 0 Qd h0,λ_ _=>PI ?_⟩;simp only[A',Is];constructor
   ·rintro⟨⟨e1,e2⟩,e3⟩ j j0 j1;exact FL.2 ⟨hI j j0 Qo,λ_ hj=>by subst hj;exact⟨e1,e2,e3⟩⟩
   ·intro pp;have r:=(FL.1 (pp 0 Qd Qd)).2 hs.tree.ru rfl;exact⟨⟨r.1,r.2.1⟩,r.2.2⟩
def z0e.wa(hs:z0e W)(hg:∀k:Int,0<=k->k<8->Kn W k):WA W:=⟨hs.n1,hs.n2,hs.c1,hs.c2,hs.t,hs.tree,hs.ups,hg⟩
def zy2{n:Int}:YY n (-10) 9=true↔Qf n≠0:=by
 unfold Qf
 cases h:YY n (-10) 9 with
 |true=>
  have:=Qu.1 h;simp;omega
 |false=>simp
def zbo(W:Q7)(t:Int):Prop:=AM W t/\((Q8 W t).state=1->Ya (Qa W (Q8 W t).II (Q8 W t).R1).IM)
def zd0(h:Pn bs w p W m)(ha:WA W)(lg:W.IE.length<=maxLen):PX bs XN #[.pointer p] w (.bool (U0 (∀t:Int,0<=t->t<12->zbo W t))):=
 Hs p λwr hx=>by
  have h:=(h.ext hx).less (cs:=[]) Qs;have bU:=ha.gl;have jF:=ha.t;refine⟨h.some,_,_,_,h.IJ,?_⟩;refine X7 W.IJ.length 0 rfl (λk=>k<=W.IJ.length/\∀j:Int,0<=j->j<(k:Int)->zbo W j) ⟨Ic _,λj h0 h1=>by omega⟩ λk ⟨hk,hI⟩=>⟨λIW=>?_,λRM=>?_⟩
  ·have IW:=Ot IW;have k0:(0:Int)<=(k:Int):=Qo
   have nxt:zbo W (k:Int)->Qp .i64 ((k:Int)+1)/\zt9 (λk=>k<=W.IJ.length/\∀j:Int,0<=j->j<(k:Int)->zbo W j) [I ((k:Int)+1)]/\Xt W.IJ.length 0 [I ((k:Int)+1)]<Xt W.IJ.length 0 [I (k:Int)]:=λhq=>⟨⟨Qo,Qo⟩,QB Qo ⟨Qo,λj h0 h1=>by
    by_cases gG:j<(k:Int)
    ·exact hI j h0 gG
    ·have:j=(k:Int):=Qo;subst this;exact hq⟩⟩
   have bad:¬zbo W (k:Int)->¬∀t:Int,0<=t->t<12->zbo W t:=λhn pp=>hn (pp (k:Int) k0 Qo)
   refine⟨h.rd.t.ix QT k0 IW,_,_,_,_,_,_,_,_,_,h.rd.t k k0 IW,λ_ _=>⟨_,λwq=>zfh Nl (zlb (gi W.IJ (k:Int)) T8) _ _ wq,λg=>?_,λg=>?_⟩⟩
   ·rw[zms,Ij] at g;have hz:Q8 W (k:Int)=T8:=g;exact nxt ⟨.inl ⟨by rw[hz];rfl,hz⟩,λe=>by rw[hz] at e;cases e⟩
   ·rw[zms,decide_eq_false_iff_not] at g;have hz:¬Q8 W (k:Int)=T8:=g
    have get:zbo W (k:Int)->z0o W (gi W.IJ (k:Int)):=λq=>by
     rcases q.1 with ⟨_,e⟩|⟨_,q⟩
     ·exact Ir e hz
     ·exact q
    refine⟨λ_=>h.some,_,_,_,λ_=>h.IE,_,λ_=>L4 (c:=m.gC) h.rd.g lg,_,λ_=>DK,_,λ_=>Gj,λg2=>GB (bad λq=>?_),λg2 b1 bY=>?_⟩
    ·have q:=get q;have e3:YY (gi W.IJ (k:Int)).nice (-10) 9:=zy2.2 q.n;have e4:((gi W.IJ (k:Int)).mask != 0):=by simpa using q.m0
     rw[q.g,e3,q.m,e4] at g2;simp only[Bool.not_true,Bool.or_false,Bool.and_true,A',It] at g2;have:=q.st;omega
    ·simp only[H',I6,A',It] at g2;obtain⟨⟨⟨a1,a2⟩,a3⟩,a4⟩:=g2
     have st:(gi W.IJ (k:Int)).state=1\/(gi W.IJ (k:Int)).state=2:=by
      by_cases h1:(gi W.IJ (k:Int)).state=1
      ·exact .inl h1
      ·refine .inr ?_;have:((gi W.IJ (k:Int)).state != 1):=by simpa using h1
       rw[this,Bool.true_and] at a1
       simpa using a1
     refine⟨_,λwx hxw hcx=>z7y hcx,_,λ_=>zhg,_,λ_=>zdr h ha.c2 ha.tree k0 IW a2,_,λ_=>zdp,λg3=>GB (bad λq=>?_),λg3=>?_⟩
     ·have q:=get q;have e4:YY (gi W.IJ (k:Int)).load 0 8000000:=Qu.2 ⟨q.l1,q.l2⟩;have e5:Zq (QD W (Q8 W (k:Int)).II (Q8 W (k:Int)).mask) (gi W.IJ (k:Int)).R1:=q.c;rw[q.v,q.s,q.u,e4,e5] at g3;cases g3
     ·simp only[H',I6,Qu,A'] at g3;obtain⟨⟨b1',b2⟩,b3⟩:=g3;obtain⟨u1,u2,_⟩:=Q2.1 a2;obtain⟨c0,c1⟩:=GY ha b3;have hsl:=ha.sl a2;have c2:(gi W.IJ (k:Int)).R1<((gi W.IE (gi W.IJ (k:Int)).II).IH.length:Int):=Qo;have sh:=h.sh (g:=(gi W.IJ (k:Int)).II) u1 u2 c0 c2
      have mk:(((Q8 W (k:Int)).state=1->Ya (Qa W (Q8 W (k:Int)).II (Q8 W (k:Int)).R1).IM/\KJ (gi W.IJ (k:Int)).v (Qa W (gi W.IJ (k:Int)).II (gi W.IJ (k:Int)).R1).IM (Qf (gi W.IJ (k:Int)).nice)))->zbo W (k:Int):=λhf=>⟨.inr ⟨λe=>by
        have e:(gi W.IJ (k:Int)).state=0:=e;omega,⟨st,a2,zy2.1 a3,a4.2,a4.1,b1'.1,b1'.2.1,b1'.2.2,b2.1,b2.2,b3,λe=>(hf e).2⟩⟩,λe=>(hf e).1⟩
      refine⟨_,_,Ux,_,Zt h u1 u2 c0 c2,sh.1,_,sh.2 (j:=0) rfl,λ_ b2 cD=>⟨Ya (Qa W (gi W.IJ (k:Int)).II (gi W.IJ (k:Int)).R1).IM,λ_ wx hxw hcx=>z7m hcx,_,λ_ _=>Px,_,λg4 _=>H9 b1'.1 (by simpa using g4),λg4=>GB (bad λq=>?_),λg4=>nxt (mk λe=>?_)⟩,λg4=>⟨λe=>(by cases e),λ_=>nxt (mk λe=>Ir (Is.2 e) g4)⟩⟩
      ·simp only[A',Is,Iu,ID] at g4;have e1:=(get q).f g4.1;have e2:=q.2 g4.1;rcases g4.2 with g5|g5
       ·have e2:Ya (Qa W (gi W.IJ (k:Int)).II (gi W.IJ (k:Int)).R1).IM:=e2;rw[e2] at g5;cases g5
       ·rw[e1] at g5;cases g5
      ·have e':((gi W.IJ (k:Int)).state==1):=Is.2 e;rw[e',Bool.true_and] at g4;simp only[H',I6] at g4;exact g4
  ·have RM:=Ou RM;exact zph λt h0 h1=>hI t h0 Qo
def Nw(h:Pn bs w p W m)(ha:WA W)(hf:∀i:Int,0<=i->i<(W.IE.length:Int)->zpm (gi W.IE i)):PX bs Xf #[.pointer p] w (.bool (U0 (∀k c:Int,0<=k->k<8->0<=c->c<((gi W.IE k).IH.length:Int)->Ko W k c))):=
 LU p λwr hx=>by
  have h:=(h.ext hx).less (cs:=[]) Qs;have bU:=ha.gl;have qT:=ha.c2
  let TS:=λ(k c:Int)=>Ya (Qa W k c).IM/\Ya (Qa W k c).v/\Ya (Qa W k c).sum/\1<=(Qa W k c).w/\(Qa W k c).w<=20
  have ts:(∀k c:Int,0<=k->k<8->0<=c->c<((gi W.IE k).IH.length:Int)->Ko W k c)->∀k c:Int,0<=k->k<8->0<=c->c<((gi W.IE k).IH.length:Int)->TS k c:=λq k c h0 h1 h2 h3=>by
   have r:=q k c h0 h1 h2 h3;exact⟨r.f,r.v,r.s,r.w1,r.w2⟩
  refine⟨h.some,_,_,_,h.IE,?_⟩;refine X7 W.IE.length 0 rfl (λk=>k<=W.IE.length/\∀j c:Int,0<=j->j<(k:Int)->0<=c->c<((gi W.IE j).IH.length:Int)->TS j c) ⟨Ic _,λj c h0 h1=>by omega⟩ λk ⟨hk,hI⟩=>⟨λIW=>?_,λRM=>?_⟩
  ·have IW:=Ot IW;have k0:(0:Int)<=(k:Int):=Qo;have hsm:(gi W.IE (k:Int)).IH.length<=maxLen:=(hf _ k0 IW).sh;refine⟨h.rd.g.ix k0 IW,_,_,_,_,_,_,_,_,_,_,_,_,_,_,_,_,_,_,_,_,h.rd.g.cells k k0 IW,λ_ _=>?_⟩;refine X7 (gi W.IE (k:Int)).IH.length 0 rfl (λc=>c<=(gi W.IE (k:Int)).IH.length/\∀d:Int,0<=d->d<(c:Int)->TS (k:Int) d) ⟨Ic _,λj h0 h1=>by omega⟩ λc ⟨hc,hJ⟩=>⟨λkN=>?_,λAR3=>?_⟩
   ·have kN:=Ot kN;have c0:(0:Int)<=(c:Int):=Qo;have rs:=h.rd.g.IH (k:Int) k0 IW;refine⟨rs.ix YT c0 kN,_,_,_,_,_,rs c c0 kN,λ_ _ b2 cD=>⟨_,λwx hxw hcx=>z7y hcx,_,λ_=>Pz,λg=>GB λq=>?_,λg=>⟨zlk kN hsm,QB Qo ⟨Qo,λd h0 h1=>?_⟩⟩⟩⟩
    ·have r:=ts q (k:Int) (c:Int) k0 Qo c0 kN;have e4:YY (Qa W (k:Int) (c:Int)).w 1 20:=Qu.2 ⟨r.2.2.2.1,r.2.2.2.2⟩;have g':((!(Ya (Qa W (k:Int) (c:Int)).IM&&(Ya (Qa W (k:Int) (c:Int)).v&&Ya (Qa W (k:Int) (c:Int)).sum))) || !YY (Qa W (k:Int) (c:Int)).w 1 20):=g;rw[r.1,r.2.1,r.2.2.1,e4] at g'
     cases g'
    ·by_cases gG:d<(c:Int)
     ·exact hJ d h0 gG
     ·have:d=(c:Int):=Qo;subst this;have g':((!(Ya (Qa W (k:Int) (c:Int)).IM&&(Ya (Qa W (k:Int) (c:Int)).v&&Ya (Qa W (k:Int) (c:Int)).sum))) || !YY (Qa W (k:Int) (c:Int)).w 1 20)=false:=g;simp only[H',I6,A',Qu] at g';exact⟨g'.1.1,g'.1.2.1,g'.1.2.2,g'.2.1,g'.2.2⟩
   ·have AR3:=Ou AR3;refine⟨⟨Qo,Qo⟩,QB Qo ⟨Qo,λj d h0 h1 h2 h3=>?_⟩⟩
    by_cases gG:j<(k:Int)
    ·exact hI j d h0 gG h2 h3
    ·have:j=(k:Int):=Qo;subst this;exact hJ d h2 Qo
  have RM:=Ou RM;have hT:∀j c:Int,0<=j->j<8->0<=c->c<((gi W.IE j).IH.length:Int)->TS j c:=λj c h0 h1=>hI j c h0 Qo
  refine⟨h.some,_,_,_,h.IF,?_⟩;refine X7 W.IF.length 0 rfl (λc=>c<=W.IF.length/\∀d k:Int,0<=d->d<(c:Int)->0<=k->k<8->d<((gi W.IE k).IH.length:Int)->Ko W k d) ⟨Ic _,λj k h0 h1=>by omega⟩ λc ⟨hc,hJ⟩=>⟨λkN=>?_,λAR3=>?_⟩
  ·have kN:=Ot kN;have c0:(0:Int)<=(c:Int):=Qo;obtain⟨r1,r2,_⟩:=Q2.1 ha.root;have hrc:(c:Int)<((gi W.IE 0).IH.length:Int):=by rw[ha.sl ha.root];exact kN
   have sh:=h.sh (g:=0) r1 r2 c0 hrc;have tr:=hT 0 (c:Int) Qd Qd c0 hrc;refine⟨_,_,Ux,λ_ _=>⟨_,Zt h r1 r2 c0 hrc,sh.1,(Qa W 0 (c:Int)).on,sh.2 (j:=1) rfl,λ_=>sh.1,(Qa W 0 (c:Int)).v,λ_=>sh.2 (j:=2) rfl,λ_=>sh.1,(Qa W 0 (c:Int)).w,λ_=>sh.2 (j:=3) rfl,λg=>GB λq=>?_,λg=>?_⟩⟩
   ·have r:=(q 0 (c:Int) Qd Qd c0 hrc).root rfl;rw[r.1,r.2.1,r.2.2] at g;simp at g
   simp only[H',bne_eq_false_iff_eq] at g;have root:Ko W 0 (c:Int):=⟨tr.1,tr.2.1,tr.2.2.1,tr.2.2.2.1,tr.2.2.2.2,λ_=>⟨g.1.1,g.1.2,g.2⟩,λcU=>Ir rfl cU,λcU=>Ir rfl cU⟩
   refine X7 8 1 rfl (λk=>1<=k/\k<=8/\∀j:Int,0<=j->j<(k:Int)->(c:Int)<((gi W.IE j).IH.length:Int)->Ko W j (c:Int)) ⟨I7 _,Qo,λj h0 h1 _=>by
    have:j=0:=Qo;subst this;exact root⟩ λk ⟨hk1,hk,hK⟩=>⟨λIW=>?_,λaX=>?_⟩
   ·have IW:=Ot IW;have k0:(0:Int)<=(k:Int):=Qo;have kl:(k:Int)<(W.IE.length:Int):=Qo
    have nxt:((c:Int)<((gi W.IE (k:Int)).IH.length:Int)->Ko W (k:Int) (c:Int))->Qp .i64 ((k:Int)+1)/\zt9 (λk=>1<=k/\k<=8/\∀j:Int,0<=j->j<(k:Int)->(c:Int)<((gi W.IE j).IH.length:Int)->Ko W j (c:Int)) [I ((k:Int)+1)]/\Xt 8 0 [I ((k:Int)+1)]<Xt 8 0 [I (k:Int)]:=λhq=>⟨⟨Qo,Qo⟩,QB Qo ⟨Qo,Qo,λj h0 h1 h2=>by
     by_cases gG:j<(k:Int)
     ·exact hK j h0 gG h2
     ·have:j=(k:Int):=Qo;subst this;exact hq h2⟩⟩
    refine⟨h.some,_,_,_,h.IE,h.rd.g.ix k0 kl,_,h.rd.g.IV k0 kl,λg2=>nxt λhh=>?_,λg2=>?_⟩
    ·have hu:(gi W.IE (k:Int)).IV=false:=by simpa using g2
     have:=((ha.grp (k:Int) k0 Qo).1 hu).l;omega
    ·have hus:(gi W.IE (k:Int)).IV:=by simpa using g2
     have hu:Q6 W.IE (k:Int):=Q2.2 ⟨k0,kl,hus⟩;have hkc:(c:Int)<((gi W.IE (k:Int)).IH.length:Int):=by rw[ha.sl hu];exact kN
     have hp:=ha.up hu Qo;obtain⟨v1,v2,_⟩:=Q2.1 hp;have pG:(c:Int)<((gi W.IE (gi W.IE (k:Int)).IG).IH.length:Int):=by rw[ha.sl hp];exact kN
     have sk:=h.sh (g:=(k:Int)) k0 kl c0 hkc;have sp:=h.sh (g:=(gi W.IE (k:Int)).IG) v1 v2 c0 pG;have tk:=hT (k:Int) (c:Int) k0 Qo c0 hkc;have tp:=hT (gi W.IE (k:Int)).IG (c:Int) v1 Qo c0 pG;refine⟨_,Zt h k0 kl c0 hkc,sk.1,(Qa W (k:Int) (c:Int)).on,sk.2 (j:=1) rfl,_,Kz h ha c0 kN,_,λ_=>zds h ha hu c0 kN,λ_=>sk.1,(Qa W (k:Int) (c:Int)).on,λ_=>sk.2 (j:=1) rfl,λ_ _=>sk.1,(Qa W (k:Int) (c:Int)).v,λ_ _=>sk.2 (j:=2) rfl,λ_ _=>h.some,_,_,_,λ_ _=>h.IE,λ_ _=>h.rd.g.ix k0 kl,_,λ_ _=>h.rd.g.IG k0 kl,_,λ_ _=>Zt h v1 v2 c0 pG,λ_ _=>sp.1,(Qa W (gi W.IE (k:Int)).IG (c:Int)).IM,λ_ _=>sp.2 (j:=0) rfl,λ_ _=>sk.1,(Qa W (k:Int) (c:Int)).w,λ_ _=>sk.2 (j:=3) rfl,_,λ_ _=>H9 tk.2.1 tp.1,λg3=>GB λq=>?_,λg3=>nxt λ_=>?_⟩
     ·have r:=q (k:Int) (c:Int) k0 Qo c0 hkc;have r1:=r.on Qo;simp only[Iu,A',ID,beq_eq_false_iff_ne] at g3;rcases g3 with g3|g3
      ·exact g3 r1
      ·have:=r.st Qo g3.1;rw[this] at g3
       cases g3.2
     ·simp only[H',I6,Is] at g3;refine⟨tk.1,tk.2.1,tk.2.2.1,tk.2.2.2.1,tk.2.2.2.2,λe=>by omega,λ_=>g3.1,λ_ ho=>?_⟩;have:=g3.2;rw[ho,Bool.true_and] at this
      simpa using this
   ·have aX:=Ou aX;refine⟨⟨Qo,Qo⟩,QB Qo ⟨Qo,λd k' h0 h1 h2 h3 h4=>?_⟩⟩
    by_cases hdc:d<(c:Int)
    ·exact hJ d k' h0 hdc h2 h3 h4
    ·have:d=(c:Int):=Qo;subst this;exact hK k' h2 Qo h4
  ·have AR3:=Ou AR3;refine zph λk d h0 h1 h2 h3=>hJ d k h2 ?_ h0 h1 h3
   have hus:(gi W.IE k).IV:=by
    cases hu:(gi W.IE k).IV with
    |true=>rfl
    |false=>
     have:=((ha.grp k h0 h1).1 hu).l;omega
   have:=ha.sl (Q2.2 ⟨h0,Qo,hus⟩);omega
def zhe(h:Pn bs w p W m)(ha:WA W)(hts:∀t:Int,0<=t->t<12->AM W t)(hss:∀k c:Int,0<=k->k<8->0<=c->c<((gi W.IE k).IH.length:Int)->Ko W k c):PX bs J1 #[.pointer p] w (.bool (U0 (∀c:Int,0<=c->c<(W.IF.length:Int)->BH W c))):=
 Du p λwr hx=>by
  have h:=(h.ext hx).less (cs:=[]) Qs;have bU:=ha.gl;have jF:=ha.t;have qT:=ha.c2;have hm9:=Y5;refine⟨h.some,_,_,_,h.IF,?_⟩;refine X7 W.IF.length 0 rfl (λc=>c<=W.IF.length/\∀j:Int,0<=j->j<(c:Int)->BH W j) ⟨Ic _,λj h0 h1=>by omega⟩ λc ⟨hc,hI⟩=>⟨λIW=>?_,λRM=>?_⟩
  ·have IW:=Ot IW;have c0:(0:Int)<=(c:Int):=Qo
   have nxt:BH W (c:Int)->Qp .i64 ((c:Int)+1)/\zt9 (λc=>c<=W.IF.length/\∀j:Int,0<=j->j<(c:Int)->BH W j) [I ((c:Int)+1)]/\Xt W.IF.length 0 [I ((c:Int)+1)]<Xt W.IF.length 0 [I (c:Int)]:=λhq=>⟨⟨Qo,Qo⟩,QB Qo ⟨Qo,λj h0 h1=>by
    by_cases gG:j<(c:Int)
    ·exact hI j h0 gG
    ·have:j=(c:Int):=Qo;subst this;exact hq⟩⟩
   have bad:¬BH W (c:Int)->¬∀c:Int,0<=c->c<(W.IF.length:Int)->BH W c:=λhn pp=>hn (pp (c:Int) c0 IW)
   refine⟨h.rd.c.ix Y1 c0 IW,_,_,_,_,_,h.rd.c c c0 IW,λ_ _ b1 bY=>⟨_,λwx hxw hcx=>z8a hcx,λg=>GB (bad λq=>?_),λg=>⟨λg2=>nxt ?_,λg2=>?_⟩⟩⟩
   ·rw[q.b,q.i] at g;cases g
   ·simp only[I6,A'] at g;simp only[A',Is] at g2;exact⟨g.1,g.2,Qo,Qo,λ_=>g2.2,λhh=>by omega⟩
   ·simp only[I6,A'] at g
    have ne:BH W (c:Int)->0<=(gi W.IF (c:Int)).cur:=λq=>by
     rcases Int.lt_or_le (gi W.IF (c:Int)).cur 0 with Cz6|Bq0
     ·have e1:=q.c1;have e2:=q.no Cz6;have e3:(gi W.IF (c:Int)).cur = -1:=Qo;rw[e3,e2] at g2;simp at g2
     ·exact Bq0
    have there:(YY (gi W.IF (c:Int)).cur 0 ((W.IJ.length:Int)-1)&&((Q8 W (gi W.IF (c:Int)).cur).state != 0))->0<=(gi W.IF (c:Int)).cur/\(gi W.IF (c:Int)).cur<(W.IJ.length:Int):=λq=>by
     simp only[A'] at q;have:=Qu.1 q.1;omega
    have lu:0<=(gi W.IF (c:Int)).cur/\(gi W.IF (c:Int)).cur<(W.IJ.length:Int)->(Q8 W (gi W.IF (c:Int)).cur).state=1->Q6 W.IE (Q8 W (gi W.IF (c:Int)).cur).II:=λq hs=>(B0 ha (hts _ q.1 Qo) hs).1
    refine⟨_,_,Ux,λ_ _=>⟨_,λ_=>Nx h Qo,((Q8 W (gi W.IF (c:Int)).cur).R1==(c:Int))&&Zf W (gi W.IF (c:Int)).cur,λq=>?_,_,λ_=>QK,λg3=>GB (bad λq=>?_),λg3=>?_⟩⟩
    ·simp only[H',I6] at q;have:=there q.2;exact DJ h ha this.1 this.2 c0 IW (lu this)
    ·have t0:=ne q;have t1:=q.c2;have y:=q.yes t0;have e2:YY (gi W.IF (c:Int)).cur 0 ((W.IJ.length:Int)-1):=Qu.2 Qo;have kE:(Q8 W (gi W.IF (c:Int)).cur).state=1:=(zlv (hts _ t0 Qo) y.2.2.2.2.1).2;have e4:YY (gi W.IF (c:Int)).SX 1 149:=Qu.2 ⟨y.2.1,y.2.2.1⟩;rw[y.1,e2,kE,y.2.2.2.1,y.2.2.2.2.1,e4] at g3;simp at g3
    ·simp only[H',I6] at g3;obtain⟨⟨⟨a1,a2⟩,a3⟩,a4⟩:=g3;obtain⟨t0,t1⟩:=there a2;have a4:=Qu.1 a4;simp only[A',Is] at a3;obtain⟨B10,kK⟩:=a3;obtain⟨q,_⟩:=zlv (hts _ t0 Qo) kK;have au:=q.g;obtain⟨u1,u2,_⟩:=Q2.1 au
     have sl:∀{x:Int},Q6 W.IE x->0<=x/\x<(W.IE.length:Int)/\(c:Int)<((gi W.IE x).IH.length:Int)/\Ko W x (c:Int):=λ{x} hx=>by
      obtain⟨v1,v2,_⟩:=Q2.1 hx;have c3:(c:Int)<((gi W.IE x).IH.length:Int):=by rw[ha.sl hx];exact IW
      exact⟨v1,v2,c3,hss x (c:Int) v1 Qo c0 c3⟩
     obtain⟨_,_,c2,sp⟩:=sl au;have sh:=h.sh (g:=(Q8 W (gi W.IF (c:Int)).cur).II) u1 u2 c0 c2;have mk:MR W (c:Int)->BH W (c:Int):=λkE=>⟨g.1,g.2,Qo,t1,λhh=>by omega,λ_=>⟨a1,a4.1,a4.2,B10,kK,kE⟩⟩
     refine⟨h.some,_,_,_,h.IJ,h.rd.t.ix QT t0 t1,_,_,_,_,_,_,_,_,_,h.rd.t _ t0 t1,λ_ _=>⟨h.rd.t _ t0 t1,rfl,h.IJ,_,Zt h u1 u2 c0 c2,sh.1,_,sh.2 (j:=0) rfl,Nr q.v sp.f,_,Px,_,XF,λg4=>GB (bad λqq=>?_),λg4=>?_⟩⟩
     ·have g4:=Ot g4;have hd:¬((Q8 W (gi W.IF (c:Int)).cur).v-(Qa W (Q8 W (gi W.IF (c:Int)).cur).II (c:Int)).IM<=QS (gi W.IF (c:Int)).SX (Qf (Q8 W (gi W.IF (c:Int)).cur).nice)):=Int.not_le.2 g4;have:=(qq.yes t0).2.2.2.2.2;unfold MR at this;rw[decide_eq_false hd] at this;cases this
     ·have g4:=Ou g4;have hd:(Q8 W (gi W.IF (c:Int)).cur).v-(Qa W (Q8 W (gi W.IF (c:Int)).cur).II (c:Int)).IM<=QS (gi W.IF (c:Int)).SX (Qf (Q8 W (gi W.IF (c:Int)).cur).nice):=Int.not_lt.1 g4
      have hS:MR W (c:Int)=Oi W (Q8 W (gi W.IF (c:Int)).cur).II (c:Int) (gi W.IF (c:Int)).SX:=by
       unfold MR;rw[Ih hd,Bool.true_and]
      refine⟨λvs=>∃x:Int,vs=[I x]/\Q6 W.IE x/\Oi W x (c:Int) (gi W.IF (c:Int)).SX=Oi W (Q8 W (gi W.IF (c:Int)).cur).II (c:Int) (gi W.IF (c:Int)).SX,λvs=>(dep 3 W.IE (Ye 0 vs)).toNat,⟨_,rfl,au,rfl⟩,?_⟩;rintro x ⟨x',he,hux,hJ⟩;simp only[I4,I5,true_and,and_true] at he;subst he;refine⟨λhz=>?_,λhz=>?_⟩
      ·have hz:x≠0:=by simpa using hz
       obtain⟨hp,a,b,d,e,e2,hd⟩:=Y0 ha.tree hux hz;obtain⟨x1,x2,x3,xs⟩:=sl hux;obtain⟨p1,p2,p3,ps⟩:=sl hp;have sx:=h.sh (g:=x) x1 x2 c0 x3;have spp:=h.sh (g:=(gi W.IE x).IG) p1 p2 c0 p3;unfold Oi at hJ;rw[Yq ha.tree hux hz,List.all_cons] at hJ
       refine⟨_,Zt h x1 x2 c0 x3,sx.1,_,sx.2 (j:=2) rfl,h.some,_,_,_,h.IE,h.rd.g.ix x1 x2,_,h.rd.g.IG x1 x2,_,Zt h p1 p2 c0 p3,spp.1,_,spp.2 (j:=0) rfl,Nr xs.v ps.f,sx.1,_,sx.2 (j:=3) rfl,_,XF,λg5=>GB (bad λqq=>?_),λg5=>⟨h.some,_,_,_,h.IE,h.rd.g.ix x1 x2,_,h.rd.g.IG x1 x2,⟨_,rfl,hp,?_⟩,by
        show (dep 3 W.IE (gi W.IE x).IG).toNat<(dep 3 W.IE x).toNat;omega⟩⟩
       ·have g5:=Ot g5;have hd:¬((Qa W x (c:Int)).v-(Qa W (gi W.IE x).IG (c:Int)).IM<=QS (gi W.IF (c:Int)).SX (Qa W x (c:Int)).w):=Int.not_le.2 g5;rw[decide_eq_false hd,Bool.false_and] at hJ;have:=(qq.yes t0).2.2.2.2.2;rw[hS] at this;unfold Oi at this;rw[<-hJ] at this;cases this
       ·have g5:=Ou g5;have hd:(Qa W x (c:Int)).v-(Qa W (gi W.IE x).IG (c:Int)).IM<=QS (gi W.IF (c:Int)).SX (Qa W x (c:Int)).w:=Int.not_lt.1 g5;rw[Ih hd,Bool.true_and] at hJ;exact hJ
      ·have hz:x=0:=by simpa using hz
       subst hz;refine nxt (mk ?_);rw[hS,<-hJ];unfold Oi;rw[show QR W.IE 0=[] from Zh _ _,List.all_nil]
  ·have RM:=Ou RM;exact zph λt h0 h1=>hI t h0 Qo
def zdz(h:Pn bs w p W m)(lc:W.IF.length<=maxLen)(lg:W.IE.length<=maxLen):PX bs XM #[.pointer p] w (.bool (U0 (z0e W))):=
 Hr p λwr hx=>by
  have h:=(h.ext hx).less (cs:=[]) Qs;refine⟨h.some,_,h.now,λb hb=>⟨Ya W.now,λwx hxw hcx=>z7m hcx,λ_=>h.some,_,_,_,λ_=>h.IF,_,λ_=>QK,JG W.IF,λg=>KA h ?_,λ_=>h.some,_,_,_,λ_=>h.IJ,λ_=>h.some,_,_,_,λ_=>h.IE,Kj W.IE,λ_=>zhd h.rd.g lg,PI ?_⟩⟩
  ·simp only[A',Qu] at g;omega
  ·simp only[A',Qu,Is,It,Xj,T6];constructor
   ·rintro⟨⟨⟨⟨e1,e2⟩,e3⟩,e4⟩,e5⟩;exact⟨e1.1,e1.2,Qo,Qo,Qo,e5,e3⟩
   ·intro q;have:=q.t;have:=q.c1;have:=q.c2;exact⟨⟨⟨⟨⟨q.n1,q.n2⟩,Qo⟩,q.ups⟩,Qo⟩,q.tree⟩
def zdq(h:XV bs w W m)(lc:W.IF.length<=maxLen)(lg:W.IE.length<=maxLen)(hf:∀i:Int,0<=i->i<(W.IE.length:Int)->zpm (gi W.IE i)) :
  PX bs Pq #[.agg (Qc W m).toArray] w (.bool (Qr W)):=by
 refine Lk λwr0 sJ=>zc0 _ _ _ _ _ _ _ _ _ _ (R:=λv w'=>v=.bool (Qr W)/\Q0 [] wr0 w') ?_
 have h:=(h.ext sJ).less (cs:=[]) Qs;intro b wb hxb hb WO _ b1 bY
 have hP:∀{bs:List Nat} {w1:Wo},Q0 [] wb w1->(∀x∈bs,wb.heap.size<=x)->Pn bs w1 (some ⟨b,0,none⟩) W m:=λ{bs w1} hx hbs=>by
  have hbn:b∉bs:=λhm=>by
   have:=hbs b hm;have:=V3 WO;omega
  have hrd:XV bs w1 W m:=((h.ext hxb).wide (cs:=bs) λx hm=>.inr (hbs x hm)).ext hx.of_nil;exact⟨VE (QP WO hx Qs) hbn (k0:=0) λj v hj=>by rw[Nat.zero_add,Nat.zero_add];exact hj,hrd⟩
 let Cn:=λ(k:Nat)=>match k with
  |0=>z0e W
  |1=>∀k:Int,0<=k->k<8->Kn W k
  |2=>∀t:Int,0<=t->t<12->zbo W t
  |3=>∀k c:Int,0<=k->k<8->0<=c->c<((gi W.IE k).IH.length:Int)->Ko W k c
  |_=>∀c:Int,0<=c->c<(W.IF.length:Int)->BH W c
 have all:XQ W->∀k:Nat,k<5->Cn k:=λq k hk=>by
  have:k=0\/k=1\/k=2\/k=3\/k=4:=Qo;rcases this with rfl|rfl|rfl|rfl|rfl
  ·exact⟨q.a.n1,q.a.n2,q.a.c1,q.a.c2,q.a.t,q.a.tree,q.a.ups⟩
  ·exact q.a.grp
  ·refine λt h0 h1=>⟨q.t t h0 h1,λhs=>?_⟩
   have hu:=B0 q.a (q.t t h0 h1) hs;obtain⟨u1,u2,_⟩:=Q2.1 hu.1;have:=q.a.gl;exact(q.s _ _ u1 Qo hu.2.1 (by rw[q.a.sl hu.1];exact hu.2.2)).f
  ·exact q.s
  ·exact q.c
 have back:(∀k:Nat,k<5->Cn k)->XQ W:=λq=>by
  have q0:z0e W:=q 0 Qd;have q1:∀k:Int,0<=k->k<8->Kn W k:=q 1 Qd;have q2:∀t:Int,0<=t->t<12->zbo W t:=q 2 Qd;exact⟨q0.wa q1,λt h0 h1=>(q2 t h0 h1).1,q 3 Qd,q 4 Qd⟩
 have cond:∀k:Nat,k<5->(∀j:Nat,j<k->Cn j)->∀{w1:Wo},Q0 [] wb w1->∃F:FuncId,(#[.func (.func XM) #[] #[],.func (.func Xn) #[] #[],.func (.func XN) #[] #[],.func (.func Xf) #[] #[],.func (.func J1) #[] #[]]:Array Va)[k]? = some (.func (.func F) #[] #[])/\(∀(w:Wo) (x:Va),(zm8 (.func (.func F) #[] #[]) [x]).run Tryz.prog w=.ok (.enter F #[x]) w)/\∃rv:Bool,(rv=true↔Cn k)/\PX [b1] F #[.pointer (some ⟨b,0,none⟩)] w1 (.bool rv):=λk hk hj {w1} hx=>by
  have hp:=hP (bs:=[b1]) hx (by simpa using bY);have:k=0\/k=1\/k=2\/k=3\/k=4:=Qo;rcases this with rfl|rfl|rfl|rfl|rfl
  ·exact⟨_,rfl,λ_ _=>rfl,_,Qm,zdz hp lc lg⟩
  ·have q0:z0e W:=hj 0 Qd;exact⟨_,rfl,λ_ _=>rfl,_,Qm,q7 hp q0 hf⟩
  ·have q0:z0e W:=hj 0 Qd;have q1:∀k:Int,0<=k->k<8->Kn W k:=hj 1 Qd;exact⟨_,rfl,λ_ _=>rfl,_,Qm,zd0 hp (q0.wa q1) lg⟩
  ·have q0:z0e W:=hj 0 Qd;have q1:∀k:Int,0<=k->k<8->Kn W k:=hj 1 Qd;exact⟨_,rfl,λ_ _=>rfl,_,Qm,Nw hp (q0.wa q1) hf⟩
  ·have q0:z0e W:=hj 0 Qd;have q1:∀k:Int,0<=k->k<8->Kn W k:=hj 1 Qd;have q2:∀t:Int,0<=t->t<12->zbo W t:=hj 2 Qd;have q3:∀k c:Int,0<=k->k<8->0<=c->c<((gi W.IE k).IH.length:Int)->Ko W k c:=hj 3 Qd;exact⟨_,rfl,λ_ _=>rfl,_,Qm,zhe hp (q0.wa q1) (λt h0 h1=>(q2 t h0 h1).1) q3⟩
 refine⟨λvs w1=>∃k:Nat,vs=[.bool true,I (k:Int)]/\k<=5/\Q0 [] wb w1/\∀j:Nat,j<k->Cn j,ZG 5 1,λwr hx _=>⟨0,rfl,Qo,hx,λj hj=>Ir hj (Nat.not_lt_zero j)⟩,?_⟩;rintro ok x w1 dE ⟨k,he,hk,hX,hI⟩;simp only[I4,I5,Value.bool.injEq,true_and,and_true] at he;obtain⟨rfl,rfl⟩:=he
 have fr:∀{w2:Wo},Q0 [b1] w1 w2->Q0 [] wb w2:=λ{w2} hx=>hX.fresh hx λy hm=>.inl (by
  have:y=b1:=by simpa using hm
  omega)
 refine⟨λIW=>?_,λRM wr hx=>⟨?_,hxb.trans (fr hx)⟩⟩
 ·have IW:=Ot IW;obtain⟨F,hF,_⟩:=cond k Qo hI hX;refine⟨.func F,#[],#[],⟨Qo,Qo,by rw[Ig];exact hF⟩,λR5 S9 V'=>?_⟩;obtain⟨F',hF',hcv,rv,hrv,hpu⟩:=cond k Qo hI (fr S9);rw[hF] at hF';simp only[I0,Value.func.injEq,Fn.func.injEq,and_self,and_true] at hF';subst hF';refine .inl ⟨F,#[.pointer (some ⟨b,0,none⟩)],?_,?_⟩
  ·exact hcv _ _
  ·refine(hpu R5 (Q0.refl _ _)).mono λe w3 ⟨he,Rl⟩=>⟨rv,he,Qi Rl V',λg R6 T'=>⟨?_,hxb.trans ((fr S9).trans Rl |>.fresh T' λy hm=>.inl (by
    have:y=b1:=by simpa using hm
    omega))⟩,λg=>⟨⟨Qo,Qo⟩,λRD T' _=>⟨⟨k+1,Qs,Qo,((fr S9).trans Rl).fresh T' λy hm=>.inl (by
    have:y=b1:=by simpa using hm
    omega),λj hj=>?_⟩,Zo (k:=k) rfl rfl Qo⟩⟩⟩
   ·have g:rv=false:=by simpa using g
    exact GB λq=>by
     rw[hrv.2 (all q k Qo)] at g;cases g
   ·by_cases gG:j<k
    ·exact hI j gG
    ·have:j=k:=Qo;subst this;exact hrv.1 (by simpa using g)
 ·have RM:=Ou RM;have:k=5:=Qo;subst this;exact zph (back hI)
end
def HN:zpl Tryz.prog Gv 5 Zi 40 (⟨false,0,0,0,0⟩:PP):=H3 Qk λ_=>rfl
def KK:Tryz.prog.underlying Zy=some (.slice Zi):=Qk
def Mh:zpl Tryz.prog Xc 9 QQ 72 (⟨0,0,0,0,0,0,0,0,0⟩:PS):=H3 Qk λ_=>rfl
def MU:Tryz.prog.underlying Z8=some (.slice QQ):=Qk
section
variable {W:Q7}{m:MW}{w w':Wo}
structure z3z (base:Nat) (w:Wo) (W:Q7) (m:MW):Prop where
 c:UD Gv 5 Zi base w m.cO m.cC W.IF
 t:UD Xc 9 QQ base w m.tO m.tC W.IJ
 g:∃ps:List (ZD×MG),ps.map (·.1)=W.IE/\(λk:Nat=>(gi ps (k:Int)).2)=m.ms/\Lw base w m.gO m.gC ps
def z3z.mono{base aP:Nat}(h:z3z base w W m)(hb:aP<=base):z3z aP w W m:=
 ⟨h.c.mono hb,h.t.mono hb,by
  obtain⟨ps,h1,h2,h3⟩:=h.g;exact⟨ps,h1,h2,h3.mono hb⟩⟩
end
def zlt{x bt n:Nat}(hm:x∈[bt])(h:n<=bt):n<=x:=by
 have:x=bt:=by simpa using hm
 omega
structure Sc (w0:Wo) (bs:List Nat) (w:Wo):Prop where
 ext:Q0 [] w0 w
 new:∀x∈bs,w0.heap.size<=x
def Sc.start(w:Wo):Sc w [] w:=⟨Q0.refl _ _,Qs⟩
def Sc.step{w0:Wo}{bs:List Nat}{w w':Wo}(h:Sc w0 bs w)(hx:Q0 bs w w'):Sc w0 bs w':=⟨h.ext.fresh hx λx hm=>.inl (h.new x hm),h.new⟩
def Sc.call{w0:Wo}{bs cs:List Nat}{w w':Wo}(h:Sc w0 bs w)(hx:Q0 cs w w')(hc:∀x∈cs,w0.heap.size<=x):Sc w0 bs w':=⟨h.ext.fresh hx λx hm=>.inl (hc x hm),h.new⟩
def Sc.R7{w0:Wo}{bs:List Nat}{w w':Wo}(h:Sc w0 bs w)(hx:Q0 [] w w'):Sc w0 bs w':=⟨h.ext.trans hx,h.new⟩
def Sc.add{w0:Wo}{bs:List Nat}{w:Wo}{b:Nat}(h:Sc w0 bs w)(hb:w.heap.size<=b):Sc w0 (bs++[b]) w:=⟨h.ext,λx hm=>by
 rcases Im.1 hm with hm|hm
 ·exact h.new x hm
 ·have:x=b:=by simpa using hm
  have:=h.ext.size;omega⟩
def Sc.sub{w0:Wo}{bs cs:List Nat}{w:Wo}(h:Sc w0 bs w)(hs:∀x∈cs,x∈bs):Sc w0 cs w:=⟨h.ext,λx hm=>h.new x (hs x hm)⟩
def Sc.put{w0:Wo}{bs:List Nat}{w w':Wo}{b:Nat}(h:Sc w0 bs w)(hx:Q0 bs w w')(hb:w.heap.size<=b):Sc w0 (bs++[b]) w':=⟨(h.step hx).ext,(h.add hb).new⟩
def Sc.AH4{w0:Wo}{bs:List Nat}{w w':Wo}{b b2:Nat}(h:Sc w0 bs w)(hx:Q0 bs w w')(hb:w.heap.size<=b)(cD:w.heap.size<=b2):Sc w0 (bs++[b]++[b2]) w':=⟨(h.step hx).ext,((h.add hb).add cD).new⟩
structure Ob {α:Type} (enc:α->List Va) (z:Nat) (ty:TypeId) (base:Nat) (bs:List Nat) (w:Wo) (o:OA) (cap:Nat) (l:List α):Prop where
 own:UD enc z ty base w o cap l
 nb:∀x∈QL o,x∉bs
section
variable {α:Type}{enc:α->List Va}{z:Nat}{ty:TypeId}{base:Nat}{bs cs:List Nat}{w w':Wo}{o:OA}{cap:Nat}{l:List α}{b:Nat}
def Ob.of(h:UD enc z ty base w o cap l)(hs:∀x∈bs,x<base):Ob enc z ty base bs w o cap l:=⟨h,λx hx hm=>by
 have:=(h.lt x hx).1;have:=hs x hm;omega⟩
def Ob.step(h:Ob enc z ty base bs w o cap l)(hx:Q0 bs w w'):Ob enc z ty base bs w' o cap l:=⟨h.own.ext hx h.nb,h.nb⟩
def Ob.R7(h:Ob enc z ty base bs w o cap l)(hx:Q0 [] w w'):Ob enc z ty base bs w' o cap l:=⟨h.own.WH hx,h.nb⟩
def Ob.call(h:Ob enc z ty base bs w o cap l)(hx:Q0 cs w w')(hd:∀x∈QL o,x∉cs):Ob enc z ty base bs w' o cap l:=⟨h.own.ext hx hd,h.nb⟩
def Ob.add(h:Ob enc z ty base bs w o cap l)(hb:w.heap.size<=b):Ob enc z ty base (bs++[b]) w o cap l:=⟨h.own,λx hx hm=>by
 rcases Im.1 hm with hm|hm
 ·exact h.nb x hx hm
 ·have:x=b:=by simpa using hm
  have:=(h.own.lt x hx).2;omega⟩
def Ob.put(h:Ob enc z ty base bs w o cap l)(hx:Q0 bs w w')(hb:w.heap.size<=b):Ob enc z ty base (bs++[b]) w' o cap l:=⟨(h.step hx).own,(h.add hb).nb⟩
def Ob.AH4{b2:Nat}(h:Ob enc z ty base bs w o cap l)(hx:Q0 bs w w')(hb:w.heap.size<=b)(cD:w.heap.size<=b2):Ob enc z ty base (bs++[b]++[b2]) w' o cap l:=⟨(h.step hx).own,((h.add hb).add cD).nb⟩
def Ob.sub(h:Ob enc z ty base bs w o cap l)(hs:∀x∈cs,x∈bs):Ob enc z ty base cs w o cap l:=⟨h.own,λx hx hm=>h.nb x hx (hs x hm)⟩
def Ob.mono{aP:Nat}(h:Ob enc z ty base bs w o cap l)(hb:aP<=base):Ob enc z ty aP bs w o cap l:=⟨h.own.mono hb,h.nb⟩
def Ob.rd[Inhabited α](h:Ob enc z ty base bs w o cap l)(hz:∀x,(enc x).length=z):Rd enc z bs w o l:=h.own.rd hz h.nb
def Ob.rd0[Inhabited α](h:Ob enc z ty base bs w o cap l)(hz:∀x,(enc x).length=z):Rd enc z [] w o l:=h.own.rd hz Qs
end
def Rd.scb{α:Type}[Inhabited α]{enc:α->List Va}{z:Nat}{w0:Wo}{bs:List Nat}{w:Wo}{o:OA}{l:List α}(h:Rd enc z [] w0 o l)(hs:Sc w0 bs w):Rd enc z bs w o l:=(h.wide (cs:=bs) λx hm=>.inr (hs.new x hm)).ext hs.ext.of_nil
def Ld{bs cs:List Nat}{w w':Wo}(hx:Q0 cs w w')(hs:∀b∈bs,b<w.heap.size)(hd:∀x∈cs,x∉bs):Q9 bs w w':=λx hm=>hx.block x (hs x hm) λgZ=>hd x gZ hm
def Ob.AG3{α:Type}[Inhabited α]{P:Program}{enc:α->List Va}{z:Nat}{ty t:TypeId}{bytes:Nat}{zero:α}(E:zpl P enc z ty bytes zero)(ht:P.underlying t=some (.slice ty)){base:Nat}{bs:List Nat}{w:Wo}{o:OA}{cap:Nat}{l:List α}(hO:Ob enc z ty base bs w o cap l)(hs:∀x∈bs,x<w.heap.size)(tE:base<=w.heap.size){x:α}{b:Nat}{t':TypeId}{fz:Nat×Nat}(hb:w.heap[b]? = some (.cells (enc x).toArray t' fz))(h1:Zk (enc x))(hl:l.length<=1048576)(hby:bytes<=1000)(tr:TypeId)(cs:Array Bool) :
  ∃o' qO w',(builtin .append #[t,t] tr cs #[.slice o l.length cap,.slice (some ⟨b,0,none⟩) 1 1]).run P w=.ok (.value (.slice o' (l++[x]).length qO)) w'/\Q9 bs w w'/\Ob enc z ty base bs w' o' qO (l++[x])/\Q0 (QL o) w w':=by
 have hbb:(2*(l.length+1))*bytes<=281474976710656:=IB (Nat.mul_le_mul (show 2*(l.length+1)<=2097154 by omega) hby) Qd;obtain⟨o2,c2,w2,We,nG,Rk,ho2⟩:=zzg E ht hO.own hb h1 hbb Qo tr cs tE;refine⟨o2,c2,w2,We,λy hm=>Rk.block y (hs y hm) λgZ=>hO.nb y gZ hm,⟨nG,λy hy hm=>?_⟩,Rk⟩;rcases ho2 with rfl|rfl
 ·exact hO.nb y hy hm
 ·have:y=w.heap.size:=by simpa[QL] using hy
  have:=hs y hm;omega
def Js(f:Nat->Int):Nat->Int
 |0=>0
 |k+1=>Js f k+f k
def VZ{f:Nat->Int}{B:Int}(h:∀j,0<=f j/\f j<=B):∀k:Nat,0<=Js f k/\Js f k<=(k:Int)*B
 |0=>by simp[Js]
 |k+1=>by
  have ih:=VZ h k;have:=h k;simp only[Js];rw[show ((k+1:Nat):Int)*B=(k:Int)*B+B by rw[show ((k+1:Nat):Int)=(k:Int)+1 by omega,Int.add_mul,Int.one_mul]];omega
def Xa(n:Int):0<=Qf n/\Qf n<=20:=by
 unfold Qf;split
 ·rename_i h;have:=Qu.1 h;omega
 ·omega
def zjc(W:Q7)(c:Int)(j:Nat):Int:=if (((Q8 W (j:Int)).R1==c)&&Zf W (j:Int))=true then Qf (Q8 W (j:Int)).nice else 0
def znx(W:Q7)(g c:Int)(j:Nat):Int:=if ((((Q8 W (j:Int)).state==1)&&((Q8 W (j:Int)).R1==c))&&O4 3 W.IE g (Q8 W (j:Int)).II)=true then Qf (Q8 W (j:Int)).nice else 0
def z4o{W:Q7}{g c:Int}{k:Nat}(h:((((Q8 W (k:Int)).state==1)&&((Q8 W (k:Int)).R1==c))&&O4 3 W.IE g (Q8 W (k:Int)).II)):znx W g c k=Qf (Q8 W (k:Int)).nice:=C' h
def z4n{W:Q7}{g c:Int}{k:Nat}(h:((((Q8 W (k:Int)).state==1)&&((Q8 W (k:Int)).R1==c))&&O4 3 W.IE g (Q8 W (k:Int)).II)=false):znx W g c k=0:=B' (by rw[h];decide)
def B1(W:Q7)(c:Int):Int:=Js (zjc W c) W.IJ.length
def zdo(W:Q7)(g c:Int):Int:=Js (znx W g c) W.IJ.length
def Ay(W:Q7)(c:Int)(j:Nat):0<=zjc W c j/\zjc W c j<=20:=by
 unfold zjc;split
 ·exact Xa _
 ·omega
def zdn(W:Q7)(g c:Int)(j:Nat):0<=znx W g c j/\znx W g c j<=20:=by
 unfold znx;split
 ·exact Xa _
 ·omega
def Xd(W:Q7)(c:Int):Bool:=YY c 0 ((W.IF.length:Int)-1)
def UF{W:Q7}{c:Int}(h:Xd W c):0<=c/\c<(W.IF.length:Int):=by have:=Qu.1 h;omega
def XQ.li{W:Q7}(wp:XQ W){t:Int}(t0:0<=t)(t1:t<(W.IJ.length:Int))(hs:(Q8 W t).state=1):Q6 W.IE (Q8 W t).II/\0<=(Q8 W t).R1/\(Q8 W t).R1<(W.IF.length:Int):=by
 have:=wp.a.t;exact B0 wp.a (wp.t t t0 Qo) hs
structure TU (W:Q7):Prop where
 a:WA W
 li:∀{t:Int},0<=t->t<(W.IJ.length:Int)->(Q8 W t).state=1->Q6 W.IE (Q8 W t).II/\0<=(Q8 W t).R1/\(Q8 W t).R1<(W.IF.length:Int)
structure VB (W:Q7):Prop where
 c:W.IF.length<=maxLen
 t:W.IJ.length<=maxLen
 g:W.IE.length<=maxLen
 f:∀i:Int,0<=i->i<(W.IE.length:Int)->zpm (gi W.IE i)
section
variable {W:Q7}{m:MW}{w:Wo}{bs:List Nat}{p:OA}
def TI{c:Int}(h:XV bs w W m)(wp:XQ W):PX bs XW #[.agg (Qc W m).toArray,I c] w (I (B1 W c)):=
 ze3 _ _ _ _ _ _ _ _ _ _ c λwr hx=>by
  have h:=(h.ext hx).less (cs:=[]) Qs;have jF:=wp.a.t;intro _ _;refine Pc W.IJ.length 0 rfl (λx k=>k<=W.IJ.length/\x=Js (zjc W c) k) ⟨Ic _,rfl⟩ λx k ⟨hk,Rk⟩=>⟨λIW=>?_,λRM=>?_⟩
  ·have IW:=Ot IW;have hr:=VZ (Ay W c) k;have hw:=Xa (Q8 W (k:Int)).nice;have eF:zjc W c k=if (((Q8 W (k:Int)).R1==c)&&Zf W (k:Int))=true then Qf (Q8 W (k:Int)).nice else 0:=rfl;refine⟨h.t.ix QT Qo IW,_,h.t.f Qo IW (j:=0) rfl,λ_=>h.t.ix QT Qo IW,_,λ_=>h.t.f Qo IW (j:=2) rfl,Zf W (k:Int),λ_=>Vy h wp.a Qo IW λhs=>wp.li Qo IW hs,λg2=>⟨h.t.ix QT Qo IW,_,h.t.f Qo IW (j:=3) rfl,Qf (Q8 W (k:Int)).nice,Yc,⟨Qo,Qo⟩,⟨Qo,Qo⟩,QN Qo ⟨Qo,?_⟩⟩,λg2=>⟨⟨Qo,Qo⟩,QN Qo ⟨Qo,?_⟩⟩⟩
   ·have g2:((((Q8 W (k:Int)).state==1)&&((Q8 W (k:Int)).R1==c))&&Zf W (k:Int)):=g2;simp only[A'] at g2;simp only[Js];rw[eF,C' (by rw[g2.1.2,g2.2];rfl),Rk]
   ·have g2:((((Q8 W (k:Int)).state==1)&&((Q8 W (k:Int)).R1==c))&&Zf W (k:Int))=false:=g2
    simp only[Js];rw[eF,B' (λhc=>by
     simp only[A'] at hc;have hl:=hc.2;unfold Zf at hl;simp only[A'] at hl;rw[hc.1,hc.2,hl.1] at g2
     cases g2),Rk];omega
  ·have RM:=Ou RM;have:k=W.IJ.length:=Qo;subst this;rw[Rk];rfl
def Lc{g c:Int}(h:XV bs w W m)(wp:TU W)(hl:VB W)(hu:Q6 W.IE g):PX bs Ub #[.agg (Qc W m).toArray,I g,I c] w (I (zdo W g c)):=
 NY _ _ _ _ _ _ _ _ _ _ g c λwr hx=>by
  have h:=(h.ext hx).less (cs:=[]) Qs;have jF:=wp.a.t;intro _ _;refine Pc W.IJ.length 0 rfl (λx k=>k<=W.IJ.length/\x=Js (znx W g c) k) ⟨Ic _,rfl⟩ λx k ⟨hk,Rk⟩=>⟨λIW=>?_,λRM=>?_⟩
  ·have IW:=Ot IW;have hr:=VZ (zdn W g c) k;have hw:=Xa (Q8 W (k:Int)).nice
   have hun:(((Q8 W (k:Int)).state==1)&&((Q8 W (k:Int)).R1==c))->PG W.IE g (Q8 W (k:Int)).II=O4 3 W.IE g (Q8 W (k:Int)).II:=λq=>by
    simp only[A',Is] at q;unfold PG;rw[T6.2 wp.a.tree,hu,(wp.li Qo IW q.1).1];rfl
   have eF:znx W g c k=if ((((Q8 W (k:Int)).state==1)&&((Q8 W (k:Int)).R1==c))&&O4 3 W.IE g (Q8 W (k:Int)).II)=true then Qf (Q8 W (k:Int)).nice else 0:=rfl
   have e2:((((Q8 W (k:Int)).state==1)&&((Q8 W (k:Int)).R1==c))&&O4 3 W.IE g (Q8 W (k:Int)).II)=((((Q8 W (k:Int)).state==1)&&((Q8 W (k:Int)).R1==c))&&PG W.IE g (Q8 W (k:Int)).II):=by
    cases hq:(((Q8 W (k:Int)).state==1)&&((Q8 W (k:Int)).R1==c)) with
    |false=>rfl
    |true=>rw[hun hq]
   refine⟨h.t.ix QT Qo IW,_,_,_,_,_,_,_,_,_,h.t k Qo IW,λ_ _=>⟨PG W.IE g (Q8 W (k:Int)).II,λ_=>OM h.g hl.g,λg2=>⟨Qf (Q8 W (k:Int)).nice,Yc,⟨Qo,Qo⟩,⟨Qo,Qo⟩,QN Qo ⟨Qo,?_⟩⟩,λg2=>⟨⟨Qo,Qo⟩,QN Qo ⟨Qo,?_⟩⟩⟩⟩
   ·simp only[Js];rw[z4o (W:=W) (g:=g) (c:=c) (k:=k) (e2.trans g2),Rk]
   ·simp only[Js];rw[z4n (W:=W) (g:=g) (c:=c) (k:=k) (e2.trans g2),Rk];omega
  ·have RM:=Ou RM;have:k=W.IJ.length:=Qo;subst this;rw[Rk];rfl
def Pn.sc{w0 w1:Wo}(h:Pn [] w0 p W m)(s:Sc w0 bs w1):Pn bs w1 p W m:=(h.wide (cs:=bs) λx hm=>.inr (s.new x hm)).ext s.ext.of_nil
end
def QU(p:Nat->Bool)(v:Nat->Int):Nat->Int
 |0 => -1
 |k+1=>if (p k&&(decide (QU p v k<0)||decide (v k<v (QU p v k).toNat)))=true then (k:Int) else QU p v k
def Zg(p:Nat->Bool)(v:Nat->Int):∀k:Nat,(QU p v k = -1/\∀j,j<k->p j=false) \/
  (0<=QU p v k/\QU p v k<(k:Int)/\p (QU p v k).toNat/\(∀j,j<k->p j->v (QU p v k).toNat<=v j)/\∀j:Nat,(j:Int)<QU p v k->p j->v (QU p v k).toNat<v j)
 |0=>.inl ⟨rfl,λj hj=>Ir hj (Nat.not_lt_zero j)⟩
 |k+1=>by
  simp only[QU];split
  ·rename_i h;simp only[A',Iu,Ij] at h;refine .inr ⟨Qo,Qo,by simpa using h.1,λj hj hp=>?_,λj hj hp=>?_⟩
   ·rw[Ig]
    by_cases gG:j=k
    ·subst gG;exact I2 _
    ·rcases Zg p v k with ⟨_,h2⟩|⟨h1,_,_,h4,_⟩
     ·rw[h2 j Qo] at hp;cases hp
     ·have:=h4 j Qo hp;rcases h.2 with h5|h5 <;> omega
   ·rw[Ig];rcases Zg p v k with ⟨_,h2⟩|⟨h1,_,_,h4,_⟩
    ·rw[h2 j Qo] at hp;cases hp
    ·have:=h4 j Qo hp;rcases h.2 with h5|h5 <;> omega
  ·rename_i h;rcases Zg p v k with ⟨h1,h2⟩|⟨h1,h2,h3,h4,h5⟩
   ·refine .inl ⟨h1,λj hj=>?_⟩
    by_cases gG:j=k
    ·subst gG
     cases hp:p j with
     |false=>rfl
     |true=>
      exfalso;apply h
      rw[hp,h1];rfl
    ·exact h2 j Qo
   ·refine .inr ⟨h1,Qo,h3,λj hj hp=>?_,h5⟩
    by_cases gG:j=k
    ·subst gG;rcases Int.lt_or_le (v j) (v (QU p v j).toNat) with h6|h6
     ·exfalso;apply h
      rw[hp,Ih h6];simp
     ·exact h6
    ·exact h4 j Qo hp
def zqo{p:Nat->Bool}{v:Nat->Int}{n k:Nat}(hk:k<n)(hp:p k)(h0:0<=QU p v n)(hv:v k=v (QU p v n).toNat)(hb:∀j,j<k->p j->v j≠v (QU p v n).toNat):QU p v n=(k:Int):=by
 rcases Zg p v n with ⟨h1,_⟩|⟨_,h2,h3,h4,h5⟩
 ·omega
 ·by_cases IW:(k:Int)<QU p v n
  ·have:=h5 k IW hp;omega
  ·by_cases hgt:QU p v n<(k:Int)
   ·exact Ir rfl (hb _ Qo h3)
   ·omega
def Ew(v:Nat->Int)(l:List Nat):Int:=l.foldl (λ(m:Int) x=>if (decide (m<0)||decide (v x<v m.toNat))=true then (x:Int) else m) (-1)
def B3(v:Nat->Int)(l:List Nat)(x:Nat):Ew v (l++[x])=if (decide (Ew v l<0)||decide (v x<v (Ew v l).toNat))=true then (x:Int) else Ew v l:=by
 unfold Ew;rw[List.foldl_append];rfl
def Hi(p:Nat->Bool)(v:Nat->Int):∀n:Nat,Ew v ((List.range n).filter p)=QU p v n
 |0=>rfl
 |n+1=>by
  rw[List.range_succ,List.filter_append];simp only[QU]
  cases hp:p n with
  |false=>simp[hp,Hi p v n]
  |true=>
   have:[n].filter p=[n]:=by simp[hp]
   rw[this,B3,Hi p v n,Bool.true_and]
def zsw(v:Nat->Int):∀l:List Nat,l≠[]->0<=Ew v l:=by
 have key:∀(l:List Nat) (m:Int),0<=m->0<=l.foldl (λ(m:Int) x=>if (decide (m<0)||decide (v x<v m.toNat))=true then (x:Int) else m) m:=λl=>by
  induction l with
  |nil=>exact λm h=>h
  |cons x l ih=>
   intro m h;rw[List.foldl_cons];refine ih _ ?_
   split <;> omega
 intro l hl
 cases l with
 |nil=>exact Ir rfl hl
 |cons x l=>
  unfold Ew;rw[List.foldl_cons];refine key l _ ?_;rw[C' Qs];omega
def Z3(W:Q7)(g c:Int)(i:Nat):Bool:=if i<12 then Ug W g c i else Xb W g c (i-12)
def Z1(W:Q7)(c:Int)(i:Nat):Int:=if i<12 then (Q8 W (i:Int)).v else (Qa W ((i-12:Nat):Int) c).v
def QG(W:Q7)(g c:Int):Int:=QU (Z3 W g c) (Z1 W c) 20
def zsz:Nat->Q7->Int->Int->Int
 |0,_,_,_ => -1
 |f+1,W,g,c=>if QG W g c<0 then -1 else if QG W g c<12 then QG W g c else zsz f W (QG W g c-12) c
def PN(W:Q7)(g c:Int):Int:=zsz (4-dep 3 W.IE g).toNat W g c
def Qe(W:Q7)(c:Int):Int:=if (gi W.IF c).cur>=0/\(gi W.IF c).SX<50 then (gi W.IF c).cur else PN W 0 c
def Jn{W:Q7}{g c:Int}{i:Nat}(h:i<12):Z3 W g c i=Ug W g c i:=C' h
def J7{W:Q7}{g c:Int}{i:Nat}:Z3 W g c (12+i)=Xb W g c i:=by
 unfold Z3;rw[B' Qo,show 12+i-12=i by omega]
def Hh{W:Q7}{c:Int}{i:Nat}(h:i<12):Z1 W c i=(Q8 W (i:Int)).v:=C' h
def Hg{W:Q7}{c:Int}{i:Nat}:Z1 W c (12+i)=(Qa W (i:Int) c).v:=by
 unfold Z1;rw[B' Qo,show 12+i-12=i by omega]
def zsv(W:Q7)(g c:Int):Z3 W g c 12=false:=by
 rw[show (12:Nat)=12+0 from rfl,J7];rfl
def KT{W:Q7}{g c:Int}(ha:WA W)(hu:Q6 W.IE g)(h:12<=QG W g c):Q6 W.IE (QG W g c-12)/\QG W g c-12≠0/\dep 3 W.IE (QG W g c-12)=dep 3 W.IE g+1/\QG W g c<20:=by
 unfold QG at *;rcases Zg (Z3 W g c) (Z1 W c) 20 with ⟨h1,_⟩|⟨h1,h2,h3,_,_⟩
 ·omega
 ·have e:(QU (Z3 W g c) (Z1 W c) 20).toNat=12+((QU (Z3 W g c) (Z1 W c) 20).toNat-12):=Qo;rw[e,J7] at h3;unfold Xb at h3;simp only[A',Ij,Is] at h3;obtain⟨⟨k1,k2,k3⟩,_⟩:=h3;have ek:(((QU (Z3 W g c) (Z1 W c) 20).toNat-12:Nat):Int)=QU (Z3 W g c) (Z1 W c) 20-12:=Qo;rw[ek] at k2 k3;have bU:=ha.gl;have hk:Q6 W.IE (QU (Z3 W g c) (Z1 W c) 20-12):=Q2.2 ⟨Qo,Qo,k2⟩;have hz:QU (Z3 W g c) (Z1 W c) 20-12≠0:=Qo;obtain⟨_,_,_,d,e1,e2,_⟩:=Y0 ha.tree hk hz;rw[k3] at e2;exact⟨hk,hz,Qo,Qo⟩
def Kr{W:Q7}(ha:WA W){g:Int}(hu:Q6 W.IE g):0<=dep 3 W.IE g/\dep 3 W.IE g<=3:=by
 have hr:=Ol W.IE 3 g
 by_cases hz:g=0
 ·subst hz;rw[ZR];omega
 ·obtain⟨_,_,_,d,e1,_⟩:=Y0 ha.tree hu hz;omega
def HS{W:Q7}(ha:WA W){g c:Int}(hu:Q6 W.IE g):PN W g c=if QG W g c<0 then -1 else if QG W g c<12 then QG W g c else PN W (QG W g c-12) c:=by
 have hd:=Kr ha hu;have e:(4-dep 3 W.IE g).toNat=(3-dep 3 W.IE g).toNat+1:=Qo;show zsz (4-dep 3 W.IE g).toNat W g c=_;rw[e];simp only[zsz];split
 ·rfl
 ·split
  ·rfl
  ·obtain⟨_,_,hk,_⟩:=KT ha hu (c:=c) Qo;unfold PN;rw[hk,show (4-(dep 3 W.IE g+1))=3-dep 3 W.IE g by omega]
section
variable {W:Q7}{m:MW}{w:Wo}{bs:List Nat}{p:OA}
def QZ(W:Q7)(g c:Int)(k:Nat):Int:=if QU (Z3 W g c) (Z1 W c) k<0 then 0 else Z1 W c (QU (Z3 W g c) (Z1 W c) k).toNat
def Za(W:Q7)(g c:Int)(k:Nat):Bool:=decide (0<=QU (Z3 W g c) (Z1 W c) k)
def ziq{W:Q7}{g c:Int}{k:Nat}:(decide (QU (Z3 W g c) (Z1 W c) k<0)||decide (Z1 W c k<Z1 W c (QU (Z3 W g c) (Z1 W c) k).toNat))=(!Za W g c k||decide (Z1 W c k<QZ W g c k)):=by
 unfold Za QZ
 by_cases h:QU (Z3 W g c) (Z1 W c) k<0
 ·have h2:decide (0<=QU (Z3 W g c) (Z1 W c) k)=false:=decide_eq_false Qo;rw[C' h,Ih h,h2];rfl
 ·have h2:decide (0<=QU (Z3 W g c) (Z1 W c) k):=Ih Qo;rw[B' h,decide_eq_false h,h2];rfl
def Fo{W:Q7}{g c:Int}{k:Nat}(h:(Z3 W g c k&&(!Za W g c k||decide (Z1 W c k<QZ W g c k)))):QZ W g c (k+1)=Z1 W c k/\Za W g c (k+1):=by
 rw[<-ziq] at h
 have e:QU (Z3 W g c) (Z1 W c) (k+1)=(k:Int):=by
  simp only[QU];rw[C' h]
 unfold QZ Za;rw[e,B' Qo,Ig];exact⟨rfl,Ih Qo⟩
def Fm{W:Q7}{g c:Int}{k:Nat}(h:(Z3 W g c k&&(!Za W g c k||decide (Z1 W c k<QZ W g c k)))=false):QZ W g c (k+1)=QZ W g c k/\Za W g c (k+1)=Za W g c k:=by
 rw[<-ziq] at h
 have e:QU (Z3 W g c) (Z1 W c) (k+1)=QU (Z3 W g c) (Z1 W c) k:=by
  simp only[QU];rw[B' (by rw[h];decide)]
 unfold QZ Za;rw[e];exact⟨rfl,rfl⟩
def Hc{g c:Int}(h:XV bs w W m)(ha:WA W)(c0:0<=c)(c1:c<(W.IF.length:Int)):PX bs Vt #[.agg (Qc W m).toArray,I g,I c] w (.tuple #[I (QZ W g c 20),.bool (Za W g c 20)]):=
 ze7 _ _ _ _ _ _ _ _ _ _ g c λwr hx=>by
  have h:=(h.ext hx).less (cs:=[]) Qs;have bU:=ha.gl;have jF:=ha.t;intro _ _;refine⟨λvs=>∃k:Nat,k<=12/\vs=[I (QZ W g c k),.bool (Za W g c k),I (k:Int)],Xt 12 2,⟨0,Qo,rfl⟩,?_⟩;rintro aJ some t ⟨k,hk,he⟩;simp only[I4,I5,Value.bool.injEq,true_and,and_true] at he;obtain⟨rfl,rfl,rfl⟩:=he;refine⟨λIW=>?_,λRM=>?_⟩
  ·have IW:=Ot IW;have lS:k<12:=Qo;refine⟨h.t.ix QT Qo IW,_,_,_,_,_,_,_,_,_,h.t k Qo IW,λ_ _=>⟨λq=>⟨⟨Qo,Qo⟩,⟨k+1,Qo,?_⟩,Zo (k:=k) rfl rfl lS⟩,λq=>⟨⟨Qo,Qo⟩,⟨k+1,Qo,?_⟩,Zo (k:=k) rfl rfl lS⟩⟩⟩
   ·have q':(Z3 W g c k&&(!Za W g c k||decide (Z1 W c k<QZ W g c k))):=by rw[Jn lS,Hh lS];exact q
    obtain⟨e1,e2⟩:=Fo q';rw[e1,e2,Hh lS];simp[Q8]
   ·have q':(Z3 W g c k&&(!Za W g c k||decide (Z1 W c k<QZ W g c k)))=false:=by rw[Jn lS,Hh lS];exact q
    obtain⟨e1,e2⟩:=Fm q';rw[e1,e2];simp
  ·have RM:=Ou RM;have:k=12:=Qo;subst this;have e12:QZ W g c 13=QZ W g c 12/\Za W g c 13=Za W g c 12:=Fm (by rw[zsv];rfl);refine⟨λvs=>∃k:Nat,1<=k/\k<=8/\vs=[I (QZ W g c (12+k)),.bool (Za W g c (12+k)),I (k:Int)],Xt 8 2,⟨1,Qo,Qo,by rw[show 12+1=13 from rfl,e12.1,e12.2];rfl⟩,?_⟩;rintro jI DH6 t1 ⟨k,hk1,hk,he⟩;simp only[I4,I5,Value.bool.injEq,true_and,and_true] at he;obtain⟨rfl,rfl,rfl⟩:=he;refine⟨λIW=>?_,λRM=>?_⟩
   ·have IW:=Ot IW;have cY:(0:Int)<=(k:Int):=Qo
    have IV:∀{x:Bool},(((gi W.IE (k:Int)).IV&&((gi W.IE (k:Int)).IG==g))&&x)->Q6 W.IE (k:Int)/\c<((gi W.IE (k:Int)).IH.length:Int):=λ{x} q=>by
     simp only[A'] at q;have hu:=zbi IW q.1.1;exact⟨hu,by rw[ha.sl hu];exact c1⟩
    have eA:Xb W g c k=(((gi W.IE (k:Int)).IV&&((gi W.IE (k:Int)).IG==g))&&(Qa W (k:Int) c).on):=by
     unfold Xb;rw[Ih hk1,Bool.true_and]
    have eP:Z3 W g c (12+k)=(((gi W.IE (k:Int)).IV&&((gi W.IE (k:Int)).IG==g))&&(Qa W (k:Int) c).on):=by rw[J7,eA]
    refine⟨h.g.ix cY IW,_,h.g.IV cY IW,λ_=>h.g.ix cY IW,_,λ_=>h.g.IG cY IW,(Qa W (k:Int) c).on,λq=>Vz h ha (IV (x:=true) (by rw[q];rfl)).1 c0 c1,λ_ _=>h.g.ix cY IW,_,_,_,λ_ _=>h.g.Rn cY IW,λ_ q=>(h.g.IH _ cY IW).ix YT c0 (IV q).2,(Qa W (k:Int) c).v,λ_ q=>zm2.f (h.g.IH _ cY IW) c0 (IV q).2 (j:=2) rfl,λq=>?_,λq=>⟨⟨Qo,Qo⟩,⟨k+1,Qo,Qo,?_⟩,Zo (k:=k) rfl rfl Qo⟩⟩
    ·have q2:=q;simp only[A'] at q2;have hu:=IV (x:=(Qa W (k:Int) c).on) (by simp only[A'];exact q2.1);have q':(Z3 W g c (12+k)&&(!Za W g c (12+k)||decide (Z1 W c (12+k)<QZ W g c (12+k)))):=by rw[eP,Hg];exact q
     obtain⟨e1,e2⟩:=Fo q';refine⟨h.g.ix cY IW,_,_,_,h.g.Rn cY IW,(h.g.IH _ cY IW).ix YT c0 hu.2,_,zm2.f (h.g.IH _ cY IW) c0 hu.2 (j:=2) rfl,⟨Qo,Qo⟩,⟨k+1,Qo,Qo,?_⟩,Zo (k:=k) rfl rfl Qo⟩;rw[show 12+(k+1)=12+k+1 from rfl,e1,e2,Hg];simp[Qa]
    ·have q':(Z3 W g c (12+k)&&(!Za W g c (12+k)||decide (Z1 W c (12+k)<QZ W g c (12+k))))=false:=by rw[eP,Hg];exact q
     obtain⟨e1,e2⟩:=Fm q';rw[show 12+(k+1)=12+k+1 from rfl,e1,e2];simp
   ·have RM:=Ou RM;have:k=8:=Qo;subst this;rfl
def zhp{g c:Int}(h:XV bs w W m)(ha:WA W)(hu:Q6 W.IE g)(c0:0<=c)(c1:c<(W.IF.length:Int)):PX bs Uw #[.agg (Qc W m).toArray,I g,I c] w (I (PN W g c)):=by
 have bU:=ha.gl;have jF:=ha.t
 have key:∀(n:Nat) (g:Int),Q6 W.IE g->(3-dep 3 W.IE g).toNat=n->∀{bs:List Nat} {w:Wo},XV bs w W m->PX bs Uw #[.agg (Qc W m).toArray,I g,I c] w (I (PN W g c)):=by
  intro n
  induction n using Nat.strongRecOn with
  |ind n ih=>
   intro g hu hn bs w h;refine zig _ _ _ _ _ _ _ _ _ _ g c λwr hx=>?_
   have h:=(h.ext hx).less (cs:=[]) Qs;have cE:=HS ha hu (c:=c);have hd:=Kr ha hu;intro _ _;refine⟨_,_,Hc h ha c0 c1,λq=>?_,λq=>?_⟩
   ·have q:¬0<=QU (Z3 W g c) (Z1 W c) 20:=by
     unfold Za at q
     simpa using q
    have q:¬0<=QG W g c:=q;rw[cE,C' Qo]
   have hF0:0<=QU (Z3 W g c) (Z1 W c) 20:=by
    unfold Za at q
    simpa using q
   have hF:0<=QG W g c:=hF0
   have B77:QZ W g c 20=Z1 W c (QG W g c).toNat:=by
    show (if QG W g c<0 then 0 else Z1 W c (QG W g c).toNat)=_;rw[B' (show ¬QG W g c<0 by omega)]
   have found:∀k:Nat,k<20->Z3 W g c k->Z1 W c k=QZ W g c 20->(∀j,j<k->Z3 W g c j->Z1 W c j≠QZ W g c 20)->QG W g c=(k:Int):=λk hk hp hv hb=>by
    rw[B77] at hv hb;exact zqo hk hp hF hv hb
   refine⟨λvs=>∃k:Nat,vs=[I (k:Int)]/\k<=12/\∀j,j<k->Z3 W g c j->Z1 W c j≠QZ W g c 20,Xt 12 0,⟨0,rfl,Qo,λj hj=>Ir hj (Nat.not_lt_zero j)⟩,?_⟩;rintro t ⟨k,he,hk,hI⟩;simp only[I4,I5,true_and,and_true] at he;subst he;refine⟨λIW=>?_,λRM=>?_⟩
   ·have IW:=Ot IW;have lS:k<12:=Qo;refine⟨h.t.ix QT Qo IW,_,_,_,_,_,_,_,_,_,h.t k Qo IW,λb1 bY=>⟨λq2=>?_,λq2=>⟨⟨Qo,Qo⟩,⟨k+1,Qs,Qo,λj hj hp hv=>?_⟩,Zo (k:=k) rfl rfl lS⟩⟩⟩
    ·have q2':(Ug W g c k&&((Q8 W (k:Int)).v==QZ W g c 20)):=q2;simp only[A',Is] at q2';have:=found k Qo (by rw[Jn lS];exact q2'.1) (by rw[Hh lS];exact q2'.2) hI;rw[cE,B' Qo,C' Qo,this]
    ·by_cases gG:j<k
     ·exact hI j gG hp hv
     ·have:j=k:=Qo;subst this;rw[Jn lS] at hp;rw[Hh lS] at hv;have q2':(Ug W g c j&&((Q8 W (j:Int)).v==QZ W g c 20))=false:=q2;rw[hp,hv] at q2';simp at q2'
   ·have RM:=Ou RM;have:k=12:=Qo;subst this
    refine⟨λvs=>∃k:Nat,vs=[I (k:Int)]/\1<=k/\k<=8/\∀j,j<12+k->Z3 W g c j->Z1 W c j≠QZ W g c 20,Xt 8 0,⟨1,rfl,Qo,Qo,λj hj hp=>by
     by_cases vC:j<12
     ·exact hI j vC hp
     ·have:j=12:=Qo;subst this;rw[zsv] at hp;cases hp⟩,?_⟩
    rintro t2 ⟨k,he,hk1,hk,hI2⟩;simp only[I4,I5,true_and,and_true] at he;subst he;refine⟨λIW=>?_,λaX=>?_⟩
    ·have IW:=Ot IW;have cY:(0:Int)<=(k:Int):=Qo
     have IV:∀{x:Bool},(((gi W.IE (k:Int)).IV&&((gi W.IE (k:Int)).IG==g))&&x)->Q6 W.IE (k:Int)/\c<((gi W.IE (k:Int)).IH.length:Int):=λ{x} q=>by
      simp only[A'] at q;have hu:=zbi IW q.1.1;exact⟨hu,by rw[ha.sl hu];exact c1⟩
     have eA:Xb W g c k=(((gi W.IE (k:Int)).IV&&((gi W.IE (k:Int)).IG==g))&&(Qa W (k:Int) c).on):=by
      unfold Xb;rw[Ih hk1,Bool.true_and]
     have eP:Z3 W g c (12+k)=(((gi W.IE (k:Int)).IV&&((gi W.IE (k:Int)).IG==g))&&(Qa W (k:Int) c).on):=by rw[J7,eA]
     refine⟨h.g.ix cY IW,_,h.g.IV cY IW,λ_=>h.g.ix cY IW,_,λ_=>h.g.IG cY IW,(Qa W (k:Int) c).on,λq=>Vz h ha (IV (x:=true) (by rw[q];rfl)).1 c0 c1,λ_=>h.g.ix cY IW,_,_,_,λ_=>h.g.Rn cY IW,λq=>(h.g.IH _ cY IW).ix YT c0 (IV q).2,(Qa W (k:Int) c).v,λq=>zm2.f (h.g.IH _ cY IW) c0 (IV q).2 (j:=2) rfl,λq=>?_,λq=>⟨⟨Qo,Qo⟩,⟨k+1,Qs,Qo,Qo,λj hj hp hv=>?_⟩,Zo (k:=k) rfl rfl Qo⟩⟩
     ·have q2:=q;simp only[A',Is] at q2;have hfk:=found (12+k) Qo (by rw[eP];simp only[A',Is];exact q2.1) (by rw[Hg];exact q2.2) hI2;have CH5:=KT ha hu (c:=c) Qo;have ek:QG W g c-12=(k:Int):=Qo;rw[ek] at CH5;have hdk:=Kr ha CH5.1;refine⟨_,ih _ (show (3-dep 3 W.IE (k:Int)).toNat<n by omega) (k:Int) CH5.1 rfl h,?_⟩;rw[cE,B' Qo,B' Qo,ek]
     ·by_cases gG:j<12+k
      ·exact hI2 j gG hp hv
      ·have:j=12+k:=Qo;subst this;rw[eP] at hp;rw[Hg] at hv;rw[hp,hv] at q;simp at q
    ·have aX:=Ou aX;have:k=8:=Qo;subst this;rcases Zg (Z3 W g c) (Z1 W c) 20 with ⟨h1,_⟩|⟨h1,h2,h3,_,_⟩
     ·have:QG W g c = -1:=h1;omega
     ·exact Ir B77.symm (hI2 (QG W g c).toNat (by unfold QG;omega) h3)
 exact key _ g hu rfl h
def zhq{c:Int}(h:XV bs w W m)(ha:WA W)(c0:0<=c)(c1:c<(W.IF.length:Int)):PX bs Mw #[.agg (Qc W m).toArray,I c] w (I (Qe W c)):=by
 refine zih _ _ _ _ _ _ _ _ _ _ c λwr hx=>?_
 have h:=(h.ext hx).less (cs:=[]) Qs;intro _ _;refine⟨h.c.ix Y1 c0 c1,_,h.c.f c0 c1 (j:=1) rfl,λ_=>h.c.ix Y1 c0 c1,_,λ_=>h.c.f c0 c1 (j:=2) rfl,λg=>⟨h.c.ix Y1 c0 c1,_,h.c.f c0 c1 (j:=1) rfl,?_⟩,λg=>⟨_,zhp h ha ha.root c0 c1,?_⟩⟩
 ·simp only[A',Ij] at g;unfold Qe;rw[C' g]
 ·unfold Qe;rw[B' (λhc=>by
   rw[Ih hc.1,Ih hc.2] at g;cases g)]
end
def J'(W:Q7)(t:Int)(x:PS):Q7:={ W with IJ:=W.IJ.set t.toNat x }
def RO(W:Q7)(c:Int)(x:PP):Q7:={ W with IF:=W.IF.set c.toNat x }
def R3(W:Q7)(g:Int)(x:ZD):Q7:={ W with IE:=W.IE.set g.toNat x }
def RC(W:Q7)(g c:Int)(s:KM):Q7:=R3 W g { gi W.IE g with IH:=(gi W.IE g).IH.set c.toNat s }
def RF(W:Q7)(g:Int)(b:Um):Q7:=R3 W g { gi W.IE g with IL:=b }
def Nq{α:Type}[Inhabited α](l:List α)(i:Int):gi l i=gi l ((i.toNat:Nat):Int):=by unfold gi;rw[Ig]
structure QH (gs gs':List ZD):Prop where
 len:gs'.length=gs.length
 u:∀i:Int,(gi gs' i).IV=(gi gs i).IV
 p:∀i:Int,(gi gs' i).IG=(gi gs i).IG
 n:∀i:Int,(gi gs' i).name=(gi gs i).name
def QH.refl(gs:List ZD):QH gs gs:=⟨rfl,λ_=>rfl,λ_=>rfl,λ_=>rfl⟩
def QH.trans{a b c:List ZD}(h:QH a b)(k:QH b c):QH a c:=⟨k.len.trans h.len,λi=>(k.u i).trans (h.u i),λi=>(k.p i).trans (h.p i),λi=>(k.n i).trans (h.n i)⟩
def QH.aO{gs gs':List ZD}(h:QH gs gs')(i:Int):Q6 gs' i=Q6 gs i:=by unfold Q6;rw[h.len,h.u]
def QH.dep{gs gs':List ZD}(h:QH gs gs'):∀(f:Nat) (i:Int),YtjinkcmkgnofjaaGreatDoor.dep f gs' i=YtjinkcmkgnofjaaGreatDoor.dep f gs i
 |0,i=>rfl
 |f+1,i=>by simp only[YtjinkcmkgnofjaaGreatDoor.dep];rw[h.p,h.dep f]
def QH.path{gs gs':List ZD}(h:QH gs gs'):∀(f:Nat) (i:Int),UZ f gs' i=UZ f gs i
 |0,i=>rfl
 |f+1,i=>by simp only[UZ];rw[h.p,h.path f]
def QH.tree{gs gs':List ZD}(h:QH gs gs')(t:Yr gs):Yr gs':=
 ⟨by rw[h.len];exact t.len,by rw[h.u];exact t.ru,by rw[h.p];exact t.rp,by rw[h.n];exact t.rn,λg a b c=>by rw[h.u] at c;rw[h.n];exact t.nm g a b c,λg a b c=>by rw[h.u] at c;rw[h.aO,h.p];exact t.par g a b c,
  λg a b c=>by rw[h.u] at c;rw[h.dep];exact t.dp g a b c,λg k a b c d e=>by rw[h.u] at d e;rw[h.p,h.p,h.n,h.n];exact t.uniq g k a b c d e⟩
def Ym{W:Q7}{g:Int}{x:ZD}(h0:0<=g)(h1:g<(W.IE.length:Int)){i:Int}(hi:0<=i):gi (R3 W g x).IE i=if g=i then x else gi W.IE i:=Qx _ _ h0 h1 hi
def XZ{W:Q7}{g:Int}{x:ZD}(h0:0<=g)(h1:g<(W.IE.length:Int))(u:x.IV=(gi W.IE g).IV)(p:x.IG=(gi W.IE g).IG)(n:x.name=(gi W.IE g).name):QH W.IE (R3 W g x).IE:=by
 have key:∀i:Int,gi (R3 W g x).IE i=if g=((i.toNat:Nat):Int) then x else gi W.IE i:=λi=>by
  rw[Nq,Ym h0 h1 Qo,<-Nq W.IE i]
 refine⟨E',λi=>?_,λi=>?_,λi=>?_⟩
 all_goals
  rw[key];split
  ·rename_i e;rw[Nq W.IE i,<-e];assumption
  ·rfl
def WA.set{W:Q7}(ha:WA W){g:Int}{x:ZD}(h0:0<=g)(h1:g<8)(u:x.IV=(gi W.IE g).IV)(p:x.IG=(gi W.IE g).IG)(n:x.name=(gi W.IE g).name)(hN:x.IV=false->zwf x)(hU:x.IV->zpn W g x):WA (R3 W g x):=by
 have hl:=ha.gl;refine⟨ha.n1,ha.n2,ha.c1,ha.c2,ha.t,(XZ h0 Qo u p n).tree ha.tree,ha.ups,λk k0 k1=>?_⟩;show Kn (R3 W g x) k;unfold Kn;rw[Ym h0 Qo k0]
 by_cases e:g=k
 ·subst e;rw[C' rfl];exact⟨hN,λhu=>by have:=hU hu;exact⟨this.w1,this.w2,this.m,this.m0,this.s,this.len,this.root,this.none,this.IL⟩⟩
 ·rw[B' e];have:=ha.grp k k0 k1;exact⟨this.1,λhu=>by have:=this.2 hu;exact⟨this.w1,this.w2,this.m,this.m0,this.s,this.len,this.root,this.none,this.IL⟩⟩
def WA.RC{W:Q7}(ha:WA W){g c:Int}{s:KM}(h0:0<=g)(h1:g<8):WA (RC W g c s):=by
 have hg:=ha.grp g h0 h1;refine ha.set h0 h1 rfl rfl rfl (λhu=>?_) λhu=>?_
 ·have:=hg.1 hu;exact⟨this.p,this.n,this.w,this.c,this.pe,this.ne,this.s,by rw[E'];exact this.l,this.b⟩
 ·have:=hg.2 hu;exact⟨this.w1,this.w2,this.m,this.m0,this.s,by rw[E'];exact this.len,this.root,this.none,this.IL⟩
def UV{W:Q7}{g c:Int}{s:KM}(h0:0<=g)(h1:g<(W.IE.length:Int))(c0:0<=c)(c1:c<((gi W.IE g).IH.length:Int)){i d:Int}(hi:0<=i)(hd:0<=d):Qa (RC W g c s) i d=if g=i/\c=d then s else Qa W i d:=by
 unfold Qa YtjinkcmkgnofjaaGreatDoor.RC;rw[Ym h0 h1 hi]
 by_cases e:g=i
 ·subst e;rw[C' rfl,Qx _ _ c0 c1 hd]
  by_cases e2:c=d
  ·rw[C' e2,C' ⟨rfl,e2⟩]
  ·rw[B' e2,B' (λh=>e2 h.2)]
 ·rw[B' e,B' (λh=>e h.1)]
def J5{W:Q7}{g c:Int}{s:KM}(h0:0<=g)(h1:g<(W.IE.length:Int)):QH W.IE (RC W g c s).IE:=XZ h0 h1 rfl rfl rfl
def HM{W:Q7}{g c:Int}{s:KM}(h0:0<=g)(h1:g<(W.IE.length:Int)){i d:Int}(hi:0<=i):Xu (RC W g c s) i d=Xu W i d:=by
 unfold Xu YtjinkcmkgnofjaaGreatDoor.RC;rw[Ym h0 h1 hi];split
 ·rename_i e;subst e;rfl
 ·rfl
def zir{W:Q7}{g c:Int}{s:KM}(h0:0<=g)(h1:g<(W.IE.length:Int)){i:Int}(hi:0<=i):(gi (RC W g c s).IE i).IL=(gi W.IE i).IL:=by
 unfold YtjinkcmkgnofjaaGreatDoor.RC;rw[Ym h0 h1 hi];split
 ·rename_i e;subst e;rfl
 ·rfl
def zjz{W:Q7}{g c:Int}{s:KM}(h0:0<=g)(h1:g<(W.IE.length:Int)){i:Int}(hi:0<=i):(gi (RC W g c s).IE i).IH.length=(gi W.IE i).IH.length:=by
 unfold YtjinkcmkgnofjaaGreatDoor.RC;rw[Ym h0 h1 hi];split
 ·rename_i e;subst e;simp
 ·rfl
structure SW (K:Int) (W:Q7):Prop where
 a:WA W
 t:∀t:Int,0<=t->t<12->(Q8 W t).state≠0->Q6 W.IE (Q8 W t).II/\0<=(Q8 W t).R1/\(Q8 W t).R1<(W.IF.length:Int)
 tv:∀t:Int,0<=t->t<12->0<=(Q8 W t).v/\(Q8 W t).v<=K
 s:∀k c:Int,Q6 W.IE k->0<=c->c<(W.IF.length:Int)->0<=(Qa W k c).IM/\(Qa W k c).IM<=K/\0<=(Qa W k c).v/\(Qa W k c).v<=K/\1<=(Qa W k c).w/\(Qa W k c).w<=20
 cu:∀c:Int,0<=c->c<(W.IF.length:Int)->-1<=(gi W.IF c).cur/\(gi W.IF c).cur<12
structure SF (F K:Int) (W:Q7):Prop where
 w:SW K W
 f:∀k c:Int,Q6 W.IE k->0<=c->c<(W.IF.length:Int)->(Qa W k c).IM<=F
def SW.mono{K K':Int}{W:Q7}(h:SW K W)(hk:K<=K'):SW K' W:=
 ⟨h.a,h.t,λt a b=>by have:=h.tv t a b;omega,λk c u a b=>by have:=h.s k c u a b;omega,h.cu⟩
def SW.sf{K:Int}{W:Q7}(h:SW K W):SF K K W:=⟨h,λk c u a b=>(h.s k c u a b).2.1⟩
def SF.mono{F K F' K':Int}{W:Q7}(h:SF F K W)(hf:F<=F')(hk:K<=K'):SF F' K' W:=⟨h.w.mono hk,λk c u a b=>by have:=h.f k c u a b;omega⟩
def SW.li{K:Int}{W:Q7}(h:SW K W){t:Int}(t0:0<=t)(t1:t<(W.IJ.length:Int))(hs:(Q8 W t).state=1):Q6 W.IE (Q8 W t).II/\0<=(Q8 W t).R1/\(Q8 W t).R1<(W.IF.length:Int):=by
 have hl:=h.a.t;exact h.t t t0 Qo Qo
end Go.Proofs.YtjinkcmkgnofjaaGreatDoor
