/- Part 8 of what the law FnEither needs. -/
import Derived.Test.YtjinkcmkgnofjaaGreatDoorFnEitherPg
import Derived.Laws.StructEq
set_option linter.all false
set_option maxRecDepth 100000
set_option maxHeartbeats 8000000
namespace Go.Proofs.YtjinkcmkgnofjaaGreatDoor
open Go.RowKit
def Dz (P:Program):List Field->Nat->List Va->List Va->Option Bool
 |[],_,[],[]=>some true
 |f :: r, k, x :: xs, y :: ys => bif decide (f.name ≠ "_") && Nat.beq f.offset k then
   (match Dz P r (k+1) xs ys with
   |some q=>(match P.underlying f.type,x,y with
    |some (.int _),.int a n,.int b m=>bif decide (a=b) then some ((n==m)&&q) else none
    |some .bool,.bool n,.bool m=>some ((n==m)&&q)
    |some .string,.string n,.string m=>some (Zy n m&&q)
    |_,_,_=>none)
   |none=>none) else none
 |_,_,_,_=>none
def Bb {P:Program} (d:Nat) (w:Wo) (xs ys:List Va):∀(fs:List Field) (k:Nat) (b:Bool),Dz P fs k (xs.drop k) (ys.drop k)=some b->(Op.eqFields (d+1) xs.toArray ys.toArray fs).run P w=.ok b w
 |[],k,b,h=>by
  have hb:some true=some b:=by
   cases ex:xs.drop k with
   |nil=>
    cases ey:ys.drop k with
    |nil=>rw[ex,ey] at h;exact h
    |cons y ys'=>rw[ex,ey] at h;cases h
   |cons x xs'=>rw[ex] at h;cases h
  simp only[I0] at hb
  subst hb
  simp[Op.eqFields]
 |f::r,k,b,h=>by
  have hx:∀{l:List Va} {x:Va} {q:List Va},l.drop k=x::q->l[k]? = some x/\l.drop (k+1)=q:=λ{l x q} e=>by
   have h1:l[k]? = (l.drop k)[0]? := by simp
   have h2:l.drop (k+1)=(l.drop k).drop 1:=Qs
   rw[h1,h2,e];simp
  cases exx:xs.drop k with
  |nil=>rw[exx] at h;cases h
  |cons x xs'=>
  cases eyy:ys.drop k with
  |nil=>rw[exx,eyy] at h;cases h
  |cons y ys'=>
   rw[exx,eyy] at h
   simp only[Dz] at h
   obtain⟨gx,dx⟩:=hx exx
   obtain⟨gy,dy⟩:=hx eyy
   cases hc : (decide (f.name ≠ "_") && Nat.beq f.offset k) with
   |false=>rw[hc] at h;cases h
   |true=>
    rw[hc] at h
    simp only[cond_true] at h
    simp only[A',Ij] at hc
    have hof:=Ib hc.2
    split at h
    ·rename_i q hq
     have ih:=Bb d w xs ys r (k+1) q (by rw[dx,dy];exact hq)
     have B18:∀{D:TypeDesc},P.underlying f.type=some D->Kr D=false->(part f.type xs.toArray f.offset).run P w=.ok x w/\(part f.type ys.toArray f.offset).run P w=.ok y w:=λ{D} hu hD=>by
      rw[hof]
      simp[part,VU hu,hD,gx,gy]
     split at h
     ·rename_i K a n b' m hu
      cases hab:decide (a=b') with
      |false=>rw[hab] at h;cases h
      |true=>
       have:=Ot hab
       subst this
       rw[hab] at h
       simp only[cond_true,I0] at h
       subst h
       obtain⟨p1,p2⟩:=B18 hu rfl
       simp only[Op.eqFields,C' hc.1,Sem.run_bind,p1,p2,Result.andThen_ok,run_equalIn_int w d f.type a K n m hu,Sem.run_ite]
       cases n==m <;> simp[ih]
     ·rename_i n m hu
      simp only[I0] at h
      subst h
      obtain⟨p1,p2⟩:=B18 hu rfl
      simp only[Op.eqFields,C' hc.1,Sem.run_bind,p1,p2,Result.andThen_ok,run_equalIn_bool' w d f.type n m hu,Sem.run_ite]
      cases n==m <;> simp[ih]
     ·rename_i n m hu
      simp only[I0] at h
      subst h
      obtain⟨p1,p2⟩:=B18 hu rfl
      simp only[Op.eqFields,C' hc.1,Sem.run_bind,p1,p2,Result.andThen_ok,run_equalIn_string w d f.type n m hu,Sem.run_ite]
      unfold Zy
      cases n.toList==m.toList <;> simp[ih]
     ·cases h
    ·cases h
structure zbi (P:Program) (t:TypeId):Prop where
 u:P.underlying t=some (.struct (P.fieldsOf t))
 s:P.stoodInHeld t=false
 g:P.eqGuardType P.depth t=false
def LY{P:Program}{t:TypeId}(F:zbi P t){xs ys:List Va}{b:Bool}(h:Dz P (P.fieldsOf t).toList 0 xs ys=some b)(w:Wo):(Op.equal t (.agg xs.toArray) (.agg ys.toArray)).run P w=.ok b w:=by
 have:=run_equalIn_struct (P:=P) w 9999 t xs.toArray ys.toArray F.u F.s;rw[Bb 9998 w xs ys _ 0 b (by simpa using h)] at this;exact this
def zfc{P:Program}{t:TypeId}(F:zbi P t){xs ys:List Va}{b:Bool}(h:Dz P (P.fieldsOf t).toList 0 xs ys=some b)(x y:Operand)(w:Wo):((do eqGuard .eql t x y (.agg xs.toArray) (.agg ys.toArray);binOp .eql t (.agg xs.toArray) (.agg ys.toArray)):Sem Va).run P w=.ok (.bool b) w:=by
 have:=LY F h w;simp only[Op.equal,Op.maxDepth] at this;simp only[Sem.run_bind,run_eqGuard_agg w .eql t x y _ _ F.g,Result.andThen_ok,run_eql_struct,this]
def EC{P:Program}{t:TypeId}(F:zbi P t){xs ys:List Va}{b:Bool}(h:Dz P (P.fieldsOf t).toList 0 xs ys=some b)(x y:Operand)(w:Wo):((do eqGuard .neq t x y (.agg xs.toArray) (.agg ys.toArray);binOp .neq t (.agg xs.toArray) (.agg ys.toArray)):Sem Va).run P w=.ok (.bool (!b)) w:=by
 have:=LY F h w;simp only[Op.equal,Op.maxDepth] at this;simp only[Sem.run_bind,run_eqGuard_agg w .neq t x y _ _ F.g,Result.andThen_ok,run_neq_struct,this]
def PI:zbi Tryz.prog QU:=⟨Qk,Qk,Qk⟩
def Us(p:Int)(n:ByteArray):Va:=.agg #[I p,.string n]
def zp4(p q:Int)(n m:ByteArray):Dz Tryz.prog (Tryz.prog.fieldsOf QU).toList 0 [I p,.string n] [I q,.string m]=some ((p==q)&&(Zy n m&&true)):=Qk
def zjo(p q:Int)(n m:ByteArray)(w:Wo):(Op.equal QU (Us p n) (Us q m)).run Tryz.prog w=.ok (decide (p=q/\n=m)) w:=by
 have:=LY PI (zp4 p q n m) w
 have e:((p==q)&&(Zy n m&&true))=decide (p=q/\n=m):=by
  rw[Bd,Bool.and_true]
  by_cases h1:p=q <;> by_cases h2:n=m <;> simp[h1,h2]
 rw[e] at this;exact this
def zox(p:Int)(n:ByteArray)(w:Wo):∀(es:List MapEntry) (i:Nat),(∀e∈es,∃q m v,e.key=Us q m/\e.val=I v)->
  (∃(j:Nat) (v:Int),(Instr.findAsking QU (Us p n) es i).run Tryz.prog w=.ok (some (j,I v)) w/\∃e∈es,e.key=Us p n) \/
  ((Instr.findAsking QU (Us p n) es i).run Tryz.prog w=.ok none w/\∀e∈es,e.key≠Us p n)
 |[],i,_=>.inr ⟨by simp[Instr.findAsking],λe he=>by cases he⟩
 |e::r,i,h=>by
  obtain⟨q,m,v,hk,hv⟩:=h e (I9 ..)
  by_cases hq:p=q/\n=m
  ·refine .inl ⟨i,v,?_,e,I9 ..,by rw[hk,hq.1,hq.2]⟩;simp only[Instr.findAsking,hk,Sem.run_bind,zjo,Ih hq,Result.andThen_ok,if_true,Sem.run_pure,hv]
  ·have dH:(Instr.findAsking QU (Us p n) (e::r) i).run Tryz.prog w=(Instr.findAsking QU (Us p n) r (i+1)).run Tryz.prog w:=by
    simp only[Instr.findAsking,hk,Sem.run_bind,zjo,decide_eq_false hq,Result.andThen_ok,Bool.false_eq_true,if_false]
   have eO:e.key≠Us p n:=λe'=>by
    rw[hk] at e';simp only[Us,Value.agg.injEq,List.toArray_inj,Array.mk.injEq,I4,I5,true_and,Value.string.injEq,and_true] at e';exact hq ⟨e'.1.symm,e'.2.symm⟩
   rcases zox p n w r (i+1) (λx hx=>h x (I1 _ hx)) with ⟨j,v',h1,x,hx,h2⟩|⟨h1,h2⟩
   ·exact .inl ⟨j,v',by rw[dH];exact h1,x,I1 _ hx,h2⟩
   ·exact .inr ⟨by rw[dH];exact h1,λx hx=>by
     rcases Ii.1 hx with rfl|hx
     ·exact eO
     ·exact h2 x hx⟩
def At(p:Int)(n:ByteArray)(w:Wo)(es:List MapEntry)(h:∀e∈es,∃q m v,e.key=Us q m/\e.val=I v) :
  (∃(j:Nat) (v:Int),(Instr.findKey QU (Us p n) es).run Tryz.prog w=.ok (some (j,I v)) w/\∃e∈es,e.key=Us p n) \/
  ((Instr.findKey QU (Us p n) es).run Tryz.prog w=.ok none w/\∀e∈es,e.key≠Us p n):=by
 cases es with
 |nil=>exact .inr ⟨by simp[Instr.findKey,run_underlying PI.u,Instr.findNow],λe he=>by cases he⟩
 |cons e r=>
  have hs:(Instr.findKey QU (Us p n) (e::r)).run Tryz.prog w=(Instr.findAsking QU (Us p n) (e::r) 0).run Tryz.prog w:=by
   simp[Instr.findKey,run_underlying PI.u,Instr.findNow,Instr.sameNow]
  rw[hs];exact zox p n w (e::r) 0 h
def zc4:∃a b:Field,(Tryz.prog.fieldsOf QU).toList=[a,b]/\a.type=Qc/\a.offset=0/\b.type=Ze/\b.offset=1:=⟨(Tryz.prog.fieldsOf QU)[0]!,(Tryz.prog.fieldsOf QU)[1]!,Qk,Qk,Qk,Qk,Qk⟩
def LX (em:Bool) (p:Int) (n:ByteArray) (w:Wo):(Instr.checkKey em 10000 QU (Us p n)).run Tryz.prog w=.ok () w:=by
 obtain⟨a,b,hl,a1,a2,b1,b2⟩:=zc4
 have p1:(part Qc #[.int .i64 p,.string n] 0).run Tryz.prog w=.ok (.int .i64 p) w:=by simp[part,VU z3e,Kr]
 have p2:(part Ze #[.int .i64 p,.string n] 1).run Tryz.prog w=.ok (.string n) w:=by simp[part,VU zfs,Kr]
 have c1:∀d:Nat,(Instr.checkKey em (d+1) Qc (.int .i64 p)).run Tryz.prog w=.ok () w:=λd=>by simp[Instr.checkKey,run_underlying z3e]
 have c2:∀d:Nat,(Instr.checkKey em (d+1) Ze (.string n)).run Tryz.prog w=.ok () w:=λd=>by simp[Instr.checkKey,run_underlying zfs]
 have key:∀d:Nat,(Instr.checkKey em (d+1+1) QU (Us p n)).run Tryz.prog w=.ok () w:=λd=>by
  rw[Instr.checkKey]
  simp only[Us,Sem.run_bind,run_underlying PI.u,Result.andThen_ok]
  rw[<-Array.forIn_toList,hl]
  by_cases ha : a.name ≠ "_" <;> by_cases hb : b.name ≠ "_" <;> simp [ha, hb, a1, a2, b1, b2, p1, p2, c1, c2]
 exact key 9998
def Ab:Tryz.prog.underlying ZR=some (.map QU Qc):=Qk
def z6m(w:Wo):(zeroValue Qc).run Tryz.prog w=.ok (I 0) w:=by
 have h:(match Tryz.prog.info? Qc with|some i=>i.zero|none=>none)=some (I 0):=Qk
 cases hi:Tryz.prog.info? Qc with
 |none=>rw[hi] at h;cases h
 |some i=>
  rw[hi] at h;simp only at h;simp[zeroValue,JR hi,h]
def EL(w:Wo)(b:Nat)(es:Array MapEntry):Prop:=(∃c,w.heap[b]? = some (.map es c))/\∀e∈es.toList,∃q m v,e.key=Us q m/\e.val=I v
def zzc{w:Wo}{b:Nat}{es:Array MapEntry}(h:EL w b es)(p:Int)(n:ByteArray) :
  ∃(v:Int) (ok:Bool),(Instr.lookup ZR (.map (some b)) (Us p n) true).run Tryz.prog w=.ok (.tuple #[I v,.bool ok]) w/\(ok=true↔∃e∈es.toList,e.key=Us p n):=by
 obtain⟨⟨c,hc⟩,hes⟩:=h;have hg:(getObj b).run Tryz.prog w=.ok (.map es c) w:=by simp[getObj,Sem.run,hc]
 rcases At p n w es.toList hes with ⟨j,v,h1,h2⟩|⟨h1,h2⟩
 ·exact⟨v,true,by simp[Instr.lookup,run_underlying Ab,hg,LX,h1],by simpa using h2⟩
 ·exact⟨0,false,by simp[Instr.lookup,run_underlying Ab,hg,LX,h1,z6m],⟨λh=>(by cases h),λ⟨e,he,hk⟩=>Ir hk (h2 e he)⟩⟩
def z2d{w:Wo}{b:Nat}{es:Array MapEntry}(h:EL w b es){p:Int}{n:ByteArray}(rF:∀e∈es.toList,e.key≠Us p n)(v:Int) :
  ∃w' c,((do Instr.mapUpdate ZR (.map (some b)) (Us p n) (I v);pure undef):Sem Va).run Tryz.prog w=.ok undef w'/\Q0 [b] w w'/\EL w' b (es.push { key:=Us p n,val:=I v,born:=c }):=by
 obtain⟨⟨c,hc⟩,hes⟩:=h;have hg:(getObj b).run Tryz.prog w=.ok (.map es c) w:=by simp[getObj,Sem.run,hc]
 have hfk:(Instr.findKey QU (Us p n) es.toList).run Tryz.prog w=.ok none w:=by
  rcases At p n w es.toList hes with ⟨j,v,_,e,he,hk⟩|⟨h1,_⟩
  ·exact Ir hk (rF e he)
  ·exact h1
 have hs:(setObj b (.map (es.push { key:=Us p n,val:=I v,born:=c }) (c+1))).run Tryz.prog w=.ok () { w with heap:=w.heap.setIfInBounds b (.map (es.push { key:=Us p n,val:=I v,born:=c }) (c+1)) }:=by
  simp[setObj,Sem.run,hc]
 have IV:=UX hc;refine⟨{ w with heap:=w.heap.setIfInBounds b (.map (es.push { key:=Us p n,val:=I v,born:=c }) (c+1)) },c,by simp[Instr.mapUpdate,run_underlying Ab,hg,LX,hfk,hs],⟨rfl,rfl,rfl,Qs,λk _ hk=>?_⟩,⟨c+1,by simp[IV]⟩,λe he=>?_⟩
 ·have:b≠k:=λe=>hk (by simp[e])
  show (w.heap.setIfInBounds b _)[k]? = _;rw[Array.getElem?_setIfInBounds_ne this]
 ·rw[Array.toList_push,Im] at he;rcases he with he|he
  ·exact hes e he
  ·rw[IA] at he;subst he;exact⟨p,n,v,rfl,rfl⟩
def EL.ext{w w':Wo}{b:Nat}{es:Array MapEntry}{bs:List Nat}(h:EL w b es)(hx:Q0 bs w w')(hb:b∉bs):EL w' b es:=by
 obtain⟨⟨c,hc⟩,hes⟩:=h;exact⟨⟨c,QR hc hx hb⟩,hes⟩
def zc1(p:OA):List Va:=[.pointer p]
def M4:zph Tryz.prog zc1 1 Yv 8 none:=GX Qk λ_=>rfl
def zvw:Tryz.prog.underlying Kd=some (.slice Yv):=Qk
def VA(w:Wo)(b:Nat)(g:Int)(n:ByteArray)(up:OA):Prop:=w.heap[b]? = some (.cells ([I g,.string n,.pointer up]:List Va).toArray Bi (0,0))
def VA.ext{w w':Wo}{b:Nat}{g:Int}{n:ByteArray}{up:OA}{bs:List Nat}(h:VA w b g n up)(hx:Q0 bs w w')(hb:b∉bs):VA w' b g n up:=QR h hx hb
def VA.cells{w:Wo}{b:Nat}{g:Int}{n:ByteArray}{up:OA}(h:VA w b g n up){bs:List Nat}(hb:b∉bs):Q1 bs w (some ⟨b,0,none⟩) 0 [I g,.string n,.pointer up]:=
 VC h hb λj v hj=>by rw[Nat.zero_add,Nat.zero_add];exact hj
def zrq(gs:List Zb)(nb:Int->Nat)(x:Int):OA:=if x=0 then none else some ⟨nb (gi gs x).IG,0,none⟩
structure Ns (bs:List Nat) (w:Wo) (gs:List Zb) (nb:Int->Nat):Prop where
 node:∀x:Int,Q6 gs x->Q1 bs w (some ⟨nb x,0,none⟩) 0 [I x,.string (gi gs x).name,.pointer (zrq gs nb x)]
 par:∀x:Int,x≠0->Q6 gs x->Q6 gs (gi gs x).IG=true
def Ns.ext{bs:List Nat}{w w':Wo}{gs:List Zb}{nb:Int->Nat}(h:Ns bs w gs nb)(hx:Q0 bs w w'):Ns bs w' gs nb:=⟨λx hu=>(h.node x hu).ext hx,h.par⟩
def Ns.less{bs cs:List Nat}{w:Wo}{gs:List Zb}{nb:Int->Nat}(h:Ns bs w gs nb)(hs:∀x∈cs,x∈bs):Ns cs w gs nb:=⟨λx hu=>(h.node x hu).less hs,h.par⟩
def zef(gs:List Zb)(f:Nat)(x:Int)(s:Int):Int:=if dep f gs x<0 then -1 else s+dep f gs x
def z1l{gs:List Zb}{nb:Int->Nat}{w:Wo}{bs:List Nat}(h:Ns bs w gs nb){x:Int}(hu:Q6 gs x):PX bs VJ #[.pointer (some ⟨nb x,0,none⟩)] w (I (zef gs 3 x 0)):=
 B3 (some ⟨nb x,0,none⟩) λwr hx=>by
  have h:=(h.ext hx).less (cs:=[]) Qs;refine⟨λvs=>(∃(y:Int) (s:Nat),Q6 gs y/\s<=4/\vs=[.pointer (some ⟨nb y,0,none⟩),I (s:Int)]/\(s<=3->zef gs (3-s) y s=zef gs 3 x 0)/\(s=4->zef gs 3 x 0 = -1))\/∃s:Nat,s<=4/\vs=[.pointer none,I (s:Int)]/\zef gs 3 x 0 = -1,λvs=>(5-Y4 1 vs).toNat,.inl ⟨x,0,hu,Qo,rfl,λ_=>rfl,λh=>by omega⟩,?_⟩;rintro n1 st (⟨y,s,hy,hs,he,h1,h2⟩|⟨s,hs,he,h1⟩)
  ·simp only[I4,I5,Value.pointer.injEq,true_and,and_true] at he;obtain⟨rfl,rfl⟩:=he;refine⟨λhc=>?_,λhc=>?_⟩
   ·have jS:s<=3:=by
     simp only[Option.isNone_some,Bool.not_false,Bool.true_and,Ij] at hc;omega
    have hn:=h.node y hy;refine⟨rfl,y,hn.get 0 _ rfl,λhz=>?_,λhz=>?_⟩
    ·have hz:y=0:=by simpa using hz
     rw[<-h1 jS];subst hz;unfold zef;rw[ZS,B' Qo,Int.add_zero]
    ·have hz:y≠0:=by simpa using hz
     have hm:zrq gs nb y=some ⟨nb (gi gs y).IG,0,none⟩:=by unfold zrq;rw[B' hz]
     refine⟨⟨Qo,Qo⟩,rfl,_,by have:=hn.get 2 _ rfl;exact this,.inl ⟨(gi gs y).IG,s+1,h.par y hz hy,Qo,by rw[hm];simp,λhs'=>?_,λhs'=>?_⟩,?_⟩
     ·rw[<-h1 jS];have e:3-s=(3-(s+1))+1:=Qo;rw[e];unfold zef;simp only[dep,B' hz]
      by_cases hd:dep (3-(s+1)) gs (gi gs y).IG<0
      ·rw[C' hd,C' hd,C' Qo]
      ·rw[B' hd,B' hd,B' Qo];omega
     ·rw[<-h1 jS];have e:3-s=0:=Qo;rw[e];unfold zef;simp only[dep,B' hz];rfl
     ·show (5-((s:Int)+1)).toNat<(5-(s:Int)).toNat;omega
   ·have dX:s=4:=by
     simp only[Option.isNone_some,Bool.not_false,Bool.true_and,decide_eq_false_iff_not] at hc;omega
    rw[h2 dX]
  ·simp only[I4,I5,Value.pointer.injEq,true_and,and_true] at he;obtain⟨rfl,rfl⟩:=he;refine⟨λhc=>by simp at hc,λ_=>by rw[h1]⟩
section
variable {gs:List Zb}{ms:Nat->MG}{o:OA}{c:Nat}{w:Wo}{bs:List Nat}
def KQ{g:Int}(h:G6 bs w o gs ms)(hl:gs.length<=maxLen):PX bs U1 #[.slice o gs.length c,I g] w (.bool (Q6 gs g)):=
 NK o gs.length c g λwr hx=>by
  have h:=(h.ext hx).less (cs:=[]) Qs;have:=Xu
  have e:YT g 0 ((gs.length:Int)-1)=(decide (g>=0)&&decide (g<(gs.length:Int))):=by
   unfold YT
   congr 1
   exact decide_eq_decide.2 Qo
  refine⟨⟨Qo,Qo⟩,_,QK,λq=>?_,(gi gs g).IW,λq=>?_,by rw[e];rfl⟩
  ·have q:=Qv.1 q;exact h.ix Qo Qo
  ·have q:=Qv.1 q;exact h.IW Qo Qo
def z1m(h:G6 [] w o gs ms)(hl:gs.length<=maxLen) :
  Cz Ko #[.slice o gs.length c] w λe w'=>∃(o':OA) (L C:Nat) (ok:Bool),e=.returned (.tuple #[.slice o' L C,.bool ok])/\ok=Kc gs/\Q0 [] w w'/\
   (ok=false->L=0)/\(ok->L=8/\∃(pl:List (OA)) (nb:Int->Nat),pl.length=8/\Rd zc1 1 [] w' o' pl/\(∀g:Int,0<=g->g<8->gi pl g=if (gi gs g).IW then some ⟨nb g,0,none⟩ else none)/\Ns [] w' gs nb):=by
 refine(zk3 o gs.length c (R:=λv w'=>∃(o':OA) (L C:Nat) (ok:Bool),v=.tuple #[.slice o' L C,.bool ok]/\ok=Kc gs/\Q0 [] w w'/\
   (ok=false->L=0)/\(ok->L=8/\∃(pl:List (OA)) (nb:Int->Nat),pl.length=8/\Rd zc1 1 [] w' o' pl/\(∀g:Int,0<=g->g<8->gi pl g=if (gi gs g).IW then some ⟨nb g,0,none⟩ else none)/\Ns [] w' gs nb)) ?_).mono λe w' ⟨v,he,o',L,C,ok,hv,hr⟩=>⟨o',L,C,ok,by rw[he,hv],hr⟩
 have bad:∀w',Q0 [] w w'->¬Yh gs->∃(o':OA) (L C:Nat) (ok:Bool),Value.tuple #[.slice none 0 0,.bool false]=.tuple #[.slice o' L C,.bool ok]/\ok=Kc gs/\Q0 [] w w'/\
   (ok=false->L=0)/\(ok->L=8/\∃(pl:List (OA)) (nb:Int->Nat),pl.length=8/\Rd zc1 1 [] w' o' pl/\(∀g:Int,0<=g->g<8->gi pl g=if (gi gs g).IW then some ⟨nb g,0,none⟩ else none)/\Ns [] w' gs nb):=λw' hx rF=>
  ⟨none,0,0,false,rfl,(Bh rF).symm,hx,λ_=>rfl,λh=>by cases h⟩
 have l8:((((gs.length:Nat):Int) != 8)=false)->gs.length=8:=λq=>by have:=(bne_eq_false_iff_eq).1 q;omega
 have i0:∀q:(((gs.length:Nat):Int) != 8)=false,(0:Int)<(gs.length:Int):=λq=>by have:=l8 q;omega
 refine⟨λq=>h.ix (I2 _) (i0 q),(gi gs 0).IW,λq=>h.IW (I2 _) (i0 q),λq=>?_,(gi gs 0).IG,λq=>?_,λq=>?_,(gi gs 0).name,λq=>?_,λq=>?_,λq=>?_⟩
 ·simp only[H'] at q;exact h.ix (I2 _) (i0 q.1)
 ·simp only[H'] at q;exact h.IG (I2 _) (i0 q.1)
 ·simp only[H'] at q;exact h.ix (I2 _) (i0 q.1.1)
 ·simp only[H'] at q;exact h.name (I2 _) (i0 q.1.1)
 ·intro w1 Sn;refine bad w1 Sn λht=>?_
  have e:((gs.length:Nat):Int)=8:=by have:=ht.len;omega
  rw[e,ht.ru,ht.rp,ht.rn,Bd] at q;simp at q
 simp only[H',I6,bne_eq_false_iff_eq,JS] at q;obtain⟨⟨⟨q1,ru⟩,rp⟩,rn⟩:=q;have hl8:gs.length=8:=Qo;intro wr hx _;refine⟨some ⟨wr.heap.size,0,none⟩,8,8,wr.alloc (.cells ((List.replicate 8 none).flatMap zc1).toArray Yv),KA M4 zvw 8 Qd (by simp[maxLen]) wr,Xj,?_⟩;have hO0:=Vg (enc:=zc1) M4.len Yv 8 none wr;have hX0:Q0 [] wr (wr.alloc (.cells ((List.replicate 8 none).flatMap zc1).toArray Yv)):=Z9 wr _;generalize wr.alloc (.cells ((List.replicate 8 (none:OA)).flatMap zc1).toArray Yv)=wv at hO0 hX0
 refine Jh 8 0 rfl (λk w1=>k<=8/\Q0 [] wr w1/\∃(pl:List (OA)) (nb:Int->Nat),pl.length=8/\Uy zc1 1 Yv wr.heap.size w1 (some ⟨wr.heap.size,0,none⟩) 8 pl/\
   (∀g:Int,0<=g->g<8->gi pl g=if g<(k:Int)/\(gi gs g).IW then some ⟨nb g,0,none⟩ else none)/\
   (∀g:Int,0<=g->g<(k:Int)->(gi gs g).IW->wr.heap.size<=nb g/\VA w1 (nb g) g (gi gs g).name none)/\
   (∀g g':Int,0<=g->g<(k:Int)->0<=g'->g'<(k:Int)->(gi gs g).IW->(gi gs g').IW->nb g=nb g'->g=g')) (λw1 Sn _=>⟨Ic _,hX0.trans Sn,List.replicate 8 none,λ_=>0,rfl,hO0.WR Sn,λg h0 h1=>?_,λg h0 h1=>by omega,λg g' h0 h1=>by omega⟩) λk w1 _ ⟨hk,hX,pl,nb,hpl,hO,hP,hN,CC0⟩=>⟨λIV=>?_,λRW=>?_⟩
 ·rw[B' (λhc=>by omega)];exact List.eq_of_mem_replicate (zqb h0 (by simpa using h1))
 ·have IV:=Ot IV;have hr:=(h.ext hx).ext hX;have eJ:(0:Int)<=(k:Int):=Qo;refine⟨hr.ix eJ IV,_,hr.IW eJ IV,λhu=>⟨hr.ix eJ IV,_,hr.name eJ IV,λb wb hxb hb hhb _=>?_⟩,λhu=>⟨⟨Qo,Qo⟩,λw2 Rg _=>Qx Qo ⟨Qo,hX.trans Rg,pl,nb,hpl,hO.WR Rg,λg h0 h1=>?_,λg h0 h1 hg=>?_,λg g' h0 h1 h0' h1' hg hg'=>?_⟩⟩⟩
  ·have hOb:=hO.WR hxb;have vE:(k:Int)<(pl.length:Int):=by rw[hpl];omega
   have Wx:=hOb.ix eJ vE;rw[hpl] at Wx;refine⟨Wx,hOb.wr M4.len Qs eJ vE (j:=0) (n:=1) Qo,⟨Qo,Qo⟩,λw2 Rg _=>Qx Qo ⟨Qo,?_,pl.set k (some ⟨b,0,none⟩),λg=>if g=(k:Int) then b else nb g,by rw[E'];exact hpl,?_,λg h0 h1=>?_,λg h0 h1 hg=>?_,λg g' h0 h1 h0' h1' hg hg' he=>?_⟩⟩
   ·exact(hOb.Cq1 _ _ (hX.trans hxb) (I7 _)).trans Rg
   ·exact(hOb.Rx M4.len (i:=(k:Int)) eJ vE (j:=0) (vs:=[.pointer (some ⟨b,0,none⟩)]) (x:=some ⟨b,0,none⟩) rfl Qs).WR Rg
   ·have:=QE pl (some ⟨b,0,none⟩) (i:=(k:Int)) (j:=g) eJ vE h0;rw[Ig] at this;rw[this]
    by_cases hgk:(k:Int)=g
    ·subst hgk;rw[C' rfl,C' ⟨Qo,hu⟩]
     dsimp only
     rw[C' rfl]
    ·rw[B' hgk,hP g h0 h1]
     dsimp only
     rw[show (if g=(k:Int) then b else nb g)=nb g from B' (λe=>hgk e.symm)]
     by_cases Re:g<(k:Int)
     ·by_cases rO:(gi gs g).IW=true
      ·rw[C' ⟨Re,rO⟩,C' ⟨Qo,rO⟩]
      ·rw[B' (λhc=>rO hc.2),B' (λhc=>rO hc.2)]
     ·rw[B' (λhc=>Re hc.1),B' (λhc=>by omega)]
   ·have hsz:Q0 (QL (some ⟨wr.heap.size,0,none⟩)) wb (Rx wb (some ⟨wr.heap.size,0,none⟩) (Int.toNat (k:Int)*1) [.pointer (some ⟨b,0,none⟩)]):=hOb.zS _ _
    have eO:∀q,VA wb q g (gi gs g).name none->q∉QL (some (⟨wr.heap.size,0,none⟩:Addr)):=λq hq hm=>by
     simp only[QL,IA] at hm;subst hm;rcases hOb with ⟨hc,_⟩|⟨b',sp,he,_,h2,_⟩
     ·cases hc
     ·simp only[I0,Addr.mk.injEq,and_true] at he;subst he;unfold VA at hq;rw[h2] at hq;simp only[I0,Obj.cells.injEq] at hq;exact Ir hq.2.1 Qd
    dsimp only
    by_cases hgk:g=(k:Int)
    ·subst hgk;rw[C' rfl];have hq:VA wb b (k:Int) (gi gs (k:Int)).name none:=hhb;exact⟨IB hX.size hb,((hq.ext hsz (eO b hq)).ext Rg Qs)⟩
    ·rw[B' hgk];obtain⟨n1,n2⟩:=hN g h0 Qo hg;have n3:=n2.ext hxb Qs;exact⟨n1,(n3.ext hsz (eO _ n3)).ext Rg Qs⟩
   ·have fresh:∀q:Int,0<=q->q<(k:Int)->(gi gs q).IW->nb q≠b:=λq a1 a2 a3 e=>by
     have:=UX (hN q a1 a2 a3).2;omega
    dsimp only at he
    by_cases hgk:g=(k:Int)
    ·by_cases hgk':g'=(k:Int)
     ·rw[hgk,hgk']
     ·rw[C' hgk,B' hgk'] at he;exact Ir he.symm (fresh g' h0' Qo hg')
    ·by_cases hgk':g'=(k:Int)
     ·rw[B' hgk,C' hgk'] at he;exact Ir he (fresh g h0 Qo hg)
     ·rw[B' hgk,B' hgk'] at he;exact CC0 g g' h0 Qo h0' Qo hg hg' he
  ·rw[hP g h0 h1]
   by_cases hgk:g=(k:Int)
   ·subst hgk;rw[B' (λhc=>by omega),B' (λhc=>by rw[hu] at hc;exact Ir hc.2 Qd)]
   ·by_cases Re:g<(k:Int)
    ·by_cases rO:(gi gs g).IW=true
     ·rw[C' ⟨Re,rO⟩,C' ⟨Qo,rO⟩]
     ·rw[B' (λhc=>rO hc.2),B' (λhc=>rO hc.2)]
    ·rw[B' (λhc=>Re hc.1),B' (λhc=>by omega)]
  ·by_cases hgk:g=(k:Int)
   ·subst hgk;rw[hu] at hg;cases hg
   ·obtain⟨n1,n2⟩:=hN g h0 Qo hg;exact⟨n1,n2.ext Rg Qs⟩
  ·have e1:g≠(k:Int):=λe=>by subst e;rw[hu] at hg;cases hg
   have e2:g'≠(k:Int):=λe=>by subst e;rw[hu] at hg';cases hg'
   exact CC0 g g' h0 Qo h0' Qo hg hg'
 ·have RW:=Ou RW;have hk8:k=8:=Qo;subst hk8;intro w2 Rg _;refine⟨.map (some w2.heap.size),w2.alloc (.map #[] 0),by simp[Instr.makeMap],Xj,?_⟩;have hM0:EL (w2.alloc (.map #[] 0)) w2.heap.size #[]:=⟨⟨0,Array.getElem?_push_size ..⟩,λe he=>by cases he⟩;have hX2:Q0 [] wr (w2.alloc (.map #[] 0)):=(hX.trans Rg).trans (Z9 w2 _);have vB:=(hO.WR Rg).WR (Z9 w2 (.map #[] 0))
  have hN2:∀g:Int,0<=g->g<8->(gi gs g).IW->wr.heap.size<=nb g/\VA (w2.alloc (.map #[] 0)) (nb g) g (gi gs g).name none:=λg h0 h1 hg=>
   ⟨(hN g h0 Qo hg).1,((hN g h0 Qo hg).2.ext Rg Qs).ext (Z9 w2 _) Qs⟩
  have hP2:∀g:Int,0<=g->g<8->gi pl g=if (gi gs g).IW=true then some ⟨nb g,0,none⟩ else none:=λg h0 h1=>by
   rw[hP g h0 h1]
   by_cases rO:(gi gs g).IW=true
   ·rw[C' ⟨Qo,rO⟩,C' rO]
   ·rw[B' (λhc=>rO hc.2),B' rO]
  have Cg8:∀g g':Int,0<=g->g<8->0<=g'->g'<8->(gi gs g).IW->(gi gs g').IW->nb g=nb g'->g=g':=λg g' a b c d=>CC0 g g' a Qo c Qo
  have hmb:wr.heap.size<=w2.heap.size:=(hX.trans Rg).size;generalize w2.heap.size=mb at hM0 hmb;generalize w2.alloc (.map #[] 0)=w3 at hM0 hX2 vB hN2;clear hX hO hN hP CC0
  refine Jh 8 1 rfl (λk w1=>1<=k/\k<=8/\Q0 [] wr w1/\Uy zc1 1 Yv wr.heap.size w1 (some ⟨wr.heap.size,0,none⟩) 8 pl/\
    (∀g:Int,0<=g->g<8->(gi gs g).IW->VA w1 (nb g) g (gi gs g).name (if g<(k:Int) then zrq gs nb g else none))/\
    (∃es,EL w1 mb es/\(∀e∈es.toList,∃g:Int,1<=g/\g<(k:Int)/\(gi gs g).IW/\e.key=Us (gi gs g).IG (gi gs g).name)/\∀g:Int,1<=g->g<(k:Int)->(gi gs g).IW->∃e∈es.toList,e.key=Us (gi gs g).IG (gi gs g).name)/\
    (∀g:Int,1<=g->g<(k:Int)->(gi gs g).IW->Uw (gi gs g).name/\Q6 gs (gi gs g).IG/\∀h:Int,1<=h->h<g->(gi gs h).IW->¬((gi gs h).IG=(gi gs g).IG/\(gi gs h).name=(gi gs g).name)))
   (λw4 W8 _=>⟨I7 _,Qo,hX2.trans W8,vB.WR W8,λg h0 h1 hg=>?_,⟨#[],hM0.ext W8 Qs,(λe he=>by cases he),λg h1 h2=>by omega⟩,λg h1 h2=>by omega⟩) λk w4 _ ⟨hk1,hk,hX,hO,hN,⟨es,hM,hE1,hE2⟩,hT⟩=>⟨λIV=>?_,λRW=>?_⟩
  ·have:=(hN2 g h0 h1 hg).2.ext W8 Qs
   by_cases hg1:g<((1:Nat):Int)
   ·rw[C' hg1];have:g=0:=Qo;subst this;exact this
   ·rw[B' hg1];exact this
  ·have IV:=Ot IV;have hr:=(h.ext hx).ext hX;have eJ:(0:Int)<=(k:Int):=Qo;have vE:(k:Int)<(pl.length:Int):=Qo;have cZ:(k:Int)<(gs.length:Int):=Qo;have hPl:=hO.rd M4.len (bs:=[]) Qs;have Wx:=hO.ix eJ vE;rw[hpl] at Wx;have hXw:Q0 [] w w4:=hx.trans hX;refine⟨Wx,gi pl (k:Int),hPl k eJ vE,λrF=>?_,λAY6=>?_⟩
   ·have hu:¬(gi gs (k:Int)).IW:=λhu=>by rw[hP2 k eJ IV,C' hu] at rF;cases rF
    refine⟨⟨Qo,Qo⟩,λw5 Sx _=>Qx Qo ⟨Qo,Qo,hX.trans Sx,hO.WR Sx,λg h0 h1 hg=>?_,⟨es,hM.ext Sx Qs,λe he=>?_,λg h1 h2 hg=>?_⟩,λg h1 h2 hg=>?_⟩⟩
    ·have:=(hN g h0 h1 hg).ext Sx Qs;have hgk:g≠(k:Int):=λe=>hu (e▸hg)
     by_cases hg1:g<(k:Int)
     ·rw[C' hg1] at this;rw[C' Qo];exact this
     ·rw[B' hg1] at this;rw[B' Qo];exact this
    ·obtain⟨g,a1,a2,a3⟩:=hE1 e he;exact⟨g,a1,Qo,a3⟩
    ·have hgk:g≠(k:Int):=λe=>hu (e▸hg)
     exact hE2 g h1 Qo hg
    ·have hgk:g≠(k:Int):=λe=>hu (e▸hg)
     exact hT g h1 Qo hg
   ·have hu:(gi gs (k:Int)).IW:=by
     cases hq:(gi gs (k:Int)).IW with
     |true=>rfl
     |false=>rw[hP2 k eJ IV,hq] at AY6;cases AY6
    have hpk:gi pl (k:Int)=some ⟨nb (k:Int),0,none⟩:=by rw[hP2 k eJ IV,C' hu]
    refine⟨hr.ix eJ cZ,_,hr.name eJ cZ,_,zha,λ_=>hr.ix eJ cZ,(gi gs (k:Int)).IG,λ_=>hr.IG eJ cZ,Q6 gs (gi gs (k:Int)).IG,λ_=>KQ hr hl,λq=>?_,λq=>?_⟩
    ·intro w5 Sx;refine bad w5 (hXw.trans Sx) λht=>?_
     rw[ht.nm k Qo IV hu,ht.par k Qo IV hu] at q;cases q
    ·simp only[H',I6] at q;obtain⟨qn,qp⟩:=q;obtain⟨p0,p1,pu⟩:=Q5.1 qp;have p8:(gi gs (k:Int)).IG<8:=Qo;have Ch2:=hO.ix p0 Qo;rw[hpl] at Ch2;have hnk:=hN k eJ IV hu;rw[B' Qo] at hnk;have hpp:gi pl (gi gs (k:Int)).IG=some ⟨nb (gi gs (k:Int)).IG,0,none⟩:=by rw[hP2 _ p0 p8,C' pu]
     have hnb:nb (k:Int)∉QL (some (⟨wr.heap.size,0,none⟩:Addr)):=λhm=>by
      simp only[QL,IA] at hm;rcases hO with ⟨hc,_⟩|⟨b',sp,he,_,h2,_⟩
      ·cases hc
      ·simp only[I0,Addr.mk.injEq,and_true] at he;subst he;unfold VA at hnk;rw[hm,h2] at hnk;simp only[I0,Obj.cells.injEq] at hnk;exact Ir hnk.2.1 Qd
     have hWr:Xd [] w4 (some ⟨nb (k:Int),0,none⟩) (0+2) 1:=Bn hnk Qs (by show 0+(0+2+1)<=3;omega);have hsx:Q0 [nb (k:Int)] w4 (Rx w4 (some ⟨nb (k:Int),0,none⟩) (0+2) [.pointer (some ⟨nb (gi gs (k:Int)).IG,0,none⟩)]):=TK λa ha=>by cases ha;simp
     have hbk:wr.heap.size<=nb (k:Int):=(hN2 k eJ IV hu).1;have hXs:Q0 [] wr (Rx w4 (some ⟨nb (k:Int),0,none⟩) (0+2) [.pointer (some ⟨nb (gi gs (k:Int)).IG,0,none⟩)]):=hX.fresh hsx λx hm=>.inl (by rw[IA.1 hm];exact hbk)
     have hrs:=(h.ext hx).ext hXs;have hup:zrq gs nb (k:Int)=some ⟨nb (gi gs (k:Int)).IG,0,none⟩:=by unfold zrq;rw[B' Qo]
     have hNs:∀g:Int,0<=g->g<8->(gi gs g).IW->VA (Rx w4 (some ⟨nb (k:Int),0,none⟩) (0+2) [.pointer (some ⟨nb (gi gs (k:Int)).IG,0,none⟩)]) (nb g) g (gi gs g).name (if g<((k+1:Nat):Int) then zrq gs nb g else none):=λg h0 h1 hg=>by
      by_cases hgk:g=(k:Int)
      ·subst hgk;rw[C' Qo,hup];exact Ka hnk
      ·have eO:nb g≠nb (k:Int):=λe=>hgk (Cg8 g k h0 h1 eJ IV hg hu e)
       have:=(hN g h0 h1 hg).ext hsx (by simpa using eO)
       by_cases hg1:g<(k:Int)
       ·rw[C' hg1] at this;rw[C' Qo];exact this
       ·rw[B' hg1] at this;rw[B' Qo];exact this
     have hOs:Uy zc1 1 Yv wr.heap.size (Rx w4 (some ⟨nb (k:Int),0,none⟩) (0+2) [.pointer (some ⟨nb (gi gs (k:Int)).IG,0,none⟩)]) (some ⟨wr.heap.size,0,none⟩) 8 pl:=hO.ext hsx λb hm jW=>hnb (by rw[IA.1 jW] at hm;exact hm)
     have hMs:EL (Rx w4 (some ⟨nb (k:Int),0,none⟩) (0+2) [.pointer (some ⟨nb (gi gs (k:Int)).IG,0,none⟩)]) mb es:=hM.ext hsx λhm=>by
      rw[IA] at hm;obtain⟨⟨cc,hc⟩,_⟩:=hM;unfold VA at hnk;rw[<-hm,hc] at hnk;cases hnk
     refine⟨Wx,some ⟨nb (k:Int),0,none⟩,by rw[<-hpk];exact hPl k eJ vE,hr.ix eJ cZ,_,hr.IG eJ cZ,Ch2,some ⟨nb (gi gs (k:Int)).IG,0,none⟩,by rw[<-hpp];exact hPl _ p0 Qo,rfl,hWr,?_⟩;generalize Rx w4 (some ⟨nb (k:Int),0,none⟩) (0+2) [.pointer (some ⟨nb (gi gs (k:Int)).IG,0,none⟩)]=w5 at hXs hrs hNs hOs hMs;refine⟨hrs.ix eJ cZ,_,hrs.IG eJ cZ,hrs.ix eJ cZ,_,hrs.name eJ cZ,λb1 dG=>⟨hrs.name eJ cZ,hrs.IG eJ cZ,λw6 bM hs6=>?_⟩⟩;have pY:=hMs.ext bM Qs;obtain⟨v,okk,Ch9,hok⟩:=zzc pY (gi gs (k:Int)).IG (gi gs (k:Int)).name;have CO7:∀x∈[b1],wr.heap.size<=x\/x∈([]:List Nat):=λx hm=>.inl (by rw[IA.1 hm];exact IB hXs.size dG)
     refine⟨v,okk,w6,Ch9,λ_ _=>rfl,λC65=>?_,λA90 w7 gL hs7=>?_⟩
     ·intro w7 gL;refine bad w7 (hx.trans (((hXs.trans bM).fresh gL CO7))) λht=>?_
      obtain⟨e,he,hk⟩:=hok.1 C65;obtain⟨g,a1,a2,a3,a4⟩:=hE1 e he;rw[a4] at hk;simp only[Us,Value.agg.injEq,List.toArray_inj,Array.mk.injEq,I4,I5,true_and,Value.string.injEq,and_true] at hk;exact ht.uniq k g a1 a2 IV hu a3 hk
     ·have rU:=pY.ext gL (λhm=>by
       rw[IA] at hm;obtain⟨⟨cc,hc⟩,_⟩:=hMs;have:=UX hc;omega)
      have Ci9:¬∃e∈es.toList,e.key=Us (gi gs (k:Int)).IG (gi gs (k:Int)).name:=λhc=>by
       have:=hok.2 hc;rw[A90] at this;cases this
      obtain⟨w8,cc,DD3,vF,hM8⟩:=z2d rU (λe he hk=>Ci9 ⟨e,he,hk⟩) (k:Int);have hmx:∀x∈[mb],wr.heap.size<=x\/x∈([]:List Nat):=λx hm=>.inl (by rw[IA.1 hm];exact hmb)
      have hX7:Q0 [] wr w7:=(hXs.trans bM).fresh gL CO7;have hX8:Q0 [] wr w8:=hX7.fresh vF hmx;refine⟨w8,DD3,λx hm=>vF.block x (hs7 x hm) (λjW=>?_),⟨Qo,Qo⟩,λw9 qU hs9=>Qx Qo ⟨Qo,Qo,hX8.fresh qU CO7,?_,λg h0 h1 hg=>?_,⟨_,hM8.ext qU ?_,λe he=>?_,λg h1 h2 hg=>?_⟩,λg h1 h2 hg=>?_⟩⟩
      ·rw[IA] at hm jW;subst jW;obtain⟨⟨c2,hc⟩,_⟩:=hMs;have:=UX hc;omega
      ·have hnm:∀b∈QL (some (⟨wr.heap.size,0,none⟩:Addr)),b∉[mb]:=λb hm jW=>by
        simp only[QL,IA] at hm jW;rcases hOs with ⟨hc,_⟩|⟨b',sp,he,_,h2,_⟩
        ·cases hc
        ·simp only[I0,Addr.mk.injEq,and_true] at he;subst he;obtain⟨⟨c2,hc⟩,_⟩:=hMs;rw[<-jW,hm,h2] at hc;cases hc
       have hn1:∀b∈QL (some (⟨wr.heap.size,0,none⟩:Addr)),b∉[b1]:=λb hm jW=>by
        have:=(hOs.lt b hm).2;rw[IA] at jW;omega
       exact(((hOs.WR bM).ext gL hn1).ext vF hnm).ext qU hn1
      ·have hq:=hNs g h0 h1 hg;have hql:=UX hq;have n1:nb g∉[b1]:=λhm=>by rw[IA] at hm;omega
       have n2:nb g∉[mb]:=λhm=>by
        rw[IA] at hm;obtain⟨⟨c2,hc⟩,_⟩:=hMs;unfold VA at hq;rw[hm,hc] at hq;cases hq
       exact(((hq.ext bM Qs).ext gL n1).ext vF n2).ext qU n1
      ·intro hm;rw[IA] at hm;obtain⟨⟨c2,hc⟩,_⟩:=hMs;have:=UX hc;omega
      ·rw[Array.toList_push,Im] at he;rcases he with he|he
       ·obtain⟨g,a1,a2,a3⟩:=hE1 e he;exact⟨g,a1,Qo,a3⟩
       ·rw[IA] at he;subst he;exact⟨k,Qo,Qo,hu,rfl⟩
      ·rw[Array.toList_push]
       by_cases hgk:g=(k:Int)
       ·subst hgk;exact⟨_,Iy _ (IA.2 rfl),rfl⟩
       ·obtain⟨e,he,hk⟩:=hE2 g h1 Qo hg;exact⟨e,Ia _ he,hk⟩
      ·by_cases hgk:g=(k:Int)
       ·subst hgk;refine⟨qn,qp,λq a1 a2 a3 a4=>Ci9 ?_⟩;obtain⟨e,he,hk⟩:=hE2 q a1 a2 a3;exact⟨e,he,by rw[hk,a4.1,a4.2]⟩
       ·exact hT g h1 Qo hg
  ·have RW:=Ou RW;have hk8:k=8:=Qo;subst hk8;have hXw:Q0 [] w w4:=hx.trans hX
   have hNs:Ns [] w4 gs nb:=⟨λx hu=>by
     obtain⟨a1,a2,a3⟩:=Q5.1 hu;have:=hN x a1 Qo a3;rw[C' Qo] at this;exact this.cells Qs,λx hz hu=>by
     obtain⟨a1,a2,a3⟩:=Q5.1 hu;exact(hT x Qo Qo a3).2.1⟩
   refine Jh 8 0 rfl (λj w5=>j<=8/\Q0 [] w4 w5/\∀g:Int,0<=g->g<(j:Int)->(gi gs g).IW->0<=dep 3 gs g) (λw5 Sx _=>⟨Ic _,Sx,λg h0 h1=>by omega⟩) λj w5 _ ⟨hj,hX5,hD⟩=>⟨λIV=>?_,λRW=>?_⟩
   ·have IV:=Ot IV;have hj0:(0:Int)<=(j:Int):=Qo;have hjl:(j:Int)<(pl.length:Int):=Qo;have hO5:=hO.WR hX5;have Wx:=hO5.ix hj0 hjl;rw[hpl] at Wx;refine⟨Wx,gi pl (j:Int),hO5.rd M4.len Qs j hj0 hjl,zef gs 3 (j:Int) 0,λhs=>?_,λhb=>?_,λhb=>⟨⟨Qo,Qo⟩,λw6 bM _=>Qx Qo ⟨Qo,hX5.trans bM,λg h0 h1 hg=>?_⟩⟩⟩
    ·have hu:(gi gs (j:Int)).IW:=by
      cases hq:(gi gs (j:Int)).IW with
      |true=>rfl
      |false=>rw[hP2 j hj0 IV,hq] at hs;cases hs
     rw[hP2 j hj0 IV,C' hu];exact z1l (hNs.ext hX5) (Q5.2 ⟨hj0,Qo,hu⟩)
    ·intro w6 bM;refine bad w6 ((hXw.trans hX5).trans bM) λht=>?_
     simp only[A',Ij] at hb
     have hu:(gi gs (j:Int)).IW:=by
      cases hq:(gi gs (j:Int)).IW with
      |true=>rfl
      |false=>rw[hP2 j hj0 IV,hq] at hb;cases hb.1
     have hd:0<=dep 3 gs (j:Int):=by
      by_cases hj0':(j:Int)=0
      ·rw[hj0',ZS];omega
      ·exact ht.dp j Qo IV hu
     have:=hb.2;unfold zef at this;rw[B' Qo] at this;omega
    ·by_cases hgj:g=(j:Int)
     ·subst hgj;have hpj:gi pl (j:Int)=some ⟨nb (j:Int),0,none⟩:=by rw[hP2 j hj0 IV,C' hg]
      rw[hpj] at hb;simp only[Option.isNone_some,Bool.not_false,Bool.true_and,decide_eq_false_iff_not] at hb;unfold zef at hb;have:=Oh gs 3 (j:Int)
      split at hb <;> omega
     ·exact hD g h0 Qo hg
   ·have RW:=Ou RW;have hj8:j=8:=Qo;subst hj8;have ht:Yh gs:=⟨hl8,ru,rp,rn,λg h1 h2 hg=>(hT g h1 h2 hg).1,λg h1 h2 hg=>(hT g h1 h2 hg).2.1,λg h1 h2 hg=>hD g Qo h2 hg,λg q a1 a2 a3 a4 a5=>(hT g Qo a3 a4).2.2 q a1 a2 a5⟩;intro w6 bM;refine⟨some ⟨wr.heap.size,0,none⟩,8,8,true,rfl,(T1.2 ht).symm,(hXw.trans hX5).trans bM,λh=>(by cases h),λ_=>⟨rfl,pl,nb,hpl,?_,hP2,(hNs.ext hX5).ext bM⟩⟩;exact((hO.WR hX5).WR bM).rd M4.len Qs
def zhb{bs:List Nat}(h:G6 bs w o gs ms)(hl:gs.length<=maxLen):PX bs M9 #[.slice o gs.length c] w (.bool (Kc gs)):=by
 refine L7 λwr hx=>zg0 o gs.length c (R:=λv w'=>v=.bool (Kc gs)/\Q0 [] wr w') ?_
 have h:=(h.ext hx).less (cs:=[]) Qs;intro w1 Sn _;refine(z1m (h.ext Sn) hl).mono λe w2 ⟨o',L,C,ok,he,hok,Rg,_⟩=>⟨_,_,_,_,he,Xj,λw3 Rl=>⟨by rw[hok],(Sn.trans Rg).trans Rl⟩⟩
end
def XC{n k:Int}{w:Wo}{bs:List Nat}:PX bs Yb #[I n,I k] w (I (Z2 n k)):=
 Ez n k λwr hx=>by
  refine⟨_,JM,_,λ_=>Qt,λh=>?_,λh=>?_⟩
  ·congr 1;unfold Z2;rw[B'];intro h2;simp only[A'] at h2;simp[h2] at h
  ·have h2:YT k 1 20/\YT n 0 100000000:=by simpa using h
   rw[Qv,Qv] at h2;have hm:=zlz h2.2.1 h2.2.2 h2.1.1 h2.1.2;have hs:=zfo h2.1.1 h2.1.2;unfold zjy at hm hs;refine⟨⟨Qo,U7 Qo Qo⟩,U7 Qo Qo,?_⟩;rw[Pf h2.2.1 h2.2.2 h2.1.1 h2.1.2];rfl
def H6{k:Int}{w:Wo}{bs:List Nat}:PX bs Vm #[I k] w (I (ZN k)):=
 zer k λwr hx=>⟨_,XC,rfl⟩
def ZK(a b:Int):Int:=if a<b then a else b
def zlu(a b:Int):Int:=if a>b then a else b
def JB{a b:Int}{w:Wo}{bs:List Nat}:PX bs YX #[I a,I b] w (I (ZK a b)):=
 zl6 a b λwr hx=>⟨λh=>by rw[ZK,C' (Ot h)],λh=>by rw[ZK,B' (Ou h)]⟩
def TB{a b:Int}{w:Wo}{bs:List Nat}:PX bs YW #[I a,I b] w (I (zlu a b)):=
 zl5 a b λwr hx=>⟨λh=>by rw[zlu,C' (Ot h)],λh=>by rw[zlu,B' (Ou h)]⟩
def Y6(l k:Int):Int:=if (if ZN k<l then ZN k else l)>0 then (if ZN k<l then ZN k else l) else 0
def ZH(k:Int):0<=ZN k/\ZN k<=34686091440:=by
 unfold ZN
 by_cases h:1<=k/\k<=20
 ·rw[Pf Qd Qd h.1 h.2];have:=zfo h.1 h.2;omega
 ·rw[D0 Qo];omega
def ZB(l k:Int):0<=Y6 l k/\Y6 l k<=ZN k:=by
 have:=ZH k;unfold Y6;by_cases h1:ZN k<l <;> simp only[h1,if_true,if_false] <;> split <;> omega
def zg9{l k:Int}{w:Wo}{bs:List Nat}:PX bs M7 #[I l,I k] w (I (Y6 l k)):=
 zhs l k λwr hx=>⟨_,H4,rfl⟩
def Kx{l k:Int}{w:Wo}{bs:List Nat}:PX bs Um #[I l,I k] w (I (Y6 l k)):=
 zh2 l k λwr hx=>by
  have hr:=ZH k;refine⟨_,JM,λh=>?_,λh=>⟨_,TB,_,H6,_,JB,?_⟩⟩
  ·have h:YT k 1 20=false:=by simpa using h
   rw[z20] at h;have h0:ZN k=0:=D0 Qo
   congr 1;unfold Y6;rw[h0];by_cases h1:0<l <;> simp only[h1,if_true,if_false] <;> (repeat' split) <;> omega
  ·congr 1;unfold Y6 ZK zlu;by_cases h1:ZN k<l <;> simp only[h1,if_true,if_false] <;> by_cases h2:l>0 <;> simp only[h2,if_true,if_false] <;> (repeat' split) <;> omega
def Qh(n:Int):Int:=if YT n (-10) 9 then 10-n else 0
def Ps{k:Int}{w:Wo}{bs:List Nat}:PX bs J9 #[I k] w (I (Qh k)):=
 z6 k λwr hx=>by
  refine⟨_,DE,λh=>?_,λh=>?_⟩
  ·have h:YT k (-10) 9=false:=by simpa using h
   rw[Qh,h];rfl
  ·have h:YT k (-10) 9:=by simpa using h
   have h2:=Qv.1 h;refine⟨U7 Qo Qo,?_⟩;rw[Qh,h];rfl
structure OP (b:Nat) (c:OA) (L N:Nat) (w:Wo):Prop where
 hd:∃(C:Nat) (p:Int),w.heap[b]? = some (.cells [.slice c L C,I p].toArray OU (0,0))/\0<=p/\p<=N
 bytes:∀i<L,∃(a:Addr) (x:Int),c=some a/\a.block≠b/\0<=x/\x<=255/\w.cell? (a.add i)=some (.int .u8 x)
def OP.ext{b:Nat}{c:OA}{L N:Nat}{w w':Wo}{bs:List Nat}(h:OP b c L N w)(hx:Q0 bs w w')(hb:b∉bs)(hc:∀a,c=some a->a.block∉bs\/L=0):OP b c L N w':=by
 obtain⟨⟨C,p,h1,h2,h3⟩,hby⟩:=h;refine⟨⟨C,p,QR h1 hx hb,h2,h3⟩,λi hi=>?_⟩;obtain⟨a,x,ha,eO,Sn,Rg,Rl⟩:=hby i hi;refine⟨a,x,ha,eO,Sn,Rg,?_⟩
 have hbk:a.block∉bs:=by
  rcases hc a ha with h|h
  ·exact h
  ·omega
 obtain⟨a',e,_,h''⟩:=(show JE bs w c i (.int .u8 x) from ⟨a,ha,hbk,Rl⟩).ext hx;rw[ha] at e;cases e;exact h''
def OP.WR{b:Nat}{c:OA}{L N:Nat}{w w':Wo}(h:OP b c L N w)(hx:Q0 [] w w'):OP b c L N w':=h.ext hx Qs (λ_ _=>.inl Qs)
def OP.mono{b:Nat}{c:OA}{L N M:Nat}{w:Wo}(h:OP b c L N w)(hm:N<=M):OP b c L M w:=by
 obtain⟨⟨C,p,h1,h2,h3⟩,hby⟩:=h;exact⟨⟨C,p,h1,h2,Qo⟩,hby⟩
def OP.lt{b:Nat}{c:OA}{L N:Nat}{w:Wo}(h:OP b c L N w):b<w.heap.size:=by
 obtain⟨⟨C,p,h1,h2,h3⟩,hby⟩:=h;exact UX h1
def OP.ltc{b:Nat}{c:OA}{L N:Nat}{w:Wo}(h:OP b c L N w)(a:Addr)(ha:c=some a):a.block<w.heap.size\/L=0:=by
 rcases Nat.eq_zero_or_pos L with h0|h0
 ·exact .inr h0
 ·obtain⟨a',x,ha',eO,Sn,Rg,Rl⟩:=h.bytes 0 h0;rw[ha] at ha';cases ha';have:=World.block_lt_of_cell? w _ Rl;rw[Zz] at this;exact .inl this
def OP.C21{b:Nat}{c:OA}{L N M:Nat}{w0 w w':Wo}{bs:List Nat}(h0:OP b c L M w0)(h:OP b c L N w)(hx:Q0 bs w w')(hb:∀x∈bs,w0.heap.size<=x):OP b c L N w':=
 h.ext hx (λhm=>by have:=hb _ hm;have:=h0.lt;omega) λa ha=>by
  rcases h0.ltc a ha with hl|hl
  ·exact .inl λhm=>by have:=hb _ hm;omega
  ·exact .inr hl
def GJ(n v:Int):Prop:=0<=v/\(n<1->v=0)/\(1<=n->v<n)
def zji{x n:Int}(hx:0<=x)(hn:1<=n):GJ n (Int.tmod x n):=by
 refine⟨Int.tmod_nonneg _ hx,Qo,λ_=>Int.tmod_lt_of_pos _ Qo⟩
def zrv{x y:Int}(h1:0<=x)(h2:x<=9223372036854775807)(h3:0<=y)(h4:y<=9223372036854775807):0<=TQ .xor .i64 x y:=by
 have IV:(BitVec.ofInt 64 x ^^^ BitVec.ofInt 64 y).toNat<2 ^ 63:=by
  rw[BitVec.toNat_xor];refine Nat.xor_lt_two_pow ?_ ?_
  ·rw[BitVec.toNat_ofInt];omega
  ·rw[BitVec.toNat_ofInt];omega
 have h:=Qq.wrap (k:=.i64) (z:=((BitVec.ofInt 64 x ^^^ BitVec.ofInt 64 y).toNat:Int)) (U7 Qo Qo);show 0<=IntKind.i64.wrap ((BitVec.ofInt 64 x ^^^ BitVec.ofInt 64 y).toNat:Int);rw[h];omega
def Em{b:Nat}{c:OA}{L N:Nat}{w:Wo}{n:Int}(h:OP b c L N w)(hN:N<=1000000000000) :
  Cz Q3 #[.pointer (some ⟨b,0,none⟩),I n] w λe w'=>∃v,e=.returned (I v)/\GJ n v/\OP b c L (N+1) w'/\Q0 [b] w w':=by
 refine(Fs (some ⟨b,0,none⟩) n (R:=λv w'=>∃x,v=I x/\GJ n x/\OP b c L (N+1) w'/\Q0 [b] w w') ?_).mono λe w' ⟨v,he,x,hv,h1,h2,h3⟩=>⟨x,by rw[he,hv],h1,h2,h3⟩
 obtain⟨C,p,hh,hp0,hpN⟩:=h.hd;have hs:=Ka (k:=0) (n:=1) (vs:=[I (p+1)]) hh;have hxt:Q0 [b] w (Rx w (some ⟨b,0,none⟩) 1 [I (p+1)]):=TK λa ha=>by cases ha;exact IA.2 rfl
 generalize hw1:Rx w (some ⟨b,0,none⟩) 1 [I (p+1)]=w1 at hs hxt;have hs:w1.heap[b]? = some (.cells [.slice c L C,I (p+1)].toArray OU (0,0)):=hs;have hc:Q1 [] w1 (some ⟨b,0,none⟩) (0+0) [.slice c L C]:=VX hs Qs rfl;have hpp:Q1 [] w1 (some ⟨b,0,none⟩) (0+1) [I (p+1)]:=VX hs Qs rfl
 have hby:∀i:Int,0<=i->i<L->∃x:Int,0<=x/\x<=255/\c.isSome/\Q1 [] w1 c (Int.toNat i*1) [.int .u8 x]:=λi h0 hi=>by
  obtain⟨a,x,ha,eO,Sn,Rg,Rl⟩:=h.bytes i.toNat Qo;refine⟨x,Sn,Rg,by rw[ha];rfl,?_⟩;have:=(show JE [b] w c i.toNat (.int .u8 x) from ⟨a,ha,by simpa using eO,Rl⟩).ext hxt;rw[Nat.mul_one];exact Ug (this.less Qs)
 have fin:∀(v:Int),GJ n v->∀wr,Q0 [] w1 wr->∃x,I v=I x/\GJ n x/\OP b c L (N+1) wr/\Q0 [b] w wr:=λv hv wr hr=>
  ⟨v,rfl,hv,OP.WR ⟨⟨C,p+1,hs,Qo,Qo⟩,λi hi=>by
   obtain⟨a,x,ha,eO,Sn,Rg,Rl⟩:=h.bytes i hi;have:=(show JE [b] w c i (.int .u8 x) from ⟨a,ha,by simpa using eO,Rl⟩).ext hxt;obtain⟨a',ha',_,hc'⟩:=this;rw[ha] at ha';cases ha';exact⟨a,x,ha,eO,Sn,Rg,hc'⟩⟩ hr,hxt.trans hr.of_nil⟩
 refine⟨rfl,p,VX hh Qs rfl,U7 Qo Qo,rfl,Bn hh Qs Qs,?_⟩;rw[show (0+1:Nat)=1 from rfl,hw1];refine⟨λ_=>rfl,c,L,C,λ_=>hc,λh=>?_,λh=>?_⟩
 ·simp only[Iu,Ij,Is] at h;refine fin 0 ⟨Qo,Qo,λhn=>by omega⟩
 ·have h:1<=n/\L≠0:=by simpa using h
  refine⟨rfl,p+1,hpp,U7 Qo Qo,rfl,c,L,C,hc,λIV=>?_,λIV=>?_⟩
  ·have IV:=Ot IV;obtain⟨x,Sn,Rg,Rl,W8⟩:=hby (p+1-1) Qo IV;exact⟨rfl,c,L,C,hc,⟨Qo,IV,Rl⟩,x,W8,U7 Qo Qo,Qo,fin _ (zji Sn h.1)⟩
  ·have hLp:(0:Int)<(L:Int):=Qo;have hm1:=Int.tmod_nonneg (L:Int) (show 0<=p+1-1 by omega);have hm2:=Int.tmod_lt_of_pos (p+1-1) hLp;have hm3:=Int.tmod_nonneg (L:Int) (show 0<=(p+1-1)*7+3 by omega);have hm4:=Int.tmod_lt_of_pos ((p+1-1)*7+3) hLp;have hd1:0<=Int.tdiv (p+1-1) (L:Int):=Int.tdiv_nonneg Qo Qo
   have hd2:Int.tdiv (p+1-1) (L:Int)<=p+1-1:=by
    rw[Int.tdiv_eq_ediv_of_nonneg Qo];exact Int.ediv_le_self _ Qo
   obtain⟨x1,Sn,Rg,Rl,W8⟩:=hby _ hm1 hm2;obtain⟨x2,dY,SX,fU,jX⟩:=hby _ hm3 hm4;have hX0:0<=(x1*131+x2*1117+(p+1-1)*29)+Int.tdiv (p+1-1) (L:Int)*53:=Qo;have hX1:(x1*131+x2*1117+(p+1-1)*29)+Int.tdiv (p+1-1) (L:Int)*53<=1000000000000000:=Qo;have hq0:=Int.tdiv_nonneg hX0 (show (0:Int)<=64 by decide)
   have hq1:Int.tdiv ((x1*131+x2*1117+(p+1-1)*29)+Int.tdiv (p+1-1) (L:Int)*53) 64<=(x1*131+x2*1117+(p+1-1)*29)+Int.tdiv (p+1-1) (L:Int)*53:=by
    rw[Int.tdiv_eq_ediv_of_nonneg hX0];exact Int.ediv_le_self _ hX0
   refine⟨rfl,c,L,C,hc,rfl,c,L,C,hc,Qo,⟨hm1,hm2,Rl⟩,x1,W8,U7 Qo Qo,U7 Qo Qo,rfl,c,L,C,hc,U7 Qo Qo,U7 Qo Qo,rfl,c,L,C,hc,Qo,⟨hm3,hm4,fU⟩,x2,jX,
    U7 Qo Qo,U7 Qo Qo,U7 Qo Qo,U7 Qo Qo,U7 Qo Qo,rfl,c,L,C,hc,⟨Qo,U7 Qo Qo⟩,U7 Qo Qo,U7 Qo Qo,⟨Qd,U7 Qo Qo⟩,Qo,?_⟩
   exact fin _ (zji (zrv hX0 Qo hq0 Qo) h.1)
section
open Go.RowKit Go.ChangeShapes
section
variable {H:Type}{en:TypeId×Va->H}{w:Wo}{base:Nat}{spare:Nat->Bool}{held:Bool}{fuel:Nat}{cs:List Va}{x:DataW H×List MemPlace}
structure MW where
 cO:OA
 cC:Nat
 tO:OA
 tC:Nat
 gO:OA
 gC:Nat
 ms:Nat->MG
def Qa(W:Q7)(m:MW):List Va:=[.int .i64 W.now,.slice m.cO W.IF.length m.cC,.slice m.tO W.IJ.length m.tC,.slice m.gO W.IE.length m.gC]
structure J6 (bs:List Nat) (w:Wo) (W:Q7) (m:MW):Prop where
 c:z5p bs w m.cO W.IF
 t:zz8 bs w m.tO W.IJ
 g:G6 bs w m.gO W.IE m.ms
def J6.ext{bs:List Nat}{w w':Wo}{W:Q7}{m:MW}(h:J6 bs w W m)(hx:Q0 bs w w'):J6 bs w' W m:=⟨h.c.ext hx,h.t.ext hx,h.g.ext hx⟩
def J6.less{bs cs:List Nat}{w:Wo}{W:Q7}{m:MW}(h:J6 bs w W m)(hs:∀x∈cs,x∈bs):J6 cs w W m:=⟨h.c.less hs,h.t.less hs,h.g.less hs⟩
def J6.wide{bs cs:List Nat}{w:Wo}{W:Q7}{m:MW}(h:J6 bs w W m)(hs:∀x∈cs,x∈bs\/w.heap.size<=x):J6 cs w W m:=⟨h.c.wide hs,h.t.wide hs,h.g.wide hs⟩
end
end
def Uc(k:Nat):Int:=1*2 ^ (min (Int.toNat (k:Int)) 64)
def PK(m:Int):Bool:=YT m 0 15
def Zk(m c:Int):Bool:=(PK m&&YT c 0 3)&&(Int.tmod (Int.fdiv m (2 ^ (min (Int.toNat c) 64))) 2==1)
def TE(a b:Int):Int:=if PK a=true/\PK b then TQ .and .i64 a b else 0
def zcb(a b:Int):Nat->Int
 |0=>0
 |k+1=>if (Zk a (k:Int)&&Zk b (k:Int))=true then zcb a b k+Uc k else zcb a b k
def K6{m:Int}(h:PK m):∃f:Fin 16,m=(f.val:Int):=by
 have:=Qv.1 h;exact⟨⟨m.toNat,Qo⟩,by show m=((m.toNat:Nat):Int);omega⟩
def zwj:∀a b:Fin 16,zcb (a.val:Int) (b.val:Int) 4=TQ .and .i64 (a.val:Int) (b.val:Int):=by decide +kernel
def zwk:∀a b:Fin 16,0<=TQ .and .i64 (a.val:Int) (b.val:Int)/\TQ .and .i64 (a.val:Int) (b.val:Int)<=15:=by decide +kernel
def zwh:∀a b:Fin 16,TQ .and .i64 (a.val:Int) (b.val:Int)=TQ .and .i64 (b.val:Int) (a.val:Int):=by decide +kernel
def zwg:∀a b c:Fin 16,TQ .and .i64 (TQ .and .i64 (a.val:Int) (b.val:Int)) (c.val:Int)=TQ .and .i64 (a.val:Int) (TQ .and .i64 (b.val:Int) (c.val:Int)):=by decide +kernel
def zwi:∀(a b:Fin 16) (c:Fin 4),Zk (TQ .and .i64 (a.val:Int) (b.val:Int)) (c.val:Int)=(Zk (a.val:Int) (c.val:Int)&&Zk (b.val:Int) (c.val:Int)):=by decide +kernel
def zwf:∀a:Fin 16,TQ .and .i64 (a.val:Int) 0=0:=by decide +kernel
def za6(a b:Int):PK (TE a b):=by
 unfold TE;split
 ·rename_i h;obtain⟨x,rfl⟩:=K6 h.1;obtain⟨y,rfl⟩:=K6 h.2;exact Qv.2 (zwk x y)
 ·exact Qv.2 Qd
def OS{a b:Int}(ha:PK a)(hb:PK b):TE a b=TQ .and .i64 a b:=by unfold TE;rw[C' ⟨ha,hb⟩]
def XD{a b:Int}(h:PK a=false\/PK b=false):TE a b=0:=by
 unfold TE;rw[B'];rintro⟨h1,h2⟩;rcases h with h|h
 ·rw[h1] at h;cases h
 ·rw[h2] at h;cases h
def NE(a b:Int):TE a b=TE b a:=by
 cases ha:PK a with
 |false=>rw[XD (.inl ha),XD (.inr ha)]
 |true=>
  cases hb:PK b with
  |false=>rw[XD (.inr hb),XD (.inl hb)]
  |true=>
   rw[OS ha hb,OS hb ha];obtain⟨x,rfl⟩:=K6 ha;obtain⟨y,rfl⟩:=K6 hb;exact zwh x y
def HN(a:Int):TE a 0=0:=by
 cases ha:PK a with
 |false=>exact XD (.inl ha)
 |true=>
  rw[OS ha Qd];obtain⟨x,rfl⟩:=K6 ha;exact zwf x
def zqo(a b c:Int):TE (TE a b) c=TE a (TE b c):=by
 cases hb:PK b with
 |false=>rw[XD (a:=a) (.inr hb),XD (b:=c) (.inl hb),NE 0 c,HN,HN]
 |true=>
  cases ha:PK a with
  |false=>rw[XD (b:=b) (.inl ha),XD (b:=TE b c) (.inl ha),NE,HN]
  |true=>
   cases hc:PK c with
   |false=>rw[XD (a:=TE a b) (.inr hc),XD (a:=b) (.inr hc),HN]
   |true=>
    have h1:=za6 a b;have h2:=za6 b c;rw[OS h1 hc,OS ha h2,OS ha hb,OS hb hc];obtain⟨x,rfl⟩:=K6 ha;obtain⟨y,rfl⟩:=K6 hb;obtain⟨z,rfl⟩:=K6 hc;exact zwg x y z
def Mt{m c:Int}(h:Zk m c):PK m/\0<=c/\c<=3:=by
 unfold Zk at h;simp only[A'] at h;exact⟨h.1.1,Qv.1 h.1.2⟩
def zn8{a b c:Int}(h:Zk (TE a b) c):Zk a c/\Zk b c:=by
 have hr:=Mt h
 have hz:Zk 0 c=false:=by
  have:c=0\/c=1\/c=2\/c=3:=Qo;rcases this with rfl|rfl|rfl|rfl <;> decide
 cases ha:PK a with
 |false=>rw[XD (.inl ha),hz] at h;cases h
 |true=>
  cases hb:PK b with
  |false=>rw[XD (.inr hb),hz] at h;cases h
  |true=>
   rw[OS ha hb] at h;obtain⟨x,rfl⟩:=K6 ha;obtain⟨y,rfl⟩:=K6 hb;have:=zwi x y ⟨c.toNat,Qo⟩;rw[show ((⟨c.toNat,Qo⟩:Fin 4).val:Int)=c by show ((c.toNat:Nat):Int)=c;omega] at this;rw[this] at h
   simpa using h
def Vj(cs:List PZ):Nat->Int
 |0=>0
 |k+1=>if (gi cs (k:Int)).up=true then Vj cs k+Uc k else Vj cs k
def JC(cs:List PZ):Int:=Vj cs cs.length
def HZ(cs:List PZ):∀k:Nat,k<=4->0<=Vj cs k/\Vj cs k<Uc k
 |0,_=>by simp[Vj,Uc]
 |k+1,h=>by
  have ih:=HZ cs k Qo
  have hb:Uc (k+1)=2*Uc k/\0<=Uc k:=by
   have:k=0\/k=1\/k=2\/k=3:=Qo;rcases this with rfl|rfl|rfl|rfl <;> decide
  simp only[Vj]
  split <;> omega
def BS{k:Nat}(h:k<=4):1<=Uc k/\Uc k<=16:=by
 have:k=0\/k=1\/k=2\/k=3\/k=4:=Qo;rcases this with rfl|rfl|rfl|rfl|rfl <;> decide
def z2r{cs:List PZ}(h:cs.length<=4):PK (JC cs):=by
 have:=HZ cs cs.length h;have:=BS h;exact Qv.2 (by unfold JC;omega)
def z4r:∀(k:Fin 4) (s:Fin 8),(s.val:Int)<Uc k.val->TQ .or .i64 (s.val:Int) (Uc k.val)=(s.val:Int)+Uc k.val:=by decide +kernel
def z4q{k:Nat}{s:Int}(hk:k<4)(h0:0<=s)(h1:s<Uc k):TQ .or .i64 s (Uc k)=s+Uc k:=by
 have hb:Uc k<=8:=by
  have:k=0\/k=1\/k=2\/k=3:=Qo;rcases this with rfl|rfl|rfl|rfl <;> decide
 have:=z4r ⟨k,hk⟩ ⟨s.toNat,Qo⟩;rw[show ((⟨s.toNat,Qo⟩:Fin 8).val:Int)=s by show ((s.toNat:Nat):Int)=s;omega] at this;exact this h1
def znu:∀(k:Fin 4) (s:Fin 8) (c:Fin 4),(s.val:Int)<Uc k.val->Zk ((s.val:Int)+Uc k.val) (c.val:Int)=(decide (c.val=k.val)||Zk (s.val:Int) (c.val:Int)):=by decide +kernel
def zmr(cs:List PZ){c:Int}:∀k:Nat,k<=4->Zk (Vj cs k) c->c<(k:Int)/\(gi cs c).up=true
 |0,_,h=>by
  have hr:=Mt h;have:c=0\/c=1\/c=2\/c=3:=Qo;rcases this with rfl|rfl|rfl|rfl <;> exact Ir h (by simp only[Vj];decide)
 |k+1,hk,h=>by
  have hr:=Mt h;have ih:=zmr cs (c:=c) k Qo;have hl:=HZ cs k Qo
  have hb:Uc k<=8:=by
   have:k=0\/k=1\/k=2\/k=3:=Qo;rcases this with rfl|rfl|rfl|rfl <;> decide
  simp only[Vj] at h
  split at h
  ·rename_i hu;have:=znu ⟨k,Qo⟩ ⟨(Vj cs k).toNat,Qo⟩ ⟨c.toNat,Qo⟩;rw[show ((⟨(Vj cs k).toNat,Qo⟩:Fin 8).val:Int)=Vj cs k by show (((Vj cs k).toNat:Nat):Int)=Vj cs k;omega,show ((⟨c.toNat,Qo⟩:Fin 4).val:Int)=c by show ((c.toNat:Nat):Int)=c;omega] at this;rw[this hl.2] at h;simp only[Iu,Ij] at h;rcases h with h|h
   ·have:c=(k:Int):=Qo;subst this;exact⟨Qo,hu⟩
   ·have:=ih h;exact⟨Qo,this.2⟩
  ·have:=ih h;exact⟨Qo,this.2⟩
def US:Nat->List Zb->Int->List Int
 |0,_,_=>[]
 |f+1,gs,g=>if g=0 then [] else g::US f gs (gi gs g).IG
abbrev QM(gs:List Zb)(g:Int):List Int:=US 3 gs g
def Zc(gs:List Zb)(f:Nat):US f gs 0=[]:=by cases f <;> simp[US]
def zva{gs:List Zb}(ht:Yh gs):∀(f f':Nat) (h:Int),Q6 gs h->dep 3 gs h<=f->dep 3 gs h<=f'->US f gs h=US f' gs h:=by
 intro f
 induction f with
 |zero=>
  intro f' h hu h1 h2
  have hz:h=0:=Iq λhz=>by
   obtain⟨_,_,_,d,e,_⟩:=Y3 ht hu hz;omega
  subst hz;rw[Zc,Zc]
 |succ f ih=>
  intro f' h hu h1 h2
  by_cases hz:h=0
  ·subst hz;rw[Zc,Zc]
  ·obtain⟨hp,_,_,d,e,e2,_⟩:=Y3 ht hu hz
   cases f' with
   |zero=>omega
   |succ f'=>
    simp only[US];rw[B' hz,B' hz,ih f' (gi gs h).IG hp Qo Qo]
def Yg{gs:List Zb}(ht:Yh gs){h:Int}(hu:Q6 gs h)(hz:h≠0):QM gs h=h::QM gs (gi gs h).IG:=by
 obtain⟨hp,_,_,d,e,e2,hd⟩:=Y3 ht hu hz;show US 3 gs h=_;rw[show US 3 gs h=if h=0 then [] else h::US 2 gs (gi gs h).IG from rfl,B' hz,zva ht 2 3 _ hp Qo Qo]
def My{gs:List Zb}(ht:Yh gs){Q:Int->Prop}(h0:Q 0)(hs:∀h:Int,Q6 gs h->h≠0->Q (gi gs h).IG->Q h):∀h:Int,Q6 gs h->Q h:=by
 have key:∀(n:Nat) (h:Int),Q6 gs h->dep 3 gs h<=n->Q h:=by
  intro n
  induction n with
  |zero=>
   intro h hu hd
   by_cases hz:h=0
   ·subst hz;exact h0
   ·obtain⟨_,_,_,d,e,_⟩:=Y3 ht hu hz;omega
  |succ n ih=>
   intro h hu hd
   by_cases hz:h=0
   ·subst hz;exact h0
   ·obtain⟨hp,_,_,d,e,e2,_⟩:=Y3 ht hu hz;exact hs h hu hz (ih _ hp Qo)
 intro h hu;have:=Oh gs 3 h;exact key 3 h hu Qo
def zy1{gs:List Zb}(ht:Yh gs){h:Int}(hu:Q6 gs h):QM gs h++[0]=h::(QM gs h).map λx=>(gi gs x).IG:=by
 refine My ht (Q:=λh=>QM gs h++[0]=h::(QM gs h).map λx=>(gi gs x).IG) (by simp[QM,Zc]) (λh hu hz ih=>?_) h hu;rw[Yg ht hu hz,List.cons_append,ih,List.map_cons]
def T5(gs:List Zb)(g u:Int):Int:=(QM gs g++[0]).foldl (λs x=>TE s (gi gs x).IF) u
def zo2(gs:List Zb)(g:Int):Int:=(QM gs g).foldl (λs x=>TE s (gi gs (gi gs x).IG).IF) (gi gs g).IF
def zno(f:Int->Int):∀(l:List Int) (m u:Int),TE (l.foldl (λs x=>TE s (f x)) m) u=l.foldl (λs x=>TE s (f x)) (TE u m)
 |[],m,u=>NE m u
 |x::l,m,u=>by
  simp only[List.foldl_cons];rw[zno f l,zqo]
def zzj{gs:List Zb}(ht:Yh gs){g u:Int}(hu:Q6 gs g):TE (zo2 gs g) u=T5 gs g u:=by
 unfold zo2 T5;rw[zy1 ht hu,List.foldl_cons,List.foldl_map,zno (λx=>(gi gs (gi gs x).IG).IF)]
def zs4{gs:List Zb}{g u c:Int}(h:Zk (T5 gs g u) c):Zk u c:=by
 unfold T5 at h
 revert h
 generalize QM gs g++[0]=l
 induction l generalizing u with
 |nil=>exact λh=>h
 |cons x l ih=>
  intro h;rw[List.foldl_cons] at h;exact(zn8 (ih h)).1
def QF(W:Q7)(g mask:Int):Int:=
 if TE mask (T5 W.IE g (JC W.IF))≠0 then TE mask (T5 W.IE g (JC W.IF)) else if T5 W.IE g (JC W.IF)≠0 then T5 W.IE g (JC W.IF) else JC W.IF
def zvy{W:Q7}{g mask c:Int}(h:Zk (QF W g mask) c):Zk (JC W.IF) c:=by
 unfold QF at h
 split at h
 ·exact zs4 (zn8 h).2
 ·split at h
  ·exact zs4 h
  ·exact h
def Vi(l:List Int):Nat->Int
 |0=>0
 |k+1=>Vi l k+gi l (k:Int)
def TV(p:Nat->Bool):Nat->Bool
 |0=>false
 |k+1=>TV p k||p k
def E4{p:Nat->Bool}:∀{n:Nat},TV p n=true↔∃j,j<n/\p j=true
 |0=>by simp[TV]
 |n+1=>by
  simp only[TV,Iu,E4 (n:=n)];constructor
  ·rintro (⟨j,hj,h⟩|h)
   ·exact⟨j,Qo,h⟩
   ·exact⟨n,Qo,h⟩
  ·rintro⟨j,hj,h⟩
   by_cases hjn:j=n
   ·subst hjn;exact .inr h
   ·exact .inl ⟨j,Qo,h⟩
def zkk{p:Nat->Bool}{n:Nat}(h:∀j,j<n->p j=false):TV p n=false:=by
 cases ha:TV p n with
 |false=>rfl
 |true=>
  obtain⟨j,hj,hp⟩:=E4.1 ha;rw[h j hj] at hp;cases hp
noncomputable def Ju(P:Prop):Bool:=@decide P (Classical.propDecidable P)
def Qm{P:Prop}:Ju P=true↔P:=@decide_eq_true_iff P (Classical.propDecidable P)
def Lu{P:Prop}:Ju P=false↔¬P:=by
 constructor
 ·intro h hp;rw[Qm.2 hp] at h;cases h
 ·intro h
  cases hb:Ju P with
  |false=>rfl
  |true=>exact Ir (Qm.1 hb) h
def PB{b:Bool}{P:Prop}(h:b=true↔P):Value.bool b=.bool (Ju P):=by
 have:b=Ju P:=by
  cases hb:Ju P with
  |true=>exact h.2 (Qm.1 hb)
  |false=>
   cases hc:b with
   |false=>rfl
   |true=>exact Ir (h.1 hc) (Lu.1 hb)
 rw[this]
def Gg{P:Prop}(h:¬P):Value.bool false=.bool (Ju P):=by rw[Lu.2 h]
def zmy{P:Prop}(h:P):Value.bool true=.bool (Ju P):=by rw[Qm.2 h]
def Q8(W:Q7)(t:Int):MQ:=gi W.IJ t
def Qb(W:Q7)(g c:Int):KD:=gi (gi W.IE g).IH c
def ZZ(v:Int):Bool:=YT v 0 100000000000000000
def Xg{v:Int}:ZZ v=true↔0<=v/\v<=100000000000000000:=Qv
def TF(b:Ue):Bool:=((((b.I'==0)&&(b.RU==0))&&(b.SB==0))&&(((b.locals.length:Nat):Int)==0))&&(((b.RE.length:Nat):Int)==0)
structure OY (b:Ue):Prop where
 q1:1<=b.I'
 q2:b.I'<=10000
 l1:1<=b.locals.length
 l2:b.locals.length<=4
 dl:b.RE.length=b.locals.length
 p1:0<=b.RU
 p2:b.RU<=b.I'
 s1:0<=b.SB
 s2:b.SB<=b.I'
 each:∀c:Int,0<=c->c<(b.locals.length:Int)->0<=gi b.locals c/\gi b.locals c<=b.I'/\(gi b.RE c=true->gi b.locals c=0/\b.RU=0)
 sum:b.RU+b.SB+Vi b.locals b.locals.length=b.I'
structure zpj (W:Q7) (k:Int) (g:Zb):Prop where
 w1:1<=g.R3
 w2:g.R3<=20
 m:PK g.IF=true
 m0:g.IF≠0
 s:ZZ g.sum=true
 len:g.IH.length=W.IF.length
 root:k=0->g.R3=10/\g.IF=15/\g.IM.I'=0
 none:g.IM.I'=0->TF g.IM/\g.period=0/\g.next=0
 IM:g.IM.I'≠0->OY g.IM/\g.IM.locals.length=W.IF.length/\1<=g.period/\g.period<=1000/\W.now<g.next/\g.next-W.now<=g.period
structure zv7 (g:Zb):Prop where
 p:g.IG=0
 n:g.name=⟨[].toArray⟩
 w:g.R3=0
 c:g.IF=0
 pe:g.period=0
 ne:g.next=0
 s:g.sum=0
 l:g.IH.length=0
 b:TF g.IM=true
def Kg(W:Q7)(k:Int):Prop:=((gi W.IE k).IW=false->zv7 (gi W.IE k))/\((gi W.IE k).IW->zpj W k (gi W.IE k))
structure WA (W:Q7):Prop where
 n1:0<=W.now
 n2:W.now<=100000000000000000
 c1:1<=W.IF.length
 c2:W.IF.length<=4
 t:W.IJ.length=12
 tree:Yh W.IE
 ups:JC W.IF≠0
 grp:∀k:Int,0<=k->k<8->Kg W k
def Jm(W:Q7)(g c:Int):Bool:=decide ((gi W.IE g).IM.I'>0)&&gi (gi W.IE g).IM.RE c
def dU(W:Q7)(g c:Int)(j:Nat):Bool:=(((gi W.IJ (j:Int)).state==1)&&((gi W.IJ (j:Int)).II==g))&&((gi W.IJ (j:Int)).R2==c)
def WV(W:Q7)(g c:Int)(j:Nat):Bool:=(decide (1<=j)&&((gi W.IE (j:Int)).IW&&((gi W.IE (j:Int)).IG==g)))&&(Qb W (j:Int) c).on
def QJ(W:Q7)(g c:Int):Bool:=TV (dU W g c) W.IJ.length||TV (WV W g c) W.IE.length
def Ut(W:Q7)(g c:Int):Bool:=(QM W.IE g).all λx=>(Qb W x c).on
def Zq(W:Q7)(t:Int):Bool:=((Q8 W t).state==1)&&Ut W (Q8 W t).II (Q8 W t).R2
def KB(v f k:Int):Bool:=decide (v>=f)&&decide (IntKind.i64.wrap (v-f)<=ZN k)
def Od(W:Q7)(g c Wh:Int):Bool:=(QM W.IE g).all λx=>decide ((Qb W x c).v-(Qb W (gi W.IE x).IG c).IL<=Z2 Wh (Qb W x c).w)
def MJ(W:Q7)(c:Int):Bool:=
 decide ((Q8 W (gi W.IF c).cur).v-(Qb W (Q8 W (gi W.IF c).cur).II c).IL<=Z2 (gi W.IF c).Wh (Qh (Q8 W (gi W.IF c).cur).nice))&&Od W (Q8 W (gi W.IF c).cur).II c (gi W.IF c).Wh
def T3:MQ:=⟨0,0,0,0,0,0,0,0,0⟩
structure z0j (W:Q7) (x:MQ):Prop where
 st:x.state=1\/x.state=2
 g:Q6 W.IE x.II=true
 n:Qh x.nice≠0
 m:PK x.mask=true
 m0:x.mask≠0
 v:ZZ x.v=true
 s:ZZ x.sum=true
 u:ZZ x.IW=true
 l1:0<=x.load
 l2:x.load<=8000000
 c:Zk (QF W x.II x.mask) x.R2=true
 f:x.state=1->KB x.v (Qb W x.II x.R2).IL (Qh x.nice)=true
def AA(W:Q7)(t:Int):Prop:=(Q8 W t).state=0/\Q8 W t=T3\/(Q8 W t).state≠0/\z0j W (Q8 W t)
structure Kh (W:Q7) (k c:Int):Prop where
 f:ZZ (Qb W k c).IL=true
 v:ZZ (Qb W k c).v=true
 s:ZZ (Qb W k c).sum=true
 w1:1<=(Qb W k c).w
 w2:(Qb W k c).w<=20
 root:k=0->(Qb W k c).on=false/\(Qb W k c).v=0/\(Qb W k c).w=10
 on:k≠0->(Qb W k c).on=(QJ W k c && !Jm W k c)
 st:k≠0->(Qb W k c).on->KB (Qb W k c).v (Qb W (gi W.IE k).IG c).IL (Qb W k c).w=true
structure Bs (W:Q7) (c:Int):Prop where
 b:ZZ (gi W.IF c).busy=true
 i:ZZ (gi W.IF c).idle=true
 c1 : -1<=(gi W.IF c).cur
 c2:(gi W.IF c).cur<(W.IJ.length:Int)
 no:(gi W.IF c).cur<0->(gi W.IF c).Wh=0
 yes:0<=(gi W.IF c).cur->(gi W.IF c).up/\1<=(gi W.IF c).Wh/\(gi W.IF c).Wh<=149/\(Q8 W (gi W.IF c).cur).R2=c/\Zq W (gi W.IF c).cur/\MJ W c=true
structure XV (W:Q7):Prop where
 a:WA W
 t:∀t:Int,0<=t->t<12->AA W t
 s:∀k c:Int,0<=k->k<8->0<=c->c<((gi W.IE k).IH.length:Int)->Kh W k c
 c:∀c:Int,0<=c->c<(W.IF.length:Int)->Bs W c
noncomputable def Qp(W:Q7):Bool:=Ju (XV W)
section
variable {W:Q7}
def WA.gl(h:WA W):W.IE.length=8:=h.tree.len
def WA.u(h:WA W){g:Int}(hu:Q6 W.IE g):0<=g/\g<8/\zpj W g (gi W.IE g):=by
 obtain⟨a,b,c⟩:=Q5.1 hu;have:=h.gl;exact⟨a,Qo,(h.grp g a Qo).2 c⟩
def WA.root(h:WA W):Q6 W.IE 0:=Q5.2 ⟨Qd,by have:=h.gl;omega,h.tree.ru⟩
def WA.sl(h:WA W){g:Int}(hu:Q6 W.IE g):(gi W.IE g).IH.length=W.IF.length:=(h.u hu).2.2.len
def WA.up(h:WA W){g:Int}(hu:Q6 W.IE g)(hz:g≠0):Q6 W.IE (gi W.IE g).IG:=(Y3 h.tree hu hz).1
def WA.dl(h:WA W){g:Int}(hu:Q6 W.IE g)(hq:(gi W.IE g).IM.I'≠0):(gi W.IE g).IM.RE.length=W.IF.length/\(gi W.IE g).IM.locals.length=W.IF.length:=by
 have hb:=(h.u hu).2.2.IM hq;exact⟨by rw[hb.1.dl,hb.2.1],hb.2.1⟩
end
def YY{v:Int}{w:Wo}{bs:List Nat}:PX bs ZV #[I v] w (.bool (ZZ v)):=zh7 v λwr hx=>⟨_,Qt,rfl⟩
def Y1{n:Int}{w:Wo}{bs:List Nat}:PX bs Zh #[I n] w (I (Qh n)):=
 zad n λwr hx=>⟨_,Qt,λg=>by
  unfold Qh;rw[B' (by simpa using g)],λg=>by
  have g':YT n (-10) 9:=by simpa using g
  have:=Qv.1 g';refine⟨⟨Qo,Qo⟩,?_⟩;unfold Qh;rw[C' g']⟩
def Xn{m:Int}{w:Wo}{bs:List Nat}:PX bs Yi #[I m] w (.bool (PK m)):=zh3 m λwr hx=>⟨_,Qt,rfl⟩
def Yk{m c:Int}{w:Wo}{bs:List Nat}:PX bs Zo #[I m,I c] w (.bool (Zk m c)):=
 zet m c λwr hx=>by
  have hr:(PK m&&YT c 0 3)->0<=c/\c<=3:=λg=>by
   simp only[A'] at g;exact Qv.1 g.2
  exact⟨_,Xn,_,λ_=>Qt,λg=>by have:=hr g;exact⟨Qo,by show c<=18446744073709551615;omega⟩,λg=>(hr g).1,λ_=>by decide,rfl⟩
def zr1(a b:Int):∀k:Nat,k<=4->0<=zcb a b k/\zcb a b k<Uc k
 |0,_=>by simp[zcb,Uc]
 |k+1,h=>by
  have ih:=zr1 a b k Qo
  have hb:Uc (k+1)=2*Uc k/\0<=Uc k:=by
   have:k=0\/k=1\/k=2\/k=3:=Qo;rcases this with rfl|rfl|rfl|rfl <;> decide
  simp only[zcb]
  split <;> omega
def z21{k:Nat}(h:k<=64):Qq .u64 (k:Int):=⟨by show (0:Int)<=(k:Int);omega,by show (k:Int)<=18446744073709551615;omega⟩
def Mr{a b:Int}{w:Wo}{bs:List Nat}:PX bs JJ #[I a,I b] w (I (TE a b)):=
 zes a b λwr hx=>by
  refine⟨_,Xn,_,λ_=>Xn,λg=>?_,λg=>?_⟩
  ·rw[XD]
   simpa using g
  ·simp only[H',I6] at g
   have he:TE a b=zcb a b 4:=by
    rw[OS g.1 g.2];obtain⟨x,rfl⟩:=K6 g.1;obtain⟨y,rfl⟩:=K6 g.2;exact(zwj x y).symm
   rw[he];refine P9 4 0 rfl (λx k=>k<=4/\x=zcb a b k) ⟨Qo,rfl⟩ λx k ⟨hk,hx⟩=>⟨λIV=>?_,λRW=>?_⟩
   ·have IV:=Ot IV;have hb:=BS (k:=k) Qo;have hl:=zr1 a b k hk;have gJ:(1*2 ^ (min (Int.toNat (k:Int)) 64):Int)=Uc k:=rfl;refine⟨_,Yk,_,λ_=>Yk,λh=>?_,λh=>?_⟩
    ·rw[gJ];refine⟨z21 Qo,⟨Qo,Qo,Qo⟩,⟨Qo,Qo⟩,⟨Qo,Qo⟩,QP Qo ⟨Qo,?_⟩⟩;rw[hx];simp only[zcb];rw[C' h]
    ·refine⟨⟨Qo,Qo⟩,QP Qo ⟨Qo,?_⟩⟩;rw[hx];simp only[zcb];rw[B' (by rw[h];decide)]
   ·have RW:=Ou RW;have:k=4:=Qo;subst this;rw[hx]
def Hj{b:Ue}(h:TF b):b.I'=0/\b.RU=0/\b.SB=0/\b.locals.length=0/\b.RE.length=0:=by
 unfold TF at h;simp only[A',Is] at h;omega
def Ge{b:Ue}{m:MG}{w:Wo}{bs:List Nat}:PX bs UK #[.agg (ZD b m).toArray] w (.bool (TF b)):=
 zam b.I' b.RU b.SB m.lO b.locals.length m.lC m.dO b.RE.length m.dC λwr hx=>λ_ _=>rfl
def DG{b:Ue}{m:MG}{w:Wo}{bs:List Nat}(h1:zm2 bs w m.lO b.locals)(h2:zwa bs w m.dO b.RE)(hl:b.locals.length<=maxLen):PX bs Ti #[.agg (ZD b m).toArray] w (.bool (Ju (OY b))):=
 zh1 b.I' b.RU b.SB m.lO b.locals.length m.lC m.dO b.RE.length m.dC λwr hx=>by
  have h1:=(h1.ext hx).less (cs:=[]) Qs;have h2:=(h2.ext hx).less (cs:=[]) Qs;intro _ _;refine⟨_,Qt,_,λ_=>Qt,_,λ_=>Qt,_,λ_=>Qt,λg=>Gg λp=>?_,λg=>?_⟩
  ·rw[Qv.2 ⟨p.q1,p.q2⟩,Qv.2 (by have:=p.l1;have:=p.l2;omega),Qv.2 ⟨p.p1,p.p2⟩,Qv.2 ⟨p.s1,p.s2⟩,p.dl] at g;simp at g
  ·simp only[H',I6,bne_eq_false_iff_eq,Qv] at g;obtain⟨⟨⟨⟨g1,g2⟩,g3⟩,g4⟩,g5⟩:=g;have hdl:b.RE.length=b.locals.length:=Qo
   have all:∀{k:Nat},k<=b.locals.length->(∀c:Int,0<=c->c<(k:Int)->0<=gi b.locals c/\gi b.locals c<=b.I'/\(gi b.RE c=true->gi b.locals c=0/\b.RU=0))->0<=Vi b.locals k/\Vi b.locals k<=40000:=λ{k} hk h=>by
    have key:∀j:Nat,j<=k->0<=Vi b.locals j/\Vi b.locals j<=(j:Int)*10000:=λj=>by
     induction j with
     |zero=>intro _;simp[Vi]
     |succ j ih=>
      intro hj;have:=ih Qo;have:=h (j:Int) Qo Qo;simp only[Vi];omega
    have:=key k (I7 _);omega
   refine⟨⟨Qo,Qo⟩,?_⟩;refine P9 b.locals.length 0 rfl (λx k=>k<=b.locals.length/\x=b.RU+b.SB+Vi b.locals k/\∀c:Int,0<=c->c<(k:Int)->0<=gi b.locals c/\gi b.locals c<=b.I'/\(gi b.RE c=true->gi b.locals c=0/\b.RU=0)) ⟨Ic _,by simp[Vi],λc h0 h1=>by omega⟩ λx k ⟨hk,Rg,hI⟩=>⟨λIV=>?_,λRW=>?_⟩
   ·have IV:=Ot IV;have Re:(k:Int)<(b.RE.length:Int):=Qo;have hsr:=all hk hI;refine⟨h1.ix XP Qo IV,_,h1 k Qo IV,_,Qt,λ_=>h2.ix Lw Qo Re,_,λ_=>h2 k Qo Re,λ_ _=>h1.ix XP Qo IV,_,λ_ _=>h1 k Qo IV,λg=>Gg λp=>?_,λg=>⟨h1.ix XP Qo IV,_,h1 k Qo IV,?_⟩⟩
    ·have pe:=p.each (k:Int) Qo IV;rw[Qv.2 ⟨pe.1,pe.2.1⟩] at g;simp only[Bool.not_true,Bool.false_or,A',Iu,Ij] at g;have:=pe.2.2 g.1;omega
    ·simp only[H',I6,Qv] at g;obtain⟨ga,gb⟩:=g;refine⟨⟨Qo,Qo⟩,⟨Qo,Qo⟩,QP Qo ⟨Qo,by simp only[Vi];omega,λc hc0 hc=>?_⟩⟩
     by_cases hck:c<(k:Int)
     ·exact hI c hc0 hck
     ·have:c=(k:Int):=Qo;subst this;refine⟨ga.1,ga.2,λhd=>?_⟩;rw[hd] at gb;simp only[Bool.true_and,H',decide_eq_false_iff_not] at gb;omega
   ·have RW:=Ou RW;have:k=b.locals.length:=Qo;subst this;refine PB ?_;rw[Is,Rg];constructor
    ·intro hs;exact⟨g1.1,g1.2,Qo,Qo,hdl,g4.1,g4.2,g5.1,g5.2,hI,hs⟩
    ·exact λp=>p.sum
section
variable {W:Q7}{m:MW}{w:Wo}{bs:List Nat}
def G6.Rn{gs:List Zb}{ms:Nat->MG}{o:OA}(h:G6 bs w o gs ms){i:Int}(h0:0<=i)(h1:i<(gs.length:Int)):Q1 bs w o (Int.toNat i*14+13) [.slice (ms i.toNat).sO (gi gs i).IH.length (ms i.toNat).sC]:=(h.cells i h0 h1).get 13 _ rfl
def G6.IF{gs:List Zb}{ms:Nat->MG}{o:OA}(h:G6 bs w o gs ms){i:Int}(h0:0<=i)(h1:i<(gs.length:Int)):Q1 bs w o (Int.toNat i*14+4) [I (gi gs i).IF]:=(h.cells i h0 h1).get 4 _ rfl
def G6.IM{gs:List Zb}{ms:Nat->MG}{o:OA}(h:G6 bs w o gs ms){i:Int}(h0:0<=i)(h1:i<(gs.length:Int)):Q1 bs w o (Int.toNat i*14+8) (ZD (gi gs i).IM (ms i.toNat)):=Og λj v hj=>by
 have e:Yq (gi gs i) (ms i.toNat)=((Yq (gi gs i) (ms i.toNat)).take 8++ZD (gi gs i).IM (ms i.toNat))++[.slice (ms i.toNat).sO (gi gs i).IH.length (ms i.toNat).sC]:=rfl
 have hj':j<5:=by
  have:=(I8.1 hj).1
  simpa[ZD] using this
 have:=(h.cells i h0 h1).get (8+j) v (by
  rw[e,Ip (by simp[Yq,ZD];omega),List.getElem?_append_right (by simp[Yq])]
  simpa[Yq] using hj)
 rwa[<-Nat.add_assoc] at this
def zz8.f{ts:List MQ}{o:OA}(h:zz8 bs w o ts){i:Int}(h0:0<=i)(h1:i<(ts.length:Int)){j:Nat}{v:Va}(hj:(X4 (gi ts i))[j]? = some v):Q1 bs w o (Int.toNat i*9+j) [v]:=Ug ((h i h0 h1).get j v hj)
def z5p.f{cs:List PZ}{o:OA}(h:z5p bs w o cs){i:Int}(h0:0<=i)(h1:i<(cs.length:Int)){j:Nat}{v:Va}(hj:(Gm (gi cs i))[j]? = some v):Q1 bs w o (Int.toNat i*5+j) [v]:=Ug ((h i h0 h1).get j v hj)
def zm0.f{ss:List KD}{o:OA}(h:zm0 bs w o ss){i:Int}(h0:0<=i)(h1:i<(ss.length:Int)){j:Nat}{v:Va}(hj:(T4 (gi ss i))[j]? = some v):Q1 bs w o (Int.toNat i*5+j) [v]:=Ug ((h i h0 h1).get j v hj)
def LE(h:J6 bs w W m)(h4:W.IF.length<=4):PX bs Vb #[.agg (Qa W m).toArray] w (I (JC W.IF)):=
 zl8 _ _ _ _ _ _ _ _ _ _ λwr hx=>by
  have h:=(h.ext hx).less (cs:=[]) Qs;intro _ _;refine P9 W.IF.length 0 rfl (λx k=>k<=W.IF.length/\x=Vj W.IF k) ⟨Ic _,rfl⟩ λx k ⟨hk,Rg⟩=>⟨λIV=>?_,λRW=>?_⟩
  ·have IV:=Ot IV;have hb:=BS (k:=k) Qo;have hl:=HZ W.IF k Qo;have gJ:(1*2 ^ (min (Int.toNat (k:Int)) 64):Int)=Uc k:=rfl;refine⟨h.c.ix Y9 Qo IV,_,h.c.f Qo IV (j:=0) rfl,λhu=>?_,λhu=>?_⟩
   ·rw[gJ];refine⟨z21 Qo,⟨Qo,Qo,Qo⟩,⟨Qo,Qo⟩,⟨Qo,Qo⟩,QP Qo ⟨Qo,?_⟩⟩;rw[Rg];simp only[Vj];rw[C' hu]
   ·refine⟨⟨Qo,Qo⟩,QP Qo ⟨Qo,?_⟩⟩;rw[Rg];simp only[Vj];rw[B' (by rw[hu];decide)]
  ·have RW:=Ou RW;have:k=W.IF.length:=Qo;subst this;rw[Rg];rfl
def zhl{g:Int}(h:J6 bs w W m)(ht:Yh W.IE)(hu:Q6 W.IE g):PX bs Mf #[.agg (Qa W m).toArray,I g] w (I (zo2 W.IE g)):=
 zib _ _ _ _ _ _ _ _ _ _ g λwr hx=>by
  have h:=(h.ext hx).less (cs:=[]) Qs;intro _ _;obtain⟨u1,u2,_⟩:=Q5.1 hu;refine⟨h.g.ix u1 u2,_,h.g.IF u1 u2,λvs=>∃(x s:Int),vs=[I x,I s]/\Q6 W.IE x/\(QM W.IE x).foldl (λs x=>TE s (gi W.IE (gi W.IE x).IG).IF) s=zo2 W.IE g,λvs=>(dep 3 W.IE (Y4 0 vs)).toNat,⟨g,_,rfl,hu,rfl⟩,?_⟩;rintro x s ⟨x',s',he,hux,hI⟩;simp only[I4,I5,true_and,and_true] at he;obtain⟨rfl,rfl⟩:=he;refine⟨λhz=>?_,λhz=>?_⟩
  ·have hz:x≠0:=by simpa using hz
   obtain⟨hp,a,b,d,e,e2,hd⟩:=Y3 ht hux hz;obtain⟨v1,v2,_⟩:=Q5.1 hp;rw[Yg ht hux hz,List.foldl_cons] at hI
   exact⟨h.g.ix a b,_,h.g.IG a b,h.g.ix v1 v2,_,h.g.IF v1 v2,_,Mr,⟨_,_,rfl,hp,hI⟩,by
    show (dep 3 W.IE (gi W.IE x).IG).toNat<(dep 3 W.IE x).toNat;omega⟩
  ·have hz:x=0:=by simpa using hz
   subst hz;rw[show QM W.IE 0=[] from Zc _ _,List.foldl_nil] at hI;rw[hI]
def Jg{g mask:Int}(h:J6 bs w W m)(h4:W.IF.length<=4)(ht:Yh W.IE)(hu:Q6 W.IE g):PX bs YB #[.agg (Qa W m).toArray,I g,I mask] w (I (QF W g mask)):=
 ze2 _ _ _ _ _ _ _ _ _ _ g mask λwr hx=>by
  have h:=(h.ext hx).less (cs:=[]) Qs;intro _ _;have hk:=Mr (a:=zo2 W.IE g) (b:=JC W.IF) (w:=wr) (bs:=[]);rw[zzj ht hu] at hk;refine⟨_,LE h h4,_,zhl h ht hu,_,hk,_,Mr,λg1=>?_,λg1=>⟨λg2=>?_,λg2=>?_⟩⟩
  ·unfold QF;rw[C' (by simpa using g1)]
  ·unfold QF;rw[B' (by simpa using g1),C' (by simpa using g2)]
  ·unfold QF;rw[B' (by simpa using g1),B' (by simpa using g2)]
def LD{g c:Int}(h:J6 bs w W m)(ha:WA W)(hu:Q6 W.IE g)(c0:0<=c)(c1:c<(W.IF.length:Int)):PX bs V8 #[.agg (Qa W m).toArray,I g,I c] w (.bool (Jm W g c)):=
 zl7 _ _ _ _ _ _ _ _ _ _ g c λwr hx=>by
  have h:=(h.ext hx).less (cs:=[]) Qs;intro _ _;obtain⟨u1,u2,_⟩:=Q5.1 hu
  have hd:(decide ((gi W.IE g).IM.I'>0))->c<((gi W.IE g).IM.RE.length:Int):=λg1=>by
   have:=Ot g1;rw[(ha.dl hu Qo).1];exact c1
  exact⟨h.g.ix u1 u2,_,_,_,_,_,_,_,_,_,h.g.IM u1 u2,λ_ _=>⟨λg1=>(h.g.RE g u1 u2).ix Lw c0 (hd g1),_,λg1=>(h.g.RE g u1 u2) c c0 (hd g1),rfl⟩⟩
def Vx{g c:Int}(h:J6 bs w W m)(ha:WA W)(hu:Q6 W.IE g)(c0:0<=c)(c1:c<(W.IF.length:Int)):PX bs Xt #[.agg (Qa W m).toArray,I g,I c] w (.bool (Qb W g c).on):=
 zan _ _ _ _ _ _ _ _ _ _ g c λwr hx=>by
  have h:=(h.ext hx).less (cs:=[]) Qs;intro _ _;obtain⟨u1,u2,_⟩:=Q5.1 hu;have hs:=ha.sl hu;have c2:c<((gi W.IE g).IH.length:Int):=Qo;exact⟨h.g.ix u1 u2,_,_,_,h.g.Rn u1 u2,(h.g.IH g u1 u2).ix YM c0 c2,_,zm0.f (h.g.IH g u1 u2) c0 c2 (j:=1) rfl,rfl⟩
def zbg{gs:List Zb}{k:Nat}(hk:(k:Int)<(gs.length:Int))(hu:(gi gs (k:Int)).IW):Q6 gs (k:Int):=Q5.2 ⟨Qo,hk,hu⟩
def Pw{g c:Int}(h:J6 bs w W m)(ha:WA W)(c0:0<=c)(c1:c<(W.IF.length:Int)):PX bs Je #[.agg (Qa W m).toArray,I g,I c] w (.bool (QJ W g c)):=
 zak _ _ _ _ _ _ _ _ _ _ g c λwr hx=>by
  have h:=(h.ext hx).less (cs:=[]) Qs;intro _ _;have cZ:=ha.gl;have hm9:=ZW;refine YU W.IJ.length 0 rfl (λk=>k<=W.IJ.length/\∀j:Nat,j<k->dU W g c j=false) ⟨Ic _,λj hj=>Ir hj (Nat.not_lt_zero j)⟩ λk ⟨hk,hI⟩=>⟨λIV=>?_,λRW=>?_⟩
  ·have IV:=Ot IV;have ht:=ha.t;refine⟨h.t.ix QT Qo IV,_,h.t.f Qo IV (j:=0) rfl,λ_=>h.t.ix QT Qo IV,_,λ_=>h.t.f Qo IV (j:=1) rfl,λ_=>h.t.ix QT Qo IV,_,λ_=>h.t.f Qo IV (j:=2) rfl,λhy=>?_,λhn=>⟨⟨Qo,Qo⟩,Qy Qo ⟨Qo,λj hj=>?_⟩⟩⟩
   ·unfold QJ;rw[E4.2 ⟨k,Qo,hy⟩];rfl
   ·by_cases jD:j<k
    ·exact hI j jD
    ·have:j=k:=Qo;subst this;exact hn
  ·have RW:=Ou RW;have rF:TV (dU W g c) W.IJ.length=false:=zkk λj hj=>hI j Qo
   refine YU W.IE.length 1 rfl (λk=>1<=k/\k<=W.IE.length/\∀j:Nat,j<k->WV W g c j=false) ⟨I7 _,Qo,λj hj=>by
    have:j=0:=Qo;subst this;simp[WV]⟩ λk ⟨hk1,hk,hI⟩=>⟨λIV=>?_,λRW=>?_⟩
   ·have IV:=Ot IV;refine⟨h.g.ix Qo IV,_,h.g.IW Qo IV,λ_=>h.g.ix Qo IV,_,λ_=>h.g.IG Qo IV,(Qb W (k:Int) c).on,λhu=>Vx h ha (zbg IV (by simp only[A'] at hu;exact hu.1)) c0 c1,λhy=>?_,λhn=>⟨⟨Qo,Qo⟩,Qy Qo ⟨Qo,Qo,λj hj=>?_⟩⟩⟩
    ·unfold QJ
     have:TV (WV W g c) W.IE.length:=E4.2 ⟨k,Qo,by
      unfold WV;rw[Ih hk1,Bool.true_and];exact hy⟩
     rw[this,Bool.or_true]
    ·by_cases jD:j<k
     ·exact hI j jD
     ·have:j=k:=Qo;subst this;unfold WV;rw[Ih hk1,Bool.true_and];exact hn
   ·have RW:=Ou RW;have:TV (WV W g c) W.IE.length=false:=zkk λj hj=>hI j Qo
    unfold QJ;rw[rF,this];rfl
def Vw{t:Int}(h:J6 bs w W m)(ha:WA W)(t0:0<=t)(t1:t<(W.IJ.length:Int))(hu:(Q8 W t).state=1->Q6 W.IE (Q8 W t).II/\0<=(Q8 W t).R2/\(Q8 W t).R2<(W.IF.length:Int)) :
  PX bs YQ #[.agg (Qa W m).toArray,I t] w (.bool (Zq W t)):=
 zal _ _ _ _ _ _ _ _ _ _ t λwr hx=>by
  have h:=(h.ext hx).less (cs:=[]) Qs;intro _ _;refine⟨h.t.ix QT t0 t1,_,_,_,_,_,_,_,_,_,h.t t t0 t1,λ_ _=>⟨λg=>?_,λg=>?_⟩⟩
  ·have:((Q8 W t).state==1)=false:=by simpa[Q8] using g
   unfold Zq;rw[this];rfl
  ·have hs:(Q8 W t).state=1:=by simpa[Q8] using g
   obtain⟨hug,hc0,hc1⟩:=hu hs;have hL:Zq W t=Ut W (Q8 W t).II (Q8 W t).R2:=by unfold Zq;rw[Is.2 hs,Bool.true_and]
   rw[hL];refine⟨λvs=>∃x:Int,vs=[I x]/\Q6 W.IE x/\Ut W x (Q8 W t).R2=Ut W (Q8 W t).II (Q8 W t).R2,λvs=>(dep 3 W.IE (Y4 0 vs)).toNat,⟨_,rfl,hug,rfl⟩,?_⟩;rintro x ⟨x',he,hux,hI⟩;simp only[I4,I5,true_and,and_true] at he;subst he;refine⟨λhz=>?_,λhz=>?_⟩
   ·have hz:x≠0:=by simpa using hz
    obtain⟨hp,a,b,d,e,e2,hd⟩:=Y3 ha.tree hux hz;unfold Ut at hI;rw[Yg ha.tree hux hz,List.all_cons] at hI
    refine⟨_,Vx h ha hux hc0 hc1,λg2=>?_,λg2=>⟨h.g.ix a b,_,h.g.IG a b,⟨_,rfl,hp,?_⟩,by
     show (dep 3 W.IE (gi W.IE x).IG).toNat<(dep 3 W.IE x).toNat;omega⟩⟩
    ·have g2:(Qb W x (Q8 W t).R2).on=false:=by simpa[Q8] using g2
     rw[g2,Bool.false_and] at hI;unfold Ut;rw[<-hI]
    ·have g2:(Qb W x (Q8 W t).R2).on:=by simpa[Q8] using g2
     rw[g2,Bool.true_and] at hI;exact hI
   ·have hz:x=0:=by simpa using hz
    subst hz;unfold Ut at hI;rw[show QM W.IE 0=[] from Zc _ _,List.all_nil] at hI;unfold Ut;rw[<-hI]
end
def Ha{v f k:Int}{w:Wo}{bs:List Nat}:PX bs Vr #[I v,I f,I k] w (.bool (KB v f k)):=
 ze1 v f k λwr hx=>⟨IntKind.i64.wrap (v-f),λ_ wq=>by simp[eqGuard,binOp,Op.intArith],_,λ_=>H6,rfl⟩
def Nb:zbi Tryz.prog QS:=⟨Qk,Qk,Qk⟩
def zla(a b:MQ):Dz Tryz.prog (Tryz.prog.fieldsOf QS).toList 0 (X4 a) (X4 b)=some ((a.state==b.state)&&((a.II==b.II)&&((a.R2==b.R2)&&((a.nice==b.nice)&&((a.mask==b.mask)&&((a.v==b.v)&&((a.sum==b.sum)&&((a.IW==b.IW)&&((a.load==b.load)&&true))))))))):=Qk
def zmp{a b:MQ}:((a.state==b.state)&&((a.II==b.II)&&((a.R2==b.R2)&&((a.nice==b.nice)&&((a.mask==b.mask)&&((a.v==b.v)&&((a.sum==b.sum)&&((a.IW==b.IW)&&((a.load==b.load)&&true)))))))))=decide (a=b):=by
 cases a;cases b
 simp only[MQ.mk.injEq,Bool.and_true];rw[Bool.eq_iff_iff];simp only[A',Is,Ij]
section
variable {W:Q7}{m:MW}{w:Wo}{bs:List Nat}
def Nw{k:Int}(h:J6 bs w W m)(hn:0<=W.now)(k0:0<=k)(k1:k<(W.IE.length:Int))(hf:zpi (gi W.IE k)):PX bs Tt #[.agg (Qa W m).toArray,I k] w (.bool (Ju (Kg W k))):=
 NS _ _ _ _ _ _ _ _ _ _ k λwr hx=>by
  have h:=(h.ext hx).less (cs:=[]) Qs;intro _ _;refine⟨h.g.ix k0 k1,_,_,_,_,_,_,_,_,_,_,_,_,_,_,_,_,_,_,_,_,h.g.cells k k0 k1,λ_ _=>⟨λg=>?_,λg=>?_⟩⟩
  ·have hu:(gi W.IE k).IW=false:=by simpa using g
   refine⟨_,λ_=>Ge (b:=(gi W.IE k).IM) (m:=m.ms k.toNat),PB ?_⟩;simp only[A',Is,JS];constructor
   ·rintro⟨⟨⟨⟨⟨⟨⟨⟨e1,e2⟩,e3⟩,e4⟩,e5⟩,e6⟩,e7⟩,e8⟩,e9⟩;exact⟨λ_=>⟨e1,e2,e3,e4,e5,e6,e7,Qo,e9⟩,λhu'=>by rw[hu'] at hu;cases hu⟩
   ·intro p;have q:=p.1 hu;exact⟨⟨⟨⟨⟨⟨⟨⟨q.p,q.n⟩,q.w⟩,q.c⟩,q.pe⟩,q.ne⟩,q.s⟩,by have:=q.l;omega⟩,q.b⟩
  ·have hu:(gi W.IE k).IW:=by simpa using g
   have mk:zpj W k (gi W.IE k)->Kg W k:=λq=>⟨λhu'=>(by rw[hu'] at hu;cases hu),λ_=>q⟩
   refine⟨_,JM,_,λ_=>Xn,_,λ_=>YY,λg2=>Gg λp=>?_,λg2=>⟨λg3=>Gg λp=>?_,λg3=>⟨λg4=>⟨_,Ge (b:=(gi W.IE k).IM) (m:=m.ms k.toNat),PB ?_⟩,λg4=>⟨_,DG (b:=(gi W.IE k).IM) (m:=m.ms k.toNat) (h.g.locals k k0 k1) (h.g.RE k k0 k1) hf.lo,_,λ_=>Qt,λg5=>?_,PB ?_⟩⟩⟩⟩
   ·have q:=p.2 hu;have e1:YT (gi W.IE k).R3 1 20:=Qv.2 ⟨q.w1,q.w2⟩;have e3:((gi W.IE k).IF==0)=false:=by simpa using q.m0
    have e5:(((gi W.IE k).IH.length:Nat):Int)=((W.IF.length:Nat):Int):=by have:=q.len;omega
    rw[e1,q.m,e3,q.s,e5] at g2;simp at g2
   ·have q:=p.2 hu;simp only[A',Is] at g3;have r:=q.root g3.1;rw[r.1,r.2.1,r.2.2] at g3;simp at g3
   all_goals
    simp only[H',I6,bne_eq_false_iff_eq,Qv,beq_eq_false_iff_ne] at g2;obtain⟨⟨⟨⟨a1,a2⟩,a3⟩,a4⟩,a5⟩:=g2;have hlen:(gi W.IE k).IH.length=W.IF.length:=Qo
    have CJ0:k=0->(gi W.IE k).R3=10/\(gi W.IE k).IF=15/\(gi W.IE k).IM.I'=0:=λhk=>by
     rw[Is.2 hk,Bool.true_and] at g3;simp only[H',bne_eq_false_iff_eq] at g3;exact⟨g3.1.1,g3.1.2,g3.2⟩
   ·have q0:(gi W.IE k).IM.I'=0:=by simpa using g4
    simp only[A',Is];constructor
    ·rintro⟨⟨e1,e2⟩,e3⟩;exact mk ⟨a1.1,a1.2,a2,a3,a4,hlen,CJ0,λ_=>⟨e1,e2,e3⟩,λeO=>Ir q0 eO⟩
    ·intro p;have q:=(p.2 hu).none q0;exact⟨⟨q.1,q.2.1⟩,q.2.2⟩
   ·simp only[A',Is,Ij] at g5;have:=hf.nx;exact⟨by have:=this.1;omega,by have:=this.2;omega⟩
   ·have q0:(gi W.IE k).IM.I'≠0:=by simpa using g4
    simp only[A',Is,Ij,Qm,Qv];constructor
    ·rintro⟨⟨⟨⟨e1,e2⟩,e3⟩,e4⟩,e5⟩;exact mk ⟨a1.1,a1.2,a2,a3,a4,hlen,CJ0,λeO=>Ir eO q0,λ_=>⟨e1,Qo,e3.1,e3.2,e4,e5⟩⟩
    ·intro p;have q:=(p.2 hu).IM q0;exact⟨⟨⟨⟨q.1,by have:=q.2.1;omega⟩,q.2.2.1,q.2.2.2.1⟩,q.2.2.2.2.1⟩,q.2.2.2.2.2⟩
def GS{W:Q7}(ha:WA W){g mask c:Int}(hc:Zk (QF W g mask) c):0<=c/\c<(W.IF.length:Int):=by
 have h1:=zvy hc;exact⟨(Mt h1).2.1,(zmr W.IF _ ha.c2 h1).1⟩
def k9{t:Int}(h:J6 bs w W m)(ha:WA W)(t0:0<=t)(t1:t<(W.IJ.length:Int)):PX bs OE #[.agg (Qa W m).toArray,I t] w (.bool (Ju (AA W t))):=
 zap _ _ _ _ _ _ _ _ _ _ t λwr hx=>by
  have h:=(h.ext hx).less (cs:=[]) Qs;intro _ _;have cZ:=ha.gl;have hm9:=ZW;refine⟨h.t.ix QT t0 t1,_,_,_,_,_,_,_,_,_,h.t t t0 t1,λ_ _=>⟨λg=>?_,λg=>?_⟩⟩
  ·have hs:(gi W.IJ t).state=0:=by simpa using g
   refine⟨_,λwq=>zfc Nb (zla (gi W.IJ t) T3) _ _ wq,PB ?_⟩;rw[zmp,Ij];constructor
   ·exact λe=>.inl ⟨hs,e⟩
   ·rintro (⟨_,e⟩|⟨e,_⟩)
    ·exact e
    ·exact Ir hs e
  ·have hs:(gi W.IJ t).state≠0:=by simpa using g
   have no:∀{q:AA W t},z0j W (gi W.IJ t):=λ{q}=>by
    rcases q with ⟨e,_⟩|⟨_,q⟩
    ·exact Ir e hs
    ·exact q
   refine⟨_,λ_=>Xo (c:=m.gC) h.g,_,λ_=>Y1,_,λ_=>Xn,λg2=>Gg λp=>?_,λg2=>?_⟩
   ·have q:=no (q:=p);have e3:(Qh (gi W.IJ t).nice==0)=false:=by simpa using q.n
    have e4:((gi W.IJ t).mask==0)=false:=by simpa using q.m0
    rw[q.g,e3,q.m,e4] at g2;simp only[Bool.not_true,Bool.or_false,A',It] at g2;have:=q.st;omega
   ·simp only[H',I6,beq_eq_false_iff_ne] at g2;obtain⟨⟨⟨⟨a1,a2⟩,a3⟩,a4⟩,a5⟩:=g2
    have st:(gi W.IJ t).state=1\/(gi W.IJ t).state=2:=by
     by_cases h1:(gi W.IJ t).state=1
     ·exact .inl h1
     ·refine .inr ?_;have:((gi W.IJ t).state != 1):=by simpa using h1
      rw[this,Bool.true_and] at a1
      simpa using a1
    refine⟨_,YY,_,λ_=>YY,_,λ_=>YY,_,λ_=>Qt,QF W (gi W.IJ t).II (gi W.IJ t).mask,λ_=>Jg h ha.c2 ha.tree a2,_,λ_=>Yk,λg3=>Gg λp=>?_,λg3=>?_⟩
    ·have q:=no (q:=p);have e4:YT (gi W.IJ t).load 0 8000000:=Qv.2 ⟨q.l1,q.l2⟩;rw[q.v,q.s,q.u,e4,q.c] at g3;simp at g3
    ·simp only[H',I6,Qv] at g3;obtain⟨⟨⟨⟨b1,b2⟩,b3⟩,b4⟩,b5⟩:=g3;obtain⟨u1,u2,_⟩:=Q5.1 a2;obtain⟨c0,c1⟩:=GS ha b5;have hsl:=ha.sl a2;have c2:(gi W.IJ t).R2<((gi W.IE (gi W.IJ t).II).IH.length:Int):=Qo;refine⟨λ_=>h.g.ix u1 u2,_,_,_,λ_=>h.g.Rn u1 u2,λ_=>(h.g.IH _ u1 u2).ix YM c0 c2,_,λ_=>zm0.f (h.g.IH _ u1 u2) c0 c2 (j:=0) rfl,_,λ_=>Y1,_,λ_=>Ha,PB ?_⟩;simp only[Iu,Is];constructor
     ·intro e
      exact .inr ⟨hs,⟨st,a2,a3,a4,a5,b1,b2,b3,b4.1,b4.2,b5,λe1=>by
       rcases e with e|e
       ·have e:(gi W.IJ t).state=2:=e;have e1:(gi W.IJ t).state=1:=e1;omega
       ·exact e⟩⟩
     ·intro p;have q:=no (q:=p);rcases st with e|e
      ·exact .inr (q.f e)
      ·exact .inl e
def Nx{k c:Int}(h:J6 bs w W m)(ha:WA W)(k0:0<=k)(k1:k<(W.IE.length:Int))(c0:0<=c)(c2:c<((gi W.IE k).IH.length:Int)):PX bs Tu #[.agg (Qa W m).toArray,I k,I c] w (.bool (Ju (Kh W k c))):=
 NT _ _ _ _ _ _ _ _ _ _ k c λwr hx=>by
  have h:=(h.ext hx).less (cs:=[]) Qs;intro _ _;have cZ:=ha.gl
  have hus:(gi W.IE k).IW:=by
   cases hu:(gi W.IE k).IW with
   |true=>rfl
   |false=>
    have:=((ha.grp k k0 Qo).1 hu).l;omega
  have hu:Q6 W.IE k:=Q5.2 ⟨k0,k1,hus⟩;have hsl:=ha.sl hu;have c1:c<(W.IF.length:Int):=Qo;refine⟨h.g.ix k0 k1,_,_,_,_,_,_,_,_,_,_,_,_,_,_,_,_,_,_,_,_,h.g.cells k k0 k1,λ_ _=>⟨(h.g.IH k k0 k1).ix YM c0 c2,_,_,_,_,_,(h.g.IH k k0 k1) c c0 c2,λ_ _=>⟨_,YY,_,λ_=>YY,_,λ_=>YY,_,λ_=>JM,λg=>Gg λp=>?_,λg=>⟨λg2=>PB ?_,λg2=>⟨_,Pw h ha c0 c1,_,λ_=>LD h ha hu c0 c1,λg3=>Gg λp=>?_,λg3=>?_⟩⟩⟩⟩⟩
  ·have e1:=p.f;have e2:=p.v;have e3:=p.s;have e4:YT (Qb W k c).w 1 20:=Qv.2 ⟨p.w1,p.w2⟩;have g':(((!ZZ (Qb W k c).IL || !ZZ (Qb W k c).v) || !ZZ (Qb W k c).sum) || !YT (Qb W k c).w 1 20):=g;rw[e1,e2,e3,e4] at g'
   cases g'
  ·have g':(((!ZZ (Qb W k c).IL || !ZZ (Qb W k c).v) || !ZZ (Qb W k c).sum) || !YT (Qb W k c).w 1 20)=false:=g;simp only[H',I6,Qv] at g';obtain⟨⟨⟨a1,a2⟩,a3⟩,a4⟩:=g';have hk:k=0:=by simpa using g2
   show ((!(Qb W k c).on&&((Qb W k c).v==0))&&((Qb W k c).w==10))=true↔_;simp only[A',ID,Is];constructor
   ·rintro⟨⟨e1,e2⟩,e3⟩;exact⟨a1,a2,a3,a4.1,a4.2,λ_=>⟨e1,e2,e3⟩,λeO=>Ir hk eO,λeO=>Ir hk eO⟩
   ·intro p;have q:=p.root hk;exact⟨⟨q.1,q.2.1⟩,q.2.2⟩
  ·have hk:k≠0:=by simpa using g2
   have g3':(!((Qb W k c).on==(QJ W k c && !Jm W k c))):=g3;rw[p.on hk] at g3';simp at g3'
  ·have g':(((!ZZ (Qb W k c).IL || !ZZ (Qb W k c).v) || !ZZ (Qb W k c).sum) || !YT (Qb W k c).w 1 20)=false:=g;simp only[H',I6,Qv] at g';obtain⟨⟨⟨a1,a2⟩,a3⟩,a4⟩:=g';have hk:k≠0:=by simpa using g2
   have hon:(Qb W k c).on=(QJ W k c && !Jm W k c):=by
    have g3':(!((Qb W k c).on==(QJ W k c && !Jm W k c)))=false:=g3
    simpa using g3'
   have hp:=ha.up hu hk;obtain⟨v1,v2,_⟩:=Q5.1 hp;have hpl:=ha.sl hp;have c3:c<((gi W.IE (gi W.IE k).IG).IH.length:Int):=Qo;refine⟨λ_=>h.g.ix v1 v2,_,_,_,λ_=>h.g.Rn v1 v2,λ_=>(h.g.IH _ v1 v2).ix YM c0 c3,_,λ_=>zm0.f (h.g.IH _ v1 v2) c0 c3 (j:=0) rfl,_,λ_=>Ha,PB ?_⟩;show (!(Qb W k c).on||KB (Qb W k c).v (Qb W (gi W.IE k).IG c).IL (Qb W k c).w)=true↔_;simp only[Iu,ID];constructor
   ·intro e
    exact⟨a1,a2,a3,a4.1,a4.2,λe0=>Ir e0 hk,λ_=>hon,λ_ ho=>by
     rcases e with e|e
     ·rw[ho] at e;cases e
     ·exact e⟩
   ·intro p
    cases ho:(Qb W k c).on with
    |false=>exact .inl rfl
    |true=>exact .inr (p.st hk ho)
def zlt{t:Int}(ht:AA W t)(hl:Zq W t):z0j W (Q8 W t)/\(Q8 W t).state=1:=by
 have hs:(Q8 W t).state=1:=by
  unfold Zq at hl;simp only[A',Is] at hl;exact hl.1
 rcases ht with ⟨e,_⟩|⟨_,q⟩
 ·omega
 ·exact⟨q,hs⟩
def Ni{a b:Int}(ha:ZZ a)(hb:ZZ b):Qq .i64 (a-b):=by
 have:=Xg.1 ha;have:=Xg.1 hb;exact⟨Qo,Qo⟩
def k7{c:Int}(h:J6 bs w W m)(ha:WA W)(hts:∀t:Int,0<=t->t<12->AA W t)(hss:∀k c:Int,0<=k->k<8->0<=c->c<((gi W.IE k).IH.length:Int)->Kh W k c)(c0:0<=c)(c1:c<(W.IF.length:Int))(t0:0<=(gi W.IF c).cur)(t1:(gi W.IF c).cur<(W.IJ.length:Int))(hl:Zq W (gi W.IF c).cur) :
  PX bs OD #[.agg (Qa W m).toArray,I c] w (.bool (MJ W c)):=
 zao _ _ _ _ _ _ _ _ _ _ c λwr hx=>by
  have h:=(h.ext hx).less (cs:=[]) Qs;intro _ _;have qT:=ha.t;have cZ:=ha.gl;obtain⟨q,_⟩:=zlt (hts _ t0 Qo) hl;have a2:=q.g;obtain⟨u1,u2,_⟩:=Q5.1 a2
  have sl:∀{x:Int},Q6 W.IE x->0<=x/\x<(W.IE.length:Int)/\c<((gi W.IE x).IH.length:Int)/\Kh W x c:=λ{x} hx=>by
   obtain⟨v1,v2,_⟩:=Q5.1 hx;have e:=ha.sl hx;have c3:c<((gi W.IE x).IH.length:Int):=Qo;exact⟨v1,v2,c3,hss x c v1 Qo c0 c3⟩
  obtain⟨_,_,c2,sp⟩:=sl a2;refine⟨h.c.ix Y9 c0 c1,_,_,_,_,_,h.c c c0 c1,λ_ _=>⟨h.t.ix QT t0 t1,_,_,_,_,_,_,_,_,_,h.t _ t0 t1,λ_ _=>⟨h.g.ix u1 u2,_,_,_,h.g.Rn u1 u2,(h.g.IH _ u1 u2).ix YM c0 c2,_,zm0.f (h.g.IH _ u1 u2) c0 c2 (j:=0) rfl,Ni q.v sp.f,_,Y1,_,XC,λg=>?_,λg=>?_⟩⟩⟩
  ·have g:=Ot g;have hd:¬((Q8 W (gi W.IF c).cur).v-(Qb W (Q8 W (gi W.IF c).cur).II c).IL<=Z2 (gi W.IF c).Wh (Qh (Q8 W (gi W.IF c).cur).nice)):=Int.not_le.2 g;unfold MJ;rw[decide_eq_false hd];rfl
  ·have g:=Ou g
   have hS:MJ W c=Od W (Q8 W (gi W.IF c).cur).II c (gi W.IF c).Wh:=by
    have hd:(Q8 W (gi W.IF c).cur).v-(Qb W (Q8 W (gi W.IF c).cur).II c).IL<=Z2 (gi W.IF c).Wh (Qh (Q8 W (gi W.IF c).cur).nice):=Int.not_lt.1 g;unfold MJ;rw[Ih hd,Bool.true_and]
   rw[hS];refine⟨λvs=>∃x:Int,vs=[I x]/\Q6 W.IE x/\Od W x c (gi W.IF c).Wh=Od W (Q8 W (gi W.IF c).cur).II c (gi W.IF c).Wh,λvs=>(dep 3 W.IE (Y4 0 vs)).toNat,⟨_,rfl,a2,rfl⟩,?_⟩;rintro x ⟨x',he,hux,hI⟩;simp only[I4,I5,true_and,and_true] at he;subst he;refine⟨λhz=>?_,λhz=>?_⟩
   ·have hz:x≠0:=by simpa using hz
    obtain⟨hp,a,b,d,e,e2,hd⟩:=Y3 ha.tree hux hz;obtain⟨x1,x2,x3,xs⟩:=sl hux;obtain⟨p1,p2,p3,ps⟩:=sl hp;unfold Od at hI;rw[Yg ha.tree hux hz,List.all_cons] at hI
    refine⟨h.g.ix x1 x2,_,_,_,h.g.Rn x1 x2,(h.g.IH _ x1 x2).ix YM c0 x3,_,_,_,_,_,(h.g.IH _ x1 x2) c c0 x3,λ_ _=>⟨h.g.ix x1 x2,_,h.g.IG x1 x2,h.g.ix p1 p2,_,_,_,h.g.Rn p1 p2,(h.g.IH _ p1 p2).ix YM c0 p3,_,zm0.f (h.g.IH _ p1 p2) c0 p3 (j:=0) rfl,Ni xs.v ps.f,_,XC,λg2=>?_,λg2=>⟨h.g.ix x1 x2,_,h.g.IG x1 x2,⟨_,rfl,hp,?_⟩,by
     show (dep 3 W.IE (gi W.IE x).IG).toNat<(dep 3 W.IE x).toNat;omega⟩⟩⟩
    ·have g2:=Ot g2;have hd:¬((Qb W x c).v-(Qb W (gi W.IE x).IG c).IL<=Z2 (gi W.IF c).Wh (Qb W x c).w):=Int.not_le.2 g2;rw[decide_eq_false hd,Bool.false_and] at hI;unfold Od;rw[<-hI]
    ·have g2:=Ou g2;have hd:(Qb W x c).v-(Qb W (gi W.IE x).IG c).IL<=Z2 (gi W.IF c).Wh (Qb W x c).w:=Int.not_lt.1 g2;rw[Ih hd,Bool.true_and] at hI;exact hI
   ·have hz:x=0:=by simpa using hz
    subst hz;unfold Od at hI;rw[show QM W.IE 0=[] from Zc _ _,List.all_nil] at hI;unfold Od;rw[<-hI]
def FO{t:Int}(ha:WA W)(ht:AA W t)(hs:(Q8 W t).state=1):Q6 W.IE (Q8 W t).II/\0<=(Q8 W t).R2/\(Q8 W t).R2<(W.IF.length:Int):=by
 rcases ht with ⟨e,_⟩|⟨_,q⟩
 ·omega
 ·exact⟨q.g,GS ha q.c⟩
def zd2{c:Int}(h:J6 bs w W m)(ha:WA W)(hts:∀t:Int,0<=t->t<12->AA W t)(hss:∀k c:Int,0<=k->k<8->0<=c->c<((gi W.IE k).IH.length:Int)->Kh W k c)(c0:0<=c)(c1:c<(W.IF.length:Int)) :
  PX bs Pr #[.agg (Qa W m).toArray,I c] w (.bool (Ju (Bs W c))):=
 zez _ _ _ _ _ _ _ _ _ _ c λwr hx=>by
  have h:=(h.ext hx).less (cs:=[]) Qs;intro _ _;have qT:=ha.t;refine⟨h.c.ix Y9 c0 c1,_,_,_,_,_,h.c c c0 c1,λ_ _=>⟨_,YY,_,λ_=>YY,λ_=>⟨Qo,Qo⟩,_,λ_=>Qt,λg=>Gg λp=>?_,λg=>⟨λg2=>PB ?_,λg2=>?_⟩⟩⟩
  ·have e3:YT (gi W.IF c).cur (-1) (((W.IJ.length:Nat):Int)-1):=Qv.2 (by have:=p.c1;have:=p.c2;omega);rw[p.b,p.i,e3] at g;cases g
  ·simp only[H',I6,Qv] at g;obtain⟨⟨a1,a2⟩,a3⟩:=g;have g2:=Ot g2;rw[Is];exact⟨λe=>⟨a1,a2,a3.1,Qo,λ_=>e,λhc=>by omega⟩,λp=>p.no g2⟩
  ·simp only[H',I6,Qv] at g;obtain⟨⟨a1,a2⟩,a3⟩:=g;have g2:=Ou g2;have t0:0<=(gi W.IF c).cur:=Qo;have t1:(gi W.IF c).cur<(W.IJ.length:Int):=Qo;refine⟨_,λ_=>Qt,λ_=>h.t.ix QT t0 t1,_,λ_=>h.t.f t0 t1 (j:=2) rfl,Zq W (gi W.IF c).cur,λ_=>Vw h ha t0 t1 λhs=>FO ha (hts _ t0 Qo) hs,MJ W c,λg3=>k7 h ha hts hss c0 c1 t0 t1 (by simp only[A'] at g3;exact g3.2),PB ?_⟩;simp only[A',Is,Qv];constructor
   ·rintro⟨⟨⟨⟨e1,e2⟩,e3⟩,e4⟩,e5⟩;exact⟨a1,a2,a3.1,Qo,λhc=>by omega,λ_=>⟨e1,e2.1,e2.2,e3,e4,e5⟩⟩
   ·intro p;have q:=p.yes t0;exact⟨⟨⟨⟨q.1,q.2.1,q.2.2.1⟩,q.2.2.2.1⟩,q.2.2.2.2.1⟩,q.2.2.2.2.2⟩
def Ur(h:J6 bs w W m)(lc:W.IF.length<=maxLen)(lt:W.IJ.length<=maxLen)(lg:W.IE.length<=maxLen)(hf:∀i:Int,0<=i->i<(W.IE.length:Int)->zpi (gi W.IE i)) :
  PX bs Xe #[.agg (Qa W m).toArray] w (.bool (Qp W)):=
 zeu _ _ _ _ _ _ _ _ _ _ λwr hx=>by
  have h:=(h.ext hx).less (cs:=[]) Qs;intro _ _;have hm9:=Xu;refine⟨_,Qt,_,λ_=>Qt,Kc W.IE,λ_=>DI h.g lg,JC W.IF,λg=>LE h ?_,λg=>Gg λp=>?_,λg=>?_⟩
  ·simp only[H',I6,Qv] at g;omega
  ·have a:=p.a;have e1:YT W.now 0 100000000000000000:=Qv.2 ⟨a.n1,a.n2⟩;have e2:YT ((W.IF.length:Nat):Int) 1 4:=Qv.2 (by have:=a.c1;have:=a.c2;omega);have e3:((W.IJ.length:Nat):Int)=12:=by have:=a.t;omega
   have e5:(JC W.IF==0)=false:=by simpa using a.ups
   rw[e1,e2,e3,T1.2 a.tree,e5] at g;simp at g
  simp only[H',I6,Qv,bne_eq_false_iff_eq,beq_eq_false_iff_ne] at g;obtain⟨⟨⟨⟨g1,g2⟩,g3⟩,g4⟩,g5⟩:=g;have ht:=T1.1 g4;have cZ:=ht.len;refine YU W.IE.length 0 rfl (λk=>k<=W.IE.length/\∀j:Int,0<=j->j<(k:Int)->Kg W j) ⟨Ic _,λj h0 h1=>by omega⟩ λk ⟨hk,hI⟩=>⟨λIV=>?_,λRW=>?_⟩
  ·have IV:=Ot IV;refine⟨_,Nw h g1.1 Qo IV (hf _ Qo IV),λg6=>Gg λp=>?_,λg6=>⟨⟨Qo,Qo⟩,Qy Qo ⟨Qo,λj h0 h1=>?_⟩⟩⟩
   ·have g6:Ju (Kg W (k:Int))=false:=by simpa using g6
    exact Lu.1 g6 (p.a.grp _ Qo Qo)
   ·by_cases jD:j<(k:Int)
    ·exact hI j h0 jD
    ·have:j=(k:Int):=Qo;subst this;exact Qm.1 (by simpa using g6)
  have RW:=Ou RW;have ha:WA W:=⟨g1.1,g1.2,Qo,Qo,Qo,ht,g5,λj h0 h1=>hI j h0 Qo⟩;refine YU W.IJ.length 0 rfl (λk=>k<=W.IJ.length/\∀j:Int,0<=j->j<(k:Int)->AA W j) ⟨Ic _,λj h0 h1=>by omega⟩ λk2 ⟨hk2,hI2⟩=>⟨λIV=>?_,λbK=>?_⟩
  ·have IV:=Ot IV;refine⟨_,k9 h ha Qo IV,λg6=>Gg λp=>?_,λg6=>⟨⟨Qo,Qo⟩,Qy Qo ⟨Qo,λj h0 h1=>?_⟩⟩⟩
   ·have g6:Ju (AA W (k2:Int))=false:=by simpa using g6
    exact Lu.1 g6 (p.t _ Qo Qo)
   ·by_cases jD:j<(k2:Int)
    ·exact hI2 j h0 jD
    ·have:j=(k2:Int):=Qo;subst this;exact Qm.1 (by simpa using g6)
  have bK:=Ou bK;have hts:∀t:Int,0<=t->t<12->AA W t:=λt h0 h1=>hI2 t h0 Qo
  refine YU W.IE.length 0 rfl (λk=>k<=W.IE.length/\∀j c:Int,0<=j->j<(k:Int)->0<=c->c<((gi W.IE j).IH.length:Int)->Kh W j c) ⟨Ic _,λj c h0 h1=>by omega⟩ λk3 ⟨hk3,hI3⟩=>⟨λIV=>?_,λA87=>?_⟩
  ·have IV:=Ot IV;have k30:(0:Int)<=(k3:Int):=Qo;refine YU (gi W.IE (k3:Int)).IH.length 0 rfl (λc=>c<=(gi W.IE (k3:Int)).IH.length/\∀d:Int,0<=d->d<(c:Int)->Kh W (k3:Int) d) ⟨Ic _,λj h0 h1=>by omega⟩ λc ⟨hc,hJ⟩=>⟨h.g.ix k30 IV,_,_,_,h.g.Rn k30 IV,λrZ=>?_,λAc7=>?_⟩
   ·have rZ:=Ot rZ;have hsm:(gi W.IE (k3:Int)).IH.length<=maxLen:=(hf _ k30 IV).sh;refine⟨_,Nx h ha k30 IV Qo rZ,λg6=>Gg λp=>?_,λg6=>⟨⟨Qo,Qo⟩,Qy Qo ⟨Qo,λd h0 h1=>?_⟩⟩⟩
    ·have g6:Ju (Kh W (k3:Int) (c:Int))=false:=by simpa using g6
     exact Lu.1 g6 (p.s _ _ Qo Qo Qo rZ)
    ·by_cases jD:d<(c:Int)
     ·exact hJ d h0 jD
     ·have:d=(c:Int):=Qo;subst this;exact Qm.1 (by simpa using g6)
   ·have Ac7:=Ou Ac7;refine⟨⟨Qo,Qo⟩,Qy Qo ⟨Qo,λj d h0 h1 h2 h3=>?_⟩⟩
    by_cases jD:j<(k3:Int)
    ·exact hI3 j d h0 jD h2 h3
    ·have:j=(k3:Int):=Qo;subst this;exact hJ d h2 Qo
  have A87:=Ou A87;have hss:∀k c:Int,0<=k->k<8->0<=c->c<((gi W.IE k).IH.length:Int)->Kh W k c:=λk c h0 h1 h2 h3=>hI3 k c h0 Qo h2 h3
  refine YU W.IF.length 0 rfl (λk=>k<=W.IF.length/\∀j:Int,0<=j->j<(k:Int)->Bs W j) ⟨Ic _,λj h0 h1=>by omega⟩ λk4 ⟨hk4,hI4⟩=>⟨λIV=>?_,λCf9=>?_⟩
  ·have IV:=Ot IV;refine⟨_,zd2 h ha hts hss Qo IV,λg6=>Gg λp=>?_,λg6=>⟨⟨Qo,Qo⟩,Qy Qo ⟨Qo,λj h0 h1=>?_⟩⟩⟩
   ·have g6:Ju (Bs W (k4:Int))=false:=by simpa using g6
    exact Lu.1 g6 (p.c _ Qo IV)
   ·by_cases jD:j<(k4:Int)
    ·exact hI4 j h0 jD
    ·have:j=(k4:Int):=Qo;subst this;exact Qm.1 (by simpa using g6)
  ·have Cf9:=Ou Cf9;exact zmy ⟨ha,hts,hss,λc h0 h1=>hI4 c h0 Qo⟩
end
def Z6{n p:Nat}{vs us:List Va}{k:Nat}(h1:Y4 p vs=(k:Int)+1)(h2:Y4 p us=(k:Int))(hk:k<n):Xp n p vs<Xp n p us:=by
 unfold Xp;rw[h1,h2];omega
def zau{α:Type}[Inhabited α]{l:List α}{p:α->Bool}:l.all p=true↔∀k:Nat,k<l.length->p (gi l (k:Int)):=by
 rw[List.all_eq_true];constructor
 ·intro h k hk;exact h _ (zqb Qo Qo)
 ·intro h x hx;obtain⟨k,hk,rfl⟩:=List.getElem_of_mem hx;rw[<-Jq hk];exact h k hk
def L8{bs:List Nat}{w:Wo}{b:Nat}{l:List Int}{t:TypeId}{fz:Nat×Nat}(h:w.heap[b]? = some (.cells (l.flatMap JW).toArray t fz))(hb:b∉bs):zm2 bs w (some ⟨b,0,none⟩) l:=λi h0 hi=>by
 have IV:i.toNat<l.length:=Qo;refine VX h hb (k0:=0) ?_;have:=Fx (enc:=JW) (z:=1) (λ_=>rfl) l i.toNat 0 IV Qd;rw[Nat.add_zero] at this;rw[Nat.zero_add,this]
 have e:gi l i=l[i.toNat]:=by
  have:=Jq IV
  rwa[show ((i.toNat:Nat):Int)=i by omega] at this
 rw[e];rfl
def Ny{l:List Int}{o:OA}{c:Nat}{w:Wo}{bs:List Nat}(h:zm2 bs w o l)(hl:l.length<=maxLen):PX bs ZT #[.slice o l.length c] w (.bool (l.all ZZ)):=
 zhx o l.length c λwr hx=>by
  have h:=(h.ext hx).less (cs:=[]) Qs;refine YU l.length 0 rfl (λk=>k<=l.length/\∀j:Nat,j<k->ZZ (gi l (j:Int))) ⟨Ic _,λj hj=>Ir hj (Nat.not_lt_zero j)⟩ λk ⟨hk,hI⟩=>⟨λIV=>?_,λRW=>?_⟩
  ·have IV:=Ot IV;refine⟨h.ix XP Qo IV,_,h k Qo IV,_,QK,λg=>?_,λg=>⟨zlh IV hl,Qy Qo ⟨Qo,λj hj=>?_⟩⟩⟩
   ·have:l.all ZZ=false:=by
     cases hb:l.all ZZ with
     |false=>rfl
     |true=>
      have:=zau.1 hb k Qo;unfold ZZ at this;rw[this] at g;cases g
    rw[this]
   ·by_cases jD:j<k
    ·exact hI j jD
    ·have:j=k:=Qo;subst this;unfold ZZ
     simpa using g
  ·have RW:=Ou RW;have hk:k=l.length:=Qo;subst hk;rw[zau.2 hI]
def z6z{a:Int}{w:Wo}{b:Nat}{t:TypeId}{fz:Nat×Nat}(h:w.heap[b]? = some (.cells ([I a]:List Va).toArray t fz)):PX [] ZT #[.slice (some ⟨b,0,none⟩) 1 1] w (.bool (ZZ a)):=by
 have:=Ny (l:=[a]) (c:=1) (bs:=[]) (L8 h Qs) (by simp[maxLen])
 simpa using this
def z7o{a b2:Int}{w:Wo}{b:Nat}{t:TypeId}{fz:Nat×Nat}(h:w.heap[b]? = some (.cells ([I a,I b2]:List Va).toArray t fz)):PX [] ZT #[.slice (some ⟨b,0,none⟩) 2 2] w (.bool (ZZ a&&ZZ b2)):=by
 have:=Ny (l:=[a,b2]) (c:=2) (bs:=[]) (L8 h Qs) (by simp[maxLen])
 simpa using this
def z7a{a b2 b3:Int}{w:Wo}{b:Nat}{t:TypeId}{fz:Nat×Nat}(h:w.heap[b]? = some (.cells ([I a,I b2,I b3]:List Va).toArray t fz)):PX [] ZT #[.slice (some ⟨b,0,none⟩) 3 3] w (.bool (ZZ a&&(ZZ b2&&ZZ b3))):=by
 have:=Ny (l:=[a,b2,b3]) (c:=3) (bs:=[]) (L8 h Qs) (by simp[maxLen])
 simpa using this
def zdo{m:Int}{w:Wo}{bs:List Nat}:PX bs U0 #[I m] w (.bool (PK m)):=NJ m λwr hx=>rfl
def Ks{m:Int}{w:Wo}{bs:List Nat}:PX bs Uj #[I m] w (.bool (PK m)):=zht m λwr hx=>⟨_,zdo,rfl⟩
def Ga{m:Int}{w:Wo}{bs:List Nat}:PX bs UG #[I m] w (.bool ((m != 0)&&PK m)):=zaa m λwr hx=>⟨_,λ_=>Ks,rfl⟩
def z1a:∀(m:Fin 16) (c:Fin 4),(TQ .and .i64 (Int.fdiv (m.val:Int) (2 ^ (min (Int.toNat (c.val:Int)) 64))) 1==1)=(Int.tmod (Int.fdiv (m.val:Int) (2 ^ (min (Int.toNat (c.val:Int)) 64))) 2==1):=by decide +kernel
def zqi{m c:Int}{w:Wo}{bs:List Nat}:PX bs VH #[I m,I c] w (.bool (Zk m c)):=
 B0 m c λwr hx=>by
  refine⟨_,zdo,_,λ_=>QK,λg=>?_,?_⟩
  ·simp only[A'] at g;exact(Qv.1 g.2).1
  ·unfold Zk
   cases h1:PK m with
   |false=>rfl
   |true=>
    cases h2:YT c 0 3 with
    |false=>rfl
    |true=>
     obtain⟨x,rfl⟩:=K6 h1;have:=Qv.1 h2;have e:=z1a x ⟨c.toNat,Qo⟩;rw[show ((⟨c.toNat,Qo⟩:Fin 4).val:Int)=c by show ((c.toNat:Nat):Int)=c;omega] at e;rw[e]
def zdi{m c:Int}{w:Wo}{bs:List Nat}:PX bs Pj #[I m,I c] w (.bool (Zk m c)):=zeo m c λwr hx=>⟨_,zqi,rfl⟩
def Mq{a b:Int}{w:Wo}{bs:List Nat}:PX bs JI #[I a,I b] w (I (TE a b)):=
 zen a b λwr hx=>by
  refine⟨_,Ks,_,λ_=>Ks,λg=>?_,λg=>?_⟩
  ·rw[XD];simpa using g
  ·simp only[H',I6] at g;rw[OS g.1 g.2]
def G9{b:Ue}{m:MG}{w:Wo}{bs:List Nat}:PX bs UE #[.agg (ZD b m).toArray] w (.bool (TF b)):=
 z7 b.I' b.RU b.SB m.lO b.locals.length m.lC m.dO b.RE.length m.dC λwr hx=>λ_ _=>rfl
def Nl{g:Zb}{m:MG}{w:Wo}{bs:List Nat}(hu:g.IW=false):PX bs Tc #[.agg (Yq g m).toArray] w (.bool (Ju (zv7 g))):=
 NL g.IW g.IG g.name g.R3 g.IF g.period g.next g.sum g.IM.I' g.IM.RU g.IM.SB m.lO g.IM.locals.length m.lC m.dO g.IM.RE.length m.dC m.sO g.IH.length m.sC λwr hx=>by
  intro _ _;refine⟨_,λ_=>G9 (b:=g.IM) (m:=m),PB ?_⟩;simp only[hu,Bool.not_false,Bool.true_and,A',Is,JS];constructor
  ·rintro⟨⟨⟨⟨⟨⟨⟨⟨e1,e2⟩,e3⟩,e4⟩,e5⟩,e6⟩,e7⟩,e9⟩,e8⟩;exact⟨e1,e2,e3,e4,e5,e6,e7,Qo,e9⟩
  ·intro q;exact⟨⟨⟨⟨⟨⟨⟨⟨q.p,q.n⟩,q.w⟩,q.c⟩,q.pe⟩,q.ne⟩,q.s⟩,q.b⟩,by have:=q.l;omega⟩
def zg8{b:Ue}{m:MG}{w:Wo}{bs:List Nat}(h1:zm2 bs w m.lO b.locals)(h2:zwa bs w m.dO b.RE)(hl:b.locals.length<=maxLen):PX bs M6 #[.agg (ZD b m).toArray] w (.bool (Ju (OY b))):=
 zhr b.I' b.RU b.SB m.lO b.locals.length m.lC m.dO b.RE.length m.dC λwr hx=>by
  have h1:=(h1.ext hx).less (cs:=[]) Qs;have h2:=(h2.ext hx).less (cs:=[]) Qs;intro _ _;refine⟨_,QK,_,λ_=>QK,λg=>Gg λp=>?_,λg=>⟨_,QK,_,λ_=>QK,λg'=>Gg λp=>?_,λg'=>?_⟩⟩
  ·rw[Qv.2 ⟨p.q1,p.q2⟩,Qv.2 (by have:=p.l1;have:=p.l2;omega),p.dl] at g;simp at g
  ·rw[Qv.2 ⟨p.p1,p.p2⟩,Qv.2 ⟨p.s1,p.s2⟩] at g'
   cases g'
  ·simp only[H',I6,bne_eq_false_iff_eq,Qv] at g g';obtain⟨⟨g1,g2⟩,g3⟩:=g;obtain⟨g4,g5⟩:=g';have hdl:b.RE.length=b.locals.length:=Qo
   have all:∀{k:Nat},k<=b.locals.length->(∀c:Int,0<=c->c<(k:Int)->0<=gi b.locals c/\gi b.locals c<=b.I'/\(gi b.RE c=true->gi b.locals c=0/\b.RU=0))->0<=Vi b.locals k/\Vi b.locals k<=40000:=λ{k} hk h=>by
    have key:∀j:Nat,j<=k->0<=Vi b.locals j/\Vi b.locals j<=(j:Int)*10000:=λj=>by
     induction j with
     |zero=>intro _;simp[Vi]
     |succ j ih=>
      intro hj;have:=ih Qo;have:=h (j:Int) Qo Qo;simp only[Vi];omega
    have:=key k (I7 _);omega
   refine⟨⟨Qo,Qo⟩,?_⟩;refine P9 b.locals.length 0 rfl (λx k=>k<=b.locals.length/\x=b.RU+b.SB+Vi b.locals k/\∀c:Int,0<=c->c<(k:Int)->0<=gi b.locals c/\gi b.locals c<=b.I'/\(gi b.RE c=true->gi b.locals c=0/\b.RU=0)) ⟨Ic _,by simp[Vi],λc h0 h1=>by omega⟩ λx k ⟨hk,Rg,hI⟩=>⟨λIV=>?_,λRW=>?_⟩
   ·have IV:=Ot IV;have Re:(k:Int)<(b.RE.length:Int):=Qo;have hsr:=all hk hI;refine⟨h1.ix XP Qo IV,_,h1 k Qo IV,_,QK,λ_=>h2.ix Lw Qo Re,_,λ_=>h2 k Qo Re,λg=>Gg λp=>?_,λg=>?_⟩
    ·have pe:=p.each (k:Int) Qo IV;rw[Qv.2 ⟨pe.1,pe.2.1⟩] at g;simp only[Bool.not_true,Bool.false_or,A',Iu,It] at g;have:=pe.2.2 g.1;rcases g.2 with h|h
     ·exact h this.1
     ·exact h this.2
    ·simp only[H',I6,Qv] at g;obtain⟨ga,gb⟩:=g;refine⟨⟨Qo,Qo⟩,⟨Qo,Qo⟩,QP Qo ⟨Qo,by simp only[Vi];omega,λc hc0 hc=>?_⟩⟩
     by_cases hck:c<(k:Int)
     ·exact hI c hc0 hck
     ·have:c=(k:Int):=Qo;subst this;refine⟨ga.1,ga.2,λhd=>?_⟩;rw[hd] at gb;simp only[Bool.true_and,H',bne_eq_false_iff_eq] at gb;exact gb
   ·have RW:=Ou RW;have:k=b.locals.length:=Qo;subst this;refine PB ?_;rw[Is,Rg];constructor
    ·intro hs;exact⟨g1.1,g1.2,Qo,Qo,hdl,g4.1,g4.2,g5.1,g5.2,hI,hs⟩
    ·exact λp=>p.sum
def zzn(v f k:Int):Bool:=decide (v>=f)&&decide (v-f<=ZN k)
def z2u{a b:Int}(ha:ZZ a)(hb:ZZ b):IntKind.i64.wrap (a-b)=a-b:=(Ni ha hb).wrap
def zzo{v f k:Int}(hv:ZZ v)(hf:ZZ f):KB v f k=zzn v f k:=by unfold KB zzn;rw[z2u hv hf]
def H5{v f k:Int}{w:Wo}{bs:List Nat}(h:ZZ v)(hf:ZZ f):PX bs Tg #[I v,I f,I k] w (.bool (KB v f k)):=by
 rw[zzo h hf];exact zhw v f k λwr hx=>⟨λ_=>Ni h hf,_,λ_=>H4,rfl⟩
def zhe{n:Int}{w:Wo}{bs:List Nat}:PX bs Ma #[I n] w (.bool (YT n 0 8000000)):=zhu n λwr hx=>⟨_,QK,rfl⟩
structure Ph (bs:List Nat) (w:Wo) (p:OA) (W:Q7) (m:MW):Prop where
 cs:Q1 bs w p 0 (Qa W m)
 rd:J6 bs w W m
def JG{bs:List Nat}{w:Wo}{o:OA}{n:Nat}{vs:List Va}(h:Q1 bs w o n vs){j:Nat}{v:Va}(hj:vs[j]? = some v):Q1 bs w (o.map (·.add n)) (0+j) [v]:=by
 obtain⟨a,ha,hb,hc⟩:=h.get j v hj;refine Ug ⟨a.add n,by rw[ha];rfl,by rw[Zz];exact hb,?_⟩;rw[JF,Nat.zero_add];exact hc
def MH{bs:List Nat}{w:Wo}{o:OA}{n k:Nat}{v:Va}{r:List Va}(h:Q1 bs w o k (v::r)):(o.map (·.add n)).isSome:=by
 have:=h.some
 cases o with
 |none=>cases this
 |some a=>rfl
section
variable {W:Q7}{m:MW}{w w':Wo}{bs cs:List Nat}{p:OA}
def Ph.ext(h:Ph bs w p W m)(hx:Q0 bs w w'):Ph bs w' p W m:=⟨h.cs.ext hx,h.rd.ext hx⟩
def Ph.less(h:Ph bs w p W m)(hs:∀x∈cs,x∈bs):Ph cs w p W m:=⟨h.cs.less hs,h.rd.less hs⟩
def Ph.wide(h:Ph bs w p W m)(hs:∀x∈cs,x∈bs\/w.heap.size<=x):Ph cs w p W m:=⟨h.cs.wide hs,h.rd.wide hs⟩
def Ph.some(h:Ph bs w p W m):p.isSome:=by
 have h1:=h.cs.get 0 _ (rfl:(Qa W m)[0]? = Option.some (I W.now));obtain⟨a,rfl,_⟩:=h1;rfl
def Ph.c(h:Ph bs w p W m){j:Nat}{v:Va}(hj:(Qa W m)[j]? = Option.some v):Q1 bs w p (0+j) [v]:=Ug (h.cs.get j v hj)
def Ph.now(h:Ph bs w p W m):Q1 bs w p (0+0) [I W.now]:=h.c rfl
def Ph.IF(h:Ph bs w p W m):Q1 bs w p (0+1) [.slice m.cO W.IF.length m.cC]:=h.c rfl
def Ph.IJ(h:Ph bs w p W m):Q1 bs w p (0+2) [.slice m.tO W.IJ.length m.tC]:=h.c rfl
def Ph.IE(h:Ph bs w p W m):Q1 bs w p (0+3) [.slice m.gO W.IE.length m.gC]:=h.c rfl
def zv3(m:MW)(g c:Int):OA:=(m.ms g.toNat).sO.map (·.add (Int.toNat c*5))
def Ph.sh(h:Ph bs w p W m){g c:Int}(g0:0<=g)(g1:g<(W.IE.length:Int))(c0:0<=c)(c1:c<((gi W.IE g).IH.length:Int)):(zv3 m g c).isSome/\∀{j:Nat} {v:Va},(T4 (Qb W g c))[j]? = Option.some v->Q1 bs w (zv3 m g c) (0+j) [v]:=
 ⟨MH (h.rd.g.IH g g0 g1 c c0 c1),λ{j v} hj=>JG (h.rd.g.IH g g0 g1 c c0 c1) hj⟩
def Uq{c:Int}:PX bs ZA #[.pointer p,I c] w (.agg #[.pointer p,I c]):=FX p c λwr hx=>λ_ _=>rfl
def Zn{g c:Int}(h:Ph bs w p W m)(g0:0<=g)(g1:g<(W.IE.length:Int))(c0:0<=c)(c1:c<((gi W.IE g).IH.length:Int)):PX bs QC #[.agg #[.pointer p,I c],I g] w (.pointer (zv3 m g c)):=
 B2 p c g λwr hx=>by
  have h:=(h.ext hx).less (cs:=[]) Qs;exact λ_ _=>⟨h.some,_,_,_,h.IE,h.rd.g.ix g0 g1,_,_,_,h.rd.g.Rn g0 g1,(h.rd.g.IH g g0 g1).ix YM c0 c1,rfl⟩
def VR{c:Int}(h:Ph bs w p W m)(c0:0<=c)(c1:c<(W.IF.length:Int)):PX bs ZG #[.agg #[.pointer p,I c]] w (.pointer (m.cO.map (·.add (Int.toNat c*5)))):=
 z8 p c λwr hx=>by
  have h:=(h.ext hx).less (cs:=[]) Qs;exact λ_ _=>⟨h.some,_,_,_,h.IF,h.rd.c.ix Y9 c0 c1,rfl⟩
def CR{c:Int}(h:Ph bs w p W m)(hl:W.IF.length<=maxLen):PX bs Jw #[.pointer p,I c] w (.bool (YT c 0 ((W.IF.length:Int)-1))):=
 Gu p c λwr hx=>by
  have h:=(h.ext hx).less (cs:=[]) Qs;have:=Xu;exact⟨h.some,_,_,_,h.IF,⟨Qo,Qo⟩,_,QK,rfl⟩
def Nn{t:Int}(h:Ph bs w p W m)(hl:W.IJ.length<=maxLen):PX bs Jb #[.pointer p,I t] w (.bool (YT t 0 ((W.IJ.length:Int)-1)&&((Q8 W t).state != 0))):=
 LK p t λwr hx=>by
  have h:=(h.ext hx).less (cs:=[]) Qs;have:=Xu;have hr:YT t 0 ((W.IJ.length:Int)-1)->0<=t/\t<(W.IJ.length:Int):=λg=>by have:=Qv.1 g;omega
  exact⟨h.some,_,_,_,h.IJ,⟨Qo,Qo⟩,_,QK,λ_=>h.some,_,_,_,λ_=>h.IJ,λg=>h.rd.t.ix QT (hr g).1 (hr g).2,_,λg=>h.rd.t.f (hr g).1 (hr g).2 (j:=0) rfl,rfl⟩
def Ku(h:Ph bs w p W m)(h4:W.IF.length<=4):PX bs X0 #[.pointer p] w (I (JC W.IF)):=
 Dp p λwr hx=>by
  have h:=(h.ext hx).less (cs:=[]) Qs;refine⟨h.some,_,_,_,h.IF,?_⟩;refine P9 W.IF.length 0 rfl (λx k=>k<=W.IF.length/\x=Vj W.IF k) ⟨Ic _,rfl⟩ λx k ⟨hk,Rg⟩=>⟨λIV=>?_,λRW=>?_⟩
  ·have IV:=Ot IV;have hb:=BS (k:=k) Qo;have hl:=HZ W.IF k Qo;have gJ:(1*2 ^ (min (Int.toNat (k:Int)) 64):Int)=Uc k:=rfl;refine⟨h.rd.c.ix Y9 Qo IV,_,_,_,_,_,h.rd.c k Qo IV,λ_ _=>⟨λhu=>?_,λhu=>?_⟩⟩
   ·rw[gJ,Rg,z4q Qo hl.1 hl.2];refine⟨⟨Qo,Qo,Qo⟩,⟨Qo,Qo⟩,QP Qo ⟨Qo,?_⟩⟩;simp only[Vj];rw[C' hu]
   ·refine⟨⟨Qo,Qo⟩,QP Qo ⟨Qo,?_⟩⟩;rw[Rg];simp only[Vj];rw[B' (by rw[hu];decide)]
  ·have RW:=Ou RW;have:k=W.IF.length:=Qo;subst this;rw[Rg];rfl
def zn0{g:Int}(h:Ph bs w p W m)(h4:W.IF.length<=4)(ht:Yh W.IE)(hu:Q6 W.IE g):PX bs VF #[.pointer p,I g] w (I (T5 W.IE g (JC W.IF))):=
 FY p g λwr hx=>by
  have h:=(h.ext hx).less (cs:=[]) Qs;have hr:Q6 W.IE 0:=Q5.2 ⟨Qd,by have:=ht.len;omega,ht.ru⟩;obtain⟨r1,r2,_⟩:=Q5.1 hr;refine⟨_,Ku h h4,λvs=>∃(x s:Int),vs=[I x,I s]/\Q6 W.IE x/\T5 W.IE x s=T5 W.IE g (JC W.IF),λvs=>(dep 3 W.IE (Y4 0 vs)).toNat,⟨g,_,rfl,hu,rfl⟩,?_⟩;rintro x s ⟨x',s',he,hux,hI⟩;simp only[I4,I5,true_and,and_true] at he;obtain⟨rfl,rfl⟩:=he;refine⟨λhz=>?_,λhz=>?_⟩
  ·have hz:x≠0:=by simpa using hz
   obtain⟨hp,a,b,d,e,e2,hd⟩:=Y3 ht hux hz;unfold T5 at hI;rw[Yg ht hux hz,List.cons_append,List.foldl_cons] at hI
   exact⟨h.some,_,_,_,h.IE,h.rd.g.ix a b,_,h.rd.g.IF a b,_,Mq,h.some,_,_,_,h.IE,h.rd.g.ix a b,_,h.rd.g.IG a b,⟨_,_,rfl,hp,hI⟩,by
    show (dep 3 W.IE (gi W.IE x).IG).toNat<(dep 3 W.IE x).toNat;omega⟩
  ·have hz:x=0:=by simpa using hz
   subst hz;unfold T5 at hI;rw[show QM W.IE 0=[] from Zc _ _] at hI;refine⟨h.some,_,_,_,h.IE,h.rd.g.ix r1 r2,_,h.rd.g.IF r1 r2,_,Mq,?_⟩;unfold T5;rw[<-hI];rfl
def Nj{g mask:Int}(h:Ph bs w p W m)(h4:W.IF.length<=4)(ht:Yh W.IE)(hu:Q6 W.IE g):PX bs Ja #[.pointer p,I mask,I g] w (I (QF W g mask)):=
 LI p mask g λwr hx=>by
  have h:=(h.ext hx).less (cs:=[]) Qs;refine⟨_,zn0 h h4 ht hu,_,Mq,λg1=>?_,λg1=>⟨λg2=>?_,λg2=>⟨_,Ku h h4,?_⟩⟩⟩
  ·unfold QF;rw[C' (by simpa using g1)]
  ·unfold QF;rw[B' (by simpa using g1),C' (by simpa using g2)]
  ·unfold QF;rw[B' (by simpa using g1),B' (by simpa using g2)]
def zdk{t:Int}(h:Ph bs w p W m)(h4:W.IF.length<=4)(ht:Yh W.IE)(t0:0<=t)(t1:t<(W.IJ.length:Int))(hu:Q6 W.IE (Q8 W t).II):PX bs JX #[.pointer p,I t] w (I (QF W (Q8 W t).II (Q8 W t).mask)):=
 Hm p t λwr hx=>by
  have h:=(h.ext hx).less (cs:=[]) Qs;exact⟨h.some,_,_,_,h.IJ,h.rd.t.ix QT t0 t1,_,h.rd.t.f t0 t1 (j:=4) rfl,h.some,_,_,_,h.IJ,h.rd.t.ix QT t0 t1,_,h.rd.t.f t0 t1 (j:=1) rfl,_,Nj h h4 ht hu,rfl⟩
def Kv{t c g:Int}(h:Ph bs w p W m)(t0:0<=t)(t1:t<(W.IJ.length:Int)):PX bs Xi #[.agg #[.pointer p,I c],I t,I g] w (.bool (dU W g c t.toNat)):=
 Ex p c t g λwr hx=>by
  have h:=(h.ext hx).less (cs:=[]) Qs;refine λ_ _=>⟨h.some,_,_,_,h.IJ,h.rd.t.ix QT t0 t1,_,_,_,_,_,_,_,_,_,h.rd.t t t0 t1,λ_ _=>?_⟩
  unfold dU;rw[show ((t.toNat:Nat):Int)=t by omega]
def LB{k c g:Int}(h:Ph bs w p W m)(ha:WA W)(k0:0<=k)(k1:k<(W.IE.length:Int))(c0:0<=c)(c1:c<(W.IF.length:Int)):PX bs Xx #[.agg #[.pointer p,I c],I k,I g] w (.bool (WV W g c k.toNat)):=
 B1 p c k g λwr hx=>by
  have h:=(h.ext hx).less (cs:=[]) Qs
  have hc:(((k != 0)&&(gi W.IE k).IW)&&((gi W.IE k).IG==g))->c<((gi W.IE k).IH.length:Int):=λq=>by
   simp only[A'] at q;rw[ha.sl (Q5.2 ⟨k0,k1,q.1.2⟩)];exact c1
  refine λ_ _=>⟨λ_=>h.some,_,_,_,λ_=>h.IE,λ_=>h.rd.g.ix k0 k1,_,λ_=>h.rd.g.IW k0 k1,λ_=>h.some,_,_,_,λ_=>h.IE,λ_=>h.rd.g.ix k0 k1,_,λ_=>h.rd.g.IG k0 k1,zv3 m k c,λq=>Zn h k0 k1 c0 (hc q),λq=>(h.sh k0 k1 c0 (hc q)).1,(Qb W k c).on,λq=>(h.sh k0 k1 c0 (hc q)).2 (j:=1) rfl,?_⟩
  unfold WV;rw[show ((k.toNat:Nat):Int)=k by omega]
  have e:decide (1<=k.toNat)=(k != 0):=by
   by_cases hk:k=0
   ·subst hk;rfl
   ·rw[Ih Qo,It.2 hk]
  rw[e,Bool.and_assoc,Bool.and_assoc,Bool.and_assoc,Bool.and_assoc]
def Kt{g c:Int}(h:Ph bs w p W m)(ha:WA W)(c0:0<=c)(c1:c<(W.IF.length:Int)):PX bs Xh #[.agg #[.pointer p,I c],I g] w (.bool (QJ W g c)):=
 Ev p c g λwr hx=>by
  have h:=(h.ext hx).less (cs:=[]) Qs;have cZ:=ha.gl;have ht:=ha.t;refine λ_ _=>⟨h.some,_,_,_,h.IJ,?_⟩
  refine YU W.IJ.length 0 rfl (λk=>k<=W.IJ.length/\∀j:Nat,j<k->dU W g c j=false) ⟨Ic _,λj hj=>Ir hj (Nat.not_lt_zero j)⟩ λk ⟨hk,hI⟩=>⟨λIV=>?_,λRW=>?_⟩
  ·have IV:=Ot IV;refine⟨_,Kv h Qo IV,λhy=>?_,λhn=>⟨⟨Qo,Qo⟩,Qy Qo ⟨Qo,λj hj=>?_⟩⟩⟩
   ·rw[Ig] at hy;unfold QJ;rw[E4.2 ⟨k,Qo,hy⟩];rfl
   ·by_cases jD:j<k
    ·exact hI j jD
    ·have:j=k:=Qo;subst this
     rwa[Ig] at hn
  ·have RW:=Ou RW;have rF:TV (dU W g c) W.IJ.length=false:=zkk λj hj=>hI j Qo
   refine⟨h.some,_,_,_,h.IE,?_⟩;refine YU W.IE.length 0 rfl (λk=>k<=W.IE.length/\∀j:Nat,j<k->WV W g c j=false) ⟨Ic _,λj hj=>Ir hj (Nat.not_lt_zero j)⟩ λk ⟨hk,hI⟩=>⟨λIV=>?_,λRW=>?_⟩
   ·have IV:=Ot IV;refine⟨_,LB h ha Qo IV c0 c1,λhy=>?_,λhn=>⟨⟨Qo,Qo⟩,Qy Qo ⟨Qo,λj hj=>?_⟩⟩⟩
    ·rw[Ig] at hy;unfold QJ;rw[E4.2 ⟨k,Qo,hy⟩,Bool.or_true]
    ·by_cases jD:j<k
     ·exact hI j jD
     ·have:j=k:=Qo;subst this
      rwa[Ig] at hn
   ·have RW:=Ou RW;have:TV (WV W g c) W.IE.length=false:=zkk λj hj=>hI j Qo
    unfold QJ;rw[rF,this];rfl
def zdl{g c:Int}(h:Ph bs w p W m)(ha:WA W)(hu:Q6 W.IE g)(c0:0<=c)(c1:c<(W.IF.length:Int)):PX bs UF #[.agg #[.pointer p,I c],I g] w (.bool (Jm W g c)):=
 z9 p c g λwr hx=>by
  have h:=(h.ext hx).less (cs:=[]) Qs;obtain⟨u1,u2,_⟩:=Q5.1 hu
  have hd:(decide ((gi W.IE g).IM.I'>0))->c<((gi W.IE g).IM.RE.length:Int):=λg1=>by
   have:=Ot g1;rw[(ha.dl hu Qo).1];exact c1
  exact λ_ _=>⟨h.some,_,_,_,h.IE,h.rd.g.ix u1 u2,_,_,_,_,_,_,_,_,_,h.rd.g.IM u1 u2,λ_ _=>⟨λg1=>(h.rd.g.RE g u1 u2).ix Lw c0 (hd g1),_,λg1=>(h.rd.g.RE g u1 u2) c c0 (hd g1),rfl⟩⟩
def DD{t c:Int}(h:Ph bs w p W m)(ha:WA W)(t0:0<=t)(t1:t<(W.IJ.length:Int))(c0:0<=c)(c1:c<(W.IF.length:Int))(hu:(Q8 W t).state=1->Q6 W.IE (Q8 W t).II) :
  PX bs J7 #[.agg #[.pointer p,I c],I t] w (.bool (((Q8 W t).R2==c)&&Zq W t)):=
 Ew p c t λwr hx=>by
  have h:=(h.ext hx).less (cs:=[]) Qs;refine λ_ _=>⟨h.some,_,_,_,h.IJ,h.rd.t.ix QT t0 t1,_,_,_,_,_,_,_,_,_,h.rd.t t t0 t1,λ_ _=>⟨λg=>?_,λg=>?_⟩⟩
  ·have g':(((Q8 W t).state != 1)||((Q8 W t).R2 != c)):=g
   have:(((Q8 W t).R2==c)&&Zq W t)=false:=by
    unfold Zq;simp only[Iu,It] at g';rcases g' with e|e
    ·rw[beq_eq_false_iff_ne.2 e,Bool.false_and,Bool.and_false]
    ·rw[beq_eq_false_iff_ne.2 e,Bool.false_and]
   rw[this]
  ·have g':(((Q8 W t).state != 1)||((Q8 W t).R2 != c))=false:=g;simp only[H',bne_eq_false_iff_eq] at g';obtain⟨hs,hc⟩:=g';have hug:=hu hs
   have hL:(((Q8 W t).R2==c)&&Zq W t)=Ut W (Q8 W t).II c:=by
    unfold Zq;rw[Is.2 hs,Is.2 hc,Bool.true_and,Bool.true_and,hc]
   rw[hL];refine⟨λvs=>∃x:Int,vs=[I x]/\Q6 W.IE x/\Ut W x c=Ut W (Q8 W t).II c,λvs=>(dep 3 W.IE (Y4 0 vs)).toNat,⟨_,rfl,hug,rfl⟩,?_⟩;rintro x ⟨x',he,hux,hI⟩;simp only[I4,I5,true_and,and_true] at he;subst he;refine⟨λhz=>?_,λhz=>?_⟩
   ·have hz:x≠0:=by simpa using hz
    obtain⟨hp,a,b,d,e,e2,hd⟩:=Y3 ha.tree hux hz;have hc1:c<((gi W.IE x).IH.length:Int):=by rw[ha.sl hux];exact c1
    unfold Ut at hI;rw[Yg ha.tree hux hz,List.all_cons] at hI
    refine⟨_,Zn h a b c0 hc1,(h.sh a b c0 hc1).1,_,(h.sh a b c0 hc1).2 (j:=1) rfl,λg2=>?_,λg2=>⟨h.some,_,_,_,h.IE,h.rd.g.ix a b,_,h.rd.g.IG a b,⟨_,rfl,hp,?_⟩,by
     show (dep 3 W.IE (gi W.IE x).IG).toNat<(dep 3 W.IE x).toNat;omega⟩⟩
    ·have g2:(Qb W x c).on=false:=by simpa using g2
     rw[g2,Bool.false_and] at hI;unfold Ut;rw[<-hI]
    ·have g2:(Qb W x c).on:=by simpa using g2
     rw[g2,Bool.true_and] at hI;exact hI
   ·have hz:x=0:=by simpa using hz
    subst hz;unfold Ut at hI;rw[show QM W.IE 0=[] from Zc _ _,List.all_nil] at hI;unfold Ut;rw[<-hI]
end
structure z0a (W:Q7):Prop where
 n1:0<=W.now
 n2:W.now<=100000000000000000
 c1:1<=W.IF.length
 c2:W.IF.length<=4
 t:W.IJ.length=12
 tree:Yh W.IE
 ups:JC W.IF≠0
structure z5o (W:Q7) (g:Zb):Prop where
 none:g.IM.I'=0->TF g.IM/\g.period=0/\g.next=0
 IM:g.IM.I'≠0->OY g.IM/\g.IM.locals.length=W.IF.length/\1<=g.period/\g.period<=1000/\W.now<g.next/\g.next-W.now<=g.period
structure z5k (W:Q7) (g:Zb):Prop where
 w1:1<=g.R3
 w2:g.R3<=20
 m:PK g.IF=true
 m0:g.IF≠0
 s:ZZ g.sum=true
 len:g.IH.length=W.IF.length
 q:z5o W g
def z0h(W:Q7)(k:Int):Prop:=((gi W.IE k).IW=false->zv7 (gi W.IE k))/\((gi W.IE k).IW->z5k W (gi W.IE k))
def Fz{W:Q7}{k:Int}:Kg W k↔z0h W k/\((gi W.IE k).IW->k=0->(gi W.IE k).R3=10/\(gi W.IE k).IF=15/\(gi W.IE k).IM.I'=0):=by
 constructor
 ·intro p;exact⟨⟨p.1,λhu=>by have q:=p.2 hu;exact⟨q.w1,q.w2,q.m,q.m0,q.s,q.len,⟨q.none,q.IM⟩⟩⟩,λhu=>(p.2 hu).root⟩
 ·rintro⟨p,r⟩;exact⟨p.1,λhu=>by have q:=p.2 hu;exact⟨q.w1,q.w2,q.m,q.m0,q.s,q.len,r hu,q.q.none,q.q.IM⟩⟩
section
variable {W:Q7}{m:MW}{w:Wo}{bs:List Nat}{p:OA}
def zdp{k:Int}(h:Ph bs w p W m)(n1:0<=W.now)(n2:W.now<=100000000000000000)(k0:0<=k)(k1:k<(W.IE.length:Int))(hf:zpi (gi W.IE k)) :
  PX bs XI #[.pointer p,.agg (Yq (gi W.IE k) (m.ms k.toNat)).toArray] w (.bool (Ju (z5o W (gi W.IE k)))):=
 Hn p (gi W.IE k).IW (gi W.IE k).IG (gi W.IE k).name (gi W.IE k).R3 (gi W.IE k).IF (gi W.IE k).period (gi W.IE k).next (gi W.IE k).sum (gi W.IE k).IM.I' (gi W.IE k).IM.RU (gi W.IE k).IM.SB (m.ms k.toNat).lO (gi W.IE k).IM.locals.length (m.ms k.toNat).lC (m.ms k.toNat).dO (gi W.IE k).IM.RE.length (m.ms k.toNat).dC (m.ms k.toNat).sO (gi W.IE k).IH.length (m.ms k.toNat).sC λwr hx=>by
  have h:=(h.ext hx).less (cs:=[]) Qs
  have hp:((Ju (OY (gi W.IE k).IM)&&(((gi W.IE k).IM.locals.length:Nat):Int)==((W.IF.length:Nat):Int))&&YT (gi W.IE k).period 1 1000)->1<=(gi W.IE k).period/\(gi W.IE k).period<=1000:=λq=>by
   simp only[A'] at q;exact Qv.1 q.2
  refine λ_ _=>⟨_,G9 (b:=(gi W.IE k).IM) (m:=m.ms k.toNat),λg=>PB ?_,λg=>⟨_,zg8 (b:=(gi W.IE k).IM) (m:=m.ms k.toNat) (h.rd.g.locals k k0 k1) (h.rd.g.RE k k0 k1) hf.lo,λ_=>h.some,_,_,_,λ_=>h.IF,_,λ_=>QK,λ_=>h.some,_,λ_=>h.now,λ_=>⟨Qo,Qo⟩,λ_=>h.some,_,λ_=>h.now,λq=>⟨by have:=hp q;omega,by have:=hp q;omega⟩,_,λ_=>QK,PB ?_⟩⟩
  ·have q0:=(Hj g).1;simp only[A',Is];exact⟨λe=>⟨λ_=>⟨g,e.1,e.2⟩,λeO=>Ir q0 eO⟩,λq=>(q.none q0).2⟩
  ·simp only[A',Is,Qm,Qv];constructor
   ·rintro⟨⟨⟨e1,e2⟩,e3⟩,e4⟩;have:=e1.q1;exact⟨λhz=>by omega,λ_=>⟨e1,Qo,e3.1,e3.2,Qo,Qo⟩⟩
   ·intro q
    have hq:(gi W.IE k).IM.I'≠0:=λe=>by
     have:=(q.none e).1;rw[this] at g;cases g
    have r:=q.IM hq;exact⟨⟨⟨r.1,by have:=r.2.1;omega⟩,r.2.2.1,r.2.2.2.1⟩,by have:=r.2.2.2.2.1;omega,by have:=r.2.2.2.2.2;omega⟩
def CS(h:Ph bs w p W m)(hs:z0a W)(hf:∀i:Int,0<=i->i<(W.IE.length:Int)->zpi (gi W.IE i)):PX bs Xl #[.pointer p] w (.bool (Ju (∀k:Int,0<=k->k<8->Kg W k))):=
 Gv p λwr hx=>by
  have h:=(h.ext hx).less (cs:=[]) Qs;have cZ:=hs.tree.len;refine⟨h.some,_,_,_,h.IE,?_⟩;refine YU W.IE.length 0 rfl (λk=>k<=W.IE.length/\∀j:Int,0<=j->j<(k:Int)->z0h W j) ⟨Ic _,λj h0 h1=>by omega⟩ λk ⟨hk,hI⟩=>⟨λIV=>?_,λRW=>?_⟩
  ·have IV:=Ot IV;have k0:(0:Int)<=(k:Int):=Qo
   have nxt:z0h W (k:Int)->∀j:Int,0<=j->j<((k+1:Nat):Int)->z0h W j:=λhq j h0 h1=>by
    by_cases jD:j<(k:Int)
    ·exact hI j h0 jD
    ·have:j=(k:Int):=Qo;subst this;exact hq
   refine⟨h.rd.g.ix k0 IV,_,_,_,_,_,_,_,_,_,_,_,_,_,_,_,_,_,_,_,_,h.rd.g.cells k k0 IV,λ_ _=>⟨λg=>?_,λg=>?_⟩⟩
   ·have hu:(gi W.IE (k:Int)).IW=false:=by simpa using g
    refine⟨_,Nl (g:=gi W.IE (k:Int)) (m:=m.ms (k:Int).toNat) hu,λg2=>Gg λpp=>?_,λg2=>⟨⟨Qo,Qo⟩,Qy Qo ⟨Qo,nxt ⟨λ_=>Qm.1 (by simpa using g2),λhu'=>by rw[hu'] at hu;cases hu⟩⟩⟩⟩;have g2:Ju (zv7 (gi W.IE (k:Int)))=false:=by simpa using g2
    exact Lu.1 g2 ((Fz.1 (pp (k:Int) k0 Qo)).1.1 hu)
   ·have hu:(gi W.IE (k:Int)).IW:=by simpa using g
    have bad:¬z5k W (gi W.IE (k:Int))->¬∀k:Int,0<=k->k<8->Kg W k:=λhn pp=>hn ((Fz.1 (pp (k:Int) k0 Qo)).1.2 hu)
    refine⟨_,Pt,_,λ_=>Ga,λg2 b1 dG=>⟨ZZ (gi W.IE (k:Int)).sum,λ_ wx hxw hcx=>z6z hcx,λ_=>h.some,_,_,_,λ_=>h.IF,_,λ_=>zdp h hs.n1 hs.n2 k0 IV (hf _ k0 IV),λg3=>Gg (bad λq=>?_),λg3=>⟨⟨Qo,Qo⟩,Qy Qo ⟨Qo,nxt ⟨λhu'=>(by rw[hu'] at hu;cases hu),λ_=>?_⟩⟩⟩⟩,λg2=>⟨λe=>(by cases e),none,0,0,λe=>(by cases e),false,λe=>(by simp at e),λg3=>Gg (bad λq=>g2 ?_),λg3=>(by simp at g3)⟩⟩
    ·have e1:YT (gi W.IE (k:Int)).R3 1 20:=Qv.2 ⟨q.w1,q.w2⟩;have e2:((gi W.IE (k:Int)).IF != 0):=by simpa using q.m0
     have e5:(((gi W.IE (k:Int)).IH.length:Nat):Int)=((W.IF.length:Nat):Int):=by have:=q.len;omega
     rw[e1,e2,q.m,q.s,e5,Qm.2 q.q] at g3;simp at g3
    ·simp only[H',I6,bne_eq_false_iff_eq,Qv,A',It,Qm] at g3;obtain⟨⟨⟨⟨a1,a2⟩,a3⟩,a4⟩,a5⟩:=g3;exact⟨a1.1,a1.2,a2.2,a2.1,a3,Qo,a5⟩
    ·have e1:YT (gi W.IE (k:Int)).R3 1 20:=Qv.2 ⟨q.w1,q.w2⟩;have e2:((gi W.IE (k:Int)).IF != 0):=by simpa using q.m0
     rw[e1,e2,q.m];rfl
  ·have RW:=Ou RW;have h0:(0:Int)<(W.IE.length:Int):=Qo;refine⟨h.some,_,_,_,h.IE,h.rd.g.ix Qd h0,_,_,_,_,_,_,_,_,_,_,_,_,_,_,_,_,_,_,_,_,h.rd.g.cells 0 Qd h0,λ_ _=>PB ?_⟩;simp only[A',Is];constructor
   ·rintro⟨⟨e1,e2⟩,e3⟩ j j0 j1;exact Fz.2 ⟨hI j j0 Qo,λ_ hj=>by subst hj;exact⟨e1,e2,e3⟩⟩
   ·intro pp;have r:=(Fz.1 (pp 0 Qd Qd)).2 hs.tree.ru rfl;exact⟨⟨r.1,r.2.1⟩,r.2.2⟩
def z0a.wa(hs:z0a W)(hg:∀k:Int,0<=k->k<8->Kg W k):WA W:=⟨hs.n1,hs.n2,hs.c1,hs.c2,hs.t,hs.tree,hs.ups,hg⟩
def zyv{n:Int}:YT n (-10) 9=true↔Qh n≠0:=by
 unfold Qh
 cases h:YT n (-10) 9 with
 |true=>
  have:=Qv.1 h;simp;omega
 |false=>simp
def zbk(W:Q7)(t:Int):Prop:=AA W t/\((Q8 W t).state=1->ZZ (Qb W (Q8 W t).II (Q8 W t).R2).IL)
def zdt(h:Ph bs w p W m)(ha:WA W)(lg:W.IE.length<=maxLen):PX bs XK #[.pointer p] w (.bool (Ju (∀t:Int,0<=t->t<12->zbk W t))):=
 Hp p λwr hx=>by
  have h:=(h.ext hx).less (cs:=[]) Qs;have cZ:=ha.gl;have qT:=ha.t;refine⟨h.some,_,_,_,h.IJ,?_⟩;refine YU W.IJ.length 0 rfl (λk=>k<=W.IJ.length/\∀j:Int,0<=j->j<(k:Int)->zbk W j) ⟨Ic _,λj h0 h1=>by omega⟩ λk ⟨hk,hI⟩=>⟨λIV=>?_,λRW=>?_⟩
  ·have IV:=Ot IV;have k0:(0:Int)<=(k:Int):=Qo
   have nxt:zbk W (k:Int)->Qq .i64 ((k:Int)+1)/\zt7 (λk=>k<=W.IJ.length/\∀j:Int,0<=j->j<(k:Int)->zbk W j) [I ((k:Int)+1)]/\Xp W.IJ.length 0 [I ((k:Int)+1)]<Xp W.IJ.length 0 [I (k:Int)]:=λhq=>⟨⟨Qo,Qo⟩,Qy Qo ⟨Qo,λj h0 h1=>by
    by_cases jD:j<(k:Int)
    ·exact hI j h0 jD
    ·have:j=(k:Int):=Qo;subst this;exact hq⟩⟩
   have bad:¬zbk W (k:Int)->¬∀t:Int,0<=t->t<12->zbk W t:=λhn pp=>hn (pp (k:Int) k0 Qo)
   refine⟨h.rd.t.ix QT k0 IV,_,_,_,_,_,_,_,_,_,h.rd.t k k0 IV,λ_ _=>⟨_,λwq=>zfc Nb (zla (gi W.IJ (k:Int)) T3) _ _ wq,λg=>?_,λg=>?_⟩⟩
   ·rw[zmp,Ij] at g;have hz:Q8 W (k:Int)=T3:=g;exact nxt ⟨.inl ⟨by rw[hz];rfl,hz⟩,λe=>by rw[hz] at e;cases e⟩
   ·rw[zmp,decide_eq_false_iff_not] at g;have hz:¬Q8 W (k:Int)=T3:=g
    have get:zbk W (k:Int)->z0j W (gi W.IJ (k:Int)):=λq=>by
     rcases q.1 with ⟨_,e⟩|⟨_,q⟩
     ·exact Ir e hz
     ·exact q
    refine⟨λ_=>h.some,_,_,_,λ_=>h.IE,_,λ_=>KQ (c:=m.gC) h.rd.g lg,_,λ_=>DE,_,λ_=>Ga,λg2=>Gg (bad λq=>?_),λg2 b1 dG=>?_⟩
    ·have q:=get q;have e3:YT (gi W.IJ (k:Int)).nice (-10) 9:=zyv.2 q.n;have e4:((gi W.IJ (k:Int)).mask != 0):=by simpa using q.m0
     rw[q.g,e3,q.m,e4] at g2;simp only[Bool.not_true,Bool.or_false,Bool.and_true,A',It] at g2;have:=q.st;omega
    ·simp only[H',I6,A',It] at g2;obtain⟨⟨⟨a1,a2⟩,a3⟩,a4⟩:=g2
     have st:(gi W.IJ (k:Int)).state=1\/(gi W.IJ (k:Int)).state=2:=by
      by_cases h1:(gi W.IJ (k:Int)).state=1
      ·exact .inl h1
      ·refine .inr ?_;have:((gi W.IJ (k:Int)).state != 1):=by simpa using h1
       rw[this,Bool.true_and] at a1
       simpa using a1
     refine⟨_,λwx hxw hcx=>z7a hcx,_,λ_=>zhe,_,λ_=>zdk h ha.c2 ha.tree k0 IV a2,_,λ_=>zdi,λg3=>Gg (bad λq=>?_),λg3=>?_⟩
     ·have q:=get q;have e4:YT (gi W.IJ (k:Int)).load 0 8000000:=Qv.2 ⟨q.l1,q.l2⟩;have e5:Zk (QF W (Q8 W (k:Int)).II (Q8 W (k:Int)).mask) (gi W.IJ (k:Int)).R2:=q.c;rw[q.v,q.s,q.u,e4,e5] at g3;cases g3
     ·simp only[H',I6,Qv,A'] at g3;obtain⟨⟨b1',b2⟩,b3⟩:=g3;obtain⟨u1,u2,_⟩:=Q5.1 a2;obtain⟨c0,c1⟩:=GS ha b3;have hsl:=ha.sl a2;have c2:(gi W.IJ (k:Int)).R2<((gi W.IE (gi W.IJ (k:Int)).II).IH.length:Int):=Qo;have sh:=h.sh (g:=(gi W.IJ (k:Int)).II) u1 u2 c0 c2
      have mk:(((Q8 W (k:Int)).state=1->ZZ (Qb W (Q8 W (k:Int)).II (Q8 W (k:Int)).R2).IL/\KB (gi W.IJ (k:Int)).v (Qb W (gi W.IJ (k:Int)).II (gi W.IJ (k:Int)).R2).IL (Qh (gi W.IJ (k:Int)).nice)))->zbk W (k:Int):=λhf=>⟨.inr ⟨λe=>by
        have e:(gi W.IJ (k:Int)).state=0:=e;omega,⟨st,a2,zyv.1 a3,a4.2,a4.1,b1'.1,b1'.2.1,b1'.2.2,b2.1,b2.2,b3,λe=>(hf e).2⟩⟩,λe=>(hf e).1⟩
      refine⟨_,_,Uq,_,Zn h u1 u2 c0 c2,sh.1,_,sh.2 (j:=0) rfl,λ_ b2 cH=>⟨ZZ (Qb W (gi W.IJ (k:Int)).II (gi W.IJ (k:Int)).R2).IL,λ_ wx hxw hcx=>z6z hcx,_,λ_ _=>Ps,_,λg4 _=>H5 b1'.1 (by simpa using g4),λg4=>Gg (bad λq=>?_),λg4=>nxt (mk λe=>?_)⟩,λg4=>⟨λe=>(by cases e),λ_=>nxt (mk λe=>Ir (Is.2 e) g4)⟩⟩
      ·simp only[A',Is,Iu,ID] at g4;have e1:=(get q).f g4.1;have e2:=q.2 g4.1;rcases g4.2 with g5|g5
       ·have e2:ZZ (Qb W (gi W.IJ (k:Int)).II (gi W.IJ (k:Int)).R2).IL:=e2;rw[e2] at g5;cases g5
       ·rw[e1] at g5;cases g5
      ·have e':((gi W.IJ (k:Int)).state==1):=Is.2 e;rw[e',Bool.true_and] at g4;simp only[H',I6] at g4;exact g4
  ·have RW:=Ou RW;exact zmy λt h0 h1=>hI t h0 Qo
def Nm(h:Ph bs w p W m)(ha:WA W)(hf:∀i:Int,0<=i->i<(W.IE.length:Int)->zpi (gi W.IE i)):PX bs X7 #[.pointer p] w (.bool (Ju (∀k c:Int,0<=k->k<8->0<=c->c<((gi W.IE k).IH.length:Int)->Kh W k c))):=
 LJ p λwr hx=>by
  have h:=(h.ext hx).less (cs:=[]) Qs;have cZ:=ha.gl;have hcl:=ha.c2
  let TS:=λ(k c:Int)=>ZZ (Qb W k c).IL/\ZZ (Qb W k c).v/\ZZ (Qb W k c).sum/\1<=(Qb W k c).w/\(Qb W k c).w<=20
  have ts:(∀k c:Int,0<=k->k<8->0<=c->c<((gi W.IE k).IH.length:Int)->Kh W k c)->∀k c:Int,0<=k->k<8->0<=c->c<((gi W.IE k).IH.length:Int)->TS k c:=λq k c h0 h1 h2 h3=>by
   have r:=q k c h0 h1 h2 h3;exact⟨r.f,r.v,r.s,r.w1,r.w2⟩
  refine⟨h.some,_,_,_,h.IE,?_⟩;refine YU W.IE.length 0 rfl (λk=>k<=W.IE.length/\∀j c:Int,0<=j->j<(k:Int)->0<=c->c<((gi W.IE j).IH.length:Int)->TS j c) ⟨Ic _,λj c h0 h1=>by omega⟩ λk ⟨hk,hI⟩=>⟨λIV=>?_,λRW=>?_⟩
  ·have IV:=Ot IV;have k0:(0:Int)<=(k:Int):=Qo;have hsm:(gi W.IE (k:Int)).IH.length<=maxLen:=(hf _ k0 IV).sh;refine⟨h.rd.g.ix k0 IV,_,_,_,_,_,_,_,_,_,_,_,_,_,_,_,_,_,_,_,_,h.rd.g.cells k k0 IV,λ_ _=>?_⟩;refine YU (gi W.IE (k:Int)).IH.length 0 rfl (λc=>c<=(gi W.IE (k:Int)).IH.length/\∀d:Int,0<=d->d<(c:Int)->TS (k:Int) d) ⟨Ic _,λj h0 h1=>by omega⟩ λc ⟨hc,hJ⟩=>⟨λrZ=>?_,λAc7=>?_⟩
   ·have rZ:=Ot rZ;have c0:(0:Int)<=(c:Int):=Qo;have rs:=h.rd.g.IH (k:Int) k0 IV;refine⟨rs.ix YM c0 rZ,_,_,_,_,_,rs c c0 rZ,λ_ _ b2 cH=>⟨_,λwx hxw hcx=>z7a hcx,_,λ_=>Pt,λg=>Gg λq=>?_,λg=>⟨zlh rZ hsm,Qy Qo ⟨Qo,λd h0 h1=>?_⟩⟩⟩⟩
    ·have r:=ts q (k:Int) (c:Int) k0 Qo c0 rZ;have e4:YT (Qb W (k:Int) (c:Int)).w 1 20:=Qv.2 ⟨r.2.2.2.1,r.2.2.2.2⟩;have g':((!(ZZ (Qb W (k:Int) (c:Int)).IL&&(ZZ (Qb W (k:Int) (c:Int)).v&&ZZ (Qb W (k:Int) (c:Int)).sum))) || !YT (Qb W (k:Int) (c:Int)).w 1 20):=g;rw[r.1,r.2.1,r.2.2.1,e4] at g'
     cases g'
    ·by_cases jD:d<(c:Int)
     ·exact hJ d h0 jD
     ·have:d=(c:Int):=Qo;subst this;have g':((!(ZZ (Qb W (k:Int) (c:Int)).IL&&(ZZ (Qb W (k:Int) (c:Int)).v&&ZZ (Qb W (k:Int) (c:Int)).sum))) || !YT (Qb W (k:Int) (c:Int)).w 1 20)=false:=g;simp only[H',I6,A',Qv] at g';exact⟨g'.1.1,g'.1.2.1,g'.1.2.2,g'.2.1,g'.2.2⟩
   ·have Ac7:=Ou Ac7;refine⟨⟨Qo,Qo⟩,Qy Qo ⟨Qo,λj d h0 h1 h2 h3=>?_⟩⟩
    by_cases jD:j<(k:Int)
    ·exact hI j d h0 jD h2 h3
    ·have:j=(k:Int):=Qo;subst this;exact hJ d h2 Qo
  have RW:=Ou RW;have hT:∀j c:Int,0<=j->j<8->0<=c->c<((gi W.IE j).IH.length:Int)->TS j c:=λj c h0 h1=>hI j c h0 Qo
  refine⟨h.some,_,_,_,h.IF,?_⟩;refine YU W.IF.length 0 rfl (λc=>c<=W.IF.length/\∀d k:Int,0<=d->d<(c:Int)->0<=k->k<8->d<((gi W.IE k).IH.length:Int)->Kh W k d) ⟨Ic _,λj k h0 h1=>by omega⟩ λc ⟨hc,hJ⟩=>⟨λrZ=>?_,λAc7=>?_⟩
  ·have rZ:=Ot rZ;have c0:(0:Int)<=(c:Int):=Qo;obtain⟨r1,r2,_⟩:=Q5.1 ha.root;have hrc:(c:Int)<((gi W.IE 0).IH.length:Int):=by rw[ha.sl ha.root];exact rZ
   have sh:=h.sh (g:=0) r1 r2 c0 hrc;have tr:=hT 0 (c:Int) Qd Qd c0 hrc;refine⟨_,_,Uq,λ_ _=>⟨_,Zn h r1 r2 c0 hrc,sh.1,(Qb W 0 (c:Int)).on,sh.2 (j:=1) rfl,λ_=>sh.1,(Qb W 0 (c:Int)).v,λ_=>sh.2 (j:=2) rfl,λ_=>sh.1,(Qb W 0 (c:Int)).w,λ_=>sh.2 (j:=3) rfl,λg=>Gg λq=>?_,λg=>?_⟩⟩
   ·have r:=(q 0 (c:Int) Qd Qd c0 hrc).root rfl;rw[r.1,r.2.1,r.2.2] at g;simp at g
   simp only[H',bne_eq_false_iff_eq] at g;have root:Kh W 0 (c:Int):=⟨tr.1,tr.2.1,tr.2.2.1,tr.2.2.2.1,tr.2.2.2.2,λ_=>⟨g.1.1,g.1.2,g.2⟩,λeO=>Ir rfl eO,λeO=>Ir rfl eO⟩
   refine YU 8 1 rfl (λk=>1<=k/\k<=8/\∀j:Int,0<=j->j<(k:Int)->(c:Int)<((gi W.IE j).IH.length:Int)->Kh W j (c:Int)) ⟨I7 _,Qo,λj h0 h1 _=>by
    have:j=0:=Qo;subst this;exact root⟩ λk ⟨hk1,hk,hK⟩=>⟨λIV=>?_,λbK=>?_⟩
   ·have IV:=Ot IV;have k0:(0:Int)<=(k:Int):=Qo;have kl:(k:Int)<(W.IE.length:Int):=Qo
    have nxt:((c:Int)<((gi W.IE (k:Int)).IH.length:Int)->Kh W (k:Int) (c:Int))->Qq .i64 ((k:Int)+1)/\zt7 (λk=>1<=k/\k<=8/\∀j:Int,0<=j->j<(k:Int)->(c:Int)<((gi W.IE j).IH.length:Int)->Kh W j (c:Int)) [I ((k:Int)+1)]/\Xp 8 0 [I ((k:Int)+1)]<Xp 8 0 [I (k:Int)]:=λhq=>⟨⟨Qo,Qo⟩,Qy Qo ⟨Qo,Qo,λj h0 h1 h2=>by
     by_cases jD:j<(k:Int)
     ·exact hK j h0 jD h2
     ·have:j=(k:Int):=Qo;subst this;exact hq h2⟩⟩
    refine⟨h.some,_,_,_,h.IE,h.rd.g.ix k0 kl,_,h.rd.g.IW k0 kl,λg2=>nxt λhh=>?_,λg2=>?_⟩
    ·have hu:(gi W.IE (k:Int)).IW=false:=by simpa using g2
     have:=((ha.grp (k:Int) k0 Qo).1 hu).l;omega
    ·have hus:(gi W.IE (k:Int)).IW:=by simpa using g2
     have hu:Q6 W.IE (k:Int):=Q5.2 ⟨k0,kl,hus⟩;have hkc:(c:Int)<((gi W.IE (k:Int)).IH.length:Int):=by rw[ha.sl hu];exact rZ
     have hp:=ha.up hu Qo;obtain⟨v1,v2,_⟩:=Q5.1 hp;have wK:(c:Int)<((gi W.IE (gi W.IE (k:Int)).IG).IH.length:Int):=by rw[ha.sl hp];exact rZ
     have sk:=h.sh (g:=(k:Int)) k0 kl c0 hkc;have sp:=h.sh (g:=(gi W.IE (k:Int)).IG) v1 v2 c0 wK;have tk:=hT (k:Int) (c:Int) k0 Qo c0 hkc;have tp:=hT (gi W.IE (k:Int)).IG (c:Int) v1 Qo c0 wK;refine⟨_,Zn h k0 kl c0 hkc,sk.1,(Qb W (k:Int) (c:Int)).on,sk.2 (j:=1) rfl,_,Kt h ha c0 rZ,_,λ_=>zdl h ha hu c0 rZ,λ_=>sk.1,(Qb W (k:Int) (c:Int)).on,λ_=>sk.2 (j:=1) rfl,λ_ _=>sk.1,(Qb W (k:Int) (c:Int)).v,λ_ _=>sk.2 (j:=2) rfl,λ_ _=>h.some,_,_,_,λ_ _=>h.IE,λ_ _=>h.rd.g.ix k0 kl,_,λ_ _=>h.rd.g.IG k0 kl,_,λ_ _=>Zn h v1 v2 c0 wK,λ_ _=>sp.1,(Qb W (gi W.IE (k:Int)).IG (c:Int)).IL,λ_ _=>sp.2 (j:=0) rfl,λ_ _=>sk.1,(Qb W (k:Int) (c:Int)).w,λ_ _=>sk.2 (j:=3) rfl,_,λ_ _=>H5 tk.2.1 tp.1,λg3=>Gg λq=>?_,λg3=>nxt λ_=>?_⟩
     ·have r:=q (k:Int) (c:Int) k0 Qo c0 hkc;have r1:=r.on Qo;simp only[Iu,A',ID,beq_eq_false_iff_ne] at g3;rcases g3 with g3|g3
      ·exact g3 r1
      ·have:=r.st Qo g3.1;rw[this] at g3
       cases g3.2
     ·simp only[H',I6,Is] at g3;refine⟨tk.1,tk.2.1,tk.2.2.1,tk.2.2.2.1,tk.2.2.2.2,λe=>by omega,λ_=>g3.1,λ_ ho=>?_⟩;have:=g3.2;rw[ho,Bool.true_and] at this
      simpa using this
   ·have bK:=Ou bK;refine⟨⟨Qo,Qo⟩,Qy Qo ⟨Qo,λd k' h0 h1 h2 h3 h4=>?_⟩⟩
    by_cases hdc:d<(c:Int)
    ·exact hJ d k' h0 hdc h2 h3 h4
    ·have:d=(c:Int):=Qo;subst this;exact hK k' h2 Qo h4
  ·have Ac7:=Ou Ac7;refine zmy λk d h0 h1 h2 h3=>hJ d k h2 ?_ h0 h1 h3
   have hus:(gi W.IE k).IW:=by
    cases hu:(gi W.IE k).IW with
    |true=>rfl
    |false=>
     have:=((ha.grp k h0 h1).1 hu).l;omega
   have:=ha.sl (Q5.2 ⟨h0,Qo,hus⟩);omega
def zhc(h:Ph bs w p W m)(ha:WA W)(hts:∀t:Int,0<=t->t<12->AA W t)(hss:∀k c:Int,0<=k->k<8->0<=c->c<((gi W.IE k).IH.length:Int)->Kh W k c):PX bs XY #[.pointer p] w (.bool (Ju (∀c:Int,0<=c->c<(W.IF.length:Int)->Bs W c))):=
 Do p λwr hx=>by
  have h:=(h.ext hx).less (cs:=[]) Qs;have cZ:=ha.gl;have qT:=ha.t;have hcl:=ha.c2;have hm9:=ZW;refine⟨h.some,_,_,_,h.IF,?_⟩;refine YU W.IF.length 0 rfl (λc=>c<=W.IF.length/\∀j:Int,0<=j->j<(c:Int)->Bs W j) ⟨Ic _,λj h0 h1=>by omega⟩ λc ⟨hc,hI⟩=>⟨λIV=>?_,λRW=>?_⟩
  ·have IV:=Ot IV;have c0:(0:Int)<=(c:Int):=Qo
   have nxt:Bs W (c:Int)->Qq .i64 ((c:Int)+1)/\zt7 (λc=>c<=W.IF.length/\∀j:Int,0<=j->j<(c:Int)->Bs W j) [I ((c:Int)+1)]/\Xp W.IF.length 0 [I ((c:Int)+1)]<Xp W.IF.length 0 [I (c:Int)]:=λhq=>⟨⟨Qo,Qo⟩,Qy Qo ⟨Qo,λj h0 h1=>by
    by_cases jD:j<(c:Int)
    ·exact hI j h0 jD
    ·have:j=(c:Int):=Qo;subst this;exact hq⟩⟩
   have bad:¬Bs W (c:Int)->¬∀c:Int,0<=c->c<(W.IF.length:Int)->Bs W c:=λhn pp=>hn (pp (c:Int) c0 IV)
   refine⟨h.rd.c.ix Y9 c0 IV,_,_,_,_,_,h.rd.c c c0 IV,λ_ _ b1 dG=>⟨_,λwx hxw hcx=>z7o hcx,λg=>Gg (bad λq=>?_),λg=>⟨λg2=>nxt ?_,λg2=>?_⟩⟩⟩
   ·rw[q.b,q.i] at g;cases g
   ·simp only[I6,A'] at g;simp only[A',Is] at g2;exact⟨g.1,g.2,Qo,Qo,λ_=>g2.2,λhh=>by omega⟩
   ·simp only[I6,A'] at g
    have ne:Bs W (c:Int)->0<=(gi W.IF (c:Int)).cur:=λq=>by
     rcases Int.lt_or_le (gi W.IF (c:Int)).cur 0 with C99|B20
     ·have e1:=q.c1;have e2:=q.no C99;have e3:(gi W.IF (c:Int)).cur = -1:=Qo;rw[e3,e2] at g2;simp at g2
     ·exact B20
    have there:(YT (gi W.IF (c:Int)).cur 0 ((W.IJ.length:Int)-1)&&((Q8 W (gi W.IF (c:Int)).cur).state != 0))->0<=(gi W.IF (c:Int)).cur/\(gi W.IF (c:Int)).cur<(W.IJ.length:Int):=λq=>by
     simp only[A'] at q;have:=Qv.1 q.1;omega
    have lu:0<=(gi W.IF (c:Int)).cur/\(gi W.IF (c:Int)).cur<(W.IJ.length:Int)->(Q8 W (gi W.IF (c:Int)).cur).state=1->Q6 W.IE (Q8 W (gi W.IF (c:Int)).cur).II:=λq hs=>(FO ha (hts _ q.1 Qo) hs).1
    refine⟨_,_,Uq,λ_ _=>⟨_,λ_=>Nn h Qo,((Q8 W (gi W.IF (c:Int)).cur).R2==(c:Int))&&Zq W (gi W.IF (c:Int)).cur,λq=>?_,_,λ_=>QK,λg3=>Gg (bad λq=>?_),λg3=>?_⟩⟩
    ·simp only[H',I6] at q;have:=there q.2;exact DD h ha this.1 this.2 c0 IV (lu this)
    ·have t0:=ne q;have t1:=q.c2;have y:=q.yes t0;have e2:YT (gi W.IF (c:Int)).cur 0 ((W.IJ.length:Int)-1):=Qv.2 Qo;have vM:(Q8 W (gi W.IF (c:Int)).cur).state=1:=(zlt (hts _ t0 Qo) y.2.2.2.2.1).2;have e4:YT (gi W.IF (c:Int)).Wh 1 149:=Qv.2 ⟨y.2.1,y.2.2.1⟩;rw[y.1,e2,vM,y.2.2.2.1,y.2.2.2.2.1,e4] at g3;simp at g3
    ·simp only[H',I6] at g3;obtain⟨⟨⟨a1,a2⟩,a3⟩,a4⟩:=g3;obtain⟨t0,t1⟩:=there a2;have a4:=Qv.1 a4;simp only[A',Is] at a3;obtain⟨CB5,vL⟩:=a3;obtain⟨q,_⟩:=zlt (hts _ t0 Qo) vL;have au:=q.g;obtain⟨u1,u2,_⟩:=Q5.1 au
     have sl:∀{x:Int},Q6 W.IE x->0<=x/\x<(W.IE.length:Int)/\(c:Int)<((gi W.IE x).IH.length:Int)/\Kh W x (c:Int):=λ{x} hx=>by
      obtain⟨v1,v2,_⟩:=Q5.1 hx;have c3:(c:Int)<((gi W.IE x).IH.length:Int):=by rw[ha.sl hx];exact IV
      exact⟨v1,v2,c3,hss x (c:Int) v1 Qo c0 c3⟩
     obtain⟨_,_,c2,sp⟩:=sl au;have sh:=h.sh (g:=(Q8 W (gi W.IF (c:Int)).cur).II) u1 u2 c0 c2;have mk:MJ W (c:Int)->Bs W (c:Int):=λvM=>⟨g.1,g.2,Qo,t1,λhh=>by omega,λ_=>⟨a1,a4.1,a4.2,CB5,vL,vM⟩⟩
     refine⟨h.some,_,_,_,h.IJ,h.rd.t.ix QT t0 t1,_,_,_,_,_,_,_,_,_,h.rd.t _ t0 t1,λ_ _=>⟨h.rd.t _ t0 t1,rfl,h.IJ,_,Zn h u1 u2 c0 c2,sh.1,_,sh.2 (j:=0) rfl,Ni q.v sp.f,_,Ps,_,XB,λg4=>Gg (bad λqq=>?_),λg4=>?_⟩⟩
     ·have g4:=Ot g4;have hd:¬((Q8 W (gi W.IF (c:Int)).cur).v-(Qb W (Q8 W (gi W.IF (c:Int)).cur).II (c:Int)).IL<=Z2 (gi W.IF (c:Int)).Wh (Qh (Q8 W (gi W.IF (c:Int)).cur).nice)):=Int.not_le.2 g4;have:=(qq.yes t0).2.2.2.2.2;unfold MJ at this;rw[decide_eq_false hd] at this;cases this
     ·have g4:=Ou g4;have hd:(Q8 W (gi W.IF (c:Int)).cur).v-(Qb W (Q8 W (gi W.IF (c:Int)).cur).II (c:Int)).IL<=Z2 (gi W.IF (c:Int)).Wh (Qh (Q8 W (gi W.IF (c:Int)).cur).nice):=Int.not_lt.1 g4
      have hS:MJ W (c:Int)=Od W (Q8 W (gi W.IF (c:Int)).cur).II (c:Int) (gi W.IF (c:Int)).Wh:=by
       unfold MJ;rw[Ih hd,Bool.true_and]
      refine⟨λvs=>∃x:Int,vs=[I x]/\Q6 W.IE x/\Od W x (c:Int) (gi W.IF (c:Int)).Wh=Od W (Q8 W (gi W.IF (c:Int)).cur).II (c:Int) (gi W.IF (c:Int)).Wh,λvs=>(dep 3 W.IE (Y4 0 vs)).toNat,⟨_,rfl,au,rfl⟩,?_⟩;rintro x ⟨x',he,hux,hJ⟩;simp only[I4,I5,true_and,and_true] at he;subst he;refine⟨λhz=>?_,λhz=>?_⟩
      ·have hz:x≠0:=by simpa using hz
       obtain⟨hp,a,b,d,e,e2,hd⟩:=Y3 ha.tree hux hz;obtain⟨x1,x2,x3,xs⟩:=sl hux;obtain⟨p1,p2,p3,ps⟩:=sl hp;have sx:=h.sh (g:=x) x1 x2 c0 x3;have spp:=h.sh (g:=(gi W.IE x).IG) p1 p2 c0 p3;unfold Od at hJ;rw[Yg ha.tree hux hz,List.all_cons] at hJ
       refine⟨_,Zn h x1 x2 c0 x3,sx.1,_,sx.2 (j:=2) rfl,h.some,_,_,_,h.IE,h.rd.g.ix x1 x2,_,h.rd.g.IG x1 x2,_,Zn h p1 p2 c0 p3,spp.1,_,spp.2 (j:=0) rfl,Ni xs.v ps.f,sx.1,_,sx.2 (j:=3) rfl,_,XB,λg5=>Gg (bad λqq=>?_),λg5=>⟨h.some,_,_,_,h.IE,h.rd.g.ix x1 x2,_,h.rd.g.IG x1 x2,⟨_,rfl,hp,?_⟩,by
        show (dep 3 W.IE (gi W.IE x).IG).toNat<(dep 3 W.IE x).toNat;omega⟩⟩
       ·have g5:=Ot g5;have hd:¬((Qb W x (c:Int)).v-(Qb W (gi W.IE x).IG (c:Int)).IL<=Z2 (gi W.IF (c:Int)).Wh (Qb W x (c:Int)).w):=Int.not_le.2 g5;rw[decide_eq_false hd,Bool.false_and] at hJ;have:=(qq.yes t0).2.2.2.2.2;rw[hS] at this;unfold Od at this;rw[<-hJ] at this;cases this
       ·have g5:=Ou g5;have hd:(Qb W x (c:Int)).v-(Qb W (gi W.IE x).IG (c:Int)).IL<=Z2 (gi W.IF (c:Int)).Wh (Qb W x (c:Int)).w:=Int.not_lt.1 g5;rw[Ih hd,Bool.true_and] at hJ;exact hJ
      ·have hz:x=0:=by simpa using hz
       subst hz;refine nxt (mk ?_);rw[hS,<-hJ];unfold Od;rw[show QM W.IE 0=[] from Zc _ _,List.all_nil]
  ·have RW:=Ou RW;exact zmy λt h0 h1=>hI t h0 Qo
def zds(h:Ph bs w p W m)(lc:W.IF.length<=maxLen)(lg:W.IE.length<=maxLen):PX bs XJ #[.pointer p] w (.bool (Ju (z0a W))):=
 Ho p λwr hx=>by
  have h:=(h.ext hx).less (cs:=[]) Qs;refine⟨h.some,_,h.now,λb hb=>⟨ZZ W.now,λwx hxw hcx=>z6z hcx,λ_=>h.some,_,_,_,λ_=>h.IF,_,λ_=>QK,JC W.IF,λg=>Ku h ?_,λ_=>h.some,_,_,_,λ_=>h.IJ,λ_=>h.some,_,_,_,λ_=>h.IE,Kc W.IE,λ_=>zhb h.rd.g lg,PB ?_⟩⟩
  ·simp only[A',Qv] at g;omega
  ·simp only[A',Qv,Is,It,Xg,T1];constructor
   ·rintro⟨⟨⟨⟨e1,e2⟩,e3⟩,e4⟩,e5⟩;exact⟨e1.1,e1.2,Qo,Qo,Qo,e5,e3⟩
   ·intro q;have:=q.t;have:=q.c1;have:=q.c2;exact⟨⟨⟨⟨⟨q.n1,q.n2⟩,Qo⟩,q.ups⟩,Qo⟩,q.tree⟩
def zdj(h:J6 bs w W m)(lc:W.IF.length<=maxLen)(lg:W.IE.length<=maxLen)(hf:∀i:Int,0<=i->i<(W.IE.length:Int)->zpi (gi W.IE i)) :
  PX bs Pk #[.agg (Qa W m).toArray] w (.bool (Qp W)):=by
 refine L7 λwr0 hx0=>zcr _ _ _ _ _ _ _ _ _ _ (R:=λv w'=>v=.bool (Qp W)/\Q0 [] wr0 w') ?_
 have h:=(h.ext hx0).less (cs:=[]) Qs;intro b wb hxb hb WY _ b1 dG
 have hP:∀{bs:List Nat} {w1:Wo},Q0 [] wb w1->(∀x∈bs,wb.heap.size<=x)->Ph bs w1 (some ⟨b,0,none⟩) W m:=λ{bs w1} hx hbs=>by
  have hbn:b∉bs:=λhm=>by
   have:=hbs b hm;have:=UX WY;omega
  have hrd:J6 bs w1 W m:=((h.ext hxb).wide (cs:=bs) λx hm=>.inr (hbs x hm)).ext hx.of_nil;exact⟨VC (QR WY hx Qs) hbn (k0:=0) λj v hj=>by rw[Nat.zero_add,Nat.zero_add];exact hj,hrd⟩
 let Cn:=λ(k:Nat)=>match k with
  |0=>z0a W
  |1=>∀k:Int,0<=k->k<8->Kg W k
  |2=>∀t:Int,0<=t->t<12->zbk W t
  |3=>∀k c:Int,0<=k->k<8->0<=c->c<((gi W.IE k).IH.length:Int)->Kh W k c
  |_=>∀c:Int,0<=c->c<(W.IF.length:Int)->Bs W c
 have all:XV W->∀k:Nat,k<5->Cn k:=λq k hk=>by
  have:k=0\/k=1\/k=2\/k=3\/k=4:=Qo;rcases this with rfl|rfl|rfl|rfl|rfl
  ·exact⟨q.a.n1,q.a.n2,q.a.c1,q.a.c2,q.a.t,q.a.tree,q.a.ups⟩
  ·exact q.a.grp
  ·refine λt h0 h1=>⟨q.t t h0 h1,λhs=>?_⟩
   have hu:=FO q.a (q.t t h0 h1) hs;obtain⟨u1,u2,_⟩:=Q5.1 hu.1;have:=q.a.gl;exact(q.s _ _ u1 Qo hu.2.1 (by rw[q.a.sl hu.1];exact hu.2.2)).f
  ·exact q.s
  ·exact q.c
 have back:(∀k:Nat,k<5->Cn k)->XV W:=λq=>by
  have q0:z0a W:=q 0 Qd;have q1:∀k:Int,0<=k->k<8->Kg W k:=q 1 Qd;have q2:∀t:Int,0<=t->t<12->zbk W t:=q 2 Qd;exact⟨q0.wa q1,λt h0 h1=>(q2 t h0 h1).1,q 3 Qd,q 4 Qd⟩
 have cond:∀k:Nat,k<5->(∀j:Nat,j<k->Cn j)->∀{w1:Wo},Q0 [] wb w1->∃F:FuncId,(#[.func (.func XJ) #[] #[],.func (.func Xl) #[] #[],.func (.func XK) #[] #[],.func (.func X7) #[] #[],.func (.func XY) #[] #[]]:Array Va)[k]? = some (.func (.func F) #[] #[])/\(∀(w:Wo) (x:Va),(zm9 (.func (.func F) #[] #[]) [x]).run Tryz.prog w=.ok (.enter F #[x]) w)/\∃rv:Bool,(rv=true↔Cn k)/\PX [b1] F #[.pointer (some ⟨b,0,none⟩)] w1 (.bool rv):=λk hk hj {w1} hx=>by
  have hp:=hP (bs:=[b1]) hx (by simpa using dG);have:k=0\/k=1\/k=2\/k=3\/k=4:=Qo;rcases this with rfl|rfl|rfl|rfl|rfl
  ·exact⟨_,rfl,λ_ _=>rfl,_,Qm,zds hp lc lg⟩
  ·have q0:z0a W:=hj 0 Qd;exact⟨_,rfl,λ_ _=>rfl,_,Qm,CS hp q0 hf⟩
  ·have q0:z0a W:=hj 0 Qd;have q1:∀k:Int,0<=k->k<8->Kg W k:=hj 1 Qd;exact⟨_,rfl,λ_ _=>rfl,_,Qm,zdt hp (q0.wa q1) lg⟩
  ·have q0:z0a W:=hj 0 Qd;have q1:∀k:Int,0<=k->k<8->Kg W k:=hj 1 Qd;exact⟨_,rfl,λ_ _=>rfl,_,Qm,Nm hp (q0.wa q1) hf⟩
  ·have q0:z0a W:=hj 0 Qd;have q1:∀k:Int,0<=k->k<8->Kg W k:=hj 1 Qd;have q2:∀t:Int,0<=t->t<12->zbk W t:=hj 2 Qd;have q3:∀k c:Int,0<=k->k<8->0<=c->c<((gi W.IE k).IH.length:Int)->Kh W k c:=hj 3 Qd;exact⟨_,rfl,λ_ _=>rfl,_,Qm,zhc hp (q0.wa q1) (λt h0 h1=>(q2 t h0 h1).1) q3⟩
 refine⟨λvs w1=>∃k:Nat,vs=[.bool true,I (k:Int)]/\k<=5/\Q0 [] wb w1/\∀j:Nat,j<k->Cn j,Zp 5 1,λwr hx _=>⟨0,rfl,Qo,hx,λj hj=>Ir hj (Nat.not_lt_zero j)⟩,?_⟩;rintro ok x w1 eR ⟨k,he,hk,hX,hI⟩;simp only[I4,I5,Value.bool.injEq,true_and,and_true] at he;obtain⟨rfl,rfl⟩:=he
 have fr:∀{w2:Wo},Q0 [b1] w1 w2->Q0 [] wb w2:=λ{w2} hx=>hX.fresh hx λy hm=>.inl (by
  have:y=b1:=by simpa using hm
  omega)
 refine⟨λIV=>?_,λRW wr hx=>⟨?_,hxb.trans (fr hx)⟩⟩
 ·have IV:=Ot IV;obtain⟨F,hF,_⟩:=cond k Qo hI hX;refine⟨.func F,#[],#[],⟨Qo,Qo,by rw[Ig];exact hF⟩,λR6 Sn We=>?_⟩;obtain⟨F',hF',hcv,rv,hrv,hpu⟩:=cond k Qo hI (fr Sn);rw[hF] at hF';simp only[I0,Value.func.injEq,Fn.func.injEq,and_self,and_true] at hF';subst hF';refine .inl ⟨F,#[.pointer (some ⟨b,0,none⟩)],?_,?_⟩
  ·exact hcv _ _
  ·refine(hpu R6 (Q0.refl _ _)).mono λe w3 ⟨he,Rl⟩=>⟨rv,he,Qg Rl We,λg R7 W8=>⟨?_,hxb.trans ((fr Sn).trans Rl |>.fresh W8 λy hm=>.inl (by
    have:y=b1:=by simpa using hm
    omega))⟩,λg=>⟨⟨Qo,Qo⟩,λRD W8 _=>⟨⟨k+1,Qs,Qo,((fr Sn).trans Rl).fresh W8 λy hm=>.inl (by
    have:y=b1:=by simpa using hm
    omega),λj hj=>?_⟩,Z6 (k:=k) rfl rfl Qo⟩⟩⟩
   ·have g:rv=false:=by simpa using g
    exact Gg λq=>by
     rw[hrv.2 (all q k Qo)] at g;cases g
   ·by_cases jD:j<k
    ·exact hI j jD
    ·have:j=k:=Qo;subst this;exact hrv.1 (by simpa using g)
 ·have RW:=Ou RW;have:k=5:=Qo;subst this;exact zmy (back hI)
end
def HJ:zph Tryz.prog Gm 5 Zd 40 (⟨false,0,0,0,0⟩:PZ):=GX Qk λ_=>rfl
def KC:Tryz.prog.underlying Zu=some (.slice Zd):=Qk
def M5:zph Tryz.prog X4 9 QS 72 (⟨0,0,0,0,0,0,0,0,0⟩:MQ):=GX Qk λ_=>rfl
def MM:Tryz.prog.underlying Z5=some (.slice QS):=Qk
section
variable {W:Q7}{m:MW}{w w':Wo}
structure z3f (base:Nat) (w:Wo) (W:Q7) (m:MW):Prop where
 c:Uy Gm 5 Zd base w m.cO m.cC W.IF
 t:Uy X4 9 QS base w m.tO m.tC W.IJ
 g:∃ps:List (Zb×MG),ps.map (·.1)=W.IE/\(λk:Nat=>(gi ps (k:Int)).2)=m.ms/\Lo base w m.gO m.gC ps
def z3f.mono{base bA:Nat}(h:z3f base w W m)(hb:bA<=base):z3f bA w W m:=
 ⟨h.c.mono hb,h.t.mono hb,by
  obtain⟨ps,h1,h2,h3⟩:=h.g;exact⟨ps,h1,h2,h3.mono hb⟩⟩
end
def zlr{x bt n:Nat}(hm:x∈[bt])(h:n<=bt):n<=x:=by
 have:x=bt:=by simpa using hm
 omega
structure Sc (w0:Wo) (bs:List Nat) (w:Wo):Prop where
 ext:Q0 [] w0 w
 new:∀x∈bs,w0.heap.size<=x
def Sc.start(w:Wo):Sc w [] w:=⟨Q0.refl _ _,Qs⟩
def Sc.step{w0:Wo}{bs:List Nat}{w w':Wo}(h:Sc w0 bs w)(hx:Q0 bs w w'):Sc w0 bs w':=⟨h.ext.fresh hx λx hm=>.inl (h.new x hm),h.new⟩
def Sc.call{w0:Wo}{bs cs:List Nat}{w w':Wo}(h:Sc w0 bs w)(hx:Q0 cs w w')(hc:∀x∈cs,w0.heap.size<=x):Sc w0 bs w':=⟨h.ext.fresh hx λx hm=>.inl (hc x hm),h.new⟩
def Sc.R5{w0:Wo}{bs:List Nat}{w w':Wo}(h:Sc w0 bs w)(hx:Q0 [] w w'):Sc w0 bs w':=⟨h.ext.trans hx,h.new⟩
def Sc.add{w0:Wo}{bs:List Nat}{w:Wo}{b:Nat}(h:Sc w0 bs w)(hb:w.heap.size<=b):Sc w0 (bs++[b]) w:=⟨h.ext,λx hm=>by
 rcases Im.1 hm with hm|hm
 ·exact h.new x hm
 ·have:x=b:=by simpa using hm
  have:=h.ext.size;omega⟩
def Sc.sub{w0:Wo}{bs cs:List Nat}{w:Wo}(h:Sc w0 bs w)(hs:∀x∈cs,x∈bs):Sc w0 cs w:=⟨h.ext,λx hm=>h.new x (hs x hm)⟩
def Sc.put{w0:Wo}{bs:List Nat}{w w':Wo}{b:Nat}(h:Sc w0 bs w)(hx:Q0 bs w w')(hb:w.heap.size<=b):Sc w0 (bs++[b]) w':=⟨(h.step hx).ext,(h.add hb).new⟩
def Sc.AH9{w0:Wo}{bs:List Nat}{w w':Wo}{b b2:Nat}(h:Sc w0 bs w)(hx:Q0 bs w w')(hb:w.heap.size<=b)(cH:w.heap.size<=b2):Sc w0 (bs++[b]++[b2]) w':=⟨(h.step hx).ext,((h.add hb).add cH).new⟩
structure Ob {α:Type} (enc:α->List Va) (z:Nat) (ty:TypeId) (base:Nat) (bs:List Nat) (w:Wo) (o:OA) (cap:Nat) (l:List α):Prop where
 own:Uy enc z ty base w o cap l
 nb:∀x∈QL o,x∉bs
section
variable {α:Type}{enc:α->List Va}{z:Nat}{ty:TypeId}{base:Nat}{bs cs:List Nat}{w w':Wo}{o:OA}{cap:Nat}{l:List α}{b:Nat}
def Ob.of(h:Uy enc z ty base w o cap l)(hs:∀x∈bs,x<base):Ob enc z ty base bs w o cap l:=⟨h,λx hx hm=>by
 have:=(h.lt x hx).1;have:=hs x hm;omega⟩
def Ob.step(h:Ob enc z ty base bs w o cap l)(hx:Q0 bs w w'):Ob enc z ty base bs w' o cap l:=⟨h.own.ext hx h.nb,h.nb⟩
def Ob.R5(h:Ob enc z ty base bs w o cap l)(hx:Q0 [] w w'):Ob enc z ty base bs w' o cap l:=⟨h.own.WR hx,h.nb⟩
def Ob.call(h:Ob enc z ty base bs w o cap l)(hx:Q0 cs w w')(hd:∀x∈QL o,x∉cs):Ob enc z ty base bs w' o cap l:=⟨h.own.ext hx hd,h.nb⟩
def Ob.add(h:Ob enc z ty base bs w o cap l)(hb:w.heap.size<=b):Ob enc z ty base (bs++[b]) w o cap l:=⟨h.own,λx hx hm=>by
 rcases Im.1 hm with hm|hm
 ·exact h.nb x hx hm
 ·have:x=b:=by simpa using hm
  have:=(h.own.lt x hx).2;omega⟩
def Ob.put(h:Ob enc z ty base bs w o cap l)(hx:Q0 bs w w')(hb:w.heap.size<=b):Ob enc z ty base (bs++[b]) w' o cap l:=⟨(h.step hx).own,(h.add hb).nb⟩
def Ob.AH9{b2:Nat}(h:Ob enc z ty base bs w o cap l)(hx:Q0 bs w w')(hb:w.heap.size<=b)(cH:w.heap.size<=b2):Ob enc z ty base (bs++[b]++[b2]) w' o cap l:=⟨(h.step hx).own,((h.add hb).add cH).nb⟩
def Ob.sub(h:Ob enc z ty base bs w o cap l)(hs:∀x∈cs,x∈bs):Ob enc z ty base cs w o cap l:=⟨h.own,λx hx hm=>h.nb x hx (hs x hm)⟩
def Ob.mono{bA:Nat}(h:Ob enc z ty base bs w o cap l)(hb:bA<=base):Ob enc z ty bA bs w o cap l:=⟨h.own.mono hb,h.nb⟩
def Ob.rd[Inhabited α](h:Ob enc z ty base bs w o cap l)(hz:∀x,(enc x).length=z):Rd enc z bs w o l:=h.own.rd hz h.nb
def Ob.rd0[Inhabited α](h:Ob enc z ty base bs w o cap l)(hz:∀x,(enc x).length=z):Rd enc z [] w o l:=h.own.rd hz Qs
end
def Rd.scb{α:Type}[Inhabited α]{enc:α->List Va}{z:Nat}{w0:Wo}{bs:List Nat}{w:Wo}{o:OA}{l:List α}(h:Rd enc z [] w0 o l)(hs:Sc w0 bs w):Rd enc z bs w o l:=(h.wide (cs:=bs) λx hm=>.inr (hs.new x hm)).ext hs.ext.of_nil
def KW{bs cs:List Nat}{w w':Wo}(hx:Q0 cs w w')(hs:∀b∈bs,b<w.heap.size)(hd:∀x∈cs,x∉bs):Q9 bs w w':=λx hm=>hx.block x (hs x hm) λjW=>hd x jW hm
def Ob.AQ6{α:Type}[Inhabited α]{P:Program}{enc:α->List Va}{z:Nat}{ty t:TypeId}{bytes:Nat}{zero:α}(E:zph P enc z ty bytes zero)(ht:P.underlying t=some (.slice ty)){base:Nat}{bs:List Nat}{w:Wo}{o:OA}{cap:Nat}{l:List α}(hO:Ob enc z ty base bs w o cap l)(hs:∀x∈bs,x<w.heap.size)(AC9:base<=w.heap.size){x:α}{b:Nat}{t':TypeId}{fz:Nat×Nat}(hb:w.heap[b]? = some (.cells (enc x).toArray t' fz))(h1:Zg (enc x))(hl:l.length<=1048576)(hby:bytes<=1000)(tr:TypeId)(cs:Array Bool) :
  ∃o' y' w',(builtin .append #[t,t] tr cs #[.slice o l.length cap,.slice (some ⟨b,0,none⟩) 1 1]).run P w=.ok (.value (.slice o' (l++[x]).length y')) w'/\Q9 bs w w'/\Ob enc z ty base bs w' o' y' (l++[x])/\Q0 (QL o) w w':=by
 have hbb:(2*(l.length+1))*bytes<=281474976710656:=IB (Nat.mul_le_mul (show 2*(l.length+1)<=2097154 by omega) hby) Qd;obtain⟨o2,c2,w2,Wn,vB,Rg,ho2⟩:=zzb E ht hO.own hb h1 hbb Qo tr cs AC9;refine⟨o2,c2,w2,Wn,λy hm=>Rg.block y (hs y hm) λjW=>hO.nb y jW hm,⟨vB,λy hy hm=>?_⟩,Rg⟩;rcases ho2 with rfl|rfl
 ·exact hO.nb y hy hm
 ·have:y=w.heap.size:=by simpa[QL] using hy
  have:=hs y hm;omega
def Jo(f:Nat->Int):Nat->Int
 |0=>0
 |k+1=>Jo f k+f k
def VW{f:Nat->Int}{B:Int}(h:∀j,0<=f j/\f j<=B):∀k:Nat,0<=Jo f k/\Jo f k<=(k:Int)*B
 |0=>by simp[Jo]
 |k+1=>by
  have ih:=VW h k;have:=h k;simp only[Jo];rw[show ((k+1:Nat):Int)*B=(k:Int)*B+B by rw[show ((k+1:Nat):Int)=(k:Int)+1 by omega,Int.add_mul,Int.one_mul]];omega
def Jl(n:Int):0<=Qh n/\Qh n<=20:=by
 unfold Qh;split
 ·rename_i h;have:=Qv.1 h;omega
 ·omega
def zi8(W:Q7)(c:Int)(j:Nat):Int:=if (((Q8 W (j:Int)).R2==c)&&Zq W (j:Int))=true then Qh (Q8 W (j:Int)).nice else 0
def zny(W:Q7)(g c:Int)(j:Nat):Int:=if ((((Q8 W (j:Int)).state==1)&&((Q8 W (j:Int)).R2==c))&&TY 3 W.IE g (Q8 W (j:Int)).II)=true then Qh (Q8 W (j:Int)).nice else 0
def z37{W:Q7}{g c:Int}{k:Nat}(h:((((Q8 W (k:Int)).state==1)&&((Q8 W (k:Int)).R2==c))&&TY 3 W.IE g (Q8 W (k:Int)).II)):zny W g c k=Qh (Q8 W (k:Int)).nice:=C' h
def z36{W:Q7}{g c:Int}{k:Nat}(h:((((Q8 W (k:Int)).state==1)&&((Q8 W (k:Int)).R2==c))&&TY 3 W.IE g (Q8 W (k:Int)).II)=false):zny W g c k=0:=B' (by rw[h];decide)
def FP(W:Q7)(c:Int):Int:=Jo (zi8 W c) W.IJ.length
def zdf(W:Q7)(g c:Int):Int:=Jo (zny W g c) W.IJ.length
def Ao(W:Q7)(c:Int)(j:Nat):0<=zi8 W c j/\zi8 W c j<=20:=by
 unfold zi8;split
 ·exact Jl _
 ·omega
def zde(W:Q7)(g c:Int)(j:Nat):0<=zny W g c j/\zny W g c j<=20:=by
 unfold zny;split
 ·exact Jl _
 ·omega
def X5(W:Q7)(c:Int):Bool:=YT c 0 ((W.IF.length:Int)-1)
def UA{W:Q7}{c:Int}(h:X5 W c):0<=c/\c<(W.IF.length:Int):=by have:=Qv.1 h;omega
def XV.li{W:Q7}(wp:XV W){t:Int}(t0:0<=t)(t1:t<(W.IJ.length:Int))(hs:(Q8 W t).state=1):Q6 W.IE (Q8 W t).II/\0<=(Q8 W t).R2/\(Q8 W t).R2<(W.IF.length:Int):=by
 have:=wp.a.t;exact FO wp.a (wp.t t t0 Qo) hs
structure TU (W:Q7):Prop where
 a:WA W
 li:∀{t:Int},0<=t->t<(W.IJ.length:Int)->(Q8 W t).state=1->Q6 W.IE (Q8 W t).II/\0<=(Q8 W t).R2/\(Q8 W t).R2<(W.IF.length:Int)
structure UV (W:Q7):Prop where
 c:W.IF.length<=maxLen
 t:W.IJ.length<=maxLen
 g:W.IE.length<=maxLen
 f:∀i:Int,0<=i->i<(W.IE.length:Int)->zpi (gi W.IE i)
section
variable {W:Q7}{m:MW}{w:Wo}{bs:List Nat}{p:OA}
def TA{c:Int}(h:J6 bs w W m)(wp:XV W):PX bs XQ #[.agg (Qa W m).toArray,I c] w (I (FP W c)):=
 zew _ _ _ _ _ _ _ _ _ _ c λwr hx=>by
  have h:=(h.ext hx).less (cs:=[]) Qs;have qT:=wp.a.t;intro _ _;refine P9 W.IJ.length 0 rfl (λx k=>k<=W.IJ.length/\x=Jo (zi8 W c) k) ⟨Ic _,rfl⟩ λx k ⟨hk,Rg⟩=>⟨λIV=>?_,λRW=>?_⟩
  ·have IV:=Ot IV;have hr:=VW (Ao W c) k;have hw:=Jl (Q8 W (k:Int)).nice;have eF:zi8 W c k=if (((Q8 W (k:Int)).R2==c)&&Zq W (k:Int))=true then Qh (Q8 W (k:Int)).nice else 0:=rfl;refine⟨h.t.ix QT Qo IV,_,h.t.f Qo IV (j:=0) rfl,λ_=>h.t.ix QT Qo IV,_,λ_=>h.t.f Qo IV (j:=2) rfl,Zq W (k:Int),λ_=>Vw h wp.a Qo IV λhs=>wp.li Qo IV hs,λg2=>⟨h.t.ix QT Qo IV,_,h.t.f Qo IV (j:=3) rfl,Qh (Q8 W (k:Int)).nice,Y1,⟨Qo,Qo⟩,⟨Qo,Qo⟩,QP Qo ⟨Qo,?_⟩⟩,λg2=>⟨⟨Qo,Qo⟩,QP Qo ⟨Qo,?_⟩⟩⟩
   ·have g2:((((Q8 W (k:Int)).state==1)&&((Q8 W (k:Int)).R2==c))&&Zq W (k:Int)):=g2;simp only[A'] at g2;simp only[Jo];rw[eF,C' (by rw[g2.1.2,g2.2];rfl),Rg]
   ·have g2:((((Q8 W (k:Int)).state==1)&&((Q8 W (k:Int)).R2==c))&&Zq W (k:Int))=false:=g2
    simp only[Jo];rw[eF,B' (λhc=>by
     simp only[A'] at hc;have hl:=hc.2;unfold Zq at hl;simp only[A'] at hl;rw[hc.1,hc.2,hl.1] at g2
     cases g2),Rg];omega
  ·have RW:=Ou RW;have:k=W.IJ.length:=Qo;subst this;rw[Rg];rfl
def KV{g c:Int}(h:J6 bs w W m)(wp:TU W)(hl:UV W)(hu:Q6 W.IE g):PX bs U6 #[.agg (Qa W m).toArray,I g,I c] w (I (zdf W g c)):=
 NR _ _ _ _ _ _ _ _ _ _ g c λwr hx=>by
  have h:=(h.ext hx).less (cs:=[]) Qs;have qT:=wp.a.t;intro _ _;refine P9 W.IJ.length 0 rfl (λx k=>k<=W.IJ.length/\x=Jo (zny W g c) k) ⟨Ic _,rfl⟩ λx k ⟨hk,Rg⟩=>⟨λIV=>?_,λRW=>?_⟩
  ·have IV:=Ot IV;have hr:=VW (zde W g c) k;have hw:=Jl (Q8 W (k:Int)).nice
   have hun:(((Q8 W (k:Int)).state==1)&&((Q8 W (k:Int)).R2==c))->PA W.IE g (Q8 W (k:Int)).II=TY 3 W.IE g (Q8 W (k:Int)).II:=λq=>by
    simp only[A',Is] at q;unfold PA;rw[T1.2 wp.a.tree,hu,(wp.li Qo IV q.1).1];rfl
   have eF:zny W g c k=if ((((Q8 W (k:Int)).state==1)&&((Q8 W (k:Int)).R2==c))&&TY 3 W.IE g (Q8 W (k:Int)).II)=true then Qh (Q8 W (k:Int)).nice else 0:=rfl
   have e2:((((Q8 W (k:Int)).state==1)&&((Q8 W (k:Int)).R2==c))&&TY 3 W.IE g (Q8 W (k:Int)).II)=((((Q8 W (k:Int)).state==1)&&((Q8 W (k:Int)).R2==c))&&PA W.IE g (Q8 W (k:Int)).II):=by
    cases hq:(((Q8 W (k:Int)).state==1)&&((Q8 W (k:Int)).R2==c)) with
    |false=>rfl
    |true=>rw[hun hq]
   refine⟨h.t.ix QT Qo IV,_,_,_,_,_,_,_,_,_,h.t k Qo IV,λ_ _=>⟨PA W.IE g (Q8 W (k:Int)).II,λ_=>OI h.g hl.g,λg2=>⟨Qh (Q8 W (k:Int)).nice,Y1,⟨Qo,Qo⟩,⟨Qo,Qo⟩,QP Qo ⟨Qo,?_⟩⟩,λg2=>⟨⟨Qo,Qo⟩,QP Qo ⟨Qo,?_⟩⟩⟩⟩
   ·simp only[Jo];rw[z37 (W:=W) (g:=g) (c:=c) (k:=k) (e2.trans g2),Rg]
   ·simp only[Jo];rw[z36 (W:=W) (g:=g) (c:=c) (k:=k) (e2.trans g2),Rg];omega
  ·have RW:=Ou RW;have:k=W.IJ.length:=Qo;subst this;rw[Rg];rfl
def Ph.sc{w0 w1:Wo}(h:Ph [] w0 p W m)(s:Sc w0 bs w1):Ph bs w1 p W m:=(h.wide (cs:=bs) λx hm=>.inr (s.new x hm)).ext s.ext.of_nil
end
def QY(p:Nat->Bool)(v:Nat->Int):Nat->Int
 |0 => -1
 |k+1=>if (p k&&(decide (QY p v k<0)||decide (v k<v (QY p v k).toNat)))=true then (k:Int) else QY p v k
def Zl(p:Nat->Bool)(v:Nat->Int):∀k:Nat,(QY p v k = -1/\∀j,j<k->p j=false) \/
  (0<=QY p v k/\QY p v k<(k:Int)/\p (QY p v k).toNat/\(∀j,j<k->p j->v (QY p v k).toNat<=v j)/\∀j:Nat,(j:Int)<QY p v k->p j->v (QY p v k).toNat<v j)
 |0=>.inl ⟨rfl,λj hj=>Ir hj (Nat.not_lt_zero j)⟩
 |k+1=>by
  simp only[QY];split
  ·rename_i h;simp only[A',Iu,Ij] at h;refine .inr ⟨Qo,Qo,by simpa using h.1,λj hj hp=>?_,λj hj hp=>?_⟩
   ·rw[Ig]
    by_cases jD:j=k
    ·subst jD;exact I2 _
    ·rcases Zl p v k with ⟨_,h2⟩|⟨h1,_,_,h4,_⟩
     ·rw[h2 j Qo] at hp;cases hp
     ·have:=h4 j Qo hp;rcases h.2 with h5|h5 <;> omega
   ·rw[Ig];rcases Zl p v k with ⟨_,h2⟩|⟨h1,_,_,h4,_⟩
    ·rw[h2 j Qo] at hp;cases hp
    ·have:=h4 j Qo hp;rcases h.2 with h5|h5 <;> omega
  ·rename_i h;rcases Zl p v k with ⟨h1,h2⟩|⟨h1,h2,h3,h4,h5⟩
   ·refine .inl ⟨h1,λj hj=>?_⟩
    by_cases jD:j=k
    ·subst jD
     cases hp:p j with
     |false=>rfl
     |true=>
      exfalso;apply h
      rw[hp,h1];rfl
    ·exact h2 j Qo
   ·refine .inr ⟨h1,Qo,h3,λj hj hp=>?_,h5⟩
    by_cases jD:j=k
    ·subst jD;rcases Int.lt_or_le (v j) (v (QY p v j).toNat) with h6|h6
     ·exfalso;apply h
      rw[hp,Ih h6];simp
     ·exact h6
    ·exact h4 j Qo hp
def zql{p:Nat->Bool}{v:Nat->Int}{n k:Nat}(hk:k<n)(hp:p k)(h0:0<=QY p v n)(hv:v k=v (QY p v n).toNat)(hb:∀j,j<k->p j->v j≠v (QY p v n).toNat):QY p v n=(k:Int):=by
 rcases Zl p v n with ⟨h1,_⟩|⟨_,h2,h3,h4,h5⟩
 ·omega
 ·by_cases IV:(k:Int)<QY p v n
  ·have:=h5 k IV hp;omega
  ·by_cases hgt:QY p v n<(k:Int)
   ·exact Ir rfl (hb _ Qo h3)
   ·omega
def Er(v:Nat->Int)(l:List Nat):Int:=l.foldl (λ(m:Int) x=>if (decide (m<0)||decide (v x<v m.toNat))=true then (x:Int) else m) (-1)
def FR(v:Nat->Int)(l:List Nat)(x:Nat):Er v (l++[x])=if (decide (Er v l<0)||decide (v x<v (Er v l).toNat))=true then (x:Int) else Er v l:=by
 unfold Er;rw[List.foldl_append];rfl
def He(p:Nat->Bool)(v:Nat->Int):∀n:Nat,Er v ((List.range n).filter p)=QY p v n
 |0=>rfl
 |n+1=>by
  rw[List.range_succ,List.filter_append];simp only[QY]
  cases hp:p n with
  |false=>simp[hp,He p v n]
  |true=>
   have:[n].filter p=[n]:=by simp[hp]
   rw[this,FR,He p v n,Bool.true_and]
def zsx(v:Nat->Int):∀l:List Nat,l≠[]->0<=Er v l:=by
 have key:∀(l:List Nat) (m:Int),0<=m->0<=l.foldl (λ(m:Int) x=>if (decide (m<0)||decide (v x<v m.toNat))=true then (x:Int) else m) m:=λl=>by
  induction l with
  |nil=>exact λm h=>h
  |cons x l ih=>
   intro m h;rw[List.foldl_cons];refine ih _ ?_
   split <;> omega
 intro l hl
 cases l with
 |nil=>exact Ir rfl hl
 |cons x l=>
  unfold Er;rw[List.foldl_cons];refine key l _ ?_;rw[C' Qs];omega
def Sf(W:Q7)(g c:Int)(i:Nat):Bool:=if i<12 then dU W g c i else WV W g c (i-12)
def S9(W:Q7)(c:Int)(i:Nat):Int:=if i<12 then (Q8 W (i:Int)).v else (Qb W ((i-12:Nat):Int) c).v
def QG(W:Q7)(g c:Int):Int:=QY (Sf W g c) (S9 W c) 20
def zej:Nat->Q7->Int->Int->Int
 |0,_,_,_ => -1
 |f+1,W,g,c=>if QG W g c<0 then -1 else if QG W g c<12 then QG W g c else zej f W (QG W g c-12) c
def Pb(W:Q7)(g c:Int):Int:=zej (4-dep 3 W.IE g).toNat W g c
def Qe(W:Q7)(c:Int):Int:=if (gi W.IF c).cur>=0/\(gi W.IF c).Wh<50 then (gi W.IF c).cur else Pb W 0 c
def Ji{W:Q7}{g c:Int}{i:Nat}(h:i<12):Sf W g c i=dU W g c i:=C' h
def J3{W:Q7}{g c:Int}{i:Nat}:Sf W g c (12+i)=WV W g c i:=by
 unfold Sf;rw[B' Qo,show 12+i-12=i by omega]
def Hd{W:Q7}{c:Int}{i:Nat}(h:i<12):S9 W c i=(Q8 W (i:Int)).v:=C' h
def Hc{W:Q7}{c:Int}{i:Nat}:S9 W c (12+i)=(Qb W (i:Int) c).v:=by
 unfold S9;rw[B' Qo,show 12+i-12=i by omega]
def zsw(W:Q7)(g c:Int):Sf W g c 12=false:=by
 rw[show (12:Nat)=12+0 from rfl,J3];rfl
def KJ{W:Q7}{g c:Int}(ha:WA W)(hu:Q6 W.IE g)(h:12<=QG W g c):Q6 W.IE (QG W g c-12)/\QG W g c-12≠0/\dep 3 W.IE (QG W g c-12)=dep 3 W.IE g+1/\QG W g c<20:=by
 unfold QG at *;rcases Zl (Sf W g c) (S9 W c) 20 with ⟨h1,_⟩|⟨h1,h2,h3,_,_⟩
 ·omega
 ·have e:(QY (Sf W g c) (S9 W c) 20).toNat=12+((QY (Sf W g c) (S9 W c) 20).toNat-12):=Qo;rw[e,J3] at h3;unfold WV at h3;simp only[A',Ij,Is] at h3;obtain⟨⟨k1,k2,k3⟩,_⟩:=h3;have ek:(((QY (Sf W g c) (S9 W c) 20).toNat-12:Nat):Int)=QY (Sf W g c) (S9 W c) 20-12:=Qo;rw[ek] at k2 k3;have cZ:=ha.gl;have hk:Q6 W.IE (QY (Sf W g c) (S9 W c) 20-12):=Q5.2 ⟨Qo,Qo,k2⟩;have hz:QY (Sf W g c) (S9 W c) 20-12≠0:=Qo;obtain⟨_,_,_,d,e1,e2,_⟩:=Y3 ha.tree hk hz;rw[k3] at e2;exact⟨hk,hz,Qo,Qo⟩
def Lv{W:Q7}(ha:WA W){g:Int}(hu:Q6 W.IE g):0<=dep 3 W.IE g/\dep 3 W.IE g<=3:=by
 have hr:=Oh W.IE 3 g
 by_cases hz:g=0
 ·subst hz;rw[ZS];omega
 ·obtain⟨_,_,_,d,e1,_⟩:=Y3 ha.tree hu hz;omega
def HO{W:Q7}(ha:WA W){g c:Int}(hu:Q6 W.IE g):Pb W g c=if QG W g c<0 then -1 else if QG W g c<12 then QG W g c else Pb W (QG W g c-12) c:=by
 have hd:=Lv ha hu;have e:(4-dep 3 W.IE g).toNat=(3-dep 3 W.IE g).toNat+1:=Qo;show zej (4-dep 3 W.IE g).toNat W g c=_;rw[e];simp only[zej];split
 ·rfl
 ·split
  ·rfl
  ·obtain⟨_,_,hk,_⟩:=KJ ha hu (c:=c) Qo;unfold Pb;rw[hk,show (4-(dep 3 W.IE g+1))=3-dep 3 W.IE g by omega]
section
variable {W:Q7}{m:MW}{w:Wo}{bs:List Nat}{p:OA}
def S3(W:Q7)(g c:Int)(k:Nat):Int:=if QY (Sf W g c) (S9 W c) k<0 then 0 else S9 W c (QY (Sf W g c) (S9 W c) k).toNat
def Sw(W:Q7)(g c:Int)(k:Nat):Bool:=decide (0<=QY (Sf W g c) (S9 W c) k)
def zio{W:Q7}{g c:Int}{k:Nat}:(decide (QY (Sf W g c) (S9 W c) k<0)||decide (S9 W c k<S9 W c (QY (Sf W g c) (S9 W c) k).toNat))=(!Sw W g c k||decide (S9 W c k<S3 W g c k)):=by
 unfold Sw S3
 by_cases h:QY (Sf W g c) (S9 W c) k<0
 ·have h2:decide (0<=QY (Sf W g c) (S9 W c) k)=false:=decide_eq_false Qo;rw[C' h,Ih h,h2];rfl
 ·have h2:decide (0<=QY (Sf W g c) (S9 W c) k):=Ih Qo;rw[B' h,decide_eq_false h,h2];rfl
def Ff{W:Q7}{g c:Int}{k:Nat}(h:(Sf W g c k&&(!Sw W g c k||decide (S9 W c k<S3 W g c k)))):S3 W g c (k+1)=S9 W c k/\Sw W g c (k+1):=by
 rw[<-zio] at h
 have e:QY (Sf W g c) (S9 W c) (k+1)=(k:Int):=by
  simp only[QY];rw[C' h]
 unfold S3 Sw;rw[e,B' Qo,Ig];exact⟨rfl,Ih Qo⟩
def Fe{W:Q7}{g c:Int}{k:Nat}(h:(Sf W g c k&&(!Sw W g c k||decide (S9 W c k<S3 W g c k)))=false):S3 W g c (k+1)=S3 W g c k/\Sw W g c (k+1)=Sw W g c k:=by
 rw[<-zio] at h
 have e:QY (Sf W g c) (S9 W c) (k+1)=QY (Sf W g c) (S9 W c) k:=by
  simp only[QY];rw[B' (by rw[h];decide)]
 unfold S3 Sw;rw[e];exact⟨rfl,rfl⟩
def H8{g c:Int}(h:J6 bs w W m)(ha:WA W)(c0:0<=c)(c1:c<(W.IF.length:Int)):PX bs Vp #[.agg (Qa W m).toArray,I g,I c] w (.tuple #[I (S3 W g c 20),.bool (Sw W g c 20)]):=
 ze0 _ _ _ _ _ _ _ _ _ _ g c λwr hx=>by
  have h:=(h.ext hx).less (cs:=[]) Qs;have cZ:=ha.gl;have qT:=ha.t;intro _ _;refine⟨λvs=>∃k:Nat,k<=12/\vs=[I (S3 W g c k),.bool (Sw W g c k),I (k:Int)],Xp 12 2,⟨0,Qo,rfl⟩,?_⟩;rintro bJ some t ⟨k,hk,he⟩;simp only[I4,I5,Value.bool.injEq,true_and,and_true] at he;obtain⟨rfl,rfl,rfl⟩:=he;refine⟨λIV=>?_,λRW=>?_⟩
  ·have IV:=Ot IV;have rD:k<12:=Qo;refine⟨h.t.ix QT Qo IV,_,_,_,_,_,_,_,_,_,h.t k Qo IV,λ_ _=>⟨λq=>⟨⟨Qo,Qo⟩,⟨k+1,Qo,?_⟩,Z6 (k:=k) rfl rfl rD⟩,λq=>⟨⟨Qo,Qo⟩,⟨k+1,Qo,?_⟩,Z6 (k:=k) rfl rfl rD⟩⟩⟩
   ·have q':(Sf W g c k&&(!Sw W g c k||decide (S9 W c k<S3 W g c k))):=by rw[Ji rD,Hd rD];exact q
    obtain⟨e1,e2⟩:=Ff q';rw[e1,e2,Hd rD];simp[Q8]
   ·have q':(Sf W g c k&&(!Sw W g c k||decide (S9 W c k<S3 W g c k)))=false:=by rw[Ji rD,Hd rD];exact q
    obtain⟨e1,e2⟩:=Fe q';rw[e1,e2];simp
  ·have RW:=Ou RW;have:k=12:=Qo;subst this;have e12:S3 W g c 13=S3 W g c 12/\Sw W g c 13=Sw W g c 12:=Fe (by rw[zsw];rfl);refine⟨λvs=>∃k:Nat,1<=k/\k<=8/\vs=[I (S3 W g c (12+k)),.bool (Sw W g c (12+k)),I (k:Int)],Xp 8 2,⟨1,Qo,Qo,by rw[show 12+1=13 from rfl,e12.1,e12.2];rfl⟩,?_⟩;rintro p' DT6 t1 ⟨k,hk1,hk,he⟩;simp only[I4,I5,Value.bool.injEq,true_and,and_true] at he;obtain⟨rfl,rfl,rfl⟩:=he;refine⟨λIV=>?_,λRW=>?_⟩
   ·have IV:=Ot IV;have eJ:(0:Int)<=(k:Int):=Qo
    have IW:∀{x:Bool},(((gi W.IE (k:Int)).IW&&((gi W.IE (k:Int)).IG==g))&&x)->Q6 W.IE (k:Int)/\c<((gi W.IE (k:Int)).IH.length:Int):=λ{x} q=>by
     simp only[A'] at q;have hu:=zbg IV q.1.1;exact⟨hu,by rw[ha.sl hu];exact c1⟩
    have eA:WV W g c k=(((gi W.IE (k:Int)).IW&&((gi W.IE (k:Int)).IG==g))&&(Qb W (k:Int) c).on):=by
     unfold WV;rw[Ih hk1,Bool.true_and]
    have eP:Sf W g c (12+k)=(((gi W.IE (k:Int)).IW&&((gi W.IE (k:Int)).IG==g))&&(Qb W (k:Int) c).on):=by rw[J3,eA]
    refine⟨h.g.ix eJ IV,_,h.g.IW eJ IV,λ_=>h.g.ix eJ IV,_,λ_=>h.g.IG eJ IV,(Qb W (k:Int) c).on,λq=>Vx h ha (IW (x:=true) (by rw[q];rfl)).1 c0 c1,λ_ _=>h.g.ix eJ IV,_,_,_,λ_ _=>h.g.Rn eJ IV,λ_ q=>(h.g.IH _ eJ IV).ix YM c0 (IW q).2,(Qb W (k:Int) c).v,λ_ q=>zm0.f (h.g.IH _ eJ IV) c0 (IW q).2 (j:=2) rfl,λq=>?_,λq=>⟨⟨Qo,Qo⟩,⟨k+1,Qo,Qo,?_⟩,Z6 (k:=k) rfl rfl Qo⟩⟩
    ·have q2:=q;simp only[A'] at q2;have hu:=IW (x:=(Qb W (k:Int) c).on) (by simp only[A'];exact q2.1);have q':(Sf W g c (12+k)&&(!Sw W g c (12+k)||decide (S9 W c (12+k)<S3 W g c (12+k)))):=by rw[eP,Hc];exact q
     obtain⟨e1,e2⟩:=Ff q';refine⟨h.g.ix eJ IV,_,_,_,h.g.Rn eJ IV,(h.g.IH _ eJ IV).ix YM c0 hu.2,_,zm0.f (h.g.IH _ eJ IV) c0 hu.2 (j:=2) rfl,⟨Qo,Qo⟩,⟨k+1,Qo,Qo,?_⟩,Z6 (k:=k) rfl rfl Qo⟩;rw[show 12+(k+1)=12+k+1 from rfl,e1,e2,Hc];simp[Qb]
    ·have q':(Sf W g c (12+k)&&(!Sw W g c (12+k)||decide (S9 W c (12+k)<S3 W g c (12+k))))=false:=by rw[eP,Hc];exact q
     obtain⟨e1,e2⟩:=Fe q';rw[show 12+(k+1)=12+k+1 from rfl,e1,e2];simp
   ·have RW:=Ou RW;have:k=8:=Qo;subst this;rfl
def zhn{g c:Int}(h:J6 bs w W m)(ha:WA W)(hu:Q6 W.IE g)(c0:0<=c)(c1:c<(W.IF.length:Int)):PX bs Uo #[.agg (Qa W m).toArray,I g,I c] w (I (Pb W g c)):=by
 have cZ:=ha.gl;have qT:=ha.t
 have key:∀(n:Nat) (g:Int),Q6 W.IE g->(3-dep 3 W.IE g).toNat=n->∀{bs:List Nat} {w:Wo},J6 bs w W m->PX bs Uo #[.agg (Qa W m).toArray,I g,I c] w (I (Pb W g c)):=by
  intro n
  induction n using Nat.strongRecOn with
  |ind n ih=>
   intro g hu hn bs w h;refine zie _ _ _ _ _ _ _ _ _ _ g c λwr hx=>?_
   have h:=(h.ext hx).less (cs:=[]) Qs;have dH:=HO ha hu (c:=c);have hd:=Lv ha hu;intro _ _;refine⟨_,_,H8 h ha c0 c1,λq=>?_,λq=>?_⟩
   ·have q:¬0<=QY (Sf W g c) (S9 W c) 20:=by
     unfold Sw at q
     simpa using q
    have q:¬0<=QG W g c:=q;rw[dH,C' Qo]
   have hF0:0<=QY (Sf W g c) (S9 W c) 20:=by
    unfold Sw at q
    simpa using q
   have hF:0<=QG W g c:=hF0
   have CH1:S3 W g c 20=S9 W c (QG W g c).toNat:=by
    show (if QG W g c<0 then 0 else S9 W c (QG W g c).toNat)=_;rw[B' (show ¬QG W g c<0 by omega)]
   have found:∀k:Nat,k<20->Sf W g c k->S9 W c k=S3 W g c 20->(∀j,j<k->Sf W g c j->S9 W c j≠S3 W g c 20)->QG W g c=(k:Int):=λk hk hp hv hb=>by
    rw[CH1] at hv hb;exact zql hk hp hF hv hb
   refine⟨λvs=>∃k:Nat,vs=[I (k:Int)]/\k<=12/\∀j,j<k->Sf W g c j->S9 W c j≠S3 W g c 20,Xp 12 0,⟨0,rfl,Qo,λj hj=>Ir hj (Nat.not_lt_zero j)⟩,?_⟩;rintro t ⟨k,he,hk,hI⟩;simp only[I4,I5,true_and,and_true] at he;subst he;refine⟨λIV=>?_,λRW=>?_⟩
   ·have IV:=Ot IV;have rD:k<12:=Qo;refine⟨h.t.ix QT Qo IV,_,_,_,_,_,_,_,_,_,h.t k Qo IV,λb1 dG=>⟨λq2=>?_,λq2=>⟨⟨Qo,Qo⟩,⟨k+1,Qs,Qo,λj hj hp hv=>?_⟩,Z6 (k:=k) rfl rfl rD⟩⟩⟩
    ·have q2':(dU W g c k&&((Q8 W (k:Int)).v==S3 W g c 20)):=q2;simp only[A',Is] at q2';have:=found k Qo (by rw[Ji rD];exact q2'.1) (by rw[Hd rD];exact q2'.2) hI;rw[dH,B' Qo,C' Qo,this]
    ·by_cases jD:j<k
     ·exact hI j jD hp hv
     ·have:j=k:=Qo;subst this;rw[Ji rD] at hp;rw[Hd rD] at hv;have q2':(dU W g c j&&((Q8 W (j:Int)).v==S3 W g c 20))=false:=q2;rw[hp,hv] at q2';simp at q2'
   ·have RW:=Ou RW;have:k=12:=Qo;subst this
    refine⟨λvs=>∃k:Nat,vs=[I (k:Int)]/\1<=k/\k<=8/\∀j,j<12+k->Sf W g c j->S9 W c j≠S3 W g c 20,Xp 8 0,⟨1,rfl,Qo,Qo,λj hj hp=>by
     by_cases AH4:j<12
     ·exact hI j AH4 hp
     ·have:j=12:=Qo;subst this;rw[zsw] at hp;cases hp⟩,?_⟩
    rintro t2 ⟨k,he,hk1,hk,hI2⟩;simp only[I4,I5,true_and,and_true] at he;subst he;refine⟨λIV=>?_,λbK=>?_⟩
    ·have IV:=Ot IV;have eJ:(0:Int)<=(k:Int):=Qo
     have IW:∀{x:Bool},(((gi W.IE (k:Int)).IW&&((gi W.IE (k:Int)).IG==g))&&x)->Q6 W.IE (k:Int)/\c<((gi W.IE (k:Int)).IH.length:Int):=λ{x} q=>by
      simp only[A'] at q;have hu:=zbg IV q.1.1;exact⟨hu,by rw[ha.sl hu];exact c1⟩
     have eA:WV W g c k=(((gi W.IE (k:Int)).IW&&((gi W.IE (k:Int)).IG==g))&&(Qb W (k:Int) c).on):=by
      unfold WV;rw[Ih hk1,Bool.true_and]
     have eP:Sf W g c (12+k)=(((gi W.IE (k:Int)).IW&&((gi W.IE (k:Int)).IG==g))&&(Qb W (k:Int) c).on):=by rw[J3,eA]
     refine⟨h.g.ix eJ IV,_,h.g.IW eJ IV,λ_=>h.g.ix eJ IV,_,λ_=>h.g.IG eJ IV,(Qb W (k:Int) c).on,λq=>Vx h ha (IW (x:=true) (by rw[q];rfl)).1 c0 c1,λ_=>h.g.ix eJ IV,_,_,_,λ_=>h.g.Rn eJ IV,λq=>(h.g.IH _ eJ IV).ix YM c0 (IW q).2,(Qb W (k:Int) c).v,λq=>zm0.f (h.g.IH _ eJ IV) c0 (IW q).2 (j:=2) rfl,λq=>?_,λq=>⟨⟨Qo,Qo⟩,⟨k+1,Qs,Qo,Qo,λj hj hp hv=>?_⟩,Z6 (k:=k) rfl rfl Qo⟩⟩
     ·have q2:=q;simp only[A',Is] at q2;have hfk:=found (12+k) Qo (by rw[eP];simp only[A',Is];exact q2.1) (by rw[Hc];exact q2.2) hI2;have CQ3:=KJ ha hu (c:=c) Qo;have ek:QG W g c-12=(k:Int):=Qo;rw[ek] at CQ3;have hdk:=Lv ha CQ3.1;refine⟨_,ih _ (show (3-dep 3 W.IE (k:Int)).toNat<n by omega) (k:Int) CQ3.1 rfl h,?_⟩;rw[dH,B' Qo,B' Qo,ek]
     ·by_cases jD:j<12+k
      ·exact hI2 j jD hp hv
      ·have:j=12+k:=Qo;subst this;rw[eP] at hp;rw[Hc] at hv;rw[hp,hv] at q;simp at q
    ·have bK:=Ou bK;have:k=8:=Qo;subst this;rcases Zl (Sf W g c) (S9 W c) 20 with ⟨h1,_⟩|⟨h1,h2,h3,_,_⟩
     ·have:QG W g c = -1:=h1;omega
     ·exact Ir CH1.symm (hI2 (QG W g c).toNat (by unfold QG;omega) h3)
 exact key _ g hu rfl h
def zho{c:Int}(h:J6 bs w W m)(ha:WA W)(c0:0<=c)(c1:c<(W.IF.length:Int)):PX bs Mh #[.agg (Qa W m).toArray,I c] w (I (Qe W c)):=by
 refine zif _ _ _ _ _ _ _ _ _ _ c λwr hx=>?_
 have h:=(h.ext hx).less (cs:=[]) Qs;intro _ _;refine⟨h.c.ix Y9 c0 c1,_,h.c.f c0 c1 (j:=1) rfl,λ_=>h.c.ix Y9 c0 c1,_,λ_=>h.c.f c0 c1 (j:=2) rfl,λg=>⟨h.c.ix Y9 c0 c1,_,h.c.f c0 c1 (j:=1) rfl,?_⟩,λg=>⟨_,zhn h ha ha.root c0 c1,?_⟩⟩
 ·simp only[A',Ij] at g;unfold Qe;rw[C' g]
 ·unfold Qe;rw[B' (λhc=>by
   rw[Ih hc.1,Ih hc.2] at g;cases g)]
end
def J'(W:Q7)(t:Int)(x:MQ):Q7:={ W with IJ:=W.IJ.set t.toNat x }
def RM(W:Q7)(c:Int)(x:PZ):Q7:={ W with IF:=W.IF.set c.toNat x }
def R1(W:Q7)(g:Int)(x:Zb):Q7:={ W with IE:=W.IE.set g.toNat x }
def Rw(W:Q7)(g c:Int)(s:KD):Q7:=R1 W g { gi W.IE g with IH:=(gi W.IE g).IH.set c.toNat s }
def RZ(W:Q7)(g:Int)(b:Ue):Q7:=R1 W g { gi W.IE g with IM:=b }
def H2{α:Type}[Inhabited α](l:List α)(i:Int):gi l i=gi l ((i.toNat:Nat):Int):=by unfold gi;rw[Ig]
structure QZ (gs gs':List Zb):Prop where
 len:gs'.length=gs.length
 u:∀i:Int,(gi gs' i).IW=(gi gs i).IW
 p:∀i:Int,(gi gs' i).IG=(gi gs i).IG
 n:∀i:Int,(gi gs' i).name=(gi gs i).name
def QZ.refl(gs:List Zb):QZ gs gs:=⟨rfl,λ_=>rfl,λ_=>rfl,λ_=>rfl⟩
def QZ.trans{a b c:List Zb}(h:QZ a b)(k:QZ b c):QZ a c:=⟨k.len.trans h.len,λi=>(k.u i).trans (h.u i),λi=>(k.p i).trans (h.p i),λi=>(k.n i).trans (h.n i)⟩
def QZ.cD{gs gs':List Zb}(h:QZ gs gs')(i:Int):Q6 gs' i=Q6 gs i:=by unfold Q6;rw[h.len,h.u]
def QZ.dep{gs gs':List Zb}(h:QZ gs gs'):∀(f:Nat) (i:Int),YtjinkcmkgnofjaaGreatDoor.dep f gs' i=YtjinkcmkgnofjaaGreatDoor.dep f gs i
 |0,i=>rfl
 |f+1,i=>by simp only[YtjinkcmkgnofjaaGreatDoor.dep];rw[h.p,h.dep f]
def QZ.path{gs gs':List Zb}(h:QZ gs gs'):∀(f:Nat) (i:Int),US f gs' i=US f gs i
 |0,i=>rfl
 |f+1,i=>by simp only[US];rw[h.p,h.path f]
def QZ.tree{gs gs':List Zb}(h:QZ gs gs')(t:Yh gs):Yh gs':=
 ⟨by rw[h.len];exact t.len,by rw[h.u];exact t.ru,by rw[h.p];exact t.rp,by rw[h.n];exact t.rn,λg a b c=>by rw[h.u] at c;rw[h.n];exact t.nm g a b c,λg a b c=>by rw[h.u] at c;rw[h.cD,h.p];exact t.par g a b c,
  λg a b c=>by rw[h.u] at c;rw[h.dep];exact t.dp g a b c,λg k a b c d e=>by rw[h.u] at d e;rw[h.p,h.p,h.n,h.n];exact t.uniq g k a b c d e⟩
def Yt{W:Q7}{g:Int}{x:Zb}(h0:0<=g)(h1:g<(W.IE.length:Int)){i:Int}(hi:0<=i):gi (R1 W g x).IE i=if g=i then x else gi W.IE i:=QE _ _ h0 h1 hi
def XT{W:Q7}{g:Int}{x:Zb}(h0:0<=g)(h1:g<(W.IE.length:Int))(u:x.IW=(gi W.IE g).IW)(p:x.IG=(gi W.IE g).IG)(n:x.name=(gi W.IE g).name):QZ W.IE (R1 W g x).IE:=by
 have key:∀i:Int,gi (R1 W g x).IE i=if g=((i.toNat:Nat):Int) then x else gi W.IE i:=λi=>by
  rw[H2,Yt h0 h1 Qo,<-H2 W.IE i]
 refine⟨E',λi=>?_,λi=>?_,λi=>?_⟩
 all_goals
  rw[key];split
  ·rename_i e;rw[H2 W.IE i,<-e];assumption
  ·rfl
def WA.set{W:Q7}(ha:WA W){g:Int}{x:Zb}(h0:0<=g)(h1:g<8)(u:x.IW=(gi W.IE g).IW)(p:x.IG=(gi W.IE g).IG)(n:x.name=(gi W.IE g).name)(hN:x.IW=false->zv7 x)(hU:x.IW->zpj W g x):WA (R1 W g x):=by
 have hl:=ha.gl;refine⟨ha.n1,ha.n2,ha.c1,ha.c2,ha.t,(XT h0 Qo u p n).tree ha.tree,ha.ups,λk k0 k1=>?_⟩;show Kg (R1 W g x) k;unfold Kg;rw[Yt h0 Qo k0]
 by_cases e:g=k
 ·subst e;rw[C' rfl];exact⟨hN,λhu=>by have:=hU hu;exact⟨this.w1,this.w2,this.m,this.m0,this.s,this.len,this.root,this.none,this.IM⟩⟩
 ·rw[B' e];have:=ha.grp k k0 k1;exact⟨this.1,λhu=>by have:=this.2 hu;exact⟨this.w1,this.w2,this.m,this.m0,this.s,this.len,this.root,this.none,this.IM⟩⟩
def WA.Rw{W:Q7}(ha:WA W){g c:Int}{s:KD}(h0:0<=g)(h1:g<8):WA (Rw W g c s):=by
 have hg:=ha.grp g h0 h1;refine ha.set h0 h1 rfl rfl rfl (λhu=>?_) λhu=>?_
 ·have:=hg.1 hu;exact⟨this.p,this.n,this.w,this.c,this.pe,this.ne,this.s,by rw[E'];exact this.l,this.b⟩
 ·have:=hg.2 hu;exact⟨this.w1,this.w2,this.m,this.m0,this.s,by rw[E'];exact this.len,this.root,this.none,this.IM⟩
def XS{W:Q7}{g c:Int}{s:KD}(h0:0<=g)(h1:g<(W.IE.length:Int))(c0:0<=c)(c1:c<((gi W.IE g).IH.length:Int)){i d:Int}(hi:0<=i)(hd:0<=d):Qb (Rw W g c s) i d=if g=i/\c=d then s else Qb W i d:=by
 unfold Qb YtjinkcmkgnofjaaGreatDoor.Rw;rw[Yt h0 h1 hi]
 by_cases e:g=i
 ·subst e;rw[C' rfl,QE _ _ c0 c1 hd]
  by_cases e2:c=d
  ·rw[C' e2,C' ⟨rfl,e2⟩]
  ·rw[B' e2,B' (λh=>e2 h.2)]
 ·rw[B' e,B' (λh=>e h.1)]
def YC{W:Q7}{g c:Int}{s:KD}(h0:0<=g)(h1:g<(W.IE.length:Int)):QZ W.IE (Rw W g c s).IE:=XT h0 h1 rfl rfl rfl
def HI{W:Q7}{g c:Int}{s:KD}(h0:0<=g)(h1:g<(W.IE.length:Int)){i d:Int}(hi:0<=i):Jm (Rw W g c s) i d=Jm W i d:=by
 unfold Jm YtjinkcmkgnofjaaGreatDoor.Rw;rw[Yt h0 h1 hi];split
 ·rename_i e;subst e;rfl
 ·rfl
def ziq{W:Q7}{g c:Int}{s:KD}(h0:0<=g)(h1:g<(W.IE.length:Int)){i:Int}(hi:0<=i):(gi (Rw W g c s).IE i).IM=(gi W.IE i).IM:=by
 unfold YtjinkcmkgnofjaaGreatDoor.Rw;rw[Yt h0 h1 hi];split
 ·rename_i e;subst e;rfl
 ·rfl
def zju{W:Q7}{g c:Int}{s:KD}(h0:0<=g)(h1:g<(W.IE.length:Int)){i:Int}(hi:0<=i):(gi (Rw W g c s).IE i).IH.length=(gi W.IE i).IH.length:=by
 unfold YtjinkcmkgnofjaaGreatDoor.Rw;rw[Yt h0 h1 hi];split
 ·rename_i e;subst e;simp
 ·rfl
structure SW (K:Int) (W:Q7):Prop where
 a:WA W
 t:∀t:Int,0<=t->t<12->(Q8 W t).state≠0->Q6 W.IE (Q8 W t).II/\0<=(Q8 W t).R2/\(Q8 W t).R2<(W.IF.length:Int)
 tv:∀t:Int,0<=t->t<12->0<=(Q8 W t).v/\(Q8 W t).v<=K
 s:∀k c:Int,Q6 W.IE k->0<=c->c<(W.IF.length:Int)->0<=(Qb W k c).IL/\(Qb W k c).IL<=K/\0<=(Qb W k c).v/\(Qb W k c).v<=K/\1<=(Qb W k c).w/\(Qb W k c).w<=20
 cu:∀c:Int,0<=c->c<(W.IF.length:Int)->-1<=(gi W.IF c).cur/\(gi W.IF c).cur<12
structure SF (F K:Int) (W:Q7):Prop where
 w:SW K W
 f:∀k c:Int,Q6 W.IE k->0<=c->c<(W.IF.length:Int)->(Qb W k c).IL<=F
def SW.mono{K K':Int}{W:Q7}(h:SW K W)(hk:K<=K'):SW K' W:=
 ⟨h.a,h.t,λt a b=>by have:=h.tv t a b;omega,λk c u a b=>by have:=h.s k c u a b;omega,h.cu⟩
def SW.sf{K:Int}{W:Q7}(h:SW K W):SF K K W:=⟨h,λk c u a b=>(h.s k c u a b).2.1⟩
def SF.mono{F K F' K':Int}{W:Q7}(h:SF F K W)(hf:F<=F')(hk:K<=K'):SF F' K' W:=⟨h.w.mono hk,λk c u a b=>by have:=h.f k c u a b;omega⟩
def SW.li{K:Int}{W:Q7}(h:SW K W){t:Int}(t0:0<=t)(t1:t<(W.IJ.length:Int))(hs:(Q8 W t).state=1):Q6 W.IE (Q8 W t).II/\0<=(Q8 W t).R2/\(Q8 W t).R2<(W.IF.length:Int):=by
 have hl:=h.a.t;exact h.t t t0 Qo Qo
end Go.Proofs.YtjinkcmkgnofjaaGreatDoor
