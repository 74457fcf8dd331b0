/- Part 8 of what the law FnPick needs. -/
import Derived.Test.YtjinkcmkgnofjaaGreatFnPickPg
import Derived.Laws.StructEq
set_option linter.all false
set_option maxRecDepth 100000
set_option maxHeartbeats 8000000
namespace Go.Proofs.YtjinkcmkgnofjaaGreat
open Go.RowKit
def Al (P:Program):List Field->Nat->List Va->List Va->Option Bool
 |[],_,[],[]=>some true
 |f :: r, k, x :: xs, y :: ys => bif decide (f.name ≠ "_") && Nat.beq f.offset k then
   (match Al P r (k+1) xs ys with
   |some q=>(match P.underlying f.type,x,y with
    |some (.int _),.int a n,.int b m=>bif decide (a=b) then some ((n==m)&&q) else none
    |some .bool,.bool n,.bool m=>some ((n==m)&&q)
    |some .string,.string n,.string m=>some (Zt n m&&q)
    |_,_,_=>none)
   |none=>none) else none
 |_,_,_,_=>none
def Dj {P:Program} (d:Nat) (w:Wo) (xs ys:List Va):∀(fs:List Field) (k:Nat) (b:Bool),Al P fs k (xs.drop k) (ys.drop k)=some b->(Op.eqFields (d+1) xs.toArray ys.toArray fs).run P w=.ok b w
 |[],k,b,h=>by
  have hb:some true=some b:=by
   cases ex:xs.drop k with
   |nil=>
    cases ey:ys.drop k with
    |nil=>rw[ex,ey] at h;exact h
    |cons y ys'=>rw[ex,ey] at h;cases h
   |cons x xs'=>rw[ex] at h;cases h
  simp only[I2] at hb
  subst hb
  simp[Op.eqFields]
 |f::r,k,b,h=>by
  have hx:∀{l:List Va} {x:Va} {q:List Va},l.drop k=x::q->l[k]? = some x/\l.drop (k+1)=q:=λ{l x q} e=>by
   have h1:l[k]? = (l.drop k)[0]? := by simp
   have h2:l.drop (k+1)=(l.drop k).drop 1:=Qs
   rw[h1,h2,e];simp
  cases exx:xs.drop k with
  |nil=>rw[exx] at h;cases h
  |cons x xs'=>
  cases eyy:ys.drop k with
  |nil=>rw[exx,eyy] at h;cases h
  |cons y ys'=>
   rw[exx,eyy] at h
   simp only[Al] at h
   obtain⟨gx,dx⟩:=hx exx
   obtain⟨gy,dy⟩:=hx eyy
   cases hc : (decide (f.name ≠ "_") && Nat.beq f.offset k) with
   |false=>rw[hc] at h;cases h
   |true=>
    rw[hc] at h
    simp only[cond_true] at h
    simp only[A',Il] at hc
    have hof:=Ie hc.2
    split at h
    ·rename_i q hq
     have ih:=Dj d w xs ys r (k+1) q (by rw[dx,dy];exact hq)
     have Bj6:∀{D:TypeDesc},P.underlying f.type=some D->PB D=false->(part f.type xs.toArray f.offset).run P w=.ok x w/\(part f.type ys.toArray f.offset).run P w=.ok y w:=λ{D} hu hD=>by
      rw[hof]
      simp[part,UV hu,hD,gx,gy]
     split at h
     ·rename_i K a n b' m hu
      cases hab:decide (a=b') with
      |false=>rw[hab] at h;cases h
      |true=>
       have:=Ot hab
       subst this
       rw[hab] at h
       simp only[cond_true,I2] at h
       subst h
       obtain⟨p1,p2⟩:=Bj6 hu rfl
       simp only[Op.eqFields,H' hc.1,Sem.run_bind,p1,p2,Result.andThen_ok,run_equalIn_int w d f.type a K n m hu,Sem.run_ite]
       cases n==m <;> simp[ih]
     ·rename_i n m hu
      simp only[I2] at h
      subst h
      obtain⟨p1,p2⟩:=Bj6 hu rfl
      simp only[Op.eqFields,H' hc.1,Sem.run_bind,p1,p2,Result.andThen_ok,run_equalIn_bool' w d f.type n m hu,Sem.run_ite]
      cases n==m <;> simp[ih]
     ·rename_i n m hu
      simp only[I2] at h
      subst h
      obtain⟨p1,p2⟩:=Bj6 hu rfl
      simp only[Op.eqFields,H' hc.1,Sem.run_bind,p1,p2,Result.andThen_ok,run_equalIn_string w d f.type n m hu,Sem.run_ite]
      unfold Zt
      cases n.toList==m.toList <;> simp[ih]
     ·cases h
    ·cases h
structure zj3 (P:Program) (t:TypeId):Prop where
 u:P.underlying t=some (.struct (P.fieldsOf t))
 s:P.stoodInHeld t=false
 g:P.eqGuardType P.depth t=false
def Dk{P:Program}{t:TypeId}(F:zj3 P t){xs ys:List Va}{b:Bool}(h:Al P (P.fieldsOf t).toList 0 xs ys=some b)(w:Wo):(Op.equal t (.agg xs.toArray) (.agg ys.toArray)).run P w=.ok b w:=by
 have:=run_equalIn_struct (P:=P) w 9999 t xs.toArray ys.toArray F.u F.s;rw[Dj 9998 w xs ys _ 0 b (by simpa using h)] at this;exact this
def CB{P:Program}{t:TypeId}(F:zj3 P t){xs ys:List Va}{b:Bool}(h:Al P (P.fieldsOf t).toList 0 xs ys=some b)(x y:Operand)(w:Wo):((do eqGuard .eql t x y (.agg xs.toArray) (.agg ys.toArray);binOp .eql t (.agg xs.toArray) (.agg ys.toArray)):Sem Va).run P w=.ok (.bool b) w:=by
 have:=Dk F h w;simp only[Op.equal,Op.maxDepth] at this;simp only[Sem.run_bind,run_eqGuard_agg w .eql t x y _ _ F.g,Result.andThen_ok,run_eql_struct,this]
def Ok:zj3 Tryz.prog QI:=⟨Qk,Qk,Qk⟩
def JL(p:Int)(n:ByteArray):Va:=.agg #[I p,.string n]
def zir(p q:Int)(n m:ByteArray):Al Tryz.prog (Tryz.prog.fieldsOf QI).toList 0 [I p,.string n] [I q,.string m]=some ((p==q)&&(Zt n m&&true)):=Qk
def zc4(p q:Int)(n m:ByteArray)(w:Wo):(Op.equal QI (JL p n) (JL q m)).run Tryz.prog w=.ok (decide (p=q/\n=m)) w:=by
 have:=Dk Ok (zir p q n m) w
 have e:((p==q)&&(Zt n m&&true))=decide (p=q/\n=m):=by
  rw[Do,Bool.and_true]
  by_cases h1:p=q <;> by_cases h2:n=m <;> simp[h1,h2]
 rw[e] at this;exact this
def zhn(p:Int)(n:ByteArray)(w:Wo):∀(es:List MapEntry) (i:Nat),(∀e∈es,∃q m v,e.key=JL q m/\e.val=I v)->
  (∃(j:Nat) (v:Int),(Instr.findAsking QI (JL p n) es i).run Tryz.prog w=.ok (some (j,I v)) w/\∃e∈es,e.key=JL p n) \/
  ((Instr.findAsking QI (JL p n) es i).run Tryz.prog w=.ok none w/\∀e∈es,e.key≠JL p n)
 |[],i,_=>.inr ⟨by simp[Instr.findAsking],λe he=>by cases he⟩
 |e::r,i,h=>by
  obtain⟨q,m,v,hk,hv⟩:=h e (Ib ..)
  by_cases hq:p=q/\n=m
  ·refine .inl ⟨i,v,?_,e,Ib ..,by rw[hk,hq.1,hq.2]⟩;simp only[Instr.findAsking,hk,Sem.run_bind,zc4,Ij hq,Result.andThen_ok,if_true,Sem.run_pure,hv]
  ·have hZ:(Instr.findAsking QI (JL p n) (e::r) i).run Tryz.prog w=(Instr.findAsking QI (JL p n) r (i+1)).run Tryz.prog w:=by
    simp only[Instr.findAsking,hk,Sem.run_bind,zc4,decide_eq_false hq,Result.andThen_ok,Bool.false_eq_true,if_false]
   have fJ:e.key≠JL p n:=λe'=>by
    rw[hk] at e';simp only[JL,Value.agg.injEq,List.toArray_inj,Array.mk.injEq,I6,I7,true_and,Value.string.injEq,and_true] at e';exact hq ⟨e'.1.symm,e'.2.symm⟩
   rcases zhn p n w r (i+1) (λx hx=>h x (I3 _ hx)) with ⟨j,v',h1,x,hx,h2⟩|⟨h1,h2⟩
   ·exact .inl ⟨j,v',by rw[hZ];exact h1,x,I3 _ hx,h2⟩
   ·exact .inr ⟨by rw[hZ];exact h1,λx hx=>by
     rcases Ik.1 hx with rfl|hx
     ·exact fJ
     ·exact h2 x hx⟩
def Fs(p:Int)(n:ByteArray)(w:Wo)(es:List MapEntry)(h:∀e∈es,∃q m v,e.key=JL q m/\e.val=I v) :
  (∃(j:Nat) (v:Int),(Instr.findKey QI (JL p n) es).run Tryz.prog w=.ok (some (j,I v)) w/\∃e∈es,e.key=JL p n) \/
  ((Instr.findKey QI (JL p n) es).run Tryz.prog w=.ok none w/\∀e∈es,e.key≠JL p n):=by
 cases es with
 |nil=>exact .inr ⟨by simp[Instr.findKey,run_underlying Ok.u,Instr.findNow],λe he=>by cases he⟩
 |cons e r=>
  have hs:(Instr.findKey QI (JL p n) (e::r)).run Tryz.prog w=(Instr.findAsking QI (JL p n) (e::r) 0).run Tryz.prog w:=by
   simp[Instr.findKey,run_underlying Ok.u,Instr.findNow,Instr.sameNow]
  rw[hs];exact zhn p n w (e::r) 0 h
def Aj:∃a b:Field,(Tryz.prog.fieldsOf QI).toList=[a,b]/\a.type=Qc/\a.offset=0/\b.type=Zx/\b.offset=1:=⟨(Tryz.prog.fieldsOf QI)[0]!,(Tryz.prog.fieldsOf QI)[1]!,Qk,Qk,Qk,Qk,Qk⟩
def MF (em:Bool) (p:Int) (n:ByteArray) (w:Wo):(Instr.checkKey em 10000 QI (JL p n)).run Tryz.prog w=.ok () w:=by
 obtain⟨a,b,hl,a1,a2,b1,b2⟩:=Aj
 have p1:(part Qc #[.int .i64 p,.string n] 0).run Tryz.prog w=.ok (.int .i64 p) w:=by simp[part,UV ztz,PB]
 have p2:(part Zx #[.int .i64 p,.string n] 1).run Tryz.prog w=.ok (.string n) w:=by simp[part,UV CO,PB]
 have c1:∀d:Nat,(Instr.checkKey em (d+1) Qc (.int .i64 p)).run Tryz.prog w=.ok () w:=λd=>by simp[Instr.checkKey,run_underlying ztz]
 have c2:∀d:Nat,(Instr.checkKey em (d+1) Zx (.string n)).run Tryz.prog w=.ok () w:=λd=>by simp[Instr.checkKey,run_underlying CO]
 have key:∀d:Nat,(Instr.checkKey em (d+1+1) QI (JL p n)).run Tryz.prog w=.ok () w:=λd=>by
  rw[Instr.checkKey]
  simp only[JL,Sem.run_bind,run_underlying Ok.u,Result.andThen_ok]
  rw[<-Array.forIn_toList,hl]
  by_cases ha : a.name ≠ "_" <;> by_cases hb : b.name ≠ "_" <;> simp [ha, hb, a1, a2, b1, b2, p1, p2, c1, c2]
 exact key 9998
def F9:Tryz.prog.underlying Zw=some (.map QI Qc):=Qk
def zwj(w:Wo):(zeroValue Qc).run Tryz.prog w=.ok (I 0) w:=by
 have h:(match Tryz.prog.info? Qc with|some i=>i.zero|none=>none)=some (I 0):=Qk
 cases hi:Tryz.prog.info? Qc with
 |none=>rw[hi] at h;cases h
 |some i=>
  rw[hi] at h;simp only at h;simp[zeroValue,Jf hi,h]
def H7(w:Wo)(b:Nat)(es:Array MapEntry):Prop:=(∃c,w.heap[b]? = some (.map es c))/\∀e∈es.toList,∃q m v,e.key=JL q m/\e.val=I v
def zqg{w:Wo}{b:Nat}{es:Array MapEntry}(h:H7 w b es)(p:Int)(n:ByteArray) :
  ∃(v:Int) (ok:Bool),(Instr.lookup Zw (.map (some b)) (JL p n) true).run Tryz.prog w=.ok (.tuple #[I v,.bool ok]) w/\(ok=true↔∃e∈es.toList,e.key=JL p n):=by
 obtain⟨⟨c,hc⟩,hes⟩:=h;have hg:(getObj b).run Tryz.prog w=.ok (.map es c) w:=by simp[getObj,Sem.run,hc]
 rcases Fs p n w es.toList hes with ⟨j,v,h1,h2⟩|⟨h1,h2⟩
 ·exact⟨v,true,by simp[Instr.lookup,run_underlying F9,hg,MF,h1],by simpa using h2⟩
 ·exact⟨0,false,by simp[Instr.lookup,run_underlying F9,hg,MF,h1,zwj],⟨λh=>(by cases h),λ⟨e,he,hk⟩=>It hk (h2 e he)⟩⟩
def ztd{w:Wo}{b:Nat}{es:Array MapEntry}(h:H7 w b es){p:Int}{n:ByteArray}(kF:∀e∈es.toList,e.key≠JL p n)(v:Int) :
  ∃w' c,((do Instr.mapUpdate Zw (.map (some b)) (JL p n) (I v);pure undef):Sem Va).run Tryz.prog w=.ok undef w'/\Q0 [b] w w'/\H7 w' b (es.push { key:=JL p n,val:=I v,born:=c }):=by
 obtain⟨⟨c,hc⟩,hes⟩:=h;have hg:(getObj b).run Tryz.prog w=.ok (.map es c) w:=by simp[getObj,Sem.run,hc]
 have hfk:(Instr.findKey QI (JL p n) es.toList).run Tryz.prog w=.ok none w:=by
  rcases Fs p n w es.toList hes with ⟨j,v,_,e,he,hk⟩|⟨h1,_⟩
  ·exact It hk (kF e he)
  ·exact h1
 have hs:(setObj b (.map (es.push { key:=JL p n,val:=I v,born:=c }) (c+1))).run Tryz.prog w=.ok () { w with heap:=w.heap.setIfInBounds b (.map (es.push { key:=JL p n,val:=I v,born:=c }) (c+1)) }:=by
  simp[setObj,Sem.run,hc]
 have IX:=VV hc;refine⟨{ w with heap:=w.heap.setIfInBounds b (.map (es.push { key:=JL p n,val:=I v,born:=c }) (c+1)) },c,by simp[Instr.mapUpdate,run_underlying F9,hg,MF,hfk,hs],⟨rfl,rfl,rfl,Qs,λk _ hk=>?_⟩,⟨c+1,by simp[IX]⟩,λe he=>?_⟩
 ·have:b≠k:=λe=>hk (by simp[e])
  show (w.heap.setIfInBounds b _)[k]? = _;rw[Array.getElem?_setIfInBounds_ne this]
 ·rw[Array.toList_push,Ip] at he;rcases he with he|he
  ·exact hes e he
  ·rw[IB] at he;subst he;exact⟨p,n,v,rfl,rfl⟩
def H7.ext{w w':Wo}{b:Nat}{es:Array MapEntry}{bs:List Nat}(h:H7 w b es)(hx:Q0 bs w w')(hb:b∉bs):H7 w' b es:=by
 obtain⟨⟨c,hc⟩,hes⟩:=h;exact⟨⟨c,Ts hc hx hb⟩,hes⟩
def Ag(p:OA):List Va:=[.pointer p]
def OE:zj2 Tryz.prog Ag 1 Y7 8 none:=Mr Qk λ_=>rfl
def znj:Tryz.prog.underlying Pp=some (.slice Y7):=Qk
def UC(w:Wo)(b:Nat)(g:Int)(n:ByteArray)(up:OA):Prop:=w.heap[b]? = some (.cells ([I g,.string n,.pointer up]:List Va).toArray Dt (0,0))
def UC.ext{w w':Wo}{b:Nat}{g:Int}{n:ByteArray}{up:OA}{bs:List Nat}(h:UC w b g n up)(hx:Q0 bs w w')(hb:b∉bs):UC w' b g n up:=Ts h hx hb
def UC.cells{w:Wo}{b:Nat}{g:Int}{n:ByteArray}{up:OA}(h:UC w b g n up){bs:List Nat}(hb:b∉bs):Q2 bs w (some ⟨b,0,none⟩) 0 [I g,.string n,.pointer up]:=
 Mp h hb λj v hj=>by rw[Nat.zero_add,Nat.zero_add];exact hj
def zjy(gs:List ZL)(nb:Int->Nat)(x:Int):OA:=if x=0 then none else some ⟨nb (gi gs x).IG,0,none⟩
structure Ns (bs:List Nat) (w:Wo) (gs:List ZL) (nb:Int->Nat):Prop where
 node:∀x:Int,Q6 gs x->Q2 bs w (some ⟨nb x,0,none⟩) 0 [I x,.string (gi gs x).name,.pointer (zjy gs nb x)]
 par:∀x:Int,x≠0->Q6 gs x->Q6 gs (gi gs x).IG=true
def Ns.ext{bs:List Nat}{w w':Wo}{gs:List ZL}{nb:Int->Nat}(h:Ns bs w gs nb)(hx:Q0 bs w w'):Ns bs w' gs nb:=⟨λx hu=>(h.node x hu).ext hx,h.par⟩
def Ns.less{bs cs:List Nat}{w:Wo}{gs:List ZL}{nb:Int->Nat}(h:Ns bs w gs nb)(hs:∀x∈cs,x∈bs):Ns cs w gs nb:=⟨λx hu=>(h.node x hu).less hs,h.par⟩
def AZ(gs:List ZL)(f:Nat)(x:Int)(s:Int):Int:=if dep f gs x<0 then -1 else s+dep f gs x
def zsg{gs:List ZL}{nb:Int->Nat}{w:Wo}{bs:List Nat}(h:Ns bs w gs nb){x:Int}(hu:Q6 gs x):PX bs UJ #[.pointer (some ⟨nb x,0,none⟩)] w (I (AZ gs 3 x 0)):=
 Db (some ⟨nb x,0,none⟩) λwr hx=>by
  have h:=(h.ext hx).less (cs:=[]) Qs;refine⟨λvs=>(∃(y:Int) (s:Nat),Q6 gs y/\s<=4/\vs=[.pointer (some ⟨nb y,0,none⟩),I (s:Int)]/\(s<=3->AZ gs (3-s) y s=AZ gs 3 x 0)/\(s=4->AZ gs 3 x 0 = -1))\/∃s:Nat,s<=4/\vs=[.pointer none,I (s:Int)]/\AZ gs 3 x 0 = -1,λvs=>(5-Y5 1 vs).toNat,.inl ⟨x,0,hu,Qo,rfl,λ_=>rfl,λh=>by omega⟩,?_⟩;rintro n1 st (⟨y,s,hy,hs,he,h1,h2⟩|⟨s,hs,he,h1⟩)
  ·simp only[I6,I7,Value.pointer.injEq,true_and,and_true] at he;obtain⟨rfl,rfl⟩:=he;refine⟨λhc=>?_,λhc=>?_⟩
   ·have kO:s<=3:=by
     simp only[Option.isNone_some,Bool.not_false,Bool.true_and,Il] at hc;omega
    have hn:=h.node y hy;refine⟨rfl,y,hn.get 0 _ rfl,λhz=>?_,λhz=>?_⟩
    ·have hz:y=0:=by simpa using hz
     rw[<-h1 kO];subst hz;unfold AZ;rw[Ye,E' Qo,Int.add_zero]
    ·have hz:y≠0:=by simpa using hz
     have hm:zjy gs nb y=some ⟨nb (gi gs y).IG,0,none⟩:=by unfold zjy;rw[E' hz]
     refine⟨⟨Qo,Qo⟩,rfl,_,by have:=hn.get 2 _ rfl;exact this,.inl ⟨(gi gs y).IG,s+1,h.par y hz hy,Qo,by rw[hm];simp,λhs'=>?_,λhs'=>?_⟩,?_⟩
     ·rw[<-h1 kO];have e:3-s=(3-(s+1))+1:=Qo;rw[e];unfold AZ;simp only[dep,E' hz]
      by_cases hd:dep (3-(s+1)) gs (gi gs y).IG<0
      ·rw[H' hd,H' hd,H' Qo]
      ·rw[E' hd,E' hd,E' Qo];omega
     ·rw[<-h1 kO];have e:3-s=0:=Qo;rw[e];unfold AZ;simp only[dep,E' hz];rfl
     ·show (5-((s:Int)+1)).toNat<(5-(s:Int)).toNat;omega
   ·have gX:s=4:=by
     simp only[Option.isNone_some,Bool.not_false,Bool.true_and,decide_eq_false_iff_not] at hc;omega
    rw[h2 gX]
  ·simp only[I6,I7,Value.pointer.injEq,true_and,and_true] at he;obtain⟨rfl,rfl⟩:=he;refine⟨λhc=>by simp at hc,λ_=>by rw[h1]⟩
section
variable {gs:List ZL}{ms:Nat->MG}{o:OA}{c:Nat}{w:Wo}{bs:List Nat}
def PU{g:Int}(h:K0 bs w o gs ms)(hl:gs.length<=maxLen):PX bs Jp #[.slice o gs.length c,I g] w (.bool (Q6 gs g)):=
 EK o gs.length c g λwr hx=>by
  have h:=(h.ext hx).less (cs:=[]) Qs;have:=YQ
  have e:Yp g 0 ((gs.length:Int)-1)=(decide (g>=0)&&decide (g<(gs.length:Int))):=by
   unfold Yp
   congr 1
   exact decide_eq_decide.2 Qo
  refine⟨⟨Qo,Qo⟩,_,QL,λq=>?_,(gi gs g).IW,λq=>?_,by rw[e];rfl⟩
  ·have q:=Qr.1 q;exact h.ix Qo Qo
  ·have q:=Qr.1 q;exact h.IW Qo Qo
def zsh(h:K0 [] w o gs ms)(hl:gs.length<=maxLen) :
  Cz Py #[.slice o gs.length c] w λe w'=>∃(o':OA) (L C:Nat) (ok:Bool),e=.returned (.tuple #[.slice o' L C,.bool ok])/\ok=Po gs/\Q0 [] w w'/\
   (ok=false->L=0)/\(ok->L=8/\∃(pl:List (OA)) (nb:Int->Nat),pl.length=8/\Rd Ag 1 [] w' o' pl/\(∀g:Int,0<=g->g<8->gi pl g=if (gi gs g).IW then some ⟨nb g,0,none⟩ else none)/\Ns [] w' gs nb):=by
 refine(zee o gs.length c (R:=λv w'=>∃(o':OA) (L C:Nat) (ok:Bool),v=.tuple #[.slice o' L C,.bool ok]/\ok=Po gs/\Q0 [] w w'/\
   (ok=false->L=0)/\(ok->L=8/\∃(pl:List (OA)) (nb:Int->Nat),pl.length=8/\Rd Ag 1 [] w' o' pl/\(∀g:Int,0<=g->g<8->gi pl g=if (gi gs g).IW then some ⟨nb g,0,none⟩ else none)/\Ns [] w' gs nb)) ?_).mono λe w' ⟨v,he,o',L,C,ok,hv,hr⟩=>⟨o',L,C,ok,by rw[he,hv],hr⟩
 have bad:∀w',Q0 [] w w'->¬ZZ gs->∃(o':OA) (L C:Nat) (ok:Bool),Value.tuple #[.slice none 0 0,.bool false]=.tuple #[.slice o' L C,.bool ok]/\ok=Po gs/\Q0 [] w w'/\
   (ok=false->L=0)/\(ok->L=8/\∃(pl:List (OA)) (nb:Int->Nat),pl.length=8/\Rd Ag 1 [] w' o' pl/\(∀g:Int,0<=g->g<8->gi pl g=if (gi gs g).IW then some ⟨nb g,0,none⟩ else none)/\Ns [] w' gs nb):=λw' hx kF=>
  ⟨none,0,0,false,rfl,(Ds kF).symm,hx,λ_=>rfl,λh=>by cases h⟩
 have l8:((((gs.length:Nat):Int) != 8)=false)->gs.length=8:=λq=>by have:=(bne_eq_false_iff_eq).1 q;omega
 have i0:∀q:(((gs.length:Nat):Int) != 8)=false,(0:Int)<(gs.length:Int):=λq=>by have:=l8 q;omega
 refine⟨λq=>h.ix (I4 _) (i0 q),(gi gs 0).IW,λq=>h.IW (I4 _) (i0 q),λq=>?_,(gi gs 0).IG,λq=>?_,λq=>?_,(gi gs 0).name,λq=>?_,λq=>?_,λq=>?_⟩
 ·simp only[I1] at q;exact h.ix (I4 _) (i0 q.1)
 ·simp only[I1] at q;exact h.IG (I4 _) (i0 q.1)
 ·simp only[I1] at q;exact h.ix (I4 _) (i0 q.1.1)
 ·simp only[I1] at q;exact h.name (I4 _) (i0 q.1.1)
 ·intro w1 SD;refine bad w1 SD λht=>?_
  have e:((gs.length:Nat):Int)=8:=by have:=ht.len;omega
  rw[e,ht.ru,ht.rp,ht.rn,Do] at q;simp at q
 simp only[I1,I8,bne_eq_false_iff_eq,U2] at q;obtain⟨⟨⟨q1,ru⟩,rp⟩,rn⟩:=q;have hl8:gs.length=8:=Qo;intro wr hx _;refine⟨some ⟨wr.heap.size,0,none⟩,8,8,wr.alloc (.cells ((List.replicate 8 none).flatMap Ag).toArray Y7),KR OE znj 8 Qd (by simp[maxLen]) wr,Uj,?_⟩;have hO0:=TO (enc:=Ag) OE.len Y7 8 none wr;have hX0:Q0 [] wr (wr.alloc (.cells ((List.replicate 8 none).flatMap Ag).toArray Y7)):=Zj wr _;generalize wr.alloc (.cells ((List.replicate 8 (none:OA)).flatMap Ag).toArray Y7)=wv at hO0 hX0
 refine P0 8 0 rfl (λk w1=>k<=8/\Q0 [] wr w1/\∃(pl:List (OA)) (nb:Int->Nat),pl.length=8/\Jy Ag 1 Y7 wr.heap.size w1 (some ⟨wr.heap.size,0,none⟩) 8 pl/\
   (∀g:Int,0<=g->g<8->gi pl g=if g<(k:Int)/\(gi gs g).IW then some ⟨nb g,0,none⟩ else none)/\
   (∀g:Int,0<=g->g<(k:Int)->(gi gs g).IW->wr.heap.size<=nb g/\UC w1 (nb g) g (gi gs g).name none)/\
   (∀g g':Int,0<=g->g<(k:Int)->0<=g'->g'<(k:Int)->(gi gs g).IW->(gi gs g').IW->nb g=nb g'->g=g')) (λw1 SD _=>⟨Ig _,hX0.trans SD,List.replicate 8 none,λ_=>0,rfl,hO0.gG SD,λg h0 h1=>?_,λg h0 h1=>by omega,λg g' h0 h1=>by omega⟩) λk w1 _ ⟨hk,hX,pl,nb,hpl,hO,hP,hN,Bt7⟩=>⟨λIX=>?_,λRX=>?_⟩
 ·rw[E' (λhc=>by omega)];exact List.eq_of_mem_replicate (ziv h0 (by simpa using h1))
 ·have IX:=Ot IX;have hr:=(h.ext hx).ext hX;have dD:(0:Int)<=(k:Int):=Qo;refine⟨hr.ix dD IX,_,hr.IW dD IX,λhu=>⟨hr.ix dD IX,_,hr.name dD IX,λb wb hxb hb hhb _=>?_⟩,λhu=>⟨⟨Qo,Qo⟩,λw2 Rt _=>Z4 Qo ⟨Qo,hX.trans Rt,pl,nb,hpl,hO.gG Rt,λg h0 h1=>?_,λg h0 h1 hg=>?_,λg g' h0 h1 h0' h1' hg hg'=>?_⟩⟩⟩
  ·have hOb:=hO.gG hxb;have mL:(k:Int)<(pl.length:Int):=by rw[hpl];omega
   have WJ:=hOb.ix dD mL;rw[hpl] at WJ;refine⟨WJ,hOb.wr OE.len Qs dD mL (j:=0) (n:=1) Qo,⟨Qo,Qo⟩,λw2 Rt _=>Z4 Qo ⟨Qo,?_,pl.set k (some ⟨b,0,none⟩),λg=>if g=(k:Int) then b else nb g,by rw[I0];exact hpl,?_,λg h0 h1=>?_,λg h0 h1 hg=>?_,λg g' h0 h1 h0' h1' hg hg' he=>?_⟩⟩
   ·exact(hOb.CR2 _ _ (hX.trans hxb) (I9 _)).trans Rt
   ·exact(hOb.RN OE.len (i:=(k:Int)) dD mL (j:=0) (vs:=[.pointer (some ⟨b,0,none⟩)]) (x:=some ⟨b,0,none⟩) rfl Qs).gG Rt
   ·have:=QD pl (some ⟨b,0,none⟩) (i:=(k:Int)) (j:=g) dD mL h0;rw[Ii] at this;rw[this]
    by_cases sS:(k:Int)=g
    ·subst sS;rw[H' rfl,H' ⟨Qo,hu⟩]
     dsimp only
     rw[H' rfl]
    ·rw[E' sS,hP g h0 h1]
     dsimp only
     rw[show (if g=(k:Int) then b else nb g)=nb g from E' (λe=>sS e.symm)]
     by_cases Si:g<(k:Int)
     ·by_cases kU:(gi gs g).IW=true
      ·rw[H' ⟨Si,kU⟩,H' ⟨Qo,kU⟩]
      ·rw[E' (λhc=>kU hc.2),E' (λhc=>kU hc.2)]
     ·rw[E' (λhc=>Si hc.1),E' (λhc=>by omega)]
   ·have oA:Q0 (QE (some ⟨wr.heap.size,0,none⟩)) wb (RN wb (some ⟨wr.heap.size,0,none⟩) (Int.toNat (k:Int)*1) [.pointer (some ⟨b,0,none⟩)]):=hOb.tN _ _
    have fJ:∀q,UC wb q g (gi gs g).name none->q∉QE (some (⟨wr.heap.size,0,none⟩:Addr)):=λq hq hm=>by
     simp only[QE,IB] at hm;subst hm;rcases hOb with ⟨hc,_⟩|⟨b',sp,he,_,h2,_⟩
     ·cases hc
     ·simp only[I2,Addr.mk.injEq,and_true] at he;subst he;unfold UC at hq;rw[h2] at hq;simp only[I2,Obj.cells.injEq] at hq;exact It hq.2.1 Qd
    dsimp only
    by_cases sS:g=(k:Int)
    ·subst sS;rw[H' rfl];have hq:UC wb b (k:Int) (gi gs (k:Int)).name none:=hhb;exact⟨IC hX.size hb,((hq.ext oA (fJ b hq)).ext Rt Qs)⟩
    ·rw[E' sS];obtain⟨n1,n2⟩:=hN g h0 Qo hg;have n3:=n2.ext hxb Qs;exact⟨n1,(n3.ext oA (fJ _ n3)).ext Rt Qs⟩
   ·have fresh:∀q:Int,0<=q->q<(k:Int)->(gi gs q).IW->nb q≠b:=λq a1 a2 a3 e=>by
     have:=VV (hN q a1 a2 a3).2;omega
    dsimp only at he
    by_cases sS:g=(k:Int)
    ·by_cases hgk':g'=(k:Int)
     ·rw[sS,hgk']
     ·rw[H' sS,E' hgk'] at he;exact It he.symm (fresh g' h0' Qo hg')
    ·by_cases hgk':g'=(k:Int)
     ·rw[E' sS,H' hgk'] at he;exact It he (fresh g h0 Qo hg)
     ·rw[E' sS,E' hgk'] at he;exact Bt7 g g' h0 Qo h0' Qo hg hg' he
  ·rw[hP g h0 h1]
   by_cases sS:g=(k:Int)
   ·subst sS;rw[E' (λhc=>by omega),E' (λhc=>by rw[hu] at hc;exact It hc.2 Qd)]
   ·by_cases Si:g<(k:Int)
    ·by_cases kU:(gi gs g).IW=true
     ·rw[H' ⟨Si,kU⟩,H' ⟨Qo,kU⟩]
     ·rw[E' (λhc=>kU hc.2),E' (λhc=>kU hc.2)]
    ·rw[E' (λhc=>Si hc.1),E' (λhc=>by omega)]
  ·by_cases sS:g=(k:Int)
   ·subst sS;rw[hu] at hg;cases hg
   ·obtain⟨n1,n2⟩:=hN g h0 Qo hg;exact⟨n1,n2.ext Rt Qs⟩
  ·have e1:g≠(k:Int):=λe=>by subst e;rw[hu] at hg;cases hg
   have e2:g'≠(k:Int):=λe=>by subst e;rw[hu] at hg';cases hg'
   exact Bt7 g g' h0 Qo h0' Qo hg hg'
 ·have RX:=Ou RX;have hk8:k=8:=Qo;subst hk8;intro w2 Rt _;refine⟨.map (some w2.heap.size),w2.alloc (.map #[] 0),by simp[Instr.makeMap],Uj,?_⟩;have hM0:H7 (w2.alloc (.map #[] 0)) w2.heap.size #[]:=⟨⟨0,Array.getElem?_push_size ..⟩,λe he=>by cases he⟩;have hX2:Q0 [] wr (w2.alloc (.map #[] 0)):=(hX.trans Rt).trans (Zj w2 _);have tF:=(hO.gG Rt).gG (Zj w2 (.map #[] 0))
  have hN2:∀g:Int,0<=g->g<8->(gi gs g).IW->wr.heap.size<=nb g/\UC (w2.alloc (.map #[] 0)) (nb g) g (gi gs g).name none:=λg h0 h1 hg=>
   ⟨(hN g h0 Qo hg).1,((hN g h0 Qo hg).2.ext Rt Qs).ext (Zj w2 _) Qs⟩
  have hP2:∀g:Int,0<=g->g<8->gi pl g=if (gi gs g).IW=true then some ⟨nb g,0,none⟩ else none:=λg h0 h1=>by
   rw[hP g h0 h1]
   by_cases kU:(gi gs g).IW=true
   ·rw[H' ⟨Qo,kU⟩,H' kU]
   ·rw[E' (λhc=>kU hc.2),E' kU]
  have CK0:∀g g':Int,0<=g->g<8->0<=g'->g'<8->(gi gs g).IW->(gi gs g').IW->nb g=nb g'->g=g':=λg g' a b c d=>Bt7 g g' a Qo c Qo
  have hmb:wr.heap.size<=w2.heap.size:=(hX.trans Rt).size;generalize w2.heap.size=mb at hM0 hmb;generalize w2.alloc (.map #[] 0)=w3 at hM0 hX2 tF hN2;clear hX hO hN hP Bt7
  refine P0 8 1 rfl (λk w1=>1<=k/\k<=8/\Q0 [] wr w1/\Jy Ag 1 Y7 wr.heap.size w1 (some ⟨wr.heap.size,0,none⟩) 8 pl/\
    (∀g:Int,0<=g->g<8->(gi gs g).IW->UC w1 (nb g) g (gi gs g).name (if g<(k:Int) then zjy gs nb g else none))/\
    (∃es,H7 w1 mb es/\(∀e∈es.toList,∃g:Int,1<=g/\g<(k:Int)/\(gi gs g).IW/\e.key=JL (gi gs g).IG (gi gs g).name)/\∀g:Int,1<=g->g<(k:Int)->(gi gs g).IW->∃e∈es.toList,e.key=JL (gi gs g).IG (gi gs g).name)/\
    (∀g:Int,1<=g->g<(k:Int)->(gi gs g).IW->JO (gi gs g).name/\Q6 gs (gi gs g).IG/\∀h:Int,1<=h->h<g->(gi gs h).IW->¬((gi gs h).IG=(gi gs g).IG/\(gi gs h).name=(gi gs g).name)))
   (λw4 X' _=>⟨I9 _,Qo,hX2.trans X',tF.gG X',λg h0 h1 hg=>?_,⟨#[],hM0.ext X' Qs,(λe he=>by cases he),λg h1 h2=>by omega⟩,λg h1 h2=>by omega⟩) λk w4 _ ⟨hk1,hk,hX,hO,hN,⟨es,hM,hE1,hE2⟩,hT⟩=>⟨λIX=>?_,λRX=>?_⟩
  ·have:=(hN2 g h0 h1 hg).2.ext X' Qs
   by_cases hg1:g<((1:Nat):Int)
   ·rw[H' hg1];have:g=0:=Qo;subst this;exact this
   ·rw[E' hg1];exact this
  ·have IX:=Ot IX;have hr:=(h.ext hx).ext hX;have dD:(0:Int)<=(k:Int):=Qo;have mL:(k:Int)<(pl.length:Int):=Qo;have cN:(k:Int)<(gs.length:Int):=Qo;have hPl:=hO.rd OE.len (bs:=[]) Qs;have WJ:=hO.ix dD mL;rw[hpl] at WJ;have hXw:Q0 [] w w4:=hx.trans hX;refine⟨WJ,gi pl (k:Int),hPl k dD mL,λkF=>?_,λAG7=>?_⟩
   ·have hu:¬(gi gs (k:Int)).IW:=λhu=>by rw[hP2 k dD IX,H' hu] at kF;cases kF
    refine⟨⟨Qo,Qo⟩,λw5 Wb _=>Z4 Qo ⟨Qo,Qo,hX.trans Wb,hO.gG Wb,λg h0 h1 hg=>?_,⟨es,hM.ext Wb Qs,λe he=>?_,λg h1 h2 hg=>?_⟩,λg h1 h2 hg=>?_⟩⟩
    ·have:=(hN g h0 h1 hg).ext Wb Qs;have sS:g≠(k:Int):=λe=>hu (e▸hg)
     by_cases hg1:g<(k:Int)
     ·rw[H' hg1] at this;rw[H' Qo];exact this
     ·rw[E' hg1] at this;rw[E' Qo];exact this
    ·obtain⟨g,a1,a2,a3⟩:=hE1 e he;exact⟨g,a1,Qo,a3⟩
    ·have sS:g≠(k:Int):=λe=>hu (e▸hg)
     exact hE2 g h1 Qo hg
    ·have sS:g≠(k:Int):=λe=>hu (e▸hg)
     exact hT g h1 Qo hg
   ·have hu:(gi gs (k:Int)).IW:=by
     cases hq:(gi gs (k:Int)).IW with
     |true=>rfl
     |false=>rw[hP2 k dD IX,hq] at AG7;cases AG7
    have hpk:gi pl (k:Int)=some ⟨nb (k:Int),0,none⟩:=by rw[hP2 k dD IX,H' hu]
    refine⟨hr.ix dD cN,_,hr.name dD cN,_,zaw,λ_=>hr.ix dD cN,(gi gs (k:Int)).IG,λ_=>hr.IG dD cN,Q6 gs (gi gs (k:Int)).IG,λ_=>PU hr hl,λq=>?_,λq=>?_⟩
    ·intro w5 Wb;refine bad w5 (hXw.trans Wb) λht=>?_
     rw[ht.nm k Qo IX hu,ht.par k Qo IX hu] at q;cases q
    ·simp only[I1,I8] at q;obtain⟨qn,qp⟩:=q;obtain⟨p0,p1,pu⟩:=Q5.1 qp;have p8:(gi gs (k:Int)).IG<8:=Qo;have CK2:=hO.ix p0 Qo;rw[hpl] at CK2;have hnk:=hN k dD IX hu;rw[E' Qo] at hnk;have hpp:gi pl (gi gs (k:Int)).IG=some ⟨nb (gi gs (k:Int)).IG,0,none⟩:=by rw[hP2 _ p0 p8,H' pu]
     have hnb:nb (k:Int)∉QE (some (⟨wr.heap.size,0,none⟩:Addr)):=λhm=>by
      simp only[QE,IB] at hm;rcases hO with ⟨hc,_⟩|⟨b',sp,he,_,h2,_⟩
      ·cases hc
      ·simp only[I2,Addr.mk.injEq,and_true] at he;subst he;unfold UC at hnk;rw[hm,h2] at hnk;simp only[I2,Obj.cells.injEq] at hnk;exact It hnk.2.1 Qd
     have hWr:Xx [] w4 (some ⟨nb (k:Int),0,none⟩) (0+2) 1:=zfw hnk Qs (by show 0+(0+2+1)<=3;omega);have hsx:Q0 [nb (k:Int)] w4 (RN w4 (some ⟨nb (k:Int),0,none⟩) (0+2) [.pointer (some ⟨nb (gi gs (k:Int)).IG,0,none⟩)]):=MH λa ha=>by cases ha;simp
     have hbk:wr.heap.size<=nb (k:Int):=(hN2 k dD IX hu).1;have hXs:Q0 [] wr (RN w4 (some ⟨nb (k:Int),0,none⟩) (0+2) [.pointer (some ⟨nb (gi gs (k:Int)).IG,0,none⟩)]):=hX.fresh hsx λx hm=>.inl (by rw[IB.1 hm];exact hbk)
     have hrs:=(h.ext hx).ext hXs;have hup:zjy gs nb (k:Int)=some ⟨nb (gi gs (k:Int)).IG,0,none⟩:=by unfold zjy;rw[E' Qo]
     have hNs:∀g:Int,0<=g->g<8->(gi gs g).IW->UC (RN w4 (some ⟨nb (k:Int),0,none⟩) (0+2) [.pointer (some ⟨nb (gi gs (k:Int)).IG,0,none⟩)]) (nb g) g (gi gs g).name (if g<((k+1:Nat):Int) then zjy gs nb g else none):=λg h0 h1 hg=>by
      by_cases sS:g=(k:Int)
      ·subst sS;rw[H' Qo,hup];exact Nu hnk
      ·have fJ:nb g≠nb (k:Int):=λe=>sS (CK0 g k h0 h1 dD IX hg hu e)
       have:=(hN g h0 h1 hg).ext hsx (by simpa using fJ)
       by_cases hg1:g<(k:Int)
       ·rw[H' hg1] at this;rw[H' Qo];exact this
       ·rw[E' hg1] at this;rw[E' Qo];exact this
     have hOs:Jy Ag 1 Y7 wr.heap.size (RN w4 (some ⟨nb (k:Int),0,none⟩) (0+2) [.pointer (some ⟨nb (gi gs (k:Int)).IG,0,none⟩)]) (some ⟨wr.heap.size,0,none⟩) 8 pl:=hO.ext hsx λb hm nZ=>hnb (by rw[IB.1 nZ] at hm;exact hm)
     have hMs:H7 (RN w4 (some ⟨nb (k:Int),0,none⟩) (0+2) [.pointer (some ⟨nb (gi gs (k:Int)).IG,0,none⟩)]) mb es:=hM.ext hsx λhm=>by
      rw[IB] at hm;obtain⟨⟨cc,hc⟩,_⟩:=hM;unfold UC at hnk;rw[<-hm,hc] at hnk;cases hnk
     refine⟨WJ,some ⟨nb (k:Int),0,none⟩,by rw[<-hpk];exact hPl k dD mL,hr.ix dD cN,_,hr.IG dD cN,CK2,some ⟨nb (gi gs (k:Int)).IG,0,none⟩,by rw[<-hpp];exact hPl _ p0 Qo,rfl,hWr,?_⟩;generalize RN w4 (some ⟨nb (k:Int),0,none⟩) (0+2) [.pointer (some ⟨nb (gi gs (k:Int)).IG,0,none⟩)]=w5 at hXs hrs hNs hOs hMs;refine⟨hrs.ix dD cN,_,hrs.IG dD cN,hrs.ix dD cN,_,hrs.name dD cN,λb1 fI=>⟨hrs.name dD cN,hrs.IG dD cN,λw6 eM hs6=>?_⟩⟩;have hM6:=hMs.ext eM Qs;obtain⟨v,okk,CK8,hok⟩:=zqg hM6 (gi gs (k:Int)).IG (gi gs (k:Int)).name;have B59:∀x∈[b1],wr.heap.size<=x\/x∈([]:List Nat):=λx hm=>.inl (by rw[IB.1 hm];exact IC hXs.size fI)
     refine⟨v,okk,w6,CK8,λ_ _=>rfl,λCh4=>?_,λrU w7 mE hs7=>?_⟩
     ·intro w7 mE;refine bad w7 (hx.trans (((hXs.trans eM).fresh mE B59))) λht=>?_
      obtain⟨e,he,hk⟩:=hok.1 Ch4;obtain⟨g,a1,a2,a3,a4⟩:=hE1 e he;rw[a4] at hk;simp only[JL,Value.agg.injEq,List.toArray_inj,Array.mk.injEq,I6,I7,true_and,Value.string.injEq,and_true] at hk;exact ht.uniq k g a1 a2 IX hu a3 hk
     ·have hM7:=hM6.ext mE (λhm=>by
       rw[IB] at hm;obtain⟨⟨cc,hc⟩,_⟩:=hMs;have:=VV hc;omega)
      have CL3:¬∃e∈es.toList,e.key=JL (gi gs (k:Int)).IG (gi gs (k:Int)).name:=λhc=>by
       have:=hok.2 hc;rw[rU] at this;cases this
      obtain⟨w8,cc,Cm3,rD,hM8⟩:=ztd hM7 (λe he hk=>CL3 ⟨e,he,hk⟩) (k:Int);have hmx:∀x∈[mb],wr.heap.size<=x\/x∈([]:List Nat):=λx hm=>.inl (by rw[IB.1 hm];exact hmb)
      have hX7:Q0 [] wr w7:=(hXs.trans eM).fresh mE B59;have hX8:Q0 [] wr w8:=hX7.fresh rD hmx;refine⟨w8,Cm3,λx hm=>rD.block x (hs7 x hm) (λnZ=>?_),⟨Qo,Qo⟩,λw9 hx9 hs9=>Z4 Qo ⟨Qo,Qo,hX8.fresh hx9 B59,?_,λg h0 h1 hg=>?_,⟨_,hM8.ext hx9 ?_,λe he=>?_,λg h1 h2 hg=>?_⟩,λg h1 h2 hg=>?_⟩⟩
      ·rw[IB] at hm nZ;subst nZ;obtain⟨⟨c2,hc⟩,_⟩:=hMs;have:=VV hc;omega
      ·have hnm:∀b∈QE (some (⟨wr.heap.size,0,none⟩:Addr)),b∉[mb]:=λb hm nZ=>by
        simp only[QE,IB] at hm nZ;rcases hOs with ⟨hc,_⟩|⟨b',sp,he,_,h2,_⟩
        ·cases hc
        ·simp only[I2,Addr.mk.injEq,and_true] at he;subst he;obtain⟨⟨c2,hc⟩,_⟩:=hMs;rw[<-nZ,hm,h2] at hc;cases hc
       have hn1:∀b∈QE (some (⟨wr.heap.size,0,none⟩:Addr)),b∉[b1]:=λb hm nZ=>by
        have:=(hOs.lt b hm).2;rw[IB] at nZ;omega
       exact(((hOs.gG eM).ext mE hn1).ext rD hnm).ext hx9 hn1
      ·have hq:=hNs g h0 h1 hg;have hql:=VV hq;have n1:nb g∉[b1]:=λhm=>by rw[IB] at hm;omega
       have n2:nb g∉[mb]:=λhm=>by
        rw[IB] at hm;obtain⟨⟨c2,hc⟩,_⟩:=hMs;unfold UC at hq;rw[hm,hc] at hq;cases hq
       exact(((hq.ext eM Qs).ext mE n1).ext rD n2).ext hx9 n1
      ·intro hm;rw[IB] at hm;obtain⟨⟨c2,hc⟩,_⟩:=hMs;have:=VV hc;omega
      ·rw[Array.toList_push,Ip] at he;rcases he with he|he
       ·obtain⟨g,a1,a2,a3⟩:=hE1 e he;exact⟨g,a1,Qo,a3⟩
       ·rw[IB] at he;subst he;exact⟨k,Qo,Qo,hu,rfl⟩
      ·rw[Array.toList_push]
       by_cases sS:g=(k:Int)
       ·subst sS;exact⟨_,Iz _ (IB.2 rfl),rfl⟩
       ·obtain⟨e,he,hk⟩:=hE2 g h1 Qo hg;exact⟨e,Ic _ he,hk⟩
      ·by_cases sS:g=(k:Int)
       ·subst sS;refine⟨qn,qp,λq a1 a2 a3 a4=>CL3 ?_⟩;obtain⟨e,he,hk⟩:=hE2 q a1 a2 a3;exact⟨e,he,by rw[hk,a4.1,a4.2]⟩
       ·exact hT g h1 Qo hg
  ·have RX:=Ou RX;have hk8:k=8:=Qo;subst hk8;have hXw:Q0 [] w w4:=hx.trans hX
   have hNs:Ns [] w4 gs nb:=⟨λx hu=>by
     obtain⟨a1,a2,a3⟩:=Q5.1 hu;have:=hN x a1 Qo a3;rw[H' Qo] at this;exact this.cells Qs,λx hz hu=>by
     obtain⟨a1,a2,a3⟩:=Q5.1 hu;exact(hT x Qo Qo a3).2.1⟩
   refine P0 8 0 rfl (λj w5=>j<=8/\Q0 [] w4 w5/\∀g:Int,0<=g->g<(j:Int)->(gi gs g).IW->0<=dep 3 gs g) (λw5 Wb _=>⟨Ig _,Wb,λg h0 h1=>by omega⟩) λj w5 _ ⟨hj,hX5,hD⟩=>⟨λIX=>?_,λRX=>?_⟩
   ·have IX:=Ot IX;have hj0:(0:Int)<=(j:Int):=Qo;have hjl:(j:Int)<(pl.length:Int):=Qo;have hO5:=hO.gG hX5;have WJ:=hO5.ix hj0 hjl;rw[hpl] at WJ;refine⟨WJ,gi pl (j:Int),hO5.rd OE.len Qs j hj0 hjl,AZ gs 3 (j:Int) 0,λhs=>?_,λhb=>?_,λhb=>⟨⟨Qo,Qo⟩,λw6 eM _=>Z4 Qo ⟨Qo,hX5.trans eM,λg h0 h1 hg=>?_⟩⟩⟩
    ·have hu:(gi gs (j:Int)).IW:=by
      cases hq:(gi gs (j:Int)).IW with
      |true=>rfl
      |false=>rw[hP2 j hj0 IX,hq] at hs;cases hs
     rw[hP2 j hj0 IX,H' hu];exact zsg (hNs.ext hX5) (Q5.2 ⟨hj0,Qo,hu⟩)
    ·intro w6 eM;refine bad w6 ((hXw.trans hX5).trans eM) λht=>?_
     simp only[A',Il] at hb
     have hu:(gi gs (j:Int)).IW:=by
      cases hq:(gi gs (j:Int)).IW with
      |true=>rfl
      |false=>rw[hP2 j hj0 IX,hq] at hb;cases hb.1
     have hd:0<=dep 3 gs (j:Int):=by
      by_cases hj0':(j:Int)=0
      ·rw[hj0',Ye];omega
      ·exact ht.dp j Qo IX hu
     have:=hb.2;unfold AZ at this;rw[E' Qo] at this;omega
    ·by_cases hgj:g=(j:Int)
     ·subst hgj;have hpj:gi pl (j:Int)=some ⟨nb (j:Int),0,none⟩:=by rw[hP2 j hj0 IX,H' hg]
      rw[hpj] at hb;simp only[Option.isNone_some,Bool.not_false,Bool.true_and,decide_eq_false_iff_not] at hb;unfold AZ at hb;have:=VW gs 3 (j:Int)
      split at hb <;> omega
     ·exact hD g h0 Qo hg
   ·have RX:=Ou RX;have hj8:j=8:=Qo;subst hj8;have ht:ZZ gs:=⟨hl8,ru,rp,rn,λg h1 h2 hg=>(hT g h1 h2 hg).1,λg h1 h2 hg=>(hT g h1 h2 hg).2.1,λg h1 h2 hg=>hD g Qo h2 hg,λg q a1 a2 a3 a4 a5=>(hT g Qo a3 a4).2.2 q a1 a2 a5⟩;intro w6 eM;refine⟨some ⟨wr.heap.size,0,none⟩,8,8,true,rfl,(V4.2 ht).symm,(hXw.trans hX5).trans eM,λh=>(by cases h),λ_=>⟨rfl,pl,nb,hpl,?_,hP2,(hNs.ext hX5).ext eM⟩⟩;exact((hO.gG hX5).gG eM).rd OE.len Qs
def zax{bs:List Nat}(h:K0 bs w o gs ms)(hl:gs.length<=maxLen):PX bs OJ #[.slice o gs.length c] w (.bool (Po gs)):=by
 refine P4 λwr hx=>zam o gs.length c (R:=λv w'=>v=.bool (Po gs)/\Q0 [] wr w') ?_
 have h:=(h.ext hx).less (cs:=[]) Qs;intro w1 SD _;refine(zsh (h.ext SD) hl).mono λe w2 ⟨o',L,C,ok,he,hok,Rt,_⟩=>⟨_,_,_,_,he,Uj,λw3 Ru=>⟨by rw[hok],(SD.trans Rt).trans Ru⟩⟩
end
def Xb{n k:Int}{w:Wo}{bs:List Nat}:PX bs ZM #[I n,I k] w (I (Z6 n k)):=
 GS n k λwr hx=>by
  refine⟨_,Ja,_,λ_=>Ql,λh=>?_,λh=>?_⟩
  ·congr 1;unfold Z6;rw[E'];intro h2;simp only[A'] at h2;simp[h2] at h
  ·have h2:Yp k 1 20/\Yp n 0 100000000:=by simpa using h
   rw[Qr,Qr] at h2;have hm:=ze5 h2.2.1 h2.2.2 h2.1.1 h2.1.2;have hs:=CL h2.1.1 h2.1.2;unfold zdb at hm hs;refine⟨⟨Qo,Ju Qo Qo⟩,Ju Qo Qo,?_⟩;rw[TR h2.2.1 h2.2.2 h2.1.1 h2.1.2];rfl
def OV{k:Int}{w:Wo}{bs:List Nat}:PX bs J7 #[I k] w (I (Zs k)):=
 Cd k λwr hx=>⟨_,Xb,rfl⟩
def Y1(a b:Int):Int:=if a<b then a else b
def ze0(a b:Int):Int:=if a>b then a else b
def J2{a b:Int}{w:Wo}{bs:List Nat}:PX bs Yv #[I a,I b] w (I (Y1 a b)):=
 ze9 a b λwr hx=>⟨λh=>by rw[Y1,H' (Ot h)],λh=>by rw[Y1,E' (Ou h)]⟩
def VB{a b:Int}{w:Wo}{bs:List Nat}:PX bs Yu #[I a,I b] w (I (ze0 a b)):=
 ze8 a b λwr hx=>⟨λh=>by rw[ze0,H' (Ot h)],λh=>by rw[ze0,E' (Ou h)]⟩
def Xc(l k:Int):Int:=if (if Zs k<l then Zs k else l)>0 then (if Zs k<l then Zs k else l) else 0
def ZV(k:Int):0<=Zs k/\Zs k<=34686091440:=by
 unfold Zs
 by_cases h:1<=k/\k<=20
 ·rw[TR Qd Qd h.1 h.2];have:=CL h.1 h.2;omega
 ·rw[Lq Qo];omega
def ZX(l k:Int):0<=Xc l k/\Xc l k<=Zs k:=by
 have:=ZV k;unfold Xc;by_cases h1:Zs k<l <;> simp only[h1,if_true,if_false] <;> split <;> omega
def PE{l k:Int}{w:Wo}{bs:List Nat}:PX bs JI #[I l,I k] w (I (Xc l k)):=
 zbi l k λwr hx=>by
  have hr:=ZV k;refine⟨_,Ja,λh=>?_,λh=>⟨_,VB,_,OV,_,J2,?_⟩⟩
  ·have h:Yp k 1 20=false:=by simpa using h
   rw[ztt] at h;have h0:Zs k=0:=Lq Qo
   congr 1;unfold Xc;rw[h0];by_cases h1:0<l <;> simp only[h1,if_true,if_false] <;> (repeat' split) <;> omega
  ·congr 1;unfold Xc Y1 ze0;by_cases h1:Zs k<l <;> simp only[h1,if_true,if_false] <;> by_cases h2:l>0 <;> simp only[h2,if_true,if_false] <;> (repeat' split) <;> omega
def Qe(n:Int):Int:=if Yp n (-10) 9 then 10-n else 0
def MN{k:Int}{w:Wo}{bs:List Nat}:PX bs JV #[I k] w (I (Qe k)):=
 BQ k λwr hx=>by
  refine⟨_,G0,λh=>?_,λh=>?_⟩
  ·have h:Yp k (-10) 9=false:=by simpa using h
   rw[Qe,h];rfl
  ·have h:Yp k (-10) 9:=by simpa using h
   have h2:=Qr.1 h;refine⟨Ju Qo Qo,?_⟩;rw[Qe,h];rfl
structure JR (b:Nat) (c:OA) (L N:Nat) (w:Wo):Prop where
 hd:∃(C:Nat) (p:Int),w.heap[b]? = some (.cells [.slice c L C,I p].toArray Tx (0,0))/\0<=p/\p<=N
 bytes:∀i<L,∃(a:Addr) (x:Int),c=some a/\a.block≠b/\0<=x/\x<=255/\w.cell? (a.add i)=some (.int .u8 x)
def JR.ext{b:Nat}{c:OA}{L N:Nat}{w w':Wo}{bs:List Nat}(h:JR b c L N w)(hx:Q0 bs w w')(hb:b∉bs)(hc:∀a,c=some a->a.block∉bs\/L=0):JR b c L N w':=by
 obtain⟨⟨C,p,h1,h2,h3⟩,hby⟩:=h;refine⟨⟨C,p,Ts h1 hx hb,h2,h3⟩,λi hi=>?_⟩;obtain⟨a,x,ha,fJ,SD,Rt,Ru⟩:=hby i hi;refine⟨a,x,ha,fJ,SD,Rt,?_⟩
 have hbk:a.block∉bs:=by
  rcases hc a ha with h|h
  ·exact h
  ·omega
 obtain⟨a',e,_,h''⟩:=(show V0 bs w c i (.int .u8 x) from ⟨a,ha,hbk,Ru⟩).ext hx;rw[ha] at e;cases e;exact h''
def JR.gG{b:Nat}{c:OA}{L N:Nat}{w w':Wo}(h:JR b c L N w)(hx:Q0 [] w w'):JR b c L N w':=h.ext hx Qs (λ_ _=>.inl Qs)
def JR.mono{b:Nat}{c:OA}{L N M:Nat}{w:Wo}(h:JR b c L N w)(hm:N<=M):JR b c L M w:=by
 obtain⟨⟨C,p,h1,h2,h3⟩,hby⟩:=h;exact⟨⟨C,p,h1,h2,Qo⟩,hby⟩
def JR.lt{b:Nat}{c:OA}{L N:Nat}{w:Wo}(h:JR b c L N w):b<w.heap.size:=by
 obtain⟨⟨C,p,h1,h2,h3⟩,hby⟩:=h;exact VV h1
def JR.ltc{b:Nat}{c:OA}{L N:Nat}{w:Wo}(h:JR b c L N w)(a:Addr)(ha:c=some a):a.block<w.heap.size\/L=0:=by
 rcases Nat.eq_zero_or_pos L with h0|h0
 ·exact .inr h0
 ·obtain⟨a',x,ha',fJ,SD,Rt,Ru⟩:=h.bytes 0 h0;rw[ha] at ha';cases ha';have:=World.block_lt_of_cell? w _ Ru;rw[Zv] at this;exact .inl this
def JR.Cd3{b:Nat}{c:OA}{L N M:Nat}{w0 w w':Wo}{bs:List Nat}(h0:JR b c L M w0)(h:JR b c L N w)(hx:Q0 bs w w')(hb:∀x∈bs,w0.heap.size<=x):JR b c L N w':=
 h.ext hx (λhm=>by have:=hb _ hm;have:=h0.lt;omega) λa ha=>by
  rcases h0.ltc a ha with hl|hl
  ·exact .inl λhm=>by have:=hb _ hm;omega
  ·exact .inr hl
def H8(n v:Int):Prop:=0<=v/\(n<1->v=0)/\(1<=n->v<n)
def zcv{x n:Int}(hx:0<=x)(hn:1<=n):H8 n (Int.tmod x n):=by
 refine⟨Int.tmod_nonneg _ hx,Qo,λ_=>Int.tmod_lt_of_pos _ Qo⟩
def zj1{x y:Int}(h1:0<=x)(h2:x<=9223372036854775807)(h3:0<=y)(h4:y<=9223372036854775807):0<=VK .xor .i64 x y:=by
 have IX:(BitVec.ofInt 64 x ^^^ BitVec.ofInt 64 y).toNat<2 ^ 63:=by
  rw[BitVec.toNat_xor];refine Nat.xor_lt_two_pow ?_ ?_
  ·rw[BitVec.toNat_ofInt];omega
  ·rw[BitVec.toNat_ofInt];omega
 have h:=Qq.wrap (k:=.i64) (z:=((BitVec.ofInt 64 x ^^^ BitVec.ofInt 64 y).toNat:Int)) (Ju Qo Qo);show 0<=IntKind.i64.wrap ((BitVec.ofInt 64 x ^^^ BitVec.ofInt 64 y).toNat:Int);rw[h];omega
def GG{b:Nat}{c:OA}{L N:Nat}{w:Wo}{n:Int}(h:JR b c L N w)(hN:N<=1000000000000) :
  Cz Q1 #[.pointer (some ⟨b,0,none⟩),I n] w λe w'=>∃v,e=.returned (I v)/\H8 n v/\JR b c L (N+1) w'/\Q0 [b] w w':=by
 refine(HH (some ⟨b,0,none⟩) n (R:=λv w'=>∃x,v=I x/\H8 n x/\JR b c L (N+1) w'/\Q0 [b] w w') ?_).mono λe w' ⟨v,he,x,hv,h1,h2,h3⟩=>⟨x,by rw[he,hv],h1,h2,h3⟩
 obtain⟨C,p,hh,hp0,hpN⟩:=h.hd;have hs:=Nu (k:=0) (n:=1) (vs:=[I (p+1)]) hh;have hxt:Q0 [b] w (RN w (some ⟨b,0,none⟩) 1 [I (p+1)]):=MH λa ha=>by cases ha;exact IB.2 rfl
 generalize uD:RN w (some ⟨b,0,none⟩) 1 [I (p+1)]=w1 at hs hxt;have hs:w1.heap[b]? = some (.cells [.slice c L C,I (p+1)].toArray Tx (0,0)):=hs;have hc:Q2 [] w1 (some ⟨b,0,none⟩) (0+0) [.slice c L C]:=PM hs Qs rfl;have hpp:Q2 [] w1 (some ⟨b,0,none⟩) (0+1) [I (p+1)]:=PM hs Qs rfl
 have hby:∀i:Int,0<=i->i<L->∃x:Int,0<=x/\x<=255/\c.isSome/\Q2 [] w1 c (Int.toNat i*1) [.int .u8 x]:=λi h0 hi=>by
  obtain⟨a,x,ha,fJ,SD,Rt,Ru⟩:=h.bytes i.toNat Qo;refine⟨x,SD,Rt,by rw[ha];rfl,?_⟩;have:=(show V0 [b] w c i.toNat (.int .u8 x) from ⟨a,ha,by simpa using fJ,Ru⟩).ext hxt;rw[Nat.mul_one];exact UE (this.less Qs)
 have fin:∀(v:Int),H8 n v->∀wr,Q0 [] w1 wr->∃x,I v=I x/\H8 n x/\JR b c L (N+1) wr/\Q0 [b] w wr:=λv hv wr hr=>
  ⟨v,rfl,hv,JR.gG ⟨⟨C,p+1,hs,Qo,Qo⟩,λi hi=>by
   obtain⟨a,x,ha,fJ,SD,Rt,Ru⟩:=h.bytes i hi;have:=(show V0 [b] w c i (.int .u8 x) from ⟨a,ha,by simpa using fJ,Ru⟩).ext hxt;obtain⟨a',ha',_,hc'⟩:=this;rw[ha] at ha';cases ha';exact⟨a,x,ha,fJ,SD,Rt,hc'⟩⟩ hr,hxt.trans hr.of_nil⟩
 refine⟨rfl,p,PM hh Qs rfl,Ju Qo Qo,rfl,zfw hh Qs Qs,?_⟩;rw[show (0+1:Nat)=1 from rfl,uD];refine⟨λ_=>rfl,c,L,C,λ_=>hc,λh=>?_,λh=>?_⟩
 ·simp only[Iw,Il,Iu] at h;refine fin 0 ⟨Qo,Qo,λhn=>by omega⟩
 ·have h:1<=n/\L≠0:=by simpa using h
  refine⟨rfl,p+1,hpp,Ju Qo Qo,rfl,c,L,C,hc,λIX=>?_,λIX=>?_⟩
  ·have IX:=Ot IX;obtain⟨x,SD,Rt,Ru,X'⟩:=hby (p+1-1) Qo IX;exact⟨rfl,c,L,C,hc,⟨Qo,IX,Ru⟩,x,X',Ju Qo Qo,Qo,fin _ (zcv SD h.1)⟩
  ·have hLp:(0:Int)<(L:Int):=Qo;have hm1:=Int.tmod_nonneg (L:Int) (show 0<=p+1-1 by omega);have hm2:=Int.tmod_lt_of_pos (p+1-1) hLp;have hm3:=Int.tmod_nonneg (L:Int) (show 0<=(p+1-1)*7+3 by omega);have hm4:=Int.tmod_lt_of_pos ((p+1-1)*7+3) hLp;have hd1:0<=Int.tdiv (p+1-1) (L:Int):=Int.tdiv_nonneg Qo Qo
   have hd2:Int.tdiv (p+1-1) (L:Int)<=p+1-1:=by
    rw[Int.tdiv_eq_ediv_of_nonneg Qo];exact Int.ediv_le_self _ Qo
   obtain⟨x1,SD,Rt,Ru,X'⟩:=hby _ hm1 hm2;obtain⟨x2,eR,Wc,rN,pS⟩:=hby _ hm3 hm4;have hX0:0<=(x1*131+x2*1117+(p+1-1)*29)+Int.tdiv (p+1-1) (L:Int)*53:=Qo;have hX1:(x1*131+x2*1117+(p+1-1)*29)+Int.tdiv (p+1-1) (L:Int)*53<=1000000000000000:=Qo;have hq0:=Int.tdiv_nonneg hX0 (show (0:Int)<=64 by decide)
   have hq1:Int.tdiv ((x1*131+x2*1117+(p+1-1)*29)+Int.tdiv (p+1-1) (L:Int)*53) 64<=(x1*131+x2*1117+(p+1-1)*29)+Int.tdiv (p+1-1) (L:Int)*53:=by
    rw[Int.tdiv_eq_ediv_of_nonneg hX0];exact Int.ediv_le_self _ hX0
   refine⟨rfl,c,L,C,hc,rfl,c,L,C,hc,Qo,⟨hm1,hm2,Ru⟩,x1,X',Ju Qo Qo,Ju Qo Qo,rfl,c,L,C,hc,Ju Qo Qo,Ju Qo Qo,rfl,c,L,C,hc,Qo,⟨hm3,hm4,rN⟩,x2,pS,
    Ju Qo Qo,Ju Qo Qo,Ju Qo Qo,Ju Qo Qo,Ju Qo Qo,rfl,c,L,C,hc,⟨Qo,Ju Qo Qo⟩,Ju Qo Qo,Ju Qo Qo,⟨Qd,Ju Qo Qo⟩,Qo,?_⟩
   exact fin _ (zcv (zj1 hX0 Qo hq0 Qo) h.1)
section
open Go.RowKit Go.ChangeShapes
section
variable {H:Type}{en:TypeId×Va->H}{w:Wo}{base:Nat}{spare:Nat->Bool}{held:Bool}{fuel:Nat}{cs:List Va}{x:DataW H×List MemPlace}
structure MW where
 cO:OA
 cC:Nat
 tO:OA
 tC:Nat
 gO:OA
 gC:Nat
 ms:Nat->MG
def Qa(W:Q7)(m:MW):List Va:=[.int .i64 W.now,.slice m.cO W.IF.length m.cC,.slice m.tO W.IK.length m.tC,.slice m.gO W.IE.length m.gC]
structure X0 (bs:List Nat) (w:Wo) (W:Q7) (m:MW):Prop where
 c:zvs bs w m.cO W.IF
 t:zq9 bs w m.tO W.IK
 g:K0 bs w m.gO W.IE m.ms
def X0.ext{bs:List Nat}{w w':Wo}{W:Q7}{m:MW}(h:X0 bs w W m)(hx:Q0 bs w w'):X0 bs w' W m:=⟨h.c.ext hx,h.t.ext hx,h.g.ext hx⟩
def X0.less{bs cs:List Nat}{w:Wo}{W:Q7}{m:MW}(h:X0 bs w W m)(hs:∀x∈cs,x∈bs):X0 cs w W m:=⟨h.c.less hs,h.t.less hs,h.g.less hs⟩
def X0.wide{bs cs:List Nat}{w:Wo}{W:Q7}{m:MW}(h:X0 bs w W m)(hs:∀x∈cs,x∈bs\/w.heap.size<=x):X0 cs w W m:=⟨h.c.wide hs,h.t.wide hs,h.g.wide hs⟩
end
end
def Jz(k:Nat):Int:=1*2 ^ (min (Int.toNat (k:Int)) 64)
def Om(m:Int):Bool:=Yp m 0 15
def Zb(m c:Int):Bool:=(Om m&&Yp c 0 3)&&(Int.tmod (Int.fdiv m (2 ^ (min (Int.toNat c) 64))) 2==1)
def VC(a b:Int):Int:=if Om a=true/\Om b then VK .and .i64 a b else 0
def NY(a b:Int):Nat->Int
 |0=>0
 |k+1=>if (Zb a (k:Int)&&Zb b (k:Int))=true then NY a b k+Jz k else NY a b k
def Pk{m:Int}(h:Om m):∃f:Fin 16,m=(f.val:Int):=by
 have:=Qr.1 h;exact⟨⟨m.toNat,Qo⟩,by show m=((m.toNat:Nat):Int);omega⟩
def zn4:∀a b:Fin 16,NY (a.val:Int) (b.val:Int) 4=VK .and .i64 (a.val:Int) (b.val:Int):=by decide +kernel
def zn5:∀a b:Fin 16,0<=VK .and .i64 (a.val:Int) (b.val:Int)/\VK .and .i64 (a.val:Int) (b.val:Int)<=15:=by decide +kernel
def zn2:∀a b:Fin 16,VK .and .i64 (a.val:Int) (b.val:Int)=VK .and .i64 (b.val:Int) (a.val:Int):=by decide +kernel
def zn1:∀a b c:Fin 16,VK .and .i64 (VK .and .i64 (a.val:Int) (b.val:Int)) (c.val:Int)=VK .and .i64 (a.val:Int) (VK .and .i64 (b.val:Int) (c.val:Int)):=by decide +kernel
def zn3:∀(a b:Fin 16) (c:Fin 4),Zb (VK .and .i64 (a.val:Int) (b.val:Int)) (c.val:Int)=(Zb (a.val:Int) (c.val:Int)&&Zb (b.val:Int) (c.val:Int)):=by decide +kernel
def zn0:∀a:Fin 16,VK .and .i64 (a.val:Int) 0=0:=by decide +kernel
def Nm(a b:Int):Om (VC a b):=by
 unfold VC;split
 ·rename_i h;obtain⟨x,rfl⟩:=Pk h.1;obtain⟨y,rfl⟩:=Pk h.2;exact Qr.2 (zn5 x y)
 ·exact Qr.2 Qd
def Tv{a b:Int}(ha:Om a)(hb:Om b):VC a b=VK .and .i64 a b:=by unfold VC;rw[H' ⟨ha,hb⟩]
def Xd{a b:Int}(h:Om a=false\/Om b=false):VC a b=0:=by
 unfold VC;rw[E'];rintro⟨h1,h2⟩;rcases h with h|h
 ·rw[h1] at h;cases h
 ·rw[h2] at h;cases h
def EC(a b:Int):VC a b=VC b a:=by
 cases ha:Om a with
 |false=>rw[Xd (.inl ha),Xd (.inr ha)]
 |true=>
  cases hb:Om b with
  |false=>rw[Xd (.inr hb),Xd (.inl hb)]
  |true=>
   rw[Tv ha hb,Tv hb ha];obtain⟨x,rfl⟩:=Pk ha;obtain⟨y,rfl⟩:=Pk hb;exact zn2 x y
def Le(a:Int):VC a 0=0:=by
 cases ha:Om a with
 |false=>exact Xd (.inl ha)
 |true=>
  rw[Tv ha Qd];obtain⟨x,rfl⟩:=Pk ha;exact zn0 x
def zi6(a b c:Int):VC (VC a b) c=VC a (VC b c):=by
 cases hb:Om b with
 |false=>rw[Xd (a:=a) (.inr hb),Xd (b:=c) (.inl hb),EC 0 c,Le,Le]
 |true=>
  cases ha:Om a with
  |false=>rw[Xd (b:=b) (.inl ha),Xd (b:=VC b c) (.inl ha),EC,Le]
  |true=>
   cases hc:Om c with
   |false=>rw[Xd (a:=VC a b) (.inr hc),Xd (a:=b) (.inr hc),Le]
   |true=>
    have h1:=Nm a b;have h2:=Nm b c;rw[Tv h1 hc,Tv ha h2,Tv ha hb,Tv hb hc];obtain⟨x,rfl⟩:=Pk ha;obtain⟨y,rfl⟩:=Pk hb;obtain⟨z,rfl⟩:=Pk hc;exact zn1 x y z
def P1{m c:Int}(h:Zb m c):Om m/\0<=c/\c<=3:=by
 unfold Zb at h;simp only[A'] at h;exact⟨h.1.1,Qr.1 h.1.2⟩
def zg2{a b c:Int}(h:Zb (VC a b) c):Zb a c/\Zb b c:=by
 have hr:=P1 h
 have hz:Zb 0 c=false:=by
  have:c=0\/c=1\/c=2\/c=3:=Qo;rcases this with rfl|rfl|rfl|rfl <;> decide
 cases ha:Om a with
 |false=>rw[Xd (.inl ha),hz] at h;cases h
 |true=>
  cases hb:Om b with
  |false=>rw[Xd (.inr hb),hz] at h;cases h
  |true=>
   rw[Tv ha hb] at h;obtain⟨x,rfl⟩:=Pk ha;obtain⟨y,rfl⟩:=Pk hb;have:=zn3 x y ⟨c.toNat,Qo⟩;rw[show ((⟨c.toNat,Qo⟩:Fin 4).val:Int)=c by show ((c.toNat:Nat):Int)=c;omega] at this;rw[this] at h
   simpa using h
def Up(cs:List Pe):Nat->Int
 |0=>0
 |k+1=>if (gi cs (k:Int)).up=true then Up cs k+Jz k else Up cs k
def Jb(cs:List Pe):Int:=Up cs cs.length
def Lo(cs:List Pe):∀k:Nat,k<=4->0<=Up cs k/\Up cs k<Jz k
 |0,_=>by simp[Up,Jz]
 |k+1,h=>by
  have ih:=Lo cs k Qo
  have hb:Jz (k+1)=2*Jz k/\0<=Jz k:=by
   have:k=0\/k=1\/k=2\/k=3:=Qo;rcases this with rfl|rfl|rfl|rfl <;> decide
  simp only[Up]
  split <;> omega
def E0{k:Nat}(h:k<=4):1<=Jz k/\Jz k<=16:=by
 have:k=0\/k=1\/k=2\/k=3\/k=4:=Qo;rcases this with rfl|rfl|rfl|rfl|rfl <;> decide
def ztk{cs:List Pe}(h:cs.length<=4):Om (Jb cs):=by
 have:=Lo cs cs.length h;have:=E0 h;exact Qr.2 (by unfold Jb;omega)
def zu7:∀(k:Fin 4) (s:Fin 8),(s.val:Int)<Jz k.val->VK .or .i64 (s.val:Int) (Jz k.val)=(s.val:Int)+Jz k.val:=by decide +kernel
def zu6{k:Nat}{s:Int}(hk:k<4)(h0:0<=s)(h1:s<Jz k):VK .or .i64 s (Jz k)=s+Jz k:=by
 have hb:Jz k<=8:=by
  have:k=0\/k=1\/k=2\/k=3:=Qo;rcases this with rfl|rfl|rfl|rfl <;> decide
 have:=zu7 ⟨k,hk⟩ ⟨s.toNat,Qo⟩;rw[show ((⟨s.toNat,Qo⟩:Fin 8).val:Int)=s by show ((s.toNat:Nat):Int)=s;omega] at this;exact this h1
def zgn:∀(k:Fin 4) (s:Fin 8) (c:Fin 4),(s.val:Int)<Jz k.val->Zb ((s.val:Int)+Jz k.val) (c.val:Int)=(decide (c.val=k.val)||Zb (s.val:Int) (c.val:Int)):=by decide +kernel
def zfr(cs:List Pe){c:Int}:∀k:Nat,k<=4->Zb (Up cs k) c->c<(k:Int)/\(gi cs c).up=true
 |0,_,h=>by
  have hr:=P1 h;have:c=0\/c=1\/c=2\/c=3:=Qo;rcases this with rfl|rfl|rfl|rfl <;> exact It h (by simp only[Up];decide)
 |k+1,hk,h=>by
  have hr:=P1 h;have ih:=zfr cs (c:=c) k Qo;have hl:=Lo cs k Qo
  have hb:Jz k<=8:=by
   have:k=0\/k=1\/k=2\/k=3:=Qo;rcases this with rfl|rfl|rfl|rfl <;> decide
  simp only[Up] at h
  split at h
  ·rename_i hu;have:=zgn ⟨k,Qo⟩ ⟨(Up cs k).toNat,Qo⟩ ⟨c.toNat,Qo⟩;rw[show ((⟨(Up cs k).toNat,Qo⟩:Fin 8).val:Int)=Up cs k by show (((Up cs k).toNat:Nat):Int)=Up cs k;omega,show ((⟨c.toNat,Qo⟩:Fin 4).val:Int)=c by show ((c.toNat:Nat):Int)=c;omega] at this;rw[this hl.2] at h;simp only[Iw,Il] at h;rcases h with h|h
   ·have:c=(k:Int):=Qo;subst this;exact⟨Qo,hu⟩
   ·have:=ih h;exact⟨Qo,this.2⟩
  ·have:=ih h;exact⟨Qo,this.2⟩
def U6:Nat->List ZL->Int->List Int
 |0,_,_=>[]
 |f+1,gs,g=>if g=0 then [] else g::U6 f gs (gi gs g).IG
abbrev QV(gs:List ZL)(g:Int):List Int:=U6 3 gs g
def Zf(gs:List ZL)(f:Nat):U6 f gs 0=[]:=by cases f <;> simp[U6]
def zm2{gs:List ZL}(ht:ZZ gs):∀(f f':Nat) (h:Int),Q6 gs h->dep 3 gs h<=f->dep 3 gs h<=f'->U6 f gs h=U6 f' gs h:=by
 intro f
 induction f with
 |zero=>
  intro f' h hu h1 h2
  have hz:h=0:=Is λhz=>by
   obtain⟨_,_,_,d,e,_⟩:=ZR ht hu hz;omega
  subst hz;rw[Zf,Zf]
 |succ f ih=>
  intro f' h hu h1 h2
  by_cases hz:h=0
  ·subst hz;rw[Zf,Zf]
  ·obtain⟨hp,_,_,d,e,e2,_⟩:=ZR ht hu hz
   cases f' with
   |zero=>omega
   |succ f'=>
    simp only[U6];rw[E' hz,E' hz,ih f' (gi gs h).IG hp Qo Qo]
def Yb{gs:List ZL}(ht:ZZ gs){h:Int}(hu:Q6 gs h)(hz:h≠0):QV gs h=h::QV gs (gi gs h).IG:=by
 obtain⟨hp,_,_,d,e,e2,hd⟩:=ZR ht hu hz;show U6 3 gs h=_;rw[show U6 3 gs h=if h=0 then [] else h::U6 2 gs (gi gs h).IG from rfl,E' hz,zm2 ht 2 3 _ hp Qo Qo]
def TP{gs:List ZL}(ht:ZZ gs){Q:Int->Prop}(h0:Q 0)(hs:∀h:Int,Q6 gs h->h≠0->Q (gi gs h).IG->Q h):∀h:Int,Q6 gs h->Q h:=by
 have key:∀(n:Nat) (h:Int),Q6 gs h->dep 3 gs h<=n->Q h:=by
  intro n
  induction n with
  |zero=>
   intro h hu hd
   by_cases hz:h=0
   ·subst hz;exact h0
   ·obtain⟨_,_,_,d,e,_⟩:=ZR ht hu hz;omega
  |succ n ih=>
   intro h hu hd
   by_cases hz:h=0
   ·subst hz;exact h0
   ·obtain⟨hp,_,_,d,e,e2,_⟩:=ZR ht hu hz;exact hs h hu hz (ih _ hp Qo)
 intro h hu;have:=VW gs 3 h;exact key 3 h hu Qo
def zp5{gs:List ZL}(ht:ZZ gs){h:Int}(hu:Q6 gs h):QV gs h++[0]=h::(QV gs h).map λx=>(gi gs x).IG:=by
 refine TP ht (Q:=λh=>QV gs h++[0]=h::(QV gs h).map λx=>(gi gs x).IG) (by simp[QV,Zf]) (λh hu hz ih=>?_) h hu;rw[Yb ht hu hz,List.cons_append,ih,List.map_cons]
def V7(gs:List ZL)(g u:Int):Int:=(QV gs g++[0]).foldl (λs x=>VC s (gi gs x).IF) u
def zhu(gs:List ZL)(g:Int):Int:=(QV gs g).foldl (λs x=>VC s (gi gs (gi gs x).IG).IF) (gi gs g).IF
def zgi(f:Int->Int):∀(l:List Int) (m u:Int),VC (l.foldl (λs x=>VC s (f x)) m) u=l.foldl (λs x=>VC s (f x)) (VC u m)
 |[],m,u=>EC m u
 |x::l,m,u=>by
  simp only[List.foldl_cons];rw[zgi f l,zi6]
def zql{gs:List ZL}(ht:ZZ gs){g u:Int}(hu:Q6 gs g):VC (zhu gs g) u=V7 gs g u:=by
 unfold zhu V7;rw[zp5 ht hu,List.foldl_cons,List.foldl_map,zgi (λx=>(gi gs (gi gs x).IG).IF)]
def zk9{gs:List ZL}{g u c:Int}(h:Zb (V7 gs g u) c):Zb u c:=by
 unfold V7 at h
 revert h
 generalize QV gs g++[0]=l
 induction l generalizing u with
 |nil=>exact λh=>h
 |cons x l ih=>
  intro h;rw[List.foldl_cons] at h;exact(zg2 (ih h)).1
def Qv(W:Q7)(g mask:Int):Int:=
 if VC mask (V7 W.IE g (Jb W.IF))≠0 then VC mask (V7 W.IE g (Jb W.IF)) else if V7 W.IE g (Jb W.IF)≠0 then V7 W.IE g (Jb W.IF) else Jb W.IF
def znl{W:Q7}{g mask c:Int}(h:Zb (Qv W g mask) c):Zb (Jb W.IF) c:=by
 unfold Qv at h
 split at h
 ·exact zk9 (zg2 h).2
 ·split at h
  ·exact zk9 h
  ·exact h
def Uo(l:List Int):Nat->Int
 |0=>0
 |k+1=>Uo l k+gi l (k:Int)
def VO(p:Nat->Bool):Nat->Bool
 |0=>false
 |k+1=>VO p k||p k
def Oz{p:Nat->Bool}:∀{n:Nat},VO p n=true↔∃j,j<n/\p j=true
 |0=>by simp[VO]
 |n+1=>by
  simp only[VO,Iw,Oz (n:=n)];constructor
  ·rintro (⟨j,hj,h⟩|h)
   ·exact⟨j,Qo,h⟩
   ·exact⟨n,Qo,h⟩
  ·rintro⟨j,hj,h⟩
   by_cases hjn:j=n
   ·subst hjn;exact .inr h
   ·exact .inl ⟨j,Qo,h⟩
def zdv{p:Nat->Bool}{n:Nat}(h:∀j,j<n->p j=false):VO p n=false:=by
 cases ha:VO p n with
 |false=>rfl
 |true=>
  obtain⟨j,hj,hp⟩:=Oz.1 ha;rw[h j hj] at hp;cases hp
noncomputable def JA(P:Prop):Bool:=@decide P (Classical.propDecidable P)
def Qm{P:Prop}:JA P=true↔P:=@decide_eq_true_iff P (Classical.propDecidable P)
def Gs{P:Prop}:JA P=false↔¬P:=by
 constructor
 ·intro h hp;rw[Qm.2 hp] at h;cases h
 ·intro h
  cases hb:JA P with
  |false=>rfl
  |true=>exact It (Qm.1 hb) h
def Oe{b:Bool}{P:Prop}(h:b=true↔P):Value.bool b=.bool (JA P):=by
 have:b=JA P:=by
  cases hb:JA P with
  |true=>exact h.2 (Qm.1 hb)
  |false=>
   cases hc:b with
   |false=>rfl
   |true=>exact It (h.1 hc) (Gs.1 hb)
 rw[this]
def K7{P:Prop}(h:¬P):Value.bool false=.bool (JA P):=by rw[Gs.2 h]
def zh8{P:Prop}(h:P):Value.bool true=.bool (JA P):=by rw[Qm.2 h]
def Q8(W:Q7)(t:Int):Pv:=gi W.IK t
def Qb(W:Q7)(g c:Int):MK:=gi (gi W.IE g).IH c
def ZD(v:Int):Bool:=Yp v 0 100000000000000000
def Y2{v:Int}:ZD v=true↔0<=v/\v<=100000000000000000:=Qr
def Tj(b:Jx):Bool:=((((b.R4==0)&&(b.Sy==0))&&(b.WI==0))&&(((b.locals.length:Nat):Int)==0))&&(((b.RW.length:Nat):Int)==0)
structure VL (b:Jx):Prop where
 q1:1<=b.R4
 q2:b.R4<=10000
 l1:1<=b.locals.length
 l2:b.locals.length<=4
 dl:b.RW.length=b.locals.length
 p1:0<=b.Sy
 p2:b.Sy<=b.R4
 s1:0<=b.WI
 s2:b.WI<=b.R4
 each:∀c:Int,0<=c->c<(b.locals.length:Int)->0<=gi b.locals c/\gi b.locals c<=b.R4/\(gi b.RW c=true->gi b.locals c=0/\b.Sy=0)
 sum:b.Sy+b.WI+Uo b.locals b.locals.length=b.R4
structure zib (W:Q7) (k:Int) (g:ZL):Prop where
 w1:1<=g.R2
 w2:g.R2<=20
 m:Om g.IF=true
 m0:g.IF≠0
 s:ZD g.sum=true
 len:g.IH.length=W.IF.length
 root:k=0->g.R2=10/\g.IF=15/\g.IY.R4=0
 none:g.IY.R4=0->Tj g.IY/\g.period=0/\g.next=0
 IY:g.IY.R4≠0->VL g.IY/\g.IY.locals.length=W.IF.length/\1<=g.period/\g.period<=1000/\W.now<g.next/\g.next-W.now<=g.period
structure znu (g:ZL):Prop where
 p:g.IG=0
 n:g.name=⟨[].toArray⟩
 w:g.R2=0
 c:g.IF=0
 pe:g.period=0
 ne:g.next=0
 s:g.sum=0
 l:g.IH.length=0
 b:Tj g.IY=true
def Pt(W:Q7)(k:Int):Prop:=((gi W.IE k).IW=false->znu (gi W.IE k))/\((gi W.IE k).IW->zib W k (gi W.IE k))
structure WA (W:Q7):Prop where
 n1:0<=W.now
 n2:W.now<=100000000000000000
 c1:1<=W.IF.length
 c2:W.IF.length<=4
 t:W.IK.length=12
 tree:ZZ W.IE
 ups:Jb W.IF≠0
 grp:∀k:Int,0<=k->k<8->Pt W k
def V6(W:Q7)(g c:Int):Bool:=decide ((gi W.IE g).IY.R4>0)&&gi (gi W.IE g).IY.RW c
def VT(W:Q7)(g c:Int)(j:Nat):Bool:=(((gi W.IK (j:Int)).state==1)&&((gi W.IK (j:Int)).II==g))&&((gi W.IK (j:Int)).R8==c)
def Xy(W:Q7)(g c:Int)(j:Nat):Bool:=(decide (1<=j)&&((gi W.IE (j:Int)).IW&&((gi W.IE (j:Int)).IG==g)))&&(Qb W (j:Int) c).on
def QA(W:Q7)(g c:Int):Bool:=VO (VT W g c) W.IK.length||VO (Xy W g c) W.IE.length
def JM(W:Q7)(g c:Int):Bool:=(QV W.IE g).all λx=>(Qb W x c).on
def Zi(W:Q7)(t:Int):Bool:=((Q8 W t).state==1)&&JM W (Q8 W t).II (Q8 W t).R8
def PI(v f k:Int):Bool:=decide (v>=f)&&decide (IntKind.i64.wrap (v-f)<=Zs k)
def VS(W:Q7)(g c WC:Int):Bool:=(QV W.IE g).all λx=>decide ((Qb W x c).v-(Qb W (gi W.IE x).IG c).IL<=Z6 WC (Qb W x c).w)
def P7(W:Q7)(c:Int):Bool:=
 decide ((Q8 W (gi W.IF c).cur).v-(Qb W (Q8 W (gi W.IF c).cur).II c).IL<=Z6 (gi W.IF c).WC (Qe (Q8 W (gi W.IF c).cur).nice))&&VS W (Q8 W (gi W.IF c).cur).II c (gi W.IF c).WC
def VI:Pv:=⟨0,0,0,0,0,0,0,0,0⟩
structure zrf (W:Q7) (x:Pv):Prop where
 st:x.state=1\/x.state=2
 g:Q6 W.IE x.II=true
 n:Qe x.nice≠0
 m:Om x.mask=true
 m0:x.mask≠0
 v:ZD x.v=true
 s:ZD x.sum=true
 u:ZD x.IW=true
 l1:0<=x.load
 l2:x.load<=8000000
 c:Zb (Qv W x.II x.mask) x.R8=true
 f:x.state=1->PI x.v (Qb W x.II x.R8).IL (Qe x.nice)=true
def Fy(W:Q7)(t:Int):Prop:=(Q8 W t).state=0/\Q8 W t=VI\/(Q8 W t).state≠0/\zrf W (Q8 W t)
structure Pu (W:Q7) (k c:Int):Prop where
 f:ZD (Qb W k c).IL=true
 v:ZD (Qb W k c).v=true
 s:ZD (Qb W k c).sum=true
 w1:1<=(Qb W k c).w
 w2:(Qb W k c).w<=20
 root:k=0->(Qb W k c).on=false/\(Qb W k c).v=0/\(Qb W k c).w=10
 on:k≠0->(Qb W k c).on=(QA W k c && !V6 W k c)
 st:k≠0->(Qb W k c).on->PI (Qb W k c).v (Qb W (gi W.IE k).IG c).IL (Qb W k c).w=true
structure DA (W:Q7) (c:Int):Prop where
 b:ZD (gi W.IF c).busy=true
 i:ZD (gi W.IF c).idle=true
 c1 : -1<=(gi W.IF c).cur
 c2:(gi W.IF c).cur<(W.IK.length:Int)
 no:(gi W.IF c).cur<0->(gi W.IF c).WC=0
 yes:0<=(gi W.IF c).cur->(gi W.IF c).up/\1<=(gi W.IF c).WC/\(gi W.IF c).WC<=149/\(Q8 W (gi W.IF c).cur).R8=c/\Zi W (gi W.IF c).cur/\P7 W c=true
structure Xw (W:Q7):Prop where
 a:WA W
 t:∀t:Int,0<=t->t<12->Fy W t
 s:∀k c:Int,0<=k->k<8->0<=c->c<((gi W.IE k).IH.length:Int)->Pu W k c
 c:∀c:Int,0<=c->c<(W.IF.length:Int)->DA W c
noncomputable def QH(W:Q7):Bool:=JA (Xw W)
section
variable {W:Q7}
def WA.gl(h:WA W):W.IE.length=8:=h.tree.len
def WA.u(h:WA W){g:Int}(hu:Q6 W.IE g):0<=g/\g<8/\zib W g (gi W.IE g):=by
 obtain⟨a,b,c⟩:=Q5.1 hu;have:=h.gl;exact⟨a,Qo,(h.grp g a Qo).2 c⟩
def WA.root(h:WA W):Q6 W.IE 0:=Q5.2 ⟨Qd,by have:=h.gl;omega,h.tree.ru⟩
def WA.sl(h:WA W){g:Int}(hu:Q6 W.IE g):(gi W.IE g).IH.length=W.IF.length:=(h.u hu).2.2.len
def WA.up(h:WA W){g:Int}(hu:Q6 W.IE g)(hz:g≠0):Q6 W.IE (gi W.IE g).IG:=(ZR h.tree hu hz).1
def WA.dl(h:WA W){g:Int}(hu:Q6 W.IE g)(hq:(gi W.IE g).IY.R4≠0):(gi W.IE g).IY.RW.length=W.IF.length/\(gi W.IE g).IY.locals.length=W.IF.length:=by
 have hb:=(h.u hu).2.2.IY hq;exact⟨by rw[hb.1.dl,hb.2.1],hb.2.1⟩
end
def Yx{v:Int}{w:Wo}{bs:List Nat}:PX bs ZC #[I v] w (.bool (ZD v)):=zbn v λwr hx=>⟨_,Ql,rfl⟩
def ZG{n:Int}{w:Wo}{bs:List Nat}:PX bs Z7 #[I n] w (I (Qe n)):=
 BW n λwr hx=>⟨_,Ql,λg=>by
  unfold Qe;rw[E' (by simpa using g)],λg=>by
  have g':Yp n (-10) 9:=by simpa using g
  have:=Qr.1 g';refine⟨⟨Qo,Qo⟩,?_⟩;unfold Qe;rw[H' g']⟩
def X2{m:Int}{w:Wo}{bs:List Nat}:PX bs ZS #[I m] w (.bool (Om m)):=zbj m λwr hx=>⟨_,Ql,rfl⟩
def ZU{m c:Int}{w:Wo}{bs:List Nat}:PX bs Zd #[I m,I c] w (.bool (Zb m c)):=
 Cf m c λwr hx=>by
  have hr:(Om m&&Yp c 0 3)->0<=c/\c<=3:=λg=>by
   simp only[A'] at g;exact Qr.1 g.2
  exact⟨_,X2,_,λ_=>Ql,λg=>by have:=hr g;exact⟨Qo,by show c<=18446744073709551615;omega⟩,λg=>(hr g).1,λ_=>by decide,rfl⟩
def zj8(a b:Int):∀k:Nat,k<=4->0<=NY a b k/\NY a b k<Jz k
 |0,_=>by simp[NY,Jz]
 |k+1,h=>by
  have ih:=zj8 a b k Qo
  have hb:Jz (k+1)=2*Jz k/\0<=Jz k:=by
   have:k=0\/k=1\/k=2\/k=3:=Qo;rcases this with rfl|rfl|rfl|rfl <;> decide
  simp only[NY]
  split <;> omega
def ztu{k:Nat}(h:k<=64):Qq .u64 (k:Int):=⟨by show (0:Int)<=(k:Int);omega,by show (k:Int)<=18446744073709551615;omega⟩
def OX{a b:Int}{w:Wo}{bs:List Nat}:PX bs J8 #[I a,I b] w (I (VC a b)):=
 Ce a b λwr hx=>by
  refine⟨_,X2,_,λ_=>X2,λg=>?_,λg=>?_⟩
  ·rw[Xd]
   simpa using g
  ·simp only[I1,I8] at g
   have he:VC a b=NY a b 4:=by
    rw[Tv g.1 g.2];obtain⟨x,rfl⟩:=Pk g.1;obtain⟨y,rfl⟩:=Pk g.2;exact(zn4 x y).symm
   rw[he];refine TM 4 0 rfl (λx k=>k<=4/\x=NY a b k) ⟨Qo,rfl⟩ λx k ⟨hk,hx⟩=>⟨λIX=>?_,λRX=>?_⟩
   ·have IX:=Ot IX;have hb:=E0 (k:=k) Qo;have hl:=zj8 a b k hk;have nH:(1*2 ^ (min (Int.toNat (k:Int)) 64):Int)=Jz k:=rfl;refine⟨_,ZU,_,λ_=>ZU,λh=>?_,λh=>?_⟩
    ·rw[nH];refine⟨ztu Qo,⟨Qo,Qo,Qo⟩,⟨Qo,Qo⟩,⟨Qo,Qo⟩,QG Qo ⟨Qo,?_⟩⟩;rw[hx];simp only[NY];rw[H' h]
    ·refine⟨⟨Qo,Qo⟩,QG Qo ⟨Qo,?_⟩⟩;rw[hx];simp only[NY];rw[E' (by rw[h];decide)]
   ·have RX:=Ou RX;have:k=4:=Qo;subst this;rw[hx]
def C4{b:Jx}(h:Tj b):b.R4=0/\b.Sy=0/\b.WI=0/\b.locals.length=0/\b.RW.length=0:=by
 unfold Tj at h;simp only[A',Iu] at h;omega
def MT{b:Jx}{m:MG}{w:Wo}{bs:List Nat}:PX bs U0 #[.agg (Za b m).toArray] w (.bool (Tj b)):=
 N5 b.R4 b.Sy b.WI m.lO b.locals.length m.lC m.dO b.RW.length m.dC λwr hx=>λ_ _=>rfl
def G2{b:Jx}{m:MG}{w:Wo}{bs:List Nat}(h1:znn bs w m.lO b.locals)(h2:zre bs w m.dO b.RW)(hl:b.locals.length<=maxLen):PX bs Vl #[.agg (Za b m).toArray] w (.bool (JA (VL b))):=
 zbh b.R4 b.Sy b.WI m.lO b.locals.length m.lC m.dO b.RW.length m.dC λwr hx=>by
  have h1:=(h1.ext hx).less (cs:=[]) Qs;have h2:=(h2.ext hx).less (cs:=[]) Qs;intro _ _;refine⟨_,Ql,_,λ_=>Ql,_,λ_=>Ql,_,λ_=>Ql,λg=>K7 λp=>?_,λg=>?_⟩
  ·rw[Qr.2 ⟨p.q1,p.q2⟩,Qr.2 (by have:=p.l1;have:=p.l2;omega),Qr.2 ⟨p.p1,p.p2⟩,Qr.2 ⟨p.s1,p.s2⟩,p.dl] at g;simp at g
  ·simp only[I1,I8,bne_eq_false_iff_eq,Qr] at g;obtain⟨⟨⟨⟨g1,g2⟩,g3⟩,g4⟩,g5⟩:=g;have hdl:b.RW.length=b.locals.length:=Qo
   have all:∀{k:Nat},k<=b.locals.length->(∀c:Int,0<=c->c<(k:Int)->0<=gi b.locals c/\gi b.locals c<=b.R4/\(gi b.RW c=true->gi b.locals c=0/\b.Sy=0))->0<=Uo b.locals k/\Uo b.locals k<=40000:=λ{k} hk h=>by
    have key:∀j:Nat,j<=k->0<=Uo b.locals j/\Uo b.locals j<=(j:Int)*10000:=λj=>by
     induction j with
     |zero=>intro _;simp[Uo]
     |succ j ih=>
      intro hj;have:=ih Qo;have:=h (j:Int) Qo Qo;simp only[Uo];omega
    have:=key k (I9 _);omega
   refine⟨⟨Qo,Qo⟩,?_⟩;refine TM b.locals.length 0 rfl (λx k=>k<=b.locals.length/\x=b.Sy+b.WI+Uo b.locals k/\∀c:Int,0<=c->c<(k:Int)->0<=gi b.locals c/\gi b.locals c<=b.R4/\(gi b.RW c=true->gi b.locals c=0/\b.Sy=0)) ⟨Ig _,by simp[Uo],λc h0 h1=>by omega⟩ λx k ⟨hk,Rt,hI⟩=>⟨λIX=>?_,λRX=>?_⟩
   ·have IX:=Ot IX;have Si:(k:Int)<(b.RW.length:Int):=Qo;have hsr:=all hk hI;refine⟨h1.ix VY Qo IX,_,h1 k Qo IX,_,Ql,λ_=>h2.ix Af Qo Si,_,λ_=>h2 k Qo Si,λ_ _=>h1.ix VY Qo IX,_,λ_ _=>h1 k Qo IX,λg=>K7 λp=>?_,λg=>⟨h1.ix VY Qo IX,_,h1 k Qo IX,?_⟩⟩
    ·have pe:=p.each (k:Int) Qo IX;rw[Qr.2 ⟨pe.1,pe.2.1⟩] at g;simp only[Bool.not_true,Bool.false_or,A',Iw,Il] at g;have:=pe.2.2 g.1;omega
    ·simp only[I1,I8,Qr] at g;obtain⟨ga,gb⟩:=g;refine⟨⟨Qo,Qo⟩,⟨Qo,Qo⟩,QG Qo ⟨Qo,by simp only[Uo];omega,λc hc0 hc=>?_⟩⟩
     by_cases hck:c<(k:Int)
     ·exact hI c hc0 hck
     ·have:c=(k:Int):=Qo;subst this;refine⟨ga.1,ga.2,λhd=>?_⟩;rw[hd] at gb;simp only[Bool.true_and,I1,decide_eq_false_iff_not] at gb;omega
   ·have RX:=Ou RX;have:k=b.locals.length:=Qo;subst this;refine Oe ?_;rw[Iu,Rt];constructor
    ·intro hs;exact⟨g1.1,g1.2,Qo,Qo,hdl,g4.1,g4.2,g5.1,g5.2,hI,hs⟩
    ·exact λp=>p.sum
section
variable {W:Q7}{m:MW}{w:Wo}{bs:List Nat}
def K0.RY{gs:List ZL}{ms:Nat->MG}{o:OA}(h:K0 bs w o gs ms){i:Int}(h0:0<=i)(h1:i<(gs.length:Int)):Q2 bs w o (Int.toNat i*14+13) [.slice (ms i.toNat).sO (gi gs i).IH.length (ms i.toNat).sC]:=(h.cells i h0 h1).get 13 _ rfl
def K0.IF{gs:List ZL}{ms:Nat->MG}{o:OA}(h:K0 bs w o gs ms){i:Int}(h0:0<=i)(h1:i<(gs.length:Int)):Q2 bs w o (Int.toNat i*14+4) [I (gi gs i).IF]:=(h.cells i h0 h1).get 4 _ rfl
def K0.IY{gs:List ZL}{ms:Nat->MG}{o:OA}(h:K0 bs w o gs ms){i:Int}(h0:0<=i)(h1:i<(gs.length:Int)):Q2 bs w o (Int.toNat i*14+8) (Za (gi gs i).IY (ms i.toNat)):=JS λj v hj=>by
 have e:YC (gi gs i) (ms i.toNat)=((YC (gi gs i) (ms i.toNat)).take 8++Za (gi gs i).IY (ms i.toNat))++[.slice (ms i.toNat).sO (gi gs i).IH.length (ms i.toNat).sC]:=rfl
 have hj':j<5:=by
  have:=(Ia.1 hj).1
  simpa[Za] using this
 have:=(h.cells i h0 h1).get (8+j) v (by
  rw[e,Ir (by simp[YC,Za];omega),List.getElem?_append_right (by simp[YC])]
  simpa[YC] using hj)
 rwa[<-Nat.add_assoc] at this
def zq9.f{ts:List Pv}{o:OA}(h:zq9 bs w o ts){i:Int}(h0:0<=i)(h1:i<(ts.length:Int)){j:Nat}{v:Va}(hj:(Ys (gi ts i))[j]? = some v):Q2 bs w o (Int.toNat i*9+j) [v]:=UE ((h i h0 h1).get j v hj)
def zvs.f{cs:List Pe}{o:OA}(h:zvs bs w o cs){i:Int}(h0:0<=i)(h1:i<(cs.length:Int)){j:Nat}{v:Va}(hj:(K5 (gi cs i))[j]? = some v):Q2 bs w o (Int.toNat i*5+j) [v]:=UE ((h i h0 h1).get j v hj)
def zia.f{ss:List MK}{o:OA}(h:zia bs w o ss){i:Int}(h0:0<=i)(h1:i<(ss.length:Int)){j:Nat}{v:Va}(hj:(TY (gi ss i))[j]? = some v):Q2 bs w o (Int.toNat i*5+j) [v]:=UE ((h i h0 h1).get j v hj)
def Mu(h:X0 bs w W m)(h4:W.IF.length<=4):PX bs Uh #[.agg (Qa W m).toArray] w (I (Jb W.IF)):=
 zfb _ _ _ _ _ _ _ _ _ _ λwr hx=>by
  have h:=(h.ext hx).less (cs:=[]) Qs;intro _ _;refine TM W.IF.length 0 rfl (λx k=>k<=W.IF.length/\x=Up W.IF k) ⟨Ig _,rfl⟩ λx k ⟨hk,Rt⟩=>⟨λIX=>?_,λRX=>?_⟩
  ·have IX:=Ot IX;have hb:=E0 (k:=k) Qo;have hl:=Lo W.IF k Qo;have nH:(1*2 ^ (min (Int.toNat (k:Int)) 64):Int)=Jz k:=rfl;refine⟨h.c.ix Zy Qo IX,_,h.c.f Qo IX (j:=0) rfl,λhu=>?_,λhu=>?_⟩
   ·rw[nH];refine⟨ztu Qo,⟨Qo,Qo,Qo⟩,⟨Qo,Qo⟩,⟨Qo,Qo⟩,QG Qo ⟨Qo,?_⟩⟩;rw[Rt];simp only[Up];rw[H' hu]
   ·refine⟨⟨Qo,Qo⟩,QG Qo ⟨Qo,?_⟩⟩;rw[Rt];simp only[Up];rw[E' (by rw[hu];decide)]
  ·have RX:=Ou RX;have:k=W.IF.length:=Qo;subst this;rw[Rt];rfl
def za5{g:Int}(h:X0 bs w W m)(ht:ZZ W.IE)(hu:Q6 W.IE g):PX bs OO #[.agg (Qa W m).toArray,I g] w (I (zhu W.IE g)):=
 zbr _ _ _ _ _ _ _ _ _ _ g λwr hx=>by
  have h:=(h.ext hx).less (cs:=[]) Qs;intro _ _;obtain⟨u1,u2,_⟩:=Q5.1 hu;refine⟨h.g.ix u1 u2,_,h.g.IF u1 u2,λvs=>∃(x s:Int),vs=[I x,I s]/\Q6 W.IE x/\(QV W.IE x).foldl (λs x=>VC s (gi W.IE (gi W.IE x).IG).IF) s=zhu W.IE g,λvs=>(dep 3 W.IE (Y5 0 vs)).toNat,⟨g,_,rfl,hu,rfl⟩,?_⟩;rintro x s ⟨x',s',he,hux,hI⟩;simp only[I6,I7,true_and,and_true] at he;obtain⟨rfl,rfl⟩:=he;refine⟨λhz=>?_,λhz=>?_⟩
  ·have hz:x≠0:=by simpa using hz
   obtain⟨hp,a,b,d,e,e2,hd⟩:=ZR ht hux hz;obtain⟨v1,v2,_⟩:=Q5.1 hp;rw[Yb ht hux hz,List.foldl_cons] at hI
   exact⟨h.g.ix a b,_,h.g.IG a b,h.g.ix v1 v2,_,h.g.IF v1 v2,_,OX,⟨_,_,rfl,hp,hI⟩,by
    show (dep 3 W.IE (gi W.IE x).IG).toNat<(dep 3 W.IE x).toNat;omega⟩
  ·have hz:x=0:=by simpa using hz
   subst hz;rw[show QV W.IE 0=[] from Zf _ _,List.foldl_nil] at hI;rw[hI]
def XL{g mask:Int}(h:X0 bs w W m)(h4:W.IF.length<=4)(ht:ZZ W.IE)(hu:Q6 W.IE g):PX bs Yd #[.agg (Qa W m).toArray,I g,I mask] w (I (Qv W g mask)):=
 Cq _ _ _ _ _ _ _ _ _ _ g mask λwr hx=>by
  have h:=(h.ext hx).less (cs:=[]) Qs;intro _ _;have hk:=OX (a:=zhu W.IE g) (b:=Jb W.IF) (w:=wr) (bs:=[]);rw[zql ht hu] at hk;refine⟨_,Mu h h4,_,za5 h ht hu,_,hk,_,OX,λg1=>?_,λg1=>⟨λg2=>?_,λg2=>?_⟩⟩
  ·unfold Qv;rw[H' (by simpa using g1)]
  ·unfold Qv;rw[E' (by simpa using g1),H' (by simpa using g2)]
  ·unfold Qv;rw[E' (by simpa using g1),E' (by simpa using g2)]
def Mt{g c:Int}(h:X0 bs w W m)(ha:WA W)(hu:Q6 W.IE g)(c0:0<=c)(c1:c<(W.IF.length:Int)):PX bs Ug #[.agg (Qa W m).toArray,I g,I c] w (.bool (V6 W g c)):=
 zfa _ _ _ _ _ _ _ _ _ _ g c λwr hx=>by
  have h:=(h.ext hx).less (cs:=[]) Qs;intro _ _;obtain⟨u1,u2,_⟩:=Q5.1 hu
  have hd:(decide ((gi W.IE g).IY.R4>0))->c<((gi W.IE g).IY.RW.length:Int):=λg1=>by
   have:=Ot g1;rw[(ha.dl hu Qo).1];exact c1
  exact⟨h.g.ix u1 u2,_,_,_,_,_,_,_,_,_,h.g.IY u1 u2,λ_ _=>⟨λg1=>(h.g.RW g u1 u2).ix Af c0 (hd g1),_,λg1=>(h.g.RW g u1 u2) c c0 (hd g1),rfl⟩⟩
def UA{g c:Int}(h:X0 bs w W m)(ha:WA W)(hu:Q6 W.IE g)(c0:0<=c)(c1:c<(W.IF.length:Int)):PX bs X8 #[.agg (Qa W m).toArray,I g,I c] w (.bool (Qb W g c).on):=
 N6 _ _ _ _ _ _ _ _ _ _ g c λwr hx=>by
  have h:=(h.ext hx).less (cs:=[]) Qs;intro _ _;obtain⟨u1,u2,_⟩:=Q5.1 hu;have hs:=ha.sl hu;have c2:c<((gi W.IE g).IH.length:Int):=Qo;exact⟨h.g.ix u1 u2,_,_,_,h.g.RY u1 u2,(h.g.IH g u1 u2).ix Zz c0 c2,_,zia.f (h.g.IH g u1 u2) c0 c2 (j:=1) rfl,rfl⟩
def Nw{gs:List ZL}{k:Nat}(hk:(k:Int)<(gs.length:Int))(hu:(gi gs (k:Int)).IW):Q6 gs (k:Int):=Q5.2 ⟨Qo,hk,hu⟩
def Oa{g c:Int}(h:X0 bs w W m)(ha:WA W)(c0:0<=c)(c1:c<(W.IF.length:Int)):PX bs XK #[.agg (Qa W m).toArray,I g,I c] w (.bool (QA W g c)):=
 N3 _ _ _ _ _ _ _ _ _ _ g c λwr hx=>by
  have h:=(h.ext hx).less (cs:=[]) Qs;intro _ _;have cN:=ha.gl;have hm9:=Zp;refine Xr W.IK.length 0 rfl (λk=>k<=W.IK.length/\∀j:Nat,j<k->VT W g c j=false) ⟨Ig _,λj hj=>It hj (Nat.not_lt_zero j)⟩ λk ⟨hk,hI⟩=>⟨λIX=>?_,λRX=>?_⟩
  ·have IX:=Ot IX;have ht:=ha.t;refine⟨h.t.ix QF Qo IX,_,h.t.f Qo IX (j:=0) rfl,λ_=>h.t.ix QF Qo IX,_,λ_=>h.t.f Qo IX (j:=1) rfl,λ_=>h.t.ix QF Qo IX,_,λ_=>h.t.f Qo IX (j:=2) rfl,λhy=>?_,λhn=>⟨⟨Qo,Qo⟩,QB Qo ⟨Qo,λj hj=>?_⟩⟩⟩
   ·unfold QA;rw[Oz.2 ⟨k,Qo,hy⟩];rfl
   ·by_cases gY:j<k
    ·exact hI j gY
    ·have:j=k:=Qo;subst this;exact hn
  ·have RX:=Ou RX;have kF:VO (VT W g c) W.IK.length=false:=zdv λj hj=>hI j Qo
   refine Xr W.IE.length 1 rfl (λk=>1<=k/\k<=W.IE.length/\∀j:Nat,j<k->Xy W g c j=false) ⟨I9 _,Qo,λj hj=>by
    have:j=0:=Qo;subst this;simp[Xy]⟩ λk ⟨hk1,hk,hI⟩=>⟨λIX=>?_,λRX=>?_⟩
   ·have IX:=Ot IX;refine⟨h.g.ix Qo IX,_,h.g.IW Qo IX,λ_=>h.g.ix Qo IX,_,λ_=>h.g.IG Qo IX,(Qb W (k:Int) c).on,λhu=>UA h ha (Nw IX (by simp only[A'] at hu;exact hu.1)) c0 c1,λhy=>?_,λhn=>⟨⟨Qo,Qo⟩,QB Qo ⟨Qo,Qo,λj hj=>?_⟩⟩⟩
    ·unfold QA
     have:VO (Xy W g c) W.IE.length:=Oz.2 ⟨k,Qo,by
      unfold Xy;rw[Ij hk1,Bool.true_and];exact hy⟩
     rw[this,Bool.or_true]
    ·by_cases gY:j<k
     ·exact hI j gY
     ·have:j=k:=Qo;subst this;unfold Xy;rw[Ij hk1,Bool.true_and];exact hn
   ·have RX:=Ou RX;have:VO (Xy W g c) W.IE.length=false:=zdv λj hj=>hI j Qo
    unfold QA;rw[kF,this];rfl
def Uz{t:Int}(h:X0 bs w W m)(ha:WA W)(t0:0<=t)(t1:t<(W.IK.length:Int))(hu:(Q8 W t).state=1->Q6 W.IE (Q8 W t).II/\0<=(Q8 W t).R8/\(Q8 W t).R8<(W.IF.length:Int)) :
  PX bs Yl #[.agg (Qa W m).toArray,I t] w (.bool (Zi W t)):=
 N4 _ _ _ _ _ _ _ _ _ _ t λwr hx=>by
  have h:=(h.ext hx).less (cs:=[]) Qs;intro _ _;refine⟨h.t.ix QF t0 t1,_,_,_,_,_,_,_,_,_,h.t t t0 t1,λ_ _=>⟨λg=>?_,λg=>?_⟩⟩
  ·have:((Q8 W t).state==1)=false:=by simpa[Q8] using g
   unfold Zi;rw[this];rfl
  ·have hs:(Q8 W t).state=1:=by simpa[Q8] using g
   obtain⟨uC,hc0,yQ⟩:=hu hs;have hL:Zi W t=JM W (Q8 W t).II (Q8 W t).R8:=by unfold Zi;rw[Iu.2 hs,Bool.true_and]
   rw[hL];refine⟨λvs=>∃x:Int,vs=[I x]/\Q6 W.IE x/\JM W x (Q8 W t).R8=JM W (Q8 W t).II (Q8 W t).R8,λvs=>(dep 3 W.IE (Y5 0 vs)).toNat,⟨_,rfl,uC,rfl⟩,?_⟩;rintro x ⟨x',he,hux,hI⟩;simp only[I6,I7,true_and,and_true] at he;subst he;refine⟨λhz=>?_,λhz=>?_⟩
   ·have hz:x≠0:=by simpa using hz
    obtain⟨hp,a,b,d,e,e2,hd⟩:=ZR ha.tree hux hz;unfold JM at hI;rw[Yb ha.tree hux hz,List.all_cons] at hI
    refine⟨_,UA h ha hux hc0 yQ,λg2=>?_,λg2=>⟨h.g.ix a b,_,h.g.IG a b,⟨_,rfl,hp,?_⟩,by
     show (dep 3 W.IE (gi W.IE x).IG).toNat<(dep 3 W.IE x).toNat;omega⟩⟩
    ·have g2:(Qb W x (Q8 W t).R8).on=false:=by simpa[Q8] using g2
     rw[g2,Bool.false_and] at hI;unfold JM;rw[<-hI]
    ·have g2:(Qb W x (Q8 W t).R8).on:=by simpa[Q8] using g2
     rw[g2,Bool.true_and] at hI;exact hI
   ·have hz:x=0:=by simpa using hz
    subst hz;unfold JM at hI;rw[show QV W.IE 0=[] from Zf _ _,List.all_nil] at hI;unfold JM;rw[<-hI]
end
def KC{v f k:Int}{w:Wo}{bs:List Nat}:PX bs Uw #[I v,I f,I k] w (.bool (PI v f k)):=
 Cp v f k λwr hx=>⟨IntKind.i64.wrap (v-f),λ_ wq=>by simp[eqGuard,binOp,Op.intArith],_,λ_=>OV,rfl⟩
def zcc:zj3 Tryz.prog QR:=⟨Qk,Qk,Qk⟩
def zkk(a b:Pv):Al Tryz.prog (Tryz.prog.fieldsOf QR).toList 0 (Ys a) (Ys b)=some ((a.state==b.state)&&((a.II==b.II)&&((a.R8==b.R8)&&((a.nice==b.nice)&&((a.mask==b.mask)&&((a.v==b.v)&&((a.sum==b.sum)&&((a.IW==b.IW)&&((a.load==b.load)&&true))))))))):=Qk
def zfp{a b:Pv}:((a.state==b.state)&&((a.II==b.II)&&((a.R8==b.R8)&&((a.nice==b.nice)&&((a.mask==b.mask)&&((a.v==b.v)&&((a.sum==b.sum)&&((a.IW==b.IW)&&((a.load==b.load)&&true)))))))))=decide (a=b):=by
 cases a;cases b
 simp only[Pv.mk.injEq,Bool.and_true];rw[Bool.eq_iff_iff];simp only[A',Iu,Il]
section
variable {W:Q7}{m:MW}{w:Wo}{bs:List Nat}
def Eu{k:Int}(h:X0 bs w W m)(hn:0<=W.now)(k0:0<=k)(k1:k<(W.IE.length:Int))(hf:zdk (gi W.IE k)):PX bs Vv #[.agg (Qa W m).toArray,I k] w (.bool (JA (Pt W k))):=
 ET _ _ _ _ _ _ _ _ _ _ k λwr hx=>by
  have h:=(h.ext hx).less (cs:=[]) Qs;intro _ _;refine⟨h.g.ix k0 k1,_,_,_,_,_,_,_,_,_,_,_,_,_,_,_,_,_,_,_,_,h.g.cells k k0 k1,λ_ _=>⟨λg=>?_,λg=>?_⟩⟩
  ·have hu:(gi W.IE k).IW=false:=by simpa using g
   refine⟨_,λ_=>MT (b:=(gi W.IE k).IY) (m:=m.ms k.toNat),Oe ?_⟩;simp only[A',Iu,U2];constructor
   ·rintro⟨⟨⟨⟨⟨⟨⟨⟨e1,e2⟩,e3⟩,e4⟩,e5⟩,e6⟩,e7⟩,e8⟩,e9⟩;exact⟨λ_=>⟨e1,e2,e3,e4,e5,e6,e7,Qo,e9⟩,λhu'=>by rw[hu'] at hu;cases hu⟩
   ·intro p;have q:=p.1 hu;exact⟨⟨⟨⟨⟨⟨⟨⟨q.p,q.n⟩,q.w⟩,q.c⟩,q.pe⟩,q.ne⟩,q.s⟩,by have:=q.l;omega⟩,q.b⟩
  ·have hu:(gi W.IE k).IW:=by simpa using g
   have mk:zib W k (gi W.IE k)->Pt W k:=λq=>⟨λhu'=>(by rw[hu'] at hu;cases hu),λ_=>q⟩
   refine⟨_,Ja,_,λ_=>X2,_,λ_=>Yx,λg2=>K7 λp=>?_,λg2=>⟨λg3=>K7 λp=>?_,λg3=>⟨λg4=>⟨_,MT (b:=(gi W.IE k).IY) (m:=m.ms k.toNat),Oe ?_⟩,λg4=>⟨_,G2 (b:=(gi W.IE k).IY) (m:=m.ms k.toNat) (h.g.locals k k0 k1) (h.g.RW k k0 k1) hf.lo,_,λ_=>Ql,λg5=>?_,Oe ?_⟩⟩⟩⟩
   ·have q:=p.2 hu;have e1:Yp (gi W.IE k).R2 1 20:=Qr.2 ⟨q.w1,q.w2⟩;have e3:((gi W.IE k).IF==0)=false:=by simpa using q.m0
    have e5:(((gi W.IE k).IH.length:Nat):Int)=((W.IF.length:Nat):Int):=by have:=q.len;omega
    rw[e1,q.m,e3,q.s,e5] at g2;simp at g2
   ·have q:=p.2 hu;simp only[A',Iu] at g3;have r:=q.root g3.1;rw[r.1,r.2.1,r.2.2] at g3;simp at g3
   all_goals
    simp only[I1,I8,bne_eq_false_iff_eq,Qr,beq_eq_false_iff_ne] at g2;obtain⟨⟨⟨⟨a1,a2⟩,a3⟩,a4⟩,a5⟩:=g2;have hlen:(gi W.IE k).IH.length=W.IF.length:=Qo
    have B00:k=0->(gi W.IE k).R2=10/\(gi W.IE k).IF=15/\(gi W.IE k).IY.R4=0:=λhk=>by
     rw[Iu.2 hk,Bool.true_and] at g3;simp only[I1,bne_eq_false_iff_eq] at g3;exact⟨g3.1.1,g3.1.2,g3.2⟩
   ·have q0:(gi W.IE k).IY.R4=0:=by simpa using g4
    simp only[A',Iu];constructor
    ·rintro⟨⟨e1,e2⟩,e3⟩;exact mk ⟨a1.1,a1.2,a2,a3,a4,hlen,B00,λ_=>⟨e1,e2,e3⟩,λfJ=>It q0 fJ⟩
    ·intro p;have q:=(p.2 hu).none q0;exact⟨⟨q.1,q.2.1⟩,q.2.2⟩
   ·simp only[A',Iu,Il] at g5;have:=hf.nx;exact⟨by have:=this.1;omega,by have:=this.2;omega⟩
   ·have q0:(gi W.IE k).IY.R4≠0:=by simpa using g4
    simp only[A',Iu,Il,Qm,Qr];constructor
    ·rintro⟨⟨⟨⟨e1,e2⟩,e3⟩,e4⟩,e5⟩;exact mk ⟨a1.1,a1.2,a2,a3,a4,hlen,B00,λfJ=>It fJ q0,λ_=>⟨e1,Qo,e3.1,e3.2,e4,e5⟩⟩
    ·intro p;have q:=(p.2 hu).IY q0;exact⟨⟨⟨⟨q.1,by have:=q.2.1;omega⟩,q.2.2.1,q.2.2.2.1⟩,q.2.2.2.2.1⟩,q.2.2.2.2.2⟩
def Km{W:Q7}(ha:WA W){g mask c:Int}(hc:Zb (Qv W g mask) c):0<=c/\c<(W.IF.length:Int):=by
 have h1:=znl hc;exact⟨(P1 h1).2.1,(zfr W.IF _ ha.c2 h1).1⟩
def BM{t:Int}(h:X0 bs w W m)(ha:WA W)(t0:0<=t)(t1:t<(W.IK.length:Int)):PX bs Te #[.agg (Qa W m).toArray,I t] w (.bool (JA (Fy W t))):=
 N8 _ _ _ _ _ _ _ _ _ _ t λwr hx=>by
  have h:=(h.ext hx).less (cs:=[]) Qs;intro _ _;have cN:=ha.gl;have hm9:=Zp;refine⟨h.t.ix QF t0 t1,_,_,_,_,_,_,_,_,_,h.t t t0 t1,λ_ _=>⟨λg=>?_,λg=>?_⟩⟩
  ·have hs:(gi W.IK t).state=0:=by simpa using g
   refine⟨_,λwq=>CB zcc (zkk (gi W.IK t) VI) _ _ wq,Oe ?_⟩;rw[zfp,Il];constructor
   ·exact λe=>.inl ⟨hs,e⟩
   ·rintro (⟨_,e⟩|⟨e,_⟩)
    ·exact e
    ·exact It hs e
  ·have hs:(gi W.IK t).state≠0:=by simpa using g
   have no:∀{q:Fy W t},zrf W (gi W.IK t):=λ{q}=>by
    rcases q with ⟨e,_⟩|⟨_,q⟩
    ·exact It e hs
    ·exact q
   refine⟨_,λ_=>X3 (c:=m.gC) h.g,_,λ_=>ZG,_,λ_=>X2,λg2=>K7 λp=>?_,λg2=>?_⟩
   ·have q:=no (q:=p);have e3:(Qe (gi W.IK t).nice==0)=false:=by simpa using q.n
    have e4:((gi W.IK t).mask==0)=false:=by simpa using q.m0
    rw[q.g,e3,q.m,e4] at g2;simp only[Bool.not_true,Bool.or_false,A',Iv] at g2;have:=q.st;omega
   ·simp only[I1,I8,beq_eq_false_iff_ne] at g2;obtain⟨⟨⟨⟨a1,a2⟩,a3⟩,a4⟩,a5⟩:=g2
    have st:(gi W.IK t).state=1\/(gi W.IK t).state=2:=by
     by_cases h1:(gi W.IK t).state=1
     ·exact .inl h1
     ·refine .inr ?_;have:((gi W.IK t).state != 1):=by simpa using h1
      rw[this,Bool.true_and] at a1
      simpa using a1
    refine⟨_,Yx,_,λ_=>Yx,_,λ_=>Yx,_,λ_=>Ql,Qv W (gi W.IK t).II (gi W.IK t).mask,λ_=>XL h ha.c2 ha.tree a2,_,λ_=>ZU,λg3=>K7 λp=>?_,λg3=>?_⟩
    ·have q:=no (q:=p);have e4:Yp (gi W.IK t).load 0 8000000:=Qr.2 ⟨q.l1,q.l2⟩;rw[q.v,q.s,q.u,e4,q.c] at g3;simp at g3
    ·simp only[I1,I8,Qr] at g3;obtain⟨⟨⟨⟨b1,b2⟩,b3⟩,b4⟩,b5⟩:=g3;obtain⟨u1,u2,_⟩:=Q5.1 a2;obtain⟨c0,c1⟩:=Km ha b5;have hsl:=ha.sl a2;have c2:(gi W.IK t).R8<((gi W.IE (gi W.IK t).II).IH.length:Int):=Qo;refine⟨λ_=>h.g.ix u1 u2,_,_,_,λ_=>h.g.RY u1 u2,λ_=>(h.g.IH _ u1 u2).ix Zz c0 c2,_,λ_=>zia.f (h.g.IH _ u1 u2) c0 c2 (j:=0) rfl,_,λ_=>ZG,_,λ_=>KC,Oe ?_⟩;simp only[Iw,Iu];constructor
     ·intro e
      exact .inr ⟨hs,⟨st,a2,a3,a4,a5,b1,b2,b3,b4.1,b4.2,b5,λe1=>by
       rcases e with e|e
       ·have e:(gi W.IK t).state=2:=e;have e1:(gi W.IK t).state=1:=e1;omega
       ·exact e⟩⟩
     ·intro p;have q:=no (q:=p);rcases st with e|e
      ·exact .inr (q.f e)
      ·exact .inl e
def Ev{k c:Int}(h:X0 bs w W m)(ha:WA W)(k0:0<=k)(k1:k<(W.IE.length:Int))(c0:0<=c)(c2:c<((gi W.IE k).IH.length:Int)):PX bs Vx #[.agg (Qa W m).toArray,I k,I c] w (.bool (JA (Pu W k c))):=
 EU _ _ _ _ _ _ _ _ _ _ k c λwr hx=>by
  have h:=(h.ext hx).less (cs:=[]) Qs;intro _ _;have cN:=ha.gl
  have hus:(gi W.IE k).IW:=by
   cases hu:(gi W.IE k).IW with
   |true=>rfl
   |false=>
    have:=((ha.grp k k0 Qo).1 hu).l;omega
  have hu:Q6 W.IE k:=Q5.2 ⟨k0,k1,hus⟩;have hsl:=ha.sl hu;have c1:c<(W.IF.length:Int):=Qo;refine⟨h.g.ix k0 k1,_,_,_,_,_,_,_,_,_,_,_,_,_,_,_,_,_,_,_,_,h.g.cells k k0 k1,λ_ _=>⟨(h.g.IH k k0 k1).ix Zz c0 c2,_,_,_,_,_,(h.g.IH k k0 k1) c c0 c2,λ_ _=>⟨_,Yx,_,λ_=>Yx,_,λ_=>Yx,_,λ_=>Ja,λg=>K7 λp=>?_,λg=>⟨λg2=>Oe ?_,λg2=>⟨_,Oa h ha c0 c1,_,λ_=>Mt h ha hu c0 c1,λg3=>K7 λp=>?_,λg3=>?_⟩⟩⟩⟩⟩
  ·have e1:=p.f;have e2:=p.v;have e3:=p.s;have e4:Yp (Qb W k c).w 1 20:=Qr.2 ⟨p.w1,p.w2⟩;have g':(((!ZD (Qb W k c).IL || !ZD (Qb W k c).v) || !ZD (Qb W k c).sum) || !Yp (Qb W k c).w 1 20):=g;rw[e1,e2,e3,e4] at g'
   cases g'
  ·have g':(((!ZD (Qb W k c).IL || !ZD (Qb W k c).v) || !ZD (Qb W k c).sum) || !Yp (Qb W k c).w 1 20)=false:=g;simp only[I1,I8,Qr] at g';obtain⟨⟨⟨a1,a2⟩,a3⟩,a4⟩:=g';have hk:k=0:=by simpa using g2
   show ((!(Qb W k c).on&&((Qb W k c).v==0))&&((Qb W k c).w==10))=true↔_;simp only[A',ID,Iu];constructor
   ·rintro⟨⟨e1,e2⟩,e3⟩;exact⟨a1,a2,a3,a4.1,a4.2,λ_=>⟨e1,e2,e3⟩,λfJ=>It hk fJ,λfJ=>It hk fJ⟩
   ·intro p;have q:=p.root hk;exact⟨⟨q.1,q.2.1⟩,q.2.2⟩
  ·have hk:k≠0:=by simpa using g2
   have g3':(!((Qb W k c).on==(QA W k c && !V6 W k c))):=g3;rw[p.on hk] at g3';simp at g3'
  ·have g':(((!ZD (Qb W k c).IL || !ZD (Qb W k c).v) || !ZD (Qb W k c).sum) || !Yp (Qb W k c).w 1 20)=false:=g;simp only[I1,I8,Qr] at g';obtain⟨⟨⟨a1,a2⟩,a3⟩,a4⟩:=g';have hk:k≠0:=by simpa using g2
   have hon:(Qb W k c).on=(QA W k c && !V6 W k c):=by
    have g3':(!((Qb W k c).on==(QA W k c && !V6 W k c)))=false:=g3
    simpa using g3'
   have hp:=ha.up hu hk;obtain⟨v1,v2,_⟩:=Q5.1 hp;have hpl:=ha.sl hp;have c3:c<((gi W.IE (gi W.IE k).IG).IH.length:Int):=Qo;refine⟨λ_=>h.g.ix v1 v2,_,_,_,λ_=>h.g.RY v1 v2,λ_=>(h.g.IH _ v1 v2).ix Zz c0 c3,_,λ_=>zia.f (h.g.IH _ v1 v2) c0 c3 (j:=0) rfl,_,λ_=>KC,Oe ?_⟩;show (!(Qb W k c).on||PI (Qb W k c).v (Qb W (gi W.IE k).IG c).IL (Qb W k c).w)=true↔_;simp only[Iw,ID];constructor
   ·intro e
    exact⟨a1,a2,a3,a4.1,a4.2,λe0=>It e0 hk,λ_=>hon,λ_ ho=>by
     rcases e with e|e
     ·rw[ho] at e;cases e
     ·exact e⟩
   ·intro p
    cases ho:(Qb W k c).on with
    |false=>exact .inl rfl
    |true=>exact .inr (p.st hk ho)
def zez{t:Int}(ht:Fy W t)(hl:Zi W t):zrf W (Q8 W t)/\(Q8 W t).state=1:=by
 have hs:(Q8 W t).state=1:=by
  unfold Zi at hl;simp only[A',Iu] at hl;exact hl.1
 rcases ht with ⟨e,_⟩|⟨_,q⟩
 ·omega
 ·exact⟨q,hs⟩
def Ei{a b:Int}(ha:ZD a)(hb:ZD b):Qq .i64 (a-b):=by
 have:=Y2.1 ha;have:=Y2.1 hb;exact⟨Qo,Qo⟩
def BL{c:Int}(h:X0 bs w W m)(ha:WA W)(hts:∀t:Int,0<=t->t<12->Fy W t)(hss:∀k c:Int,0<=k->k<8->0<=c->c<((gi W.IE k).IH.length:Int)->Pu W k c)(c0:0<=c)(c1:c<(W.IF.length:Int))(t0:0<=(gi W.IF c).cur)(t1:(gi W.IF c).cur<(W.IK.length:Int))(hl:Zi W (gi W.IF c).cur) :
  PX bs Td #[.agg (Qa W m).toArray,I c] w (.bool (P7 W c)):=
 N7 _ _ _ _ _ _ _ _ _ _ c λwr hx=>by
  have h:=(h.ext hx).less (cs:=[]) Qs;intro _ _;have lB:=ha.t;have cN:=ha.gl;obtain⟨q,_⟩:=zez (hts _ t0 Qo) hl;have a2:=q.g;obtain⟨u1,u2,_⟩:=Q5.1 a2
  have sl:∀{x:Int},Q6 W.IE x->0<=x/\x<(W.IE.length:Int)/\c<((gi W.IE x).IH.length:Int)/\Pu W x c:=λ{x} hx=>by
   obtain⟨v1,v2,_⟩:=Q5.1 hx;have e:=ha.sl hx;have c3:c<((gi W.IE x).IH.length:Int):=Qo;exact⟨v1,v2,c3,hss x c v1 Qo c0 c3⟩
  obtain⟨_,_,c2,sp⟩:=sl a2;refine⟨h.c.ix Zy c0 c1,_,_,_,_,_,h.c c c0 c1,λ_ _=>⟨h.t.ix QF t0 t1,_,_,_,_,_,_,_,_,_,h.t _ t0 t1,λ_ _=>⟨h.g.ix u1 u2,_,_,_,h.g.RY u1 u2,(h.g.IH _ u1 u2).ix Zz c0 c2,_,zia.f (h.g.IH _ u1 u2) c0 c2 (j:=0) rfl,Ei q.v sp.f,_,ZG,_,Xb,λg=>?_,λg=>?_⟩⟩⟩
  ·have g:=Ot g;have hd:¬((Q8 W (gi W.IF c).cur).v-(Qb W (Q8 W (gi W.IF c).cur).II c).IL<=Z6 (gi W.IF c).WC (Qe (Q8 W (gi W.IF c).cur).nice)):=Int.not_le.2 g;unfold P7;rw[decide_eq_false hd];rfl
  ·have g:=Ou g
   have hS:P7 W c=VS W (Q8 W (gi W.IF c).cur).II c (gi W.IF c).WC:=by
    have hd:(Q8 W (gi W.IF c).cur).v-(Qb W (Q8 W (gi W.IF c).cur).II c).IL<=Z6 (gi W.IF c).WC (Qe (Q8 W (gi W.IF c).cur).nice):=Int.not_lt.1 g;unfold P7;rw[Ij hd,Bool.true_and]
   rw[hS];refine⟨λvs=>∃x:Int,vs=[I x]/\Q6 W.IE x/\VS W x c (gi W.IF c).WC=VS W (Q8 W (gi W.IF c).cur).II c (gi W.IF c).WC,λvs=>(dep 3 W.IE (Y5 0 vs)).toNat,⟨_,rfl,a2,rfl⟩,?_⟩;rintro x ⟨x',he,hux,hI⟩;simp only[I6,I7,true_and,and_true] at he;subst he;refine⟨λhz=>?_,λhz=>?_⟩
   ·have hz:x≠0:=by simpa using hz
    obtain⟨hp,a,b,d,e,e2,hd⟩:=ZR ha.tree hux hz;obtain⟨x1,x2,x3,xs⟩:=sl hux;obtain⟨p1,p2,p3,ps⟩:=sl hp;unfold VS at hI;rw[Yb ha.tree hux hz,List.all_cons] at hI
    refine⟨h.g.ix x1 x2,_,_,_,h.g.RY x1 x2,(h.g.IH _ x1 x2).ix Zz c0 x3,_,_,_,_,_,(h.g.IH _ x1 x2) c c0 x3,λ_ _=>⟨h.g.ix x1 x2,_,h.g.IG x1 x2,h.g.ix p1 p2,_,_,_,h.g.RY p1 p2,(h.g.IH _ p1 p2).ix Zz c0 p3,_,zia.f (h.g.IH _ p1 p2) c0 p3 (j:=0) rfl,Ei xs.v ps.f,_,Xb,λg2=>?_,λg2=>⟨h.g.ix x1 x2,_,h.g.IG x1 x2,⟨_,rfl,hp,?_⟩,by
     show (dep 3 W.IE (gi W.IE x).IG).toNat<(dep 3 W.IE x).toNat;omega⟩⟩⟩
    ·have g2:=Ot g2;have hd:¬((Qb W x c).v-(Qb W (gi W.IE x).IG c).IL<=Z6 (gi W.IF c).WC (Qb W x c).w):=Int.not_le.2 g2;rw[decide_eq_false hd,Bool.false_and] at hI;unfold VS;rw[<-hI]
    ·have g2:=Ou g2;have hd:(Qb W x c).v-(Qb W (gi W.IE x).IG c).IL<=Z6 (gi W.IF c).WC (Qb W x c).w:=Int.not_lt.1 g2;rw[Ij hd,Bool.true_and] at hI;exact hI
   ·have hz:x=0:=by simpa using hz
    subst hz;unfold VS at hI;rw[show QV W.IE 0=[] from Zf _ _,List.all_nil] at hI;unfold VS;rw[<-hI]
def D0{t:Int}(ha:WA W)(ht:Fy W t)(hs:(Q8 W t).state=1):Q6 W.IE (Q8 W t).II/\0<=(Q8 W t).R8/\(Q8 W t).R8<(W.IF.length:Int):=by
 rcases ht with ⟨e,_⟩|⟨_,q⟩
 ·omega
 ·exact⟨q.g,Km ha q.c⟩
def AJ{c:Int}(h:X0 bs w W m)(ha:WA W)(hts:∀t:Int,0<=t->t<12->Fy W t)(hss:∀k c:Int,0<=k->k<8->0<=c->c<((gi W.IE k).IH.length:Int)->Pu W k c)(c0:0<=c)(c1:c<(W.IF.length:Int)) :
  PX bs O6 #[.agg (Qa W m).toArray,I c] w (.bool (JA (DA W c))):=
 Cm _ _ _ _ _ _ _ _ _ _ c λwr hx=>by
  have h:=(h.ext hx).less (cs:=[]) Qs;intro _ _;have lB:=ha.t;refine⟨h.c.ix Zy c0 c1,_,_,_,_,_,h.c c c0 c1,λ_ _=>⟨_,Yx,_,λ_=>Yx,λ_=>⟨Qo,Qo⟩,_,λ_=>Ql,λg=>K7 λp=>?_,λg=>⟨λg2=>Oe ?_,λg2=>?_⟩⟩⟩
  ·have e3:Yp (gi W.IF c).cur (-1) (((W.IK.length:Nat):Int)-1):=Qr.2 (by have:=p.c1;have:=p.c2;omega);rw[p.b,p.i,e3] at g;cases g
  ·simp only[I1,I8,Qr] at g;obtain⟨⟨a1,a2⟩,a3⟩:=g;have g2:=Ot g2;rw[Iu];exact⟨λe=>⟨a1,a2,a3.1,Qo,λ_=>e,λhc=>by omega⟩,λp=>p.no g2⟩
  ·simp only[I1,I8,Qr] at g;obtain⟨⟨a1,a2⟩,a3⟩:=g;have g2:=Ou g2;have t0:0<=(gi W.IF c).cur:=Qo;have t1:(gi W.IF c).cur<(W.IK.length:Int):=Qo;refine⟨_,λ_=>Ql,λ_=>h.t.ix QF t0 t1,_,λ_=>h.t.f t0 t1 (j:=2) rfl,Zi W (gi W.IF c).cur,λ_=>Uz h ha t0 t1 λhs=>D0 ha (hts _ t0 Qo) hs,P7 W c,λg3=>BL h ha hts hss c0 c1 t0 t1 (by simp only[A'] at g3;exact g3.2),Oe ?_⟩;simp only[A',Iu,Qr];constructor
   ·rintro⟨⟨⟨⟨e1,e2⟩,e3⟩,e4⟩,e5⟩;exact⟨a1,a2,a3.1,Qo,λhc=>by omega,λ_=>⟨e1,e2.1,e2.2,e3,e4,e5⟩⟩
   ·intro p;have q:=p.yes t0;exact⟨⟨⟨⟨q.1,q.2.1,q.2.2.1⟩,q.2.2.2.1⟩,q.2.2.2.2.1⟩,q.2.2.2.2.2⟩
def YH(h:X0 bs w W m)(lc:W.IF.length<=maxLen)(lt:W.IK.length<=maxLen)(lg:W.IE.length<=maxLen)(hf:∀i:Int,0<=i->i<(W.IE.length:Int)->zdk (gi W.IE i)) :
  PX bs ZF #[.agg (Qa W m).toArray] w (.bool (QH W)):=
 Cg _ _ _ _ _ _ _ _ _ _ λwr hx=>by
  have h:=(h.ext hx).less (cs:=[]) Qs;intro _ _;have hm9:=YQ;refine⟨_,Ql,_,λ_=>Ql,Po W.IE,λ_=>G4 h.g lg,Jb W.IF,λg=>Mu h ?_,λg=>K7 λp=>?_,λg=>?_⟩
  ·simp only[I1,I8,Qr] at g;omega
  ·have a:=p.a;have e1:Yp W.now 0 100000000000000000:=Qr.2 ⟨a.n1,a.n2⟩;have e2:Yp ((W.IF.length:Nat):Int) 1 4:=Qr.2 (by have:=a.c1;have:=a.c2;omega);have e3:((W.IK.length:Nat):Int)=12:=by have:=a.t;omega
   have e5:(Jb W.IF==0)=false:=by simpa using a.ups
   rw[e1,e2,e3,V4.2 a.tree,e5] at g;simp at g
  simp only[I1,I8,Qr,bne_eq_false_iff_eq,beq_eq_false_iff_ne] at g;obtain⟨⟨⟨⟨g1,g2⟩,g3⟩,g4⟩,g5⟩:=g;have ht:=V4.1 g4;have cN:=ht.len;refine Xr W.IE.length 0 rfl (λk=>k<=W.IE.length/\∀j:Int,0<=j->j<(k:Int)->Pt W j) ⟨Ig _,λj h0 h1=>by omega⟩ λk ⟨hk,hI⟩=>⟨λIX=>?_,λRX=>?_⟩
  ·have IX:=Ot IX;refine⟨_,Eu h g1.1 Qo IX (hf _ Qo IX),λg6=>K7 λp=>?_,λg6=>⟨⟨Qo,Qo⟩,QB Qo ⟨Qo,λj h0 h1=>?_⟩⟩⟩
   ·have g6:JA (Pt W (k:Int))=false:=by simpa using g6
    exact Gs.1 g6 (p.a.grp _ Qo Qo)
   ·by_cases gY:j<(k:Int)
    ·exact hI j h0 gY
    ·have:j=(k:Int):=Qo;subst this;exact Qm.1 (by simpa using g6)
  have RX:=Ou RX;have ha:WA W:=⟨g1.1,g1.2,Qo,Qo,Qo,ht,g5,λj h0 h1=>hI j h0 Qo⟩;refine Xr W.IK.length 0 rfl (λk=>k<=W.IK.length/\∀j:Int,0<=j->j<(k:Int)->Fy W j) ⟨Ig _,λj h0 h1=>by omega⟩ λk2 ⟨uB,hI2⟩=>⟨λIX=>?_,λdA=>?_⟩
  ·have IX:=Ot IX;refine⟨_,BM h ha Qo IX,λg6=>K7 λp=>?_,λg6=>⟨⟨Qo,Qo⟩,QB Qo ⟨Qo,λj h0 h1=>?_⟩⟩⟩
   ·have g6:JA (Fy W (k2:Int))=false:=by simpa using g6
    exact Gs.1 g6 (p.t _ Qo Qo)
   ·by_cases gY:j<(k2:Int)
    ·exact hI2 j h0 gY
    ·have:j=(k2:Int):=Qo;subst this;exact Qm.1 (by simpa using g6)
  have dA:=Ou dA;have hts:∀t:Int,0<=t->t<12->Fy W t:=λt h0 h1=>hI2 t h0 Qo
  refine Xr W.IE.length 0 rfl (λk=>k<=W.IE.length/\∀j c:Int,0<=j->j<(k:Int)->0<=c->c<((gi W.IE j).IH.length:Int)->Pu W j c) ⟨Ig _,λj c h0 h1=>by omega⟩ λk3 ⟨yX,hI3⟩=>⟨λIX=>?_,λBi8=>?_⟩
  ·have IX:=Ot IX;have k30:(0:Int)<=(k3:Int):=Qo;refine Xr (gi W.IE (k3:Int)).IH.length 0 rfl (λc=>c<=(gi W.IE (k3:Int)).IH.length/\∀d:Int,0<=d->d<(c:Int)->Pu W (k3:Int) d) ⟨Ig _,λj h0 h1=>by omega⟩ λc ⟨hc,hJ⟩=>⟨h.g.ix k30 IX,_,_,_,h.g.RY k30 IX,λqA=>?_,λA31=>?_⟩
   ·have qA:=Ot qA;have hsm:(gi W.IE (k3:Int)).IH.length<=maxLen:=(hf _ k30 IX).sh;refine⟨_,Ev h ha k30 IX Qo qA,λg6=>K7 λp=>?_,λg6=>⟨⟨Qo,Qo⟩,QB Qo ⟨Qo,λd h0 h1=>?_⟩⟩⟩
    ·have g6:JA (Pu W (k3:Int) (c:Int))=false:=by simpa using g6
     exact Gs.1 g6 (p.s _ _ Qo Qo Qo qA)
    ·by_cases gY:d<(c:Int)
     ·exact hJ d h0 gY
     ·have:d=(c:Int):=Qo;subst this;exact Qm.1 (by simpa using g6)
   ·have A31:=Ou A31;refine⟨⟨Qo,Qo⟩,QB Qo ⟨Qo,λj d h0 h1 h2 h3=>?_⟩⟩
    by_cases gY:j<(k3:Int)
    ·exact hI3 j d h0 gY h2 h3
    ·have:j=(k3:Int):=Qo;subst this;exact hJ d h2 Qo
  have Bi8:=Ou Bi8;have hss:∀k c:Int,0<=k->k<8->0<=c->c<((gi W.IE k).IH.length:Int)->Pu W k c:=λk c h0 h1 h2 h3=>hI3 k c h0 Qo h2 h3
  refine Xr W.IF.length 0 rfl (λk=>k<=W.IF.length/\∀j:Int,0<=j->j<(k:Int)->DA W j) ⟨Ig _,λj h0 h1=>by omega⟩ λk4 ⟨hk4,hI4⟩=>⟨λIX=>?_,λCJ6=>?_⟩
  ·have IX:=Ot IX;refine⟨_,AJ h ha hts hss Qo IX,λg6=>K7 λp=>?_,λg6=>⟨⟨Qo,Qo⟩,QB Qo ⟨Qo,λj h0 h1=>?_⟩⟩⟩
   ·have g6:JA (DA W (k4:Int))=false:=by simpa using g6
    exact Gs.1 g6 (p.c _ Qo IX)
   ·by_cases gY:j<(k4:Int)
    ·exact hI4 j h0 gY
    ·have:j=(k4:Int):=Qo;subst this;exact Qm.1 (by simpa using g6)
  ·have CJ6:=Ou CJ6;exact zh8 ⟨ha,hts,hss,λc h0 h1=>hI4 c h0 Qo⟩
end
def QJ{n p:Nat}{vs us:List Va}{k:Nat}(h1:Y5 p vs=(k:Int)+1)(h2:Y5 p us=(k:Int))(hk:k<n):J5 n p vs<J5 n p us:=by
 unfold J5;rw[h1,h2];omega
def zj7{α:Type}[Inhabited α]{l:List α}{p:α->Bool}:l.all p=true↔∀k:Nat,k<l.length->p (gi l (k:Int)):=by
 rw[List.all_eq_true];constructor
 ·intro h k hk;exact h _ (ziv Qo Qo)
 ·intro h x hx;obtain⟨k,hk,rfl⟩:=List.getElem_of_mem hx;rw[<-XT hk];exact h k hk
def Cx{bs:List Nat}{w:Wo}{b:Nat}{l:List Int}{t:TypeId}{fz:Nat×Nat}(h:w.heap[b]? = some (.cells (l.flatMap Jk).toArray t fz))(hb:b∉bs):znn bs w (some ⟨b,0,none⟩) l:=λi h0 hi=>by
 have IX:i.toNat<l.length:=Qo;refine PM h hb (k0:=0) ?_;have:=Am (enc:=Jk) (z:=1) (λ_=>rfl) l i.toNat 0 IX Qd;rw[Nat.add_zero] at this;rw[Nat.zero_add,this]
 have e:gi l i=l[i.toNat]:=by
  have:=XT IX
  rwa[show ((i.toNat:Nat):Int)=i by omega] at this
 rw[e];rfl
def Ew{l:List Int}{o:OA}{c:Nat}{w:Wo}{bs:List Nat}(h:znn bs w o l)(hl:l.length<=maxLen):PX bs ZA #[.slice o l.length c] w (.bool (l.all ZD)):=
 zbg o l.length c λwr hx=>by
  have h:=(h.ext hx).less (cs:=[]) Qs;refine Xr l.length 0 rfl (λk=>k<=l.length/\∀j:Nat,j<k->ZD (gi l (j:Int))) ⟨Ig _,λj hj=>It hj (Nat.not_lt_zero j)⟩ λk ⟨hk,hI⟩=>⟨λIX=>?_,λRX=>?_⟩
  ·have IX:=Ot IX;refine⟨h.ix VY Qo IX,_,h k Qo IX,_,QL,λg=>?_,λg=>⟨zkr IX hl,QB Qo ⟨Qo,λj hj=>?_⟩⟩⟩
   ·have:l.all ZD=false:=by
     cases hb:l.all ZD with
     |false=>rfl
     |true=>
      have:=zj7.1 hb k Qo;unfold ZD at this;rw[this] at g;cases g
    rw[this]
   ·by_cases gY:j<k
    ·exact hI j gY
    ·have:j=k:=Qo;subst this;unfold ZD
     simpa using g
  ·have RX:=Ou RX;have hk:k=l.length:=Qo;subst hk;rw[zj7.2 hI]
def zw0{a:Int}{w:Wo}{b:Nat}{t:TypeId}{fz:Nat×Nat}(h:w.heap[b]? = some (.cells ([I a]:List Va).toArray t fz)):PX [] ZA #[.slice (some ⟨b,0,none⟩) 1 1] w (.bool (ZD a)):=by
 have:=Ew (l:=[a]) (c:=1) (bs:=[]) (Cx h Qs) (by simp[maxLen])
 simpa using this
def zxh{a b2:Int}{w:Wo}{b:Nat}{t:TypeId}{fz:Nat×Nat}(h:w.heap[b]? = some (.cells ([I a,I b2]:List Va).toArray t fz)):PX [] ZA #[.slice (some ⟨b,0,none⟩) 2 2] w (.bool (ZD a&&ZD b2)):=by
 have:=Ew (l:=[a,b2]) (c:=2) (bs:=[]) (Cx h Qs) (by simp[maxLen])
 simpa using this
def zw8{a b2 b3:Int}{w:Wo}{b:Nat}{t:TypeId}{fz:Nat×Nat}(h:w.heap[b]? = some (.cells ([I a,I b2,I b3]:List Va).toArray t fz)):PX [] ZA #[.slice (some ⟨b,0,none⟩) 3 3] w (.bool (ZD a&&(ZD b2&&ZD b3))):=by
 have:=Ew (l:=[a,b2,b3]) (c:=3) (bs:=[]) (Cx h Qs) (by simp[maxLen])
 simpa using this
def AB{m:Int}{w:Wo}{bs:List Nat}:PX bs Jo #[I m] w (.bool (Om m)):=EJ m λwr hx=>rfl
def PC{m:Int}{w:Wo}{bs:List Nat}:PX bs JG #[I m] w (.bool (Om m)):=zbc m λwr hx=>⟨_,AB,rfl⟩
def MP{m:Int}{w:Wo}{bs:List Nat}:PX bs JX #[I m] w (.bool ((m != 0)&&Om m)):=BU m λwr hx=>⟨_,λ_=>PC,rfl⟩
def zr1:∀(m:Fin 16) (c:Fin 4),(VK .and .i64 (Int.fdiv (m.val:Int) (2 ^ (min (Int.toNat (c.val:Int)) 64))) 1==1)=(Int.tmod (Int.fdiv (m.val:Int) (2 ^ (min (Int.toNat (c.val:Int)) 64))) 2==1):=by decide +kernel
def zi0{m c:Int}{w:Wo}{bs:List Nat}:PX bs UI #[I m,I c] w (.bool (Zb m c)):=
 D8 m c λwr hx=>by
  refine⟨_,AB,_,λ_=>QL,λg=>?_,?_⟩
  ·simp only[A'] at g;exact(Qr.1 g.2).1
  ·unfold Zb
   cases h1:Om m with
   |false=>rfl
   |true=>
    cases h2:Yp c 0 3 with
    |false=>rfl
    |true=>
     obtain⟨x,rfl⟩:=Pk h1;have:=Qr.1 h2;have e:=zr1 x ⟨c.toNat,Qo⟩;rw[show ((⟨c.toNat,Qo⟩:Fin 4).val:Int)=c by show ((c.toNat:Nat):Int)=c;omega] at e;rw[e]
def Ay{m c:Int}{w:Wo}{bs:List Nat}:PX bs O0 #[I m,I c] w (.bool (Zb m c)):=C9 m c λwr hx=>⟨_,zi0,rfl⟩
def OU{a b:Int}{w:Wo}{bs:List Nat}:PX bs J6 #[I a,I b] w (I (VC a b)):=
 C8 a b λwr hx=>by
  refine⟨_,PC,_,λ_=>PC,λg=>?_,λg=>?_⟩
  ·rw[Xd];simpa using g
  ·simp only[I1,I8] at g;rw[Tv g.1 g.2]
def MO{b:Jx}{m:MG}{w:Wo}{bs:List Nat}:PX bs JW #[.agg (Za b m).toArray] w (.bool (Tj b)):=
 BR b.R4 b.Sy b.WI m.lO b.locals.length m.lC m.dO b.RW.length m.dC λwr hx=>λ_ _=>rfl
def Em{g:ZL}{m:MG}{w:Wo}{bs:List Nat}(hu:g.IW=false):PX bs Vh #[.agg (YC g m).toArray] w (.bool (JA (znu g))):=
 EL g.IW g.IG g.name g.R2 g.IF g.period g.next g.sum g.IY.R4 g.IY.Sy g.IY.WI m.lO g.IY.locals.length m.lC m.dO g.IY.RW.length m.dC m.sO g.IH.length m.sC λwr hx=>by
  intro _ _;refine⟨_,λ_=>MO (b:=g.IY) (m:=m),Oe ?_⟩;simp only[hu,Bool.not_false,Bool.true_and,A',Iu,U2];constructor
  ·rintro⟨⟨⟨⟨⟨⟨⟨⟨e1,e2⟩,e3⟩,e4⟩,e5⟩,e6⟩,e7⟩,e9⟩,e8⟩;exact⟨e1,e2,e3,e4,e5,e6,e7,Qo,e9⟩
  ·intro q;exact⟨⟨⟨⟨⟨⟨⟨⟨q.p,q.n⟩,q.w⟩,q.c⟩,q.pe⟩,q.ne⟩,q.s⟩,q.b⟩,by have:=q.l;omega⟩
def zav{b:Jx}{m:MG}{w:Wo}{bs:List Nat}(h1:znn bs w m.lO b.locals)(h2:zre bs w m.dO b.RW)(hl:b.locals.length<=maxLen):PX bs OH #[.agg (Za b m).toArray] w (.bool (JA (VL b))):=
 zbb b.R4 b.Sy b.WI m.lO b.locals.length m.lC m.dO b.RW.length m.dC λwr hx=>by
  have h1:=(h1.ext hx).less (cs:=[]) Qs;have h2:=(h2.ext hx).less (cs:=[]) Qs;intro _ _;refine⟨_,QL,_,λ_=>QL,λg=>K7 λp=>?_,λg=>⟨_,QL,_,λ_=>QL,λg'=>K7 λp=>?_,λg'=>?_⟩⟩
  ·rw[Qr.2 ⟨p.q1,p.q2⟩,Qr.2 (by have:=p.l1;have:=p.l2;omega),p.dl] at g;simp at g
  ·rw[Qr.2 ⟨p.p1,p.p2⟩,Qr.2 ⟨p.s1,p.s2⟩] at g'
   cases g'
  ·simp only[I1,I8,bne_eq_false_iff_eq,Qr] at g g';obtain⟨⟨g1,g2⟩,g3⟩:=g;obtain⟨g4,g5⟩:=g';have hdl:b.RW.length=b.locals.length:=Qo
   have all:∀{k:Nat},k<=b.locals.length->(∀c:Int,0<=c->c<(k:Int)->0<=gi b.locals c/\gi b.locals c<=b.R4/\(gi b.RW c=true->gi b.locals c=0/\b.Sy=0))->0<=Uo b.locals k/\Uo b.locals k<=40000:=λ{k} hk h=>by
    have key:∀j:Nat,j<=k->0<=Uo b.locals j/\Uo b.locals j<=(j:Int)*10000:=λj=>by
     induction j with
     |zero=>intro _;simp[Uo]
     |succ j ih=>
      intro hj;have:=ih Qo;have:=h (j:Int) Qo Qo;simp only[Uo];omega
    have:=key k (I9 _);omega
   refine⟨⟨Qo,Qo⟩,?_⟩;refine TM b.locals.length 0 rfl (λx k=>k<=b.locals.length/\x=b.Sy+b.WI+Uo b.locals k/\∀c:Int,0<=c->c<(k:Int)->0<=gi b.locals c/\gi b.locals c<=b.R4/\(gi b.RW c=true->gi b.locals c=0/\b.Sy=0)) ⟨Ig _,by simp[Uo],λc h0 h1=>by omega⟩ λx k ⟨hk,Rt,hI⟩=>⟨λIX=>?_,λRX=>?_⟩
   ·have IX:=Ot IX;have Si:(k:Int)<(b.RW.length:Int):=Qo;have hsr:=all hk hI;refine⟨h1.ix VY Qo IX,_,h1 k Qo IX,_,QL,λ_=>h2.ix Af Qo Si,_,λ_=>h2 k Qo Si,λg=>K7 λp=>?_,λg=>?_⟩
    ·have pe:=p.each (k:Int) Qo IX;rw[Qr.2 ⟨pe.1,pe.2.1⟩] at g;simp only[Bool.not_true,Bool.false_or,A',Iw,Iv] at g;have:=pe.2.2 g.1;rcases g.2 with h|h
     ·exact h this.1
     ·exact h this.2
    ·simp only[I1,I8,Qr] at g;obtain⟨ga,gb⟩:=g;refine⟨⟨Qo,Qo⟩,⟨Qo,Qo⟩,QG Qo ⟨Qo,by simp only[Uo];omega,λc hc0 hc=>?_⟩⟩
     by_cases hck:c<(k:Int)
     ·exact hI c hc0 hck
     ·have:c=(k:Int):=Qo;subst this;refine⟨ga.1,ga.2,λhd=>?_⟩;rw[hd] at gb;simp only[Bool.true_and,I1,bne_eq_false_iff_eq] at gb;exact gb
   ·have RX:=Ou RX;have:k=b.locals.length:=Qo;subst this;refine Oe ?_;rw[Iu,Rt];constructor
    ·intro hs;exact⟨g1.1,g1.2,Qo,Qo,hdl,g4.1,g4.2,g5.1,g5.2,hI,hs⟩
    ·exact λp=>p.sum
def zqn(v f k:Int):Bool:=decide (v>=f)&&decide (v-f<=Zs k)
def ztn{a b:Int}(ha:ZD a)(hb:ZD b):IntKind.i64.wrap (a-b)=a-b:=(Ei ha hb).wrap
def zqo{v f k:Int}(hv:ZD v)(hf:ZD f):PI v f k=zqn v f k:=by unfold PI zqn;rw[ztn hv hf]
def Kw{v f k:Int}{w:Wo}{bs:List Nat}(h:ZD v)(hf:ZD f):PX bs Vk #[I v,I f,I k] w (.bool (PI v f k)):=by
 rw[zqo h hf];exact zbf v f k λwr hx=>⟨λ_=>Ei h hf,_,λ_=>Ax,rfl⟩
def za0{n:Int}{w:Wo}{bs:List Nat}:PX bs OK #[I n] w (.bool (Yp n 0 8000000)):=zbd n λwr hx=>⟨_,QL,rfl⟩
structure Od (bs:List Nat) (w:Wo) (p:OA) (W:Q7) (m:MW):Prop where
 cs:Q2 bs w p 0 (Qa W m)
 rd:X0 bs w W m
def Ki{bs:List Nat}{w:Wo}{o:OA}{n:Nat}{vs:List Va}(h:Q2 bs w o n vs){j:Nat}{v:Va}(hj:vs[j]? = some v):Q2 bs w (o.map (·.add n)) (0+j) [v]:=by
 obtain⟨a,ha,hb,hc⟩:=h.get j v hj;refine UE ⟨a.add n,by rw[ha];rfl,by rw[Zv];exact hb,?_⟩;rw[JE,Nat.zero_add];exact hc
def zht{bs:List Nat}{w:Wo}{o:OA}{n k:Nat}{v:Va}{r:List Va}(h:Q2 bs w o k (v::r)):(o.map (·.add n)).isSome:=by
 have:=h.some
 cases o with
 |none=>cases this
 |some a=>rfl
section
variable {W:Q7}{m:MW}{w w':Wo}{bs cs:List Nat}{p:OA}
def Od.ext(h:Od bs w p W m)(hx:Q0 bs w w'):Od bs w' p W m:=⟨h.cs.ext hx,h.rd.ext hx⟩
def Od.less(h:Od bs w p W m)(hs:∀x∈cs,x∈bs):Od cs w p W m:=⟨h.cs.less hs,h.rd.less hs⟩
def Od.wide(h:Od bs w p W m)(hs:∀x∈cs,x∈bs\/w.heap.size<=x):Od cs w p W m:=⟨h.cs.wide hs,h.rd.wide hs⟩
def Od.some(h:Od bs w p W m):p.isSome:=by
 have h1:=h.cs.get 0 _ (rfl:(Qa W m)[0]? = Option.some (I W.now));obtain⟨a,rfl,_⟩:=h1;rfl
def Od.c(h:Od bs w p W m){j:Nat}{v:Va}(hj:(Qa W m)[j]? = Option.some v):Q2 bs w p (0+j) [v]:=UE (h.cs.get j v hj)
def Od.now(h:Od bs w p W m):Q2 bs w p (0+0) [I W.now]:=h.c rfl
def Od.IF(h:Od bs w p W m):Q2 bs w p (0+1) [.slice m.cO W.IF.length m.cC]:=h.c rfl
def Od.IK(h:Od bs w p W m):Q2 bs w p (0+2) [.slice m.tO W.IK.length m.tC]:=h.c rfl
def Od.IE(h:Od bs w p W m):Q2 bs w p (0+3) [.slice m.gO W.IE.length m.gC]:=h.c rfl
def zwp(m:MW)(g c:Int):OA:=(m.ms g.toNat).sO.map (·.add (Int.toNat c*5))
def Od.sh(h:Od bs w p W m){g c:Int}(g0:0<=g)(g1:g<(W.IE.length:Int))(c0:0<=c)(c1:c<((gi W.IE g).IH.length:Int)):(zwp m g c).isSome/\∀{j:Nat} {v:Va},(TY (Qb W g c))[j]? = Option.some v->Q2 bs w (zwp m g c) (0+j) [v]:=
 ⟨zht (h.rd.g.IH g g0 g1 c c0 c1),λ{j v} hj=>Ki (h.rd.g.IH g g0 g1 c c0 c1) hj⟩
def TK{c:Int}:PX bs ZY #[.pointer p,I c] w (.agg #[.pointer p,I c]):=D6 p c λwr hx=>λ_ _=>rfl
def Yw{g c:Int}(h:Od bs w p W m)(g0:0<=g)(g1:g<(W.IE.length:Int))(c0:0<=c)(c1:c<((gi W.IE g).IH.length:Int)):PX bs QU #[.agg #[.pointer p,I c],I g] w (.pointer (zwp m g c)):=
 Da p c g λwr hx=>by
  have h:=(h.ext hx).less (cs:=[]) Qs;exact λ_ _=>⟨h.some,_,_,_,h.IE,h.rd.g.ix g0 g1,_,_,_,h.rd.g.RY g0 g1,(h.rd.g.IH g g0 g1).ix Zz c0 c1,rfl⟩
def ziy{c:Int}(h:Od bs w p W m)(c0:0<=c)(c1:c<(W.IF.length:Int)):PX bs VZ #[.agg #[.pointer p,I c]] w (.pointer (m.cO.map (·.add (Int.toNat c*5)))):=
 BS p c λwr hx=>by
  have h:=(h.ext hx).less (cs:=[]) Qs;exact λ_ _=>⟨h.some,_,_,_,h.IF,h.rd.c.ix Zy c0 c1,rfl⟩
def Bv{c:Int}(h:Od bs w p W m)(hl:W.IF.length<=maxLen):PX bs XX #[.pointer p,I c] w (.bool (Yp c 0 ((W.IF.length:Int)-1))):=
 K8 p c λwr hx=>by
  have h:=(h.ext hx).less (cs:=[]) Qs;have:=YQ;exact⟨h.some,_,_,_,h.IF,⟨Qo,Qo⟩,_,QL,rfl⟩
def PV{t:Int}(h:Od bs w p W m)(hl:W.IK.length<=maxLen):PX bs YO #[.pointer p,I t] w (.bool (Yp t 0 ((W.IK.length:Int)-1)&&((Q8 W t).state != 0))):=
 MC p t λwr hx=>by
  have h:=(h.ext hx).less (cs:=[]) Qs;have:=YQ;have hr:Yp t 0 ((W.IK.length:Int)-1)->0<=t/\t<(W.IK.length:Int):=λg=>by have:=Qr.1 g;omega
  exact⟨h.some,_,_,_,h.IK,⟨Qo,Qo⟩,_,QL,λ_=>h.some,_,_,_,λ_=>h.IK,λg=>h.rd.t.ix QF (hr g).1 (hr g).2,_,λg=>h.rd.t.f (hr g).1 (hr g).2 (j:=0) rfl,rfl⟩
def PD(h:Od bs w p W m)(h4:W.IF.length<=4):PX bs YD #[.pointer p] w (I (Jb W.IF)):=
 LH p λwr hx=>by
  have h:=(h.ext hx).less (cs:=[]) Qs;refine⟨h.some,_,_,_,h.IF,?_⟩;refine TM W.IF.length 0 rfl (λx k=>k<=W.IF.length/\x=Up W.IF k) ⟨Ig _,rfl⟩ λx k ⟨hk,Rt⟩=>⟨λIX=>?_,λRX=>?_⟩
  ·have IX:=Ot IX;have hb:=E0 (k:=k) Qo;have hl:=Lo W.IF k Qo;have nH:(1*2 ^ (min (Int.toNat (k:Int)) 64):Int)=Jz k:=rfl;refine⟨h.rd.c.ix Zy Qo IX,_,_,_,_,_,h.rd.c k Qo IX,λ_ _=>⟨λhu=>?_,λhu=>?_⟩⟩
   ·rw[nH,Rt,zu6 Qo hl.1 hl.2];refine⟨⟨Qo,Qo,Qo⟩,⟨Qo,Qo⟩,QG Qo ⟨Qo,?_⟩⟩;simp only[Up];rw[H' hu]
   ·refine⟨⟨Qo,Qo⟩,QG Qo ⟨Qo,?_⟩⟩;rw[Rt];simp only[Up];rw[E' (by rw[hu];decide)]
  ·have RX:=Ou RX;have:k=W.IF.length:=Qo;subst this;rw[Rt];rfl
def zgu{g:Int}(h:Od bs w p W m)(h4:W.IF.length<=4)(ht:ZZ W.IE)(hu:Q6 W.IE g):PX bs UH #[.pointer p,I g] w (I (V7 W.IE g (Jb W.IF))):=
 D7 p g λwr hx=>by
  have h:=(h.ext hx).less (cs:=[]) Qs;have hr:Q6 W.IE 0:=Q5.2 ⟨Qd,by have:=ht.len;omega,ht.ru⟩;obtain⟨r1,r2,_⟩:=Q5.1 hr;refine⟨_,PD h h4,λvs=>∃(x s:Int),vs=[I x,I s]/\Q6 W.IE x/\V7 W.IE x s=V7 W.IE g (Jb W.IF),λvs=>(dep 3 W.IE (Y5 0 vs)).toNat,⟨g,_,rfl,hu,rfl⟩,?_⟩;rintro x s ⟨x',s',he,hux,hI⟩;simp only[I6,I7,true_and,and_true] at he;obtain⟨rfl,rfl⟩:=he;refine⟨λhz=>?_,λhz=>?_⟩
  ·have hz:x≠0:=by simpa using hz
   obtain⟨hp,a,b,d,e,e2,hd⟩:=ZR ht hux hz;unfold V7 at hI;rw[Yb ht hux hz,List.cons_append,List.foldl_cons] at hI
   exact⟨h.some,_,_,_,h.IE,h.rd.g.ix a b,_,h.rd.g.IF a b,_,OU,h.some,_,_,_,h.IE,h.rd.g.ix a b,_,h.rd.g.IG a b,⟨_,_,rfl,hp,hI⟩,by
    show (dep 3 W.IE (gi W.IE x).IG).toNat<(dep 3 W.IE x).toNat;omega⟩
  ·have hz:x=0:=by simpa using hz
   subst hz;unfold V7 at hI;rw[show QV W.IE 0=[] from Zf _ _] at hI;refine⟨h.some,_,_,_,h.IE,h.rd.g.ix r1 r2,_,h.rd.g.IF r1 r2,_,OU,?_⟩;unfold V7;rw[<-hI];rfl
def El{g mask:Int}(h:Od bs w p W m)(h4:W.IF.length<=4)(ht:ZZ W.IE)(hu:Q6 W.IE g):PX bs XH #[.pointer p,I mask,I g] w (I (Qv W g mask)):=
 MA p mask g λwr hx=>by
  have h:=(h.ext hx).less (cs:=[]) Qs;refine⟨_,zgu h h4 ht hu,_,OU,λg1=>?_,λg1=>⟨λg2=>?_,λg2=>⟨_,PD h h4,?_⟩⟩⟩
  ·unfold Qv;rw[H' (by simpa using g1)]
  ·unfold Qv;rw[E' (by simpa using g1),H' (by simpa using g2)]
  ·unfold Qv;rw[E' (by simpa using g1),E' (by simpa using g2)]
def Az{t:Int}(h:Od bs w p W m)(h4:W.IF.length<=4)(ht:ZZ W.IE)(t0:0<=t)(t1:t<(W.IK.length:Int))(hu:Q6 W.IE (Q8 W t).II):PX bs Jl #[.pointer p,I t] w (I (Qv W (Q8 W t).II (Q8 W t).mask)):=
 KM p t λwr hx=>by
  have h:=(h.ext hx).less (cs:=[]) Qs;exact⟨h.some,_,_,_,h.IK,h.rd.t.ix QF t0 t1,_,h.rd.t.f t0 t1 (j:=4) rfl,h.some,_,_,_,h.IK,h.rd.t.ix QF t0 t1,_,h.rd.t.f t0 t1 (j:=1) rfl,_,El h h4 ht hu,rfl⟩
def G1{t c g:Int}(h:Od bs w p W m)(t0:0<=t)(t1:t<(W.IK.length:Int)):PX bs XF #[.agg #[.pointer p,I c],I t,I g] w (.bool (VT W g c t.toNat)):=
 GQ p c t g λwr hx=>by
  have h:=(h.ext hx).less (cs:=[]) Qs;refine λ_ _=>⟨h.some,_,_,_,h.IK,h.rd.t.ix QF t0 t1,_,_,_,_,_,_,_,_,_,h.rd.t t t0 t1,λ_ _=>?_⟩
  unfold VT;rw[show ((t.toNat:Nat):Int)=t by omega]
def HP{k c g:Int}(h:Od bs w p W m)(ha:WA W)(k0:0<=k)(k1:k<(W.IE.length:Int))(c0:0<=c)(c1:c<(W.IF.length:Int)):PX bs XY #[.agg #[.pointer p,I c],I k,I g] w (.bool (Xy W g c k.toNat)):=
 D9 p c k g λwr hx=>by
  have h:=(h.ext hx).less (cs:=[]) Qs
  have hc:(((k != 0)&&(gi W.IE k).IW)&&((gi W.IE k).IG==g))->c<((gi W.IE k).IH.length:Int):=λq=>by
   simp only[A'] at q;rw[ha.sl (Q5.2 ⟨k0,k1,q.1.2⟩)];exact c1
  refine λ_ _=>⟨λ_=>h.some,_,_,_,λ_=>h.IE,λ_=>h.rd.g.ix k0 k1,_,λ_=>h.rd.g.IW k0 k1,λ_=>h.some,_,_,_,λ_=>h.IE,λ_=>h.rd.g.ix k0 k1,_,λ_=>h.rd.g.IG k0 k1,zwp m k c,λq=>Yw h k0 k1 c0 (hc q),λq=>(h.sh k0 k1 c0 (hc q)).1,(Qb W k c).on,λq=>(h.sh k0 k1 c0 (hc q)).2 (j:=1) rfl,?_⟩
  unfold Xy;rw[show ((k.toNat:Nat):Int)=k by omega]
  have e:decide (1<=k.toNat)=(k != 0):=by
   by_cases hk:k=0
   ·subst hk;rfl
   ·rw[Ij Qo,Iv.2 hk]
  rw[e,Bool.and_assoc,Bool.and_assoc,Bool.and_assoc,Bool.and_assoc]
def zay{g c:Int}(h:Od bs w p W m)(ha:WA W)(c0:0<=c)(c1:c<(W.IF.length:Int)):PX bs Ub #[.agg #[.pointer p,I c],I g] w (.bool (QA W g c)):=
 GO p c g λwr hx=>by
  have h:=(h.ext hx).less (cs:=[]) Qs;have cN:=ha.gl;have ht:=ha.t;refine λ_ _=>⟨h.some,_,_,_,h.IK,?_⟩
  refine Xr W.IK.length 0 rfl (λk=>k<=W.IK.length/\∀j:Nat,j<k->VT W g c j=false) ⟨Ig _,λj hj=>It hj (Nat.not_lt_zero j)⟩ λk ⟨hk,hI⟩=>⟨λIX=>?_,λRX=>?_⟩
  ·have IX:=Ot IX;refine⟨_,G1 h Qo IX,λhy=>?_,λhn=>⟨⟨Qo,Qo⟩,QB Qo ⟨Qo,λj hj=>?_⟩⟩⟩
   ·rw[Ii] at hy;unfold QA;rw[Oz.2 ⟨k,Qo,hy⟩];rfl
   ·by_cases gY:j<k
    ·exact hI j gY
    ·have:j=k:=Qo;subst this
     rwa[Ii] at hn
  ·have RX:=Ou RX;have kF:VO (VT W g c) W.IK.length=false:=zdv λj hj=>hI j Qo
   refine⟨h.some,_,_,_,h.IE,?_⟩;refine Xr W.IE.length 0 rfl (λk=>k<=W.IE.length/\∀j:Nat,j<k->Xy W g c j=false) ⟨Ig _,λj hj=>It hj (Nat.not_lt_zero j)⟩ λk ⟨hk,hI⟩=>⟨λIX=>?_,λRX=>?_⟩
   ·have IX:=Ot IX;refine⟨_,HP h ha Qo IX c0 c1,λhy=>?_,λhn=>⟨⟨Qo,Qo⟩,QB Qo ⟨Qo,λj hj=>?_⟩⟩⟩
    ·rw[Ii] at hy;unfold QA;rw[Oz.2 ⟨k,Qo,hy⟩,Bool.or_true]
    ·by_cases gY:j<k
     ·exact hI j gY
     ·have:j=k:=Qo;subst this
      rwa[Ii] at hn
   ·have RX:=Ou RX;have:VO (Xy W g c) W.IE.length=false:=zdv λj hj=>hI j Qo
    unfold QA;rw[kF,this];rfl
def ziz{g c:Int}(h:Od bs w p W m)(ha:WA W)(hu:Q6 W.IE g)(c0:0<=c)(c1:c<(W.IF.length:Int)):PX bs T0 #[.agg #[.pointer p,I c],I g] w (.bool (V6 W g c)):=
 BT p c g λwr hx=>by
  have h:=(h.ext hx).less (cs:=[]) Qs;obtain⟨u1,u2,_⟩:=Q5.1 hu
  have hd:(decide ((gi W.IE g).IY.R4>0))->c<((gi W.IE g).IY.RW.length:Int):=λg1=>by
   have:=Ot g1;rw[(ha.dl hu Qo).1];exact c1
  exact λ_ _=>⟨h.some,_,_,_,h.IE,h.rd.g.ix u1 u2,_,_,_,_,_,_,_,_,_,h.rd.g.IY u1 u2,λ_ _=>⟨λg1=>(h.rd.g.RW g u1 u2).ix Af c0 (hd g1),_,λg1=>(h.rd.g.RW g u1 u2) c c0 (hd g1),rfl⟩⟩
def LZ{t c:Int}(h:Od bs w p W m)(ha:WA W)(t0:0<=t)(t1:t<(W.IK.length:Int))(c0:0<=c)(c1:c<(W.IF.length:Int))(hu:(Q8 W t).state=1->Q6 W.IE (Q8 W t).II) :
  PX bs XE #[.agg #[.pointer p,I c],I t] w (.bool (((Q8 W t).R8==c)&&Zi W t)):=
 GP p c t λwr hx=>by
  have h:=(h.ext hx).less (cs:=[]) Qs;refine λ_ _=>⟨h.some,_,_,_,h.IK,h.rd.t.ix QF t0 t1,_,_,_,_,_,_,_,_,_,h.rd.t t t0 t1,λ_ _=>⟨λg=>?_,λg=>?_⟩⟩
  ·have g':(((Q8 W t).state != 1)||((Q8 W t).R8 != c)):=g
   have:(((Q8 W t).R8==c)&&Zi W t)=false:=by
    unfold Zi;simp only[Iw,Iv] at g';rcases g' with e|e
    ·rw[beq_eq_false_iff_ne.2 e,Bool.false_and,Bool.and_false]
    ·rw[beq_eq_false_iff_ne.2 e,Bool.false_and]
   rw[this]
  ·have g':(((Q8 W t).state != 1)||((Q8 W t).R8 != c))=false:=g;simp only[I1,bne_eq_false_iff_eq] at g';obtain⟨hs,hc⟩:=g';have uC:=hu hs
   have hL:(((Q8 W t).R8==c)&&Zi W t)=JM W (Q8 W t).II c:=by
    unfold Zi;rw[Iu.2 hs,Iu.2 hc,Bool.true_and,Bool.true_and,hc]
   rw[hL];refine⟨λvs=>∃x:Int,vs=[I x]/\Q6 W.IE x/\JM W x c=JM W (Q8 W t).II c,λvs=>(dep 3 W.IE (Y5 0 vs)).toNat,⟨_,rfl,uC,rfl⟩,?_⟩;rintro x ⟨x',he,hux,hI⟩;simp only[I6,I7,true_and,and_true] at he;subst he;refine⟨λhz=>?_,λhz=>?_⟩
   ·have hz:x≠0:=by simpa using hz
    obtain⟨hp,a,b,d,e,e2,hd⟩:=ZR ha.tree hux hz;have yQ:c<((gi W.IE x).IH.length:Int):=by rw[ha.sl hux];exact c1
    unfold JM at hI;rw[Yb ha.tree hux hz,List.all_cons] at hI
    refine⟨_,Yw h a b c0 yQ,(h.sh a b c0 yQ).1,_,(h.sh a b c0 yQ).2 (j:=1) rfl,λg2=>?_,λg2=>⟨h.some,_,_,_,h.IE,h.rd.g.ix a b,_,h.rd.g.IG a b,⟨_,rfl,hp,?_⟩,by
     show (dep 3 W.IE (gi W.IE x).IG).toNat<(dep 3 W.IE x).toNat;omega⟩⟩
    ·have g2:(Qb W x c).on=false:=by simpa using g2
     rw[g2,Bool.false_and] at hI;unfold JM;rw[<-hI]
    ·have g2:(Qb W x c).on:=by simpa using g2
     rw[g2,Bool.true_and] at hI;exact hI
   ·have hz:x=0:=by simpa using hz
    subst hz;unfold JM at hI;rw[show QV W.IE 0=[] from Zf _ _,List.all_nil] at hI;unfold JM;rw[<-hI]
end
structure zra (W:Q7):Prop where
 n1:0<=W.now
 n2:W.now<=100000000000000000
 c1:1<=W.IF.length
 c2:W.IF.length<=4
 t:W.IK.length=12
 tree:ZZ W.IE
 ups:Jb W.IF≠0
structure zvr (W:Q7) (g:ZL):Prop where
 none:g.IY.R4=0->Tj g.IY/\g.period=0/\g.next=0
 IY:g.IY.R4≠0->VL g.IY/\g.IY.locals.length=W.IF.length/\1<=g.period/\g.period<=1000/\W.now<g.next/\g.next-W.now<=g.period
structure zvp (W:Q7) (g:ZL):Prop where
 w1:1<=g.R2
 w2:g.R2<=20
 m:Om g.IF=true
 m0:g.IF≠0
 s:ZD g.sum=true
 len:g.IH.length=W.IF.length
 q:zvr W g
def zrc(W:Q7)(k:Int):Prop:=((gi W.IE k).IW=false->znu (gi W.IE k))/\((gi W.IE k).IW->zvp W (gi W.IE k))
def HN{W:Q7}{k:Int}:Pt W k↔zrc W k/\((gi W.IE k).IW->k=0->(gi W.IE k).R2=10/\(gi W.IE k).IF=15/\(gi W.IE k).IY.R4=0):=by
 constructor
 ·intro p;exact⟨⟨p.1,λhu=>by have q:=p.2 hu;exact⟨q.w1,q.w2,q.m,q.m0,q.s,q.len,⟨q.none,q.IY⟩⟩⟩,λhu=>(p.2 hu).root⟩
 ·rintro⟨p,r⟩;exact⟨p.1,λhu=>by have q:=p.2 hu;exact⟨q.w1,q.w2,q.m,q.m0,q.s,q.len,r hu,q.q.none,q.q.IY⟩⟩
section
variable {W:Q7}{m:MW}{w:Wo}{bs:List Nat}{p:OA}
def AC{k:Int}(h:Od bs w p W m)(n1:0<=W.now)(n2:W.now<=100000000000000000)(k0:0<=k)(k1:k<(W.IE.length:Int))(hf:zdk (gi W.IE k)) :
  PX bs Xh #[.pointer p,.agg (YC (gi W.IE k) (m.ms k.toNat)).toArray] w (.bool (JA (zvr W (gi W.IE k)))):=
 KN p (gi W.IE k).IW (gi W.IE k).IG (gi W.IE k).name (gi W.IE k).R2 (gi W.IE k).IF (gi W.IE k).period (gi W.IE k).next (gi W.IE k).sum (gi W.IE k).IY.R4 (gi W.IE k).IY.Sy (gi W.IE k).IY.WI (m.ms k.toNat).lO (gi W.IE k).IY.locals.length (m.ms k.toNat).lC (m.ms k.toNat).dO (gi W.IE k).IY.RW.length (m.ms k.toNat).dC (m.ms k.toNat).sO (gi W.IE k).IH.length (m.ms k.toNat).sC λwr hx=>by
  have h:=(h.ext hx).less (cs:=[]) Qs
  have hp:((JA (VL (gi W.IE k).IY)&&(((gi W.IE k).IY.locals.length:Nat):Int)==((W.IF.length:Nat):Int))&&Yp (gi W.IE k).period 1 1000)->1<=(gi W.IE k).period/\(gi W.IE k).period<=1000:=λq=>by
   simp only[A'] at q;exact Qr.1 q.2
  refine λ_ _=>⟨_,MO (b:=(gi W.IE k).IY) (m:=m.ms k.toNat),λg=>Oe ?_,λg=>⟨_,zav (b:=(gi W.IE k).IY) (m:=m.ms k.toNat) (h.rd.g.locals k k0 k1) (h.rd.g.RW k k0 k1) hf.lo,λ_=>h.some,_,_,_,λ_=>h.IF,_,λ_=>QL,λ_=>h.some,_,λ_=>h.now,λ_=>⟨Qo,Qo⟩,λ_=>h.some,_,λ_=>h.now,λq=>⟨by have:=hp q;omega,by have:=hp q;omega⟩,_,λ_=>QL,Oe ?_⟩⟩
  ·have q0:=(C4 g).1;simp only[A',Iu];exact⟨λe=>⟨λ_=>⟨g,e.1,e.2⟩,λfJ=>It q0 fJ⟩,λq=>(q.none q0).2⟩
  ·simp only[A',Iu,Qm,Qr];constructor
   ·rintro⟨⟨⟨e1,e2⟩,e3⟩,e4⟩;have:=e1.q1;exact⟨λhz=>by omega,λ_=>⟨e1,Qo,e3.1,e3.2,Qo,Qo⟩⟩
   ·intro q
    have hq:(gi W.IE k).IY.R4≠0:=λe=>by
     have:=(q.none e).1;rw[this] at g;cases g
    have r:=q.IY hq;exact⟨⟨⟨r.1,by have:=r.2.1;omega⟩,r.2.2.1,r.2.2.2.1⟩,by have:=r.2.2.2.2.1;omega,by have:=r.2.2.2.2.2;omega⟩
def By(h:Od bs w p W m)(hs:zra W)(hf:∀i:Int,0<=i->i<(W.IE.length:Int)->zdk (gi W.IE i)):PX bs YY #[.pointer p] w (.bool (JA (∀k:Int,0<=k->k<8->Pt W k))):=
 K9 p λwr hx=>by
  have h:=(h.ext hx).less (cs:=[]) Qs;have cN:=hs.tree.len;refine⟨h.some,_,_,_,h.IE,?_⟩;refine Xr W.IE.length 0 rfl (λk=>k<=W.IE.length/\∀j:Int,0<=j->j<(k:Int)->zrc W j) ⟨Ig _,λj h0 h1=>by omega⟩ λk ⟨hk,hI⟩=>⟨λIX=>?_,λRX=>?_⟩
  ·have IX:=Ot IX;have k0:(0:Int)<=(k:Int):=Qo
   have nxt:zrc W (k:Int)->∀j:Int,0<=j->j<((k+1:Nat):Int)->zrc W j:=λhq j h0 h1=>by
    by_cases gY:j<(k:Int)
    ·exact hI j h0 gY
    ·have:j=(k:Int):=Qo;subst this;exact hq
   refine⟨h.rd.g.ix k0 IX,_,_,_,_,_,_,_,_,_,_,_,_,_,_,_,_,_,_,_,_,h.rd.g.cells k k0 IX,λ_ _=>⟨λg=>?_,λg=>?_⟩⟩
   ·have hu:(gi W.IE (k:Int)).IW=false:=by simpa using g
    refine⟨_,Em (g:=gi W.IE (k:Int)) (m:=m.ms (k:Int).toNat) hu,λg2=>K7 λpp=>?_,λg2=>⟨⟨Qo,Qo⟩,QB Qo ⟨Qo,nxt ⟨λ_=>Qm.1 (by simpa using g2),λhu'=>by rw[hu'] at hu;cases hu⟩⟩⟩⟩;have g2:JA (znu (gi W.IE (k:Int)))=false:=by simpa using g2
    exact Gs.1 g2 ((HN.1 (pp (k:Int) k0 Qo)).1.1 hu)
   ·have hu:(gi W.IE (k:Int)).IW:=by simpa using g
    have bad:¬zvp W (gi W.IE (k:Int))->¬∀k:Int,0<=k->k<8->Pt W k:=λhn pp=>hn ((HN.1 (pp (k:Int) k0 Qo)).1.2 hu)
    refine⟨_,O8,_,λ_=>MP,λg2 b1 fI=>⟨ZD (gi W.IE (k:Int)).sum,λ_ wx hxw hcx=>zw0 hcx,λ_=>h.some,_,_,_,λ_=>h.IF,_,λ_=>AC h hs.n1 hs.n2 k0 IX (hf _ k0 IX),λg3=>K7 (bad λq=>?_),λg3=>⟨⟨Qo,Qo⟩,QB Qo ⟨Qo,nxt ⟨λhu'=>(by rw[hu'] at hu;cases hu),λ_=>?_⟩⟩⟩⟩,λg2=>⟨λe=>(by cases e),none,0,0,λe=>(by cases e),false,λe=>(by simp at e),λg3=>K7 (bad λq=>g2 ?_),λg3=>(by simp at g3)⟩⟩
    ·have e1:Yp (gi W.IE (k:Int)).R2 1 20:=Qr.2 ⟨q.w1,q.w2⟩;have e2:((gi W.IE (k:Int)).IF != 0):=by simpa using q.m0
     have e5:(((gi W.IE (k:Int)).IH.length:Nat):Int)=((W.IF.length:Nat):Int):=by have:=q.len;omega
     rw[e1,e2,q.m,q.s,e5,Qm.2 q.q] at g3;simp at g3
    ·simp only[I1,I8,bne_eq_false_iff_eq,Qr,A',Iv,Qm] at g3;obtain⟨⟨⟨⟨a1,a2⟩,a3⟩,a4⟩,a5⟩:=g3;exact⟨a1.1,a1.2,a2.2,a2.1,a3,Qo,a5⟩
    ·have e1:Yp (gi W.IE (k:Int)).R2 1 20:=Qr.2 ⟨q.w1,q.w2⟩;have e2:((gi W.IE (k:Int)).IF != 0):=by simpa using q.m0
     rw[e1,e2,q.m];rfl
  ·have RX:=Ou RX;have h0:(0:Int)<(W.IE.length:Int):=Qo;refine⟨h.some,_,_,_,h.IE,h.rd.g.ix Qd h0,_,_,_,_,_,_,_,_,_,_,_,_,_,_,_,_,_,_,_,_,h.rd.g.cells 0 Qd h0,λ_ _=>Oe ?_⟩;simp only[A',Iu];constructor
   ·rintro⟨⟨e1,e2⟩,e3⟩ j j0 j1;exact HN.2 ⟨hI j j0 Qo,λ_ hj=>by subst hj;exact⟨e1,e2,e3⟩⟩
   ·intro pp;have r:=(HN.1 (pp 0 Qd Qd)).2 hs.tree.ru rfl;exact⟨⟨r.1,r.2.1⟩,r.2.2⟩
def zra.wa(hs:zra W)(hg:∀k:Int,0<=k->k<8->Pt W k):WA W:=⟨hs.n1,hs.n2,hs.c1,hs.c2,hs.t,hs.tree,hs.ups,hg⟩
def zpy{n:Int}:Yp n (-10) 9=true↔Qe n≠0:=by
 unfold Qe
 cases h:Yp n (-10) 9 with
 |true=>
  have:=Qr.1 h;simp;omega
 |false=>simp
def Ny(W:Q7)(t:Int):Prop:=Fy W t/\((Q8 W t).state=1->ZD (Qb W (Q8 W t).II (Q8 W t).R8).IL)
def AE(h:Od bs w p W m)(ha:WA W)(lg:W.IE.length<=maxLen):PX bs Xj #[.pointer p] w (.bool (JA (∀t:Int,0<=t->t<12->Ny W t))):=
 KP p λwr hx=>by
  have h:=(h.ext hx).less (cs:=[]) Qs;have cN:=ha.gl;have lB:=ha.t;refine⟨h.some,_,_,_,h.IK,?_⟩;refine Xr W.IK.length 0 rfl (λk=>k<=W.IK.length/\∀j:Int,0<=j->j<(k:Int)->Ny W j) ⟨Ig _,λj h0 h1=>by omega⟩ λk ⟨hk,hI⟩=>⟨λIX=>?_,λRX=>?_⟩
  ·have IX:=Ot IX;have k0:(0:Int)<=(k:Int):=Qo
   have nxt:Ny W (k:Int)->Qq .i64 ((k:Int)+1)/\zl1 (λk=>k<=W.IK.length/\∀j:Int,0<=j->j<(k:Int)->Ny W j) [I ((k:Int)+1)]/\J5 W.IK.length 0 [I ((k:Int)+1)]<J5 W.IK.length 0 [I (k:Int)]:=λhq=>⟨⟨Qo,Qo⟩,QB Qo ⟨Qo,λj h0 h1=>by
    by_cases gY:j<(k:Int)
    ·exact hI j h0 gY
    ·have:j=(k:Int):=Qo;subst this;exact hq⟩⟩
   have bad:¬Ny W (k:Int)->¬∀t:Int,0<=t->t<12->Ny W t:=λhn pp=>hn (pp (k:Int) k0 Qo)
   refine⟨h.rd.t.ix QF k0 IX,_,_,_,_,_,_,_,_,_,h.rd.t k k0 IX,λ_ _=>⟨_,λwq=>CB zcc (zkk (gi W.IK (k:Int)) VI) _ _ wq,λg=>?_,λg=>?_⟩⟩
   ·rw[zfp,Il] at g;have hz:Q8 W (k:Int)=VI:=g;exact nxt ⟨.inl ⟨by rw[hz];rfl,hz⟩,λe=>by rw[hz] at e;cases e⟩
   ·rw[zfp,decide_eq_false_iff_not] at g;have hz:¬Q8 W (k:Int)=VI:=g
    have get:Ny W (k:Int)->zrf W (gi W.IK (k:Int)):=λq=>by
     rcases q.1 with ⟨_,e⟩|⟨_,q⟩
     ·exact It e hz
     ·exact q
    refine⟨λ_=>h.some,_,_,_,λ_=>h.IE,_,λ_=>PU (c:=m.gC) h.rd.g lg,_,λ_=>G0,_,λ_=>MP,λg2=>K7 (bad λq=>?_),λg2 b1 fI=>?_⟩
    ·have q:=get q;have e3:Yp (gi W.IK (k:Int)).nice (-10) 9:=zpy.2 q.n;have e4:((gi W.IK (k:Int)).mask != 0):=by simpa using q.m0
     rw[q.g,e3,q.m,e4] at g2;simp only[Bool.not_true,Bool.or_false,Bool.and_true,A',Iv] at g2;have:=q.st;omega
    ·simp only[I1,I8,A',Iv] at g2;obtain⟨⟨⟨a1,a2⟩,a3⟩,a4⟩:=g2
     have st:(gi W.IK (k:Int)).state=1\/(gi W.IK (k:Int)).state=2:=by
      by_cases h1:(gi W.IK (k:Int)).state=1
      ·exact .inl h1
      ·refine .inr ?_;have:((gi W.IK (k:Int)).state != 1):=by simpa using h1
       rw[this,Bool.true_and] at a1
       simpa using a1
     refine⟨_,λwx hxw hcx=>zw8 hcx,_,λ_=>za0,_,λ_=>Az h ha.c2 ha.tree k0 IX a2,_,λ_=>Ay,λg3=>K7 (bad λq=>?_),λg3=>?_⟩
     ·have q:=get q;have e4:Yp (gi W.IK (k:Int)).load 0 8000000:=Qr.2 ⟨q.l1,q.l2⟩;have e5:Zb (Qv W (Q8 W (k:Int)).II (Q8 W (k:Int)).mask) (gi W.IK (k:Int)).R8:=q.c;rw[q.v,q.s,q.u,e4,e5] at g3;cases g3
     ·simp only[I1,I8,Qr,A'] at g3;obtain⟨⟨b1',b2⟩,b3⟩:=g3;obtain⟨u1,u2,_⟩:=Q5.1 a2;obtain⟨c0,c1⟩:=Km ha b3;have hsl:=ha.sl a2;have c2:(gi W.IK (k:Int)).R8<((gi W.IE (gi W.IK (k:Int)).II).IH.length:Int):=Qo;have sh:=h.sh (g:=(gi W.IK (k:Int)).II) u1 u2 c0 c2
      have mk:(((Q8 W (k:Int)).state=1->ZD (Qb W (Q8 W (k:Int)).II (Q8 W (k:Int)).R8).IL/\PI (gi W.IK (k:Int)).v (Qb W (gi W.IK (k:Int)).II (gi W.IK (k:Int)).R8).IL (Qe (gi W.IK (k:Int)).nice)))->Ny W (k:Int):=λhf=>⟨.inr ⟨λe=>by
        have e:(gi W.IK (k:Int)).state=0:=e;omega,⟨st,a2,zpy.1 a3,a4.2,a4.1,b1'.1,b1'.2.1,b1'.2.2,b2.1,b2.2,b3,λe=>(hf e).2⟩⟩,λe=>(hf e).1⟩
      refine⟨_,_,TK,_,Yw h u1 u2 c0 c2,sh.1,_,sh.2 (j:=0) rfl,λ_ b2 cA=>⟨ZD (Qb W (gi W.IK (k:Int)).II (gi W.IK (k:Int)).R8).IL,λ_ wx hxw hcx=>zw0 hcx,_,λ_ _=>MN,_,λg4 _=>Kw b1'.1 (by simpa using g4),λg4=>K7 (bad λq=>?_),λg4=>nxt (mk λe=>?_)⟩,λg4=>⟨λe=>(by cases e),λ_=>nxt (mk λe=>It (Iu.2 e) g4)⟩⟩
      ·simp only[A',Iu,Iw,ID] at g4;have e1:=(get q).f g4.1;have e2:=q.2 g4.1;rcases g4.2 with g5|g5
       ·have e2:ZD (Qb W (gi W.IK (k:Int)).II (gi W.IK (k:Int)).R8).IL:=e2;rw[e2] at g5;cases g5
       ·rw[e1] at g5;cases g5
      ·have e':((gi W.IK (k:Int)).state==1):=Iu.2 e;rw[e',Bool.true_and] at g4;simp only[I1,I8] at g4;exact g4
  ·have RX:=Ou RX;exact zh8 λt h0 h1=>hI t h0 Qo
def En(h:Od bs w p W m)(ha:WA W)(hf:∀i:Int,0<=i->i<(W.IE.length:Int)->zdk (gi W.IE i)):PX bs YN #[.pointer p] w (.bool (JA (∀k c:Int,0<=k->k<8->0<=c->c<((gi W.IE k).IH.length:Int)->Pu W k c))):=
 MB p λwr hx=>by
  have h:=(h.ext hx).less (cs:=[]) Qs;have cN:=ha.gl;have rL:=ha.c2
  let TS:=λ(k c:Int)=>ZD (Qb W k c).IL/\ZD (Qb W k c).v/\ZD (Qb W k c).sum/\1<=(Qb W k c).w/\(Qb W k c).w<=20
  have ts:(∀k c:Int,0<=k->k<8->0<=c->c<((gi W.IE k).IH.length:Int)->Pu W k c)->∀k c:Int,0<=k->k<8->0<=c->c<((gi W.IE k).IH.length:Int)->TS k c:=λq k c h0 h1 h2 h3=>by
   have r:=q k c h0 h1 h2 h3;exact⟨r.f,r.v,r.s,r.w1,r.w2⟩
  refine⟨h.some,_,_,_,h.IE,?_⟩;refine Xr W.IE.length 0 rfl (λk=>k<=W.IE.length/\∀j c:Int,0<=j->j<(k:Int)->0<=c->c<((gi W.IE j).IH.length:Int)->TS j c) ⟨Ig _,λj c h0 h1=>by omega⟩ λk ⟨hk,hI⟩=>⟨λIX=>?_,λRX=>?_⟩
  ·have IX:=Ot IX;have k0:(0:Int)<=(k:Int):=Qo;have hsm:(gi W.IE (k:Int)).IH.length<=maxLen:=(hf _ k0 IX).sh;refine⟨h.rd.g.ix k0 IX,_,_,_,_,_,_,_,_,_,_,_,_,_,_,_,_,_,_,_,_,h.rd.g.cells k k0 IX,λ_ _=>?_⟩;refine Xr (gi W.IE (k:Int)).IH.length 0 rfl (λc=>c<=(gi W.IE (k:Int)).IH.length/\∀d:Int,0<=d->d<(c:Int)->TS (k:Int) d) ⟨Ig _,λj h0 h1=>by omega⟩ λc ⟨hc,hJ⟩=>⟨λqA=>?_,λA31=>?_⟩
   ·have qA:=Ot qA;have c0:(0:Int)<=(c:Int):=Qo;have rs:=h.rd.g.IH (k:Int) k0 IX;refine⟨rs.ix Zz c0 qA,_,_,_,_,_,rs c c0 qA,λ_ _ b2 cA=>⟨_,λwx hxw hcx=>zw8 hcx,_,λ_=>O8,λg=>K7 λq=>?_,λg=>⟨zkr qA hsm,QB Qo ⟨Qo,λd h0 h1=>?_⟩⟩⟩⟩
    ·have r:=ts q (k:Int) (c:Int) k0 Qo c0 qA;have e4:Yp (Qb W (k:Int) (c:Int)).w 1 20:=Qr.2 ⟨r.2.2.2.1,r.2.2.2.2⟩;have g':((!(ZD (Qb W (k:Int) (c:Int)).IL&&(ZD (Qb W (k:Int) (c:Int)).v&&ZD (Qb W (k:Int) (c:Int)).sum))) || !Yp (Qb W (k:Int) (c:Int)).w 1 20):=g;rw[r.1,r.2.1,r.2.2.1,e4] at g'
     cases g'
    ·by_cases gY:d<(c:Int)
     ·exact hJ d h0 gY
     ·have:d=(c:Int):=Qo;subst this;have g':((!(ZD (Qb W (k:Int) (c:Int)).IL&&(ZD (Qb W (k:Int) (c:Int)).v&&ZD (Qb W (k:Int) (c:Int)).sum))) || !Yp (Qb W (k:Int) (c:Int)).w 1 20)=false:=g;simp only[I1,I8,A',Qr] at g';exact⟨g'.1.1,g'.1.2.1,g'.1.2.2,g'.2.1,g'.2.2⟩
   ·have A31:=Ou A31;refine⟨⟨Qo,Qo⟩,QB Qo ⟨Qo,λj d h0 h1 h2 h3=>?_⟩⟩
    by_cases gY:j<(k:Int)
    ·exact hI j d h0 gY h2 h3
    ·have:j=(k:Int):=Qo;subst this;exact hJ d h2 Qo
  have RX:=Ou RX;have hT:∀j c:Int,0<=j->j<8->0<=c->c<((gi W.IE j).IH.length:Int)->TS j c:=λj c h0 h1=>hI j c h0 Qo
  refine⟨h.some,_,_,_,h.IF,?_⟩;refine Xr W.IF.length 0 rfl (λc=>c<=W.IF.length/\∀d k:Int,0<=d->d<(c:Int)->0<=k->k<8->d<((gi W.IE k).IH.length:Int)->Pu W k d) ⟨Ig _,λj k h0 h1=>by omega⟩ λc ⟨hc,hJ⟩=>⟨λqA=>?_,λA31=>?_⟩
  ·have qA:=Ot qA;have c0:(0:Int)<=(c:Int):=Qo;obtain⟨r1,r2,_⟩:=Q5.1 ha.root;have hrc:(c:Int)<((gi W.IE 0).IH.length:Int):=by rw[ha.sl ha.root];exact qA
   have sh:=h.sh (g:=0) r1 r2 c0 hrc;have tr:=hT 0 (c:Int) Qd Qd c0 hrc;refine⟨_,_,TK,λ_ _=>⟨_,Yw h r1 r2 c0 hrc,sh.1,(Qb W 0 (c:Int)).on,sh.2 (j:=1) rfl,λ_=>sh.1,(Qb W 0 (c:Int)).v,λ_=>sh.2 (j:=2) rfl,λ_=>sh.1,(Qb W 0 (c:Int)).w,λ_=>sh.2 (j:=3) rfl,λg=>K7 λq=>?_,λg=>?_⟩⟩
   ·have r:=(q 0 (c:Int) Qd Qd c0 hrc).root rfl;rw[r.1,r.2.1,r.2.2] at g;simp at g
   simp only[I1,bne_eq_false_iff_eq] at g;have root:Pu W 0 (c:Int):=⟨tr.1,tr.2.1,tr.2.2.1,tr.2.2.2.1,tr.2.2.2.2,λ_=>⟨g.1.1,g.1.2,g.2⟩,λfJ=>It rfl fJ,λfJ=>It rfl fJ⟩
   refine Xr 8 1 rfl (λk=>1<=k/\k<=8/\∀j:Int,0<=j->j<(k:Int)->(c:Int)<((gi W.IE j).IH.length:Int)->Pu W j (c:Int)) ⟨I9 _,Qo,λj h0 h1 _=>by
    have:j=0:=Qo;subst this;exact root⟩ λk ⟨hk1,hk,hK⟩=>⟨λIX=>?_,λdA=>?_⟩
   ·have IX:=Ot IX;have k0:(0:Int)<=(k:Int):=Qo;have kl:(k:Int)<(W.IE.length:Int):=Qo
    have nxt:((c:Int)<((gi W.IE (k:Int)).IH.length:Int)->Pu W (k:Int) (c:Int))->Qq .i64 ((k:Int)+1)/\zl1 (λk=>1<=k/\k<=8/\∀j:Int,0<=j->j<(k:Int)->(c:Int)<((gi W.IE j).IH.length:Int)->Pu W j (c:Int)) [I ((k:Int)+1)]/\J5 8 0 [I ((k:Int)+1)]<J5 8 0 [I (k:Int)]:=λhq=>⟨⟨Qo,Qo⟩,QB Qo ⟨Qo,Qo,λj h0 h1 h2=>by
     by_cases gY:j<(k:Int)
     ·exact hK j h0 gY h2
     ·have:j=(k:Int):=Qo;subst this;exact hq h2⟩⟩
    refine⟨h.some,_,_,_,h.IE,h.rd.g.ix k0 kl,_,h.rd.g.IW k0 kl,λg2=>nxt λhh=>?_,λg2=>?_⟩
    ·have hu:(gi W.IE (k:Int)).IW=false:=by simpa using g2
     have:=((ha.grp (k:Int) k0 Qo).1 hu).l;omega
    ·have hus:(gi W.IE (k:Int)).IW:=by simpa using g2
     have hu:Q6 W.IE (k:Int):=Q5.2 ⟨k0,kl,hus⟩;have hkc:(c:Int)<((gi W.IE (k:Int)).IH.length:Int):=by rw[ha.sl hu];exact qA
     have hp:=ha.up hu Qo;obtain⟨v1,v2,_⟩:=Q5.1 hp;have nX:(c:Int)<((gi W.IE (gi W.IE (k:Int)).IG).IH.length:Int):=by rw[ha.sl hp];exact qA
     have sk:=h.sh (g:=(k:Int)) k0 kl c0 hkc;have sp:=h.sh (g:=(gi W.IE (k:Int)).IG) v1 v2 c0 nX;have tk:=hT (k:Int) (c:Int) k0 Qo c0 hkc;have tp:=hT (gi W.IE (k:Int)).IG (c:Int) v1 Qo c0 nX;refine⟨_,Yw h k0 kl c0 hkc,sk.1,(Qb W (k:Int) (c:Int)).on,sk.2 (j:=1) rfl,_,zay h ha c0 qA,_,λ_=>ziz h ha hu c0 qA,λ_=>sk.1,(Qb W (k:Int) (c:Int)).on,λ_=>sk.2 (j:=1) rfl,λ_ _=>sk.1,(Qb W (k:Int) (c:Int)).v,λ_ _=>sk.2 (j:=2) rfl,λ_ _=>h.some,_,_,_,λ_ _=>h.IE,λ_ _=>h.rd.g.ix k0 kl,_,λ_ _=>h.rd.g.IG k0 kl,_,λ_ _=>Yw h v1 v2 c0 nX,λ_ _=>sp.1,(Qb W (gi W.IE (k:Int)).IG (c:Int)).IL,λ_ _=>sp.2 (j:=0) rfl,λ_ _=>sk.1,(Qb W (k:Int) (c:Int)).w,λ_ _=>sk.2 (j:=3) rfl,_,λ_ _=>Kw tk.2.1 tp.1,λg3=>K7 λq=>?_,λg3=>nxt λ_=>?_⟩
     ·have r:=q (k:Int) (c:Int) k0 Qo c0 hkc;have r1:=r.on Qo;simp only[Iw,A',ID,beq_eq_false_iff_ne] at g3;rcases g3 with g3|g3
      ·exact g3 r1
      ·have:=r.st Qo g3.1;rw[this] at g3
       cases g3.2
     ·simp only[I1,I8,Iu] at g3;refine⟨tk.1,tk.2.1,tk.2.2.1,tk.2.2.2.1,tk.2.2.2.2,λe=>by omega,λ_=>g3.1,λ_ ho=>?_⟩;have:=g3.2;rw[ho,Bool.true_and] at this
      simpa using this
   ·have dA:=Ou dA;refine⟨⟨Qo,Qo⟩,QB Qo ⟨Qo,λd k' h0 h1 h2 h3 h4=>?_⟩⟩
    by_cases hdc:d<(c:Int)
    ·exact hJ d k' h0 hdc h2 h3 h4
    ·have:d=(c:Int):=Qo;subst this;exact hK k' h2 Qo h4
  ·have A31:=Ou A31;refine zh8 λk d h0 h1 h2 h3=>hJ d k h2 ?_ h0 h1 h3
   have hus:(gi W.IE k).IW:=by
    cases hu:(gi W.IE k).IW with
    |true=>rfl
    |false=>
     have:=((ha.grp k h0 h1).1 hu).l;omega
   have:=ha.sl (Q5.2 ⟨h0,Qo,hus⟩);omega
def zaz(h:Od bs w p W m)(ha:WA W)(hts:∀t:Int,0<=t->t<12->Fy W t)(hss:∀k c:Int,0<=k->k<8->0<=c->c<((gi W.IE k).IH.length:Int)->Pu W k c):PX bs Xn #[.pointer p] w (.bool (JA (∀c:Int,0<=c->c<(W.IF.length:Int)->DA W c))):=
 LG p λwr hx=>by
  have h:=(h.ext hx).less (cs:=[]) Qs;have cN:=ha.gl;have lB:=ha.t;have rL:=ha.c2;have hm9:=Zp;refine⟨h.some,_,_,_,h.IF,?_⟩;refine Xr W.IF.length 0 rfl (λc=>c<=W.IF.length/\∀j:Int,0<=j->j<(c:Int)->DA W j) ⟨Ig _,λj h0 h1=>by omega⟩ λc ⟨hc,hI⟩=>⟨λIX=>?_,λRX=>?_⟩
  ·have IX:=Ot IX;have c0:(0:Int)<=(c:Int):=Qo
   have nxt:DA W (c:Int)->Qq .i64 ((c:Int)+1)/\zl1 (λc=>c<=W.IF.length/\∀j:Int,0<=j->j<(c:Int)->DA W j) [I ((c:Int)+1)]/\J5 W.IF.length 0 [I ((c:Int)+1)]<J5 W.IF.length 0 [I (c:Int)]:=λhq=>⟨⟨Qo,Qo⟩,QB Qo ⟨Qo,λj h0 h1=>by
    by_cases gY:j<(c:Int)
    ·exact hI j h0 gY
    ·have:j=(c:Int):=Qo;subst this;exact hq⟩⟩
   have bad:¬DA W (c:Int)->¬∀c:Int,0<=c->c<(W.IF.length:Int)->DA W c:=λhn pp=>hn (pp (c:Int) c0 IX)
   refine⟨h.rd.c.ix Zy c0 IX,_,_,_,_,_,h.rd.c c c0 IX,λ_ _ b1 fI=>⟨_,λwx hxw hcx=>zxh hcx,λg=>K7 (bad λq=>?_),λg=>⟨λg2=>nxt ?_,λg2=>?_⟩⟩⟩
   ·rw[q.b,q.i] at g;cases g
   ·simp only[I8,A'] at g;simp only[A',Iu] at g2;exact⟨g.1,g.2,Qo,Qo,λ_=>g2.2,λhh=>by omega⟩
   ·simp only[I8,A'] at g
    have ne:DA W (c:Int)->0<=(gi W.IF (c:Int)).cur:=λq=>by
     rcases Int.lt_or_le (gi W.IF (c:Int)).cur 0 with Ck0|Bj8
     ·have e1:=q.c1;have e2:=q.no Ck0;have e3:(gi W.IF (c:Int)).cur = -1:=Qo;rw[e3,e2] at g2;simp at g2
     ·exact Bj8
    have there:(Yp (gi W.IF (c:Int)).cur 0 ((W.IK.length:Int)-1)&&((Q8 W (gi W.IF (c:Int)).cur).state != 0))->0<=(gi W.IF (c:Int)).cur/\(gi W.IF (c:Int)).cur<(W.IK.length:Int):=λq=>by
     simp only[A'] at q;have:=Qr.1 q.1;omega
    have lu:0<=(gi W.IF (c:Int)).cur/\(gi W.IF (c:Int)).cur<(W.IK.length:Int)->(Q8 W (gi W.IF (c:Int)).cur).state=1->Q6 W.IE (Q8 W (gi W.IF (c:Int)).cur).II:=λq hs=>(D0 ha (hts _ q.1 Qo) hs).1
    refine⟨_,_,TK,λ_ _=>⟨_,λ_=>PV h Qo,((Q8 W (gi W.IF (c:Int)).cur).R8==(c:Int))&&Zi W (gi W.IF (c:Int)).cur,λq=>?_,_,λ_=>QL,λg3=>K7 (bad λq=>?_),λg3=>?_⟩⟩
    ·simp only[I1,I8] at q;have:=there q.2;exact LZ h ha this.1 this.2 c0 IX (lu this)
    ·have t0:=ne q;have t1:=q.c2;have y:=q.yes t0;have e2:Yp (gi W.IF (c:Int)).cur 0 ((W.IK.length:Int)-1):=Qr.2 Qo;have lA:(Q8 W (gi W.IF (c:Int)).cur).state=1:=(zez (hts _ t0 Qo) y.2.2.2.2.1).2;have e4:Yp (gi W.IF (c:Int)).WC 1 149:=Qr.2 ⟨y.2.1,y.2.2.1⟩;rw[y.1,e2,lA,y.2.2.2.1,y.2.2.2.2.1,e4] at g3;simp at g3
    ·simp only[I1,I8] at g3;obtain⟨⟨⟨a1,a2⟩,a3⟩,a4⟩:=g3;obtain⟨t0,t1⟩:=there a2;have a4:=Qr.1 a4;simp only[A',Iu] at a3;obtain⟨Ch3,mT⟩:=a3;obtain⟨q,_⟩:=zez (hts _ t0 Qo) mT;have au:=q.g;obtain⟨u1,u2,_⟩:=Q5.1 au
     have sl:∀{x:Int},Q6 W.IE x->0<=x/\x<(W.IE.length:Int)/\(c:Int)<((gi W.IE x).IH.length:Int)/\Pu W x (c:Int):=λ{x} hx=>by
      obtain⟨v1,v2,_⟩:=Q5.1 hx;have c3:(c:Int)<((gi W.IE x).IH.length:Int):=by rw[ha.sl hx];exact IX
      exact⟨v1,v2,c3,hss x (c:Int) v1 Qo c0 c3⟩
     obtain⟨_,_,c2,sp⟩:=sl au;have sh:=h.sh (g:=(Q8 W (gi W.IF (c:Int)).cur).II) u1 u2 c0 c2;have mk:P7 W (c:Int)->DA W (c:Int):=λlA=>⟨g.1,g.2,Qo,t1,λhh=>by omega,λ_=>⟨a1,a4.1,a4.2,Ch3,mT,lA⟩⟩
     refine⟨h.some,_,_,_,h.IK,h.rd.t.ix QF t0 t1,_,_,_,_,_,_,_,_,_,h.rd.t _ t0 t1,λ_ _=>⟨h.rd.t _ t0 t1,rfl,h.IK,_,Yw h u1 u2 c0 c2,sh.1,_,sh.2 (j:=0) rfl,Ei q.v sp.f,_,MN,_,US,λg4=>K7 (bad λqq=>?_),λg4=>?_⟩⟩
     ·have g4:=Ot g4;have hd:¬((Q8 W (gi W.IF (c:Int)).cur).v-(Qb W (Q8 W (gi W.IF (c:Int)).cur).II (c:Int)).IL<=Z6 (gi W.IF (c:Int)).WC (Qe (Q8 W (gi W.IF (c:Int)).cur).nice)):=Int.not_le.2 g4;have:=(qq.yes t0).2.2.2.2.2;unfold P7 at this;rw[decide_eq_false hd] at this;cases this
     ·have g4:=Ou g4;have hd:(Q8 W (gi W.IF (c:Int)).cur).v-(Qb W (Q8 W (gi W.IF (c:Int)).cur).II (c:Int)).IL<=Z6 (gi W.IF (c:Int)).WC (Qe (Q8 W (gi W.IF (c:Int)).cur).nice):=Int.not_lt.1 g4
      have hS:P7 W (c:Int)=VS W (Q8 W (gi W.IF (c:Int)).cur).II (c:Int) (gi W.IF (c:Int)).WC:=by
       unfold P7;rw[Ij hd,Bool.true_and]
      refine⟨λvs=>∃x:Int,vs=[I x]/\Q6 W.IE x/\VS W x (c:Int) (gi W.IF (c:Int)).WC=VS W (Q8 W (gi W.IF (c:Int)).cur).II (c:Int) (gi W.IF (c:Int)).WC,λvs=>(dep 3 W.IE (Y5 0 vs)).toNat,⟨_,rfl,au,rfl⟩,?_⟩;rintro x ⟨x',he,hux,hJ⟩;simp only[I6,I7,true_and,and_true] at he;subst he;refine⟨λhz=>?_,λhz=>?_⟩
      ·have hz:x≠0:=by simpa using hz
       obtain⟨hp,a,b,d,e,e2,hd⟩:=ZR ha.tree hux hz;obtain⟨x1,x2,x3,xs⟩:=sl hux;obtain⟨p1,p2,p3,ps⟩:=sl hp;have sx:=h.sh (g:=x) x1 x2 c0 x3;have spp:=h.sh (g:=(gi W.IE x).IG) p1 p2 c0 p3;unfold VS at hJ;rw[Yb ha.tree hux hz,List.all_cons] at hJ
       refine⟨_,Yw h x1 x2 c0 x3,sx.1,_,sx.2 (j:=2) rfl,h.some,_,_,_,h.IE,h.rd.g.ix x1 x2,_,h.rd.g.IG x1 x2,_,Yw h p1 p2 c0 p3,spp.1,_,spp.2 (j:=0) rfl,Ei xs.v ps.f,sx.1,_,sx.2 (j:=3) rfl,_,US,λg5=>K7 (bad λqq=>?_),λg5=>⟨h.some,_,_,_,h.IE,h.rd.g.ix x1 x2,_,h.rd.g.IG x1 x2,⟨_,rfl,hp,?_⟩,by
        show (dep 3 W.IE (gi W.IE x).IG).toNat<(dep 3 W.IE x).toNat;omega⟩⟩
       ·have g5:=Ot g5;have hd:¬((Qb W x (c:Int)).v-(Qb W (gi W.IE x).IG (c:Int)).IL<=Z6 (gi W.IF (c:Int)).WC (Qb W x (c:Int)).w):=Int.not_le.2 g5;rw[decide_eq_false hd,Bool.false_and] at hJ;have:=(qq.yes t0).2.2.2.2.2;rw[hS] at this;unfold VS at this;rw[<-hJ] at this;cases this
       ·have g5:=Ou g5;have hd:(Qb W x (c:Int)).v-(Qb W (gi W.IE x).IG (c:Int)).IL<=Z6 (gi W.IF (c:Int)).WC (Qb W x (c:Int)).w:=Int.not_lt.1 g5;rw[Ij hd,Bool.true_and] at hJ;exact hJ
      ·have hz:x=0:=by simpa using hz
       subst hz;refine nxt (mk ?_);rw[hS,<-hJ];unfold VS;rw[show QV W.IE 0=[] from Zf _ _,List.all_nil]
  ·have RX:=Ou RX;exact zh8 λt h0 h1=>hI t h0 Qo
def AD(h:Od bs w p W m)(lc:W.IF.length<=maxLen)(lg:W.IE.length<=maxLen):PX bs Xi #[.pointer p] w (.bool (JA (zra W))):=
 KO p λwr hx=>by
  have h:=(h.ext hx).less (cs:=[]) Qs;refine⟨h.some,_,h.now,λb hb=>⟨ZD W.now,λwx hxw hcx=>zw0 hcx,λ_=>h.some,_,_,_,λ_=>h.IF,_,λ_=>QL,Jb W.IF,λg=>PD h ?_,λ_=>h.some,_,_,_,λ_=>h.IK,λ_=>h.some,_,_,_,λ_=>h.IE,Po W.IE,λ_=>zax h.rd.g lg,Oe ?_⟩⟩
  ·simp only[A',Qr] at g;omega
  ·simp only[A',Qr,Iu,Iv,Y2,V4];constructor
   ·rintro⟨⟨⟨⟨e1,e2⟩,e3⟩,e4⟩,e5⟩;exact⟨e1.1,e1.2,Qo,Qo,Qo,e5,e3⟩
   ·intro q;have:=q.t;have:=q.c1;have:=q.c2;exact⟨⟨⟨⟨⟨q.n1,q.n2⟩,Qo⟩,q.ups⟩,Qo⟩,q.tree⟩
def Kv(h:X0 bs w W m)(lc:W.IF.length<=maxLen)(lg:W.IE.length<=maxLen)(hf:∀i:Int,0<=i->i<(W.IE.length:Int)->zdk (gi W.IE i)) :
  PX bs Uq #[.agg (Qa W m).toArray] w (.bool (QH W)):=by
 refine P4 λwr0 tJ=>A6 _ _ _ _ _ _ _ _ _ _ (R:=λv w'=>v=.bool (QH W)/\Q0 [] wr0 w') ?_
 have h:=(h.ext tJ).less (cs:=[]) Qs;intro b wb hxb hb Wn _ b1 fI
 have hP:∀{bs:List Nat} {w1:Wo},Q0 [] wb w1->(∀x∈bs,wb.heap.size<=x)->Od bs w1 (some ⟨b,0,none⟩) W m:=λ{bs w1} hx hbs=>by
  have hbn:b∉bs:=λhm=>by
   have:=hbs b hm;have:=VV Wn;omega
  have sV:X0 bs w1 W m:=((h.ext hxb).wide (cs:=bs) λx hm=>.inr (hbs x hm)).ext hx.of_nil;exact⟨Mp (Ts Wn hx Qs) hbn (k0:=0) λj v hj=>by rw[Nat.zero_add,Nat.zero_add];exact hj,sV⟩
 let Cn:=λ(k:Nat)=>match k with
  |0=>zra W
  |1=>∀k:Int,0<=k->k<8->Pt W k
  |2=>∀t:Int,0<=t->t<12->Ny W t
  |3=>∀k c:Int,0<=k->k<8->0<=c->c<((gi W.IE k).IH.length:Int)->Pu W k c
  |_=>∀c:Int,0<=c->c<(W.IF.length:Int)->DA W c
 have all:Xw W->∀k:Nat,k<5->Cn k:=λq k hk=>by
  have:k=0\/k=1\/k=2\/k=3\/k=4:=Qo;rcases this with rfl|rfl|rfl|rfl|rfl
  ·exact⟨q.a.n1,q.a.n2,q.a.c1,q.a.c2,q.a.t,q.a.tree,q.a.ups⟩
  ·exact q.a.grp
  ·refine λt h0 h1=>⟨q.t t h0 h1,λhs=>?_⟩
   have hu:=D0 q.a (q.t t h0 h1) hs;obtain⟨u1,u2,_⟩:=Q5.1 hu.1;have:=q.a.gl;exact(q.s _ _ u1 Qo hu.2.1 (by rw[q.a.sl hu.1];exact hu.2.2)).f
  ·exact q.s
  ·exact q.c
 have back:(∀k:Nat,k<5->Cn k)->Xw W:=λq=>by
  have q0:zra W:=q 0 Qd;have q1:∀k:Int,0<=k->k<8->Pt W k:=q 1 Qd;have q2:∀t:Int,0<=t->t<12->Ny W t:=q 2 Qd;exact⟨q0.wa q1,λt h0 h1=>(q2 t h0 h1).1,q 3 Qd,q 4 Qd⟩
 have cond:∀k:Nat,k<5->(∀j:Nat,j<k->Cn j)->∀{w1:Wo},Q0 [] wb w1->∃F:FuncId,(#[.func (.func Xi) #[] #[],.func (.func YY) #[] #[],.func (.func Xj) #[] #[],.func (.func YN) #[] #[],.func (.func Xn) #[] #[]]:Array Va)[k]? = some (.func (.func F) #[] #[])/\(∀(w:Wo) (x:Va),(zf3 (.func (.func F) #[] #[]) [x]).run Tryz.prog w=.ok (.enter F #[x]) w)/\∃rv:Bool,(rv=true↔Cn k)/\PX [b1] F #[.pointer (some ⟨b,0,none⟩)] w1 (.bool rv):=λk hk hj {w1} hx=>by
  have hp:=hP (bs:=[b1]) hx (by simpa using fI);have:k=0\/k=1\/k=2\/k=3\/k=4:=Qo;rcases this with rfl|rfl|rfl|rfl|rfl
  ·exact⟨_,rfl,λ_ _=>rfl,_,Qm,AD hp lc lg⟩
  ·have q0:zra W:=hj 0 Qd;exact⟨_,rfl,λ_ _=>rfl,_,Qm,By hp q0 hf⟩
  ·have q0:zra W:=hj 0 Qd;have q1:∀k:Int,0<=k->k<8->Pt W k:=hj 1 Qd;exact⟨_,rfl,λ_ _=>rfl,_,Qm,AE hp (q0.wa q1) lg⟩
  ·have q0:zra W:=hj 0 Qd;have q1:∀k:Int,0<=k->k<8->Pt W k:=hj 1 Qd;exact⟨_,rfl,λ_ _=>rfl,_,Qm,En hp (q0.wa q1) hf⟩
  ·have q0:zra W:=hj 0 Qd;have q1:∀k:Int,0<=k->k<8->Pt W k:=hj 1 Qd;have q2:∀t:Int,0<=t->t<12->Ny W t:=hj 2 Qd;have q3:∀k c:Int,0<=k->k<8->0<=c->c<((gi W.IE k).IH.length:Int)->Pu W k c:=hj 3 Qd;exact⟨_,rfl,λ_ _=>rfl,_,Qm,zaz hp (q0.wa q1) (λt h0 h1=>(q2 t h0 h1).1) q3⟩
 refine⟨λvs w1=>∃k:Nat,vs=[.bool true,I (k:Int)]/\k<=5/\Q0 [] wb w1/\∀j:Nat,j<k->Cn j,Zk 5 1,λwr hx _=>⟨0,rfl,Qo,hx,λj hj=>It hj (Nat.not_lt_zero j)⟩,?_⟩;rintro ok x w1 gZ ⟨k,he,hk,hX,hI⟩;simp only[I6,I7,Value.bool.injEq,true_and,and_true] at he;obtain⟨rfl,rfl⟩:=he
 have fr:∀{w2:Wo},Q0 [b1] w1 w2->Q0 [] wb w2:=λ{w2} hx=>hX.fresh hx λy hm=>.inl (by
  have:y=b1:=by simpa using hm
  omega)
 refine⟨λIX=>?_,λRX wr hx=>⟨?_,hxb.trans (fr hx)⟩⟩
 ·have IX:=Ot IX;obtain⟨F,hF,_⟩:=cond k Qo hI hX;refine⟨.func F,#[],#[],⟨Qo,Qo,by rw[Ii];exact hF⟩,λRa SD Wg=>?_⟩;obtain⟨F',hF',hcv,rv,hrv,hpu⟩:=cond k Qo hI (fr SD);rw[hF] at hF';simp only[I2,Value.func.injEq,Fn.func.injEq,and_self,and_true] at hF';subst hF';refine .inl ⟨F,#[.pointer (some ⟨b,0,none⟩)],?_,?_⟩
  ·exact hcv _ _
  ·refine(hpu Ra (Q0.refl _ _)).mono λe w3 ⟨he,Ru⟩=>⟨rv,he,Qf Ru Wg,λg Rg X'=>⟨?_,hxb.trans ((fr SD).trans Ru |>.fresh X' λy hm=>.inl (by
    have:y=b1:=by simpa using hm
    omega))⟩,λg=>⟨⟨Qo,Qo⟩,λRL X' _=>⟨⟨k+1,Qs,Qo,((fr SD).trans Ru).fresh X' λy hm=>.inl (by
    have:y=b1:=by simpa using hm
    omega),λj hj=>?_⟩,QJ (k:=k) rfl rfl Qo⟩⟩⟩
   ·have g:rv=false:=by simpa using g
    exact K7 λq=>by
     rw[hrv.2 (all q k Qo)] at g;cases g
   ·by_cases gY:j<k
    ·exact hI j gY
    ·have:j=k:=Qo;subst this;exact hrv.1 (by simpa using g)
 ·have RX:=Ou RX;have:k=5:=Qo;subst this;exact zh8 (back hI)
end
def Lb:zj2 Tryz.prog K5 5 ZE 40 (⟨false,0,0,0,0⟩:Pe):=Mr Qk λ_=>rfl
def Ga:Tryz.prog.underlying Y8=some (.slice ZE):=Qk
def OF:zj2 Tryz.prog Ys 9 QR 72 (⟨0,0,0,0,0,0,0,0,0⟩:Pv):=Mr Qk λ_=>rfl
def KX:Tryz.prog.underlying Zn=some (.slice QR):=Qk
section
variable {W:Q7}{m:MW}{w w':Wo}
structure zt3 (base:Nat) (w:Wo) (W:Q7) (m:MW):Prop where
 c:Jy K5 5 ZE base w m.cO m.cC W.IF
 t:Jy Ys 9 QR base w m.tO m.tC W.IK
 g:∃ps:List (ZL×MG),ps.map (·.1)=W.IE/\(λk:Nat=>(gi ps (k:Int)).2)=m.ms/\Mi base w m.gO m.gC ps
def zt3.mono{base aO:Nat}(h:zt3 base w W m)(hb:aO<=base):zt3 aO w W m:=
 ⟨h.c.mono hb,h.t.mono hb,by
  obtain⟨ps,h1,h2,h3⟩:=h.g;exact⟨ps,h1,h2,h3.mono hb⟩⟩
end
def zsl{x bt n:Nat}(hm:x∈[bt])(h:n<=bt):n<=x:=by
 have:x=bt:=by simpa using hm
 omega
structure Sc (w0:Wo) (bs:List Nat) (w:Wo):Prop where
 ext:Q0 [] w0 w
 new:∀x∈bs,w0.heap.size<=x
def Sc.start(w:Wo):Sc w [] w:=⟨Q0.refl _ _,Qs⟩
def Sc.step{w0:Wo}{bs:List Nat}{w w':Wo}(h:Sc w0 bs w)(hx:Q0 bs w w'):Sc w0 bs w':=⟨h.ext.fresh hx λx hm=>.inl (h.new x hm),h.new⟩
def Sc.call{w0:Wo}{bs cs:List Nat}{w w':Wo}(h:Sc w0 bs w)(hx:Q0 cs w w')(hc:∀x∈cs,w0.heap.size<=x):Sc w0 bs w':=⟨h.ext.fresh hx λx hm=>.inl (hc x hm),h.new⟩
def Sc.RJ{w0:Wo}{bs:List Nat}{w w':Wo}(h:Sc w0 bs w)(hx:Q0 [] w w'):Sc w0 bs w':=⟨h.ext.trans hx,h.new⟩
def Sc.add{w0:Wo}{bs:List Nat}{w:Wo}{b:Nat}(h:Sc w0 bs w)(hb:w.heap.size<=b):Sc w0 (bs++[b]) w:=⟨h.ext,λx hm=>by
 rcases Ip.1 hm with hm|hm
 ·exact h.new x hm
 ·have:x=b:=by simpa using hm
  have:=h.ext.size;omega⟩
def Sc.sub{w0:Wo}{bs cs:List Nat}{w:Wo}(h:Sc w0 bs w)(hs:∀x∈cs,x∈bs):Sc w0 cs w:=⟨h.ext,λx hm=>h.new x (hs x hm)⟩
def Sc.put{w0:Wo}{bs:List Nat}{w w':Wo}{b:Nat}(h:Sc w0 bs w)(hx:Q0 bs w w')(hb:w.heap.size<=b):Sc w0 (bs++[b]) w':=⟨(h.step hx).ext,(h.add hb).new⟩
def Sc.sJ{w0:Wo}{bs:List Nat}{w w':Wo}{b b2:Nat}(h:Sc w0 bs w)(hx:Q0 bs w w')(hb:w.heap.size<=b)(cA:w.heap.size<=b2):Sc w0 (bs++[b]++[b2]) w':=⟨(h.step hx).ext,((h.add hb).add cA).new⟩
structure Ob {α:Type} (enc:α->List Va) (z:Nat) (ty:TypeId) (base:Nat) (bs:List Nat) (w:Wo) (o:OA) (cap:Nat) (l:List α):Prop where
 own:Jy enc z ty base w o cap l
 nb:∀x∈QE o,x∉bs
section
variable {α:Type}{enc:α->List Va}{z:Nat}{ty:TypeId}{base:Nat}{bs cs:List Nat}{w w':Wo}{o:OA}{cap:Nat}{l:List α}{b:Nat}
def Ob.of(h:Jy enc z ty base w o cap l)(hs:∀x∈bs,x<base):Ob enc z ty base bs w o cap l:=⟨h,λx hx hm=>by
 have:=(h.lt x hx).1;have:=hs x hm;omega⟩
def Ob.step(h:Ob enc z ty base bs w o cap l)(hx:Q0 bs w w'):Ob enc z ty base bs w' o cap l:=⟨h.own.ext hx h.nb,h.nb⟩
def Ob.RJ(h:Ob enc z ty base bs w o cap l)(hx:Q0 [] w w'):Ob enc z ty base bs w' o cap l:=⟨h.own.gG hx,h.nb⟩
def Ob.call(h:Ob enc z ty base bs w o cap l)(hx:Q0 cs w w')(hd:∀x∈QE o,x∉cs):Ob enc z ty base bs w' o cap l:=⟨h.own.ext hx hd,h.nb⟩
def Ob.add(h:Ob enc z ty base bs w o cap l)(hb:w.heap.size<=b):Ob enc z ty base (bs++[b]) w o cap l:=⟨h.own,λx hx hm=>by
 rcases Ip.1 hm with hm|hm
 ·exact h.nb x hx hm
 ·have:x=b:=by simpa using hm
  have:=(h.own.lt x hx).2;omega⟩
def Ob.put(h:Ob enc z ty base bs w o cap l)(hx:Q0 bs w w')(hb:w.heap.size<=b):Ob enc z ty base (bs++[b]) w' o cap l:=⟨(h.step hx).own,(h.add hb).nb⟩
def Ob.sJ{b2:Nat}(h:Ob enc z ty base bs w o cap l)(hx:Q0 bs w w')(hb:w.heap.size<=b)(cA:w.heap.size<=b2):Ob enc z ty base (bs++[b]++[b2]) w' o cap l:=⟨(h.step hx).own,((h.add hb).add cA).nb⟩
def Ob.sub(h:Ob enc z ty base bs w o cap l)(hs:∀x∈cs,x∈bs):Ob enc z ty base cs w o cap l:=⟨h.own,λx hx hm=>h.nb x hx (hs x hm)⟩
def Ob.mono{aO:Nat}(h:Ob enc z ty base bs w o cap l)(hb:aO<=base):Ob enc z ty aO bs w o cap l:=⟨h.own.mono hb,h.nb⟩
def Ob.rd[Inhabited α](h:Ob enc z ty base bs w o cap l)(hz:∀x,(enc x).length=z):Rd enc z bs w o l:=h.own.rd hz h.nb
def Ob.rd0[Inhabited α](h:Ob enc z ty base bs w o cap l)(hz:∀x,(enc x).length=z):Rd enc z [] w o l:=h.own.rd hz Qs
end
def Rd.scb{α:Type}[Inhabited α]{enc:α->List Va}{z:Nat}{w0:Wo}{bs:List Nat}{w:Wo}{o:OA}{l:List α}(h:Rd enc z [] w0 o l)(hs:Sc w0 bs w):Rd enc z bs w o l:=(h.wide (cs:=bs) λx hm=>.inr (hs.new x hm)).ext hs.ext.of_nil
def zpf{bs cs:List Nat}{w w':Wo}(hx:Q0 cs w w')(hs:∀b∈bs,b<w.heap.size)(hd:∀x∈cs,x∉bs):Q9 bs w w':=λx hm=>hx.block x (hs x hm) λnZ=>hd x nZ hm
def Ob.tY{α:Type}[Inhabited α]{P:Program}{enc:α->List Va}{z:Nat}{ty t:TypeId}{bytes:Nat}{zero:α}(E:zj2 P enc z ty bytes zero)(ht:P.underlying t=some (.slice ty)){base:Nat}{bs:List Nat}{w:Wo}{o:OA}{cap:Nat}{l:List α}(hO:Ob enc z ty base bs w o cap l)(hs:∀x∈bs,x<w.heap.size)(rQ:base<=w.heap.size){x:α}{b:Nat}{t':TypeId}{fz:Nat×Nat}(hb:w.heap[b]? = some (.cells (enc x).toArray t' fz))(h1:Ze (enc x))(hl:l.length<=1048576)(hby:bytes<=1000)(tr:TypeId)(cs:Array Bool) :
  ∃o' mH w',(builtin .append #[t,t] tr cs #[.slice o l.length cap,.slice (some ⟨b,0,none⟩) 1 1]).run P w=.ok (.value (.slice o' (l++[x]).length mH)) w'/\Q9 bs w w'/\Ob enc z ty base bs w' o' mH (l++[x])/\Q0 (QE o) w w':=by
 have hbb:(2*(l.length+1))*bytes<=281474976710656:=IC (Nat.mul_le_mul (show 2*(l.length+1)<=2097154 by omega) hby) Qd;obtain⟨o2,c2,w2,Wa,tF,Rt,ho2⟩:=zhl E ht hO.own hb h1 hbb Qo tr cs rQ;refine⟨o2,c2,w2,Wa,λy hm=>Rt.block y (hs y hm) λnZ=>hO.nb y nZ hm,⟨tF,λy hy hm=>?_⟩,Rt⟩;rcases ho2 with rfl|rfl
 ·exact hO.nb y hy hm
 ·have:y=w.heap.size:=by simpa[QE] using hy
  have:=hs y hm;omega
def XD(f:Nat->Int):Nat->Int
 |0=>0
 |k+1=>XD f k+f k
def UY{f:Nat->Int}{B:Int}(h:∀j,0<=f j/\f j<=B):∀k:Nat,0<=XD f k/\XD f k<=(k:Int)*B
 |0=>by simp[XD]
 |k+1=>by
  have ih:=UY h k;have:=h k;simp only[XD];rw[show ((k+1:Nat):Int)*B=(k:Int)*B+B by rw[show ((k+1:Nat):Int)=(k:Int)+1 by omega,Int.add_mul,Int.one_mul]];omega
def XS(n:Int):0<=Qe n/\Qe n<=20:=by
 unfold Qe;split
 ·rename_i h;have:=Qr.1 h;omega
 ·omega
def AP(W:Q7)(c:Int)(j:Nat):Int:=if (((Q8 W (j:Int)).R8==c)&&Zi W (j:Int))=true then Qe (Q8 W (j:Int)).nice else 0
def zgr(W:Q7)(g c:Int)(j:Nat):Int:=if ((((Q8 W (j:Int)).state==1)&&((Q8 W (j:Int)).R8==c))&&VQ 3 W.IE g (Q8 W (j:Int)).II)=true then Qe (Q8 W (j:Int)).nice else 0
def zsr{W:Q7}{c:Int}{k:Nat}(h:(((Q8 W (k:Int)).R8==c)&&Zi W (k:Int))=false):AP W c k=0:=E' (by rw[h];decide)
def zup{W:Q7}{g c:Int}{k:Nat}(h:((((Q8 W (k:Int)).state==1)&&((Q8 W (k:Int)).R8==c))&&VQ 3 W.IE g (Q8 W (k:Int)).II)):zgr W g c k=Qe (Q8 W (k:Int)).nice:=H' h
def zuo{W:Q7}{g c:Int}{k:Nat}(h:((((Q8 W (k:Int)).state==1)&&((Q8 W (k:Int)).R8==c))&&VQ 3 W.IE g (Q8 W (k:Int)).II)=false):zgr W g c k=0:=E' (by rw[h];decide)
def Pm(W:Q7)(c:Int):Int:=XD (AP W c) W.IK.length
def Aw(W:Q7)(g c:Int):Int:=XD (zgr W g c) W.IK.length
def Fm(W:Q7)(c:Int)(j:Nat):0<=AP W c j/\AP W c j<=20:=by
 unfold AP;split
 ·exact XS _
 ·omega
def Av(W:Q7)(g c:Int)(j:Nat):0<=zgr W g c j/\zgr W g c j<=20:=by
 unfold zgr;split
 ·exact XS _
 ·omega
def Y4(W:Q7)(c:Int):Bool:=Yp c 0 ((W.IF.length:Int)-1)
def Xg{W:Q7}{c:Int}(h:Y4 W c):0<=c/\c<(W.IF.length:Int):=by have:=Qr.1 h;omega
noncomputable def zcl(W:Q7)(c:Int):Int:=if QH W=true/\Y4 W c then Pm W c else 0
def Xw.li{W:Q7}(wp:Xw W){t:Int}(t0:0<=t)(t1:t<(W.IK.length:Int))(hs:(Q8 W t).state=1):Q6 W.IE (Q8 W t).II/\0<=(Q8 W t).R8/\(Q8 W t).R8<(W.IF.length:Int):=by
 have:=wp.a.t;exact D0 wp.a (wp.t t t0 Qo) hs
structure TU (W:Q7):Prop where
 a:WA W
 li:∀{t:Int},0<=t->t<(W.IK.length:Int)->(Q8 W t).state=1->Q6 W.IE (Q8 W t).II/\0<=(Q8 W t).R8/\(Q8 W t).R8<(W.IF.length:Int)
def Xw.tu{W:Q7}(wp:Xw W):TU W:=⟨wp.a,λt0 t1 hs=>wp.li t0 t1 hs⟩
structure Xk (W:Q7):Prop where
 c:W.IF.length<=maxLen
 t:W.IK.length<=maxLen
 g:W.IE.length<=maxLen
 f:∀i:Int,0<=i->i<(W.IE.length:Int)->zdk (gi W.IE i)
section
variable {W:Q7}{m:MW}{w:Wo}{bs:List Nat}{p:OA}
def JK{c:Int}(h:X0 bs w W m)(wp:Xw W):PX bs YU #[.agg (Qa W m).toArray,I c] w (I (Pm W c)):=
 Ci _ _ _ _ _ _ _ _ _ _ c λwr hx=>by
  have h:=(h.ext hx).less (cs:=[]) Qs;have lB:=wp.a.t;intro _ _;refine TM W.IK.length 0 rfl (λx k=>k<=W.IK.length/\x=XD (AP W c) k) ⟨Ig _,rfl⟩ λx k ⟨hk,Rt⟩=>⟨λIX=>?_,λRX=>?_⟩
  ·have IX:=Ot IX;have hr:=UY (Fm W c) k;have hw:=XS (Q8 W (k:Int)).nice;have eF:AP W c k=if (((Q8 W (k:Int)).R8==c)&&Zi W (k:Int))=true then Qe (Q8 W (k:Int)).nice else 0:=rfl;refine⟨h.t.ix QF Qo IX,_,h.t.f Qo IX (j:=0) rfl,λ_=>h.t.ix QF Qo IX,_,λ_=>h.t.f Qo IX (j:=2) rfl,Zi W (k:Int),λ_=>Uz h wp.a Qo IX λhs=>wp.li Qo IX hs,λg2=>⟨h.t.ix QF Qo IX,_,h.t.f Qo IX (j:=3) rfl,Qe (Q8 W (k:Int)).nice,ZG,⟨Qo,Qo⟩,⟨Qo,Qo⟩,QG Qo ⟨Qo,?_⟩⟩,λg2=>⟨⟨Qo,Qo⟩,QG Qo ⟨Qo,?_⟩⟩⟩
   ·have g2:((((Q8 W (k:Int)).state==1)&&((Q8 W (k:Int)).R8==c))&&Zi W (k:Int)):=g2;simp only[A'] at g2;simp only[XD];rw[eF,H' (by rw[g2.1.2,g2.2];rfl),Rt]
   ·have g2:((((Q8 W (k:Int)).state==1)&&((Q8 W (k:Int)).R8==c))&&Zi W (k:Int))=false:=g2
    simp only[XD];rw[eF,E' (λhc=>by
     simp only[A'] at hc;have hl:=hc.2;unfold Zi at hl;simp only[A'] at hl;rw[hc.1,hc.2,hl.1] at g2
     cases g2),Rt];omega
  ·have RX:=Ou RX;have:k=W.IK.length:=Qo;subst this;rw[Rt];rfl
def AF{c:Int}(h:X0 bs w W m)(hl:Xk W):PX bs O1 #[.agg (Qa W m).toArray,I c] w (I (zcl W c)):=
 Cc _ _ _ _ _ _ _ _ _ _ c λwr hx=>by
  have h:=(h.ext hx).less (cs:=[]) Qs;have hm:=YQ;have rM:=hl.c;intro _ _;refine⟨_,YH h hl.c hl.t hl.g hl.f,λ_=>⟨Qo,Qo⟩,_,λ_=>Ql,λg=>?_,λg=>?_⟩
  ·unfold zcl;rw[E'];rintro⟨h1,h2⟩;have h2:Yp c 0 (((W.IF.length:Nat):Int)-1):=h2;rw[h1,h2] at g;cases g
  ·simp only[I1,I8] at g;have e:zcl W c=Pm W c:=by unfold zcl;rw[H' ⟨g.1,g.2⟩]
   exact⟨_,JK h (Qm.1 g.1),by rw[e]⟩
def M1{g c:Int}(h:X0 bs w W m)(wp:TU W)(hl:Xk W)(hu:Q6 W.IE g):PX bs Jt #[.agg (Qa W m).toArray,I g,I c] w (I (Aw W g c)):=
 ES _ _ _ _ _ _ _ _ _ _ g c λwr hx=>by
  have h:=(h.ext hx).less (cs:=[]) Qs;have lB:=wp.a.t;intro _ _;refine TM W.IK.length 0 rfl (λx k=>k<=W.IK.length/\x=XD (zgr W g c) k) ⟨Ig _,rfl⟩ λx k ⟨hk,Rt⟩=>⟨λIX=>?_,λRX=>?_⟩
  ·have IX:=Ot IX;have hr:=UY (Av W g c) k;have hw:=XS (Q8 W (k:Int)).nice
   have hun:(((Q8 W (k:Int)).state==1)&&((Q8 W (k:Int)).R8==c))->Oc W.IE g (Q8 W (k:Int)).II=VQ 3 W.IE g (Q8 W (k:Int)).II:=λq=>by
    simp only[A',Iu] at q;unfold Oc;rw[V4.2 wp.a.tree,hu,(wp.li Qo IX q.1).1];rfl
   have eF:zgr W g c k=if ((((Q8 W (k:Int)).state==1)&&((Q8 W (k:Int)).R8==c))&&VQ 3 W.IE g (Q8 W (k:Int)).II)=true then Qe (Q8 W (k:Int)).nice else 0:=rfl
   have e2:((((Q8 W (k:Int)).state==1)&&((Q8 W (k:Int)).R8==c))&&VQ 3 W.IE g (Q8 W (k:Int)).II)=((((Q8 W (k:Int)).state==1)&&((Q8 W (k:Int)).R8==c))&&Oc W.IE g (Q8 W (k:Int)).II):=by
    cases hq:(((Q8 W (k:Int)).state==1)&&((Q8 W (k:Int)).R8==c)) with
    |false=>rfl
    |true=>rw[hun hq]
   refine⟨h.t.ix QF Qo IX,_,_,_,_,_,_,_,_,_,h.t k Qo IX,λ_ _=>⟨Oc W.IE g (Q8 W (k:Int)).II,λ_=>Th h.g hl.g,λg2=>⟨Qe (Q8 W (k:Int)).nice,ZG,⟨Qo,Qo⟩,⟨Qo,Qo⟩,QG Qo ⟨Qo,?_⟩⟩,λg2=>⟨⟨Qo,Qo⟩,QG Qo ⟨Qo,?_⟩⟩⟩⟩
   ·simp only[XD];rw[zup (W:=W) (g:=g) (c:=c) (k:=k) (e2.trans g2),Rt]
   ·simp only[XD];rw[zuo (W:=W) (g:=g) (c:=c) (k:=k) (e2.trans g2),Rt];omega
  ·have RX:=Ou RX;have:k=W.IK.length:=Qo;subst this;rw[Rt];rfl
def zq7{b:Nat}{wb w1:Wo}{t:TypeId}(Wn:wb.heap[b]? = some (.cells (Qa W m).toArray t (0,0)))(h:X0 [] wb W m)(hx:Q0 [] wb w1)(hbs:∀x∈bs,wb.heap.size<=x):Od bs w1 (some ⟨b,0,none⟩) W m:=by
 have hbn:b∉bs:=λhm=>by
  have:=hbs b hm;have:=VV Wn;omega
 have sV:X0 bs w1 W m:=(h.wide (cs:=bs) λx hm=>.inr (hbs x hm)).ext hx.of_nil;exact⟨Mp (Ts Wn hx Qs) hbn (k0:=0) λj v hj=>by rw[Nat.zero_add,Nat.zero_add];exact hj,sV⟩
def Od.sc{w0 w1:Wo}(h:Od [] w0 p W m)(s:Sc w0 bs w1):Od bs w1 p W m:=(h.wide (cs:=bs) λx hm=>.inr (s.new x hm)).ext s.ext.of_nil
end
def zmu(k:Int):Pe:=⟨Int.tmod (k) 3==0,k+1,k+1+1,k+1+1+1,k+1+1+1+1⟩
def Jy.same{α:Type}{enc:α->List Va}{z:Nat}{ty:TypeId}{base:Nat}{w:Wo}{o:OA}{cap:Nat}{l l':List α}(h:Jy enc z ty base w o cap l)(he:l'.flatMap enc=l.flatMap enc)(hl:l'.length=l.length):Jy enc z ty base w o cap l':=by
 rcases h with ⟨h1,rfl,h3⟩|⟨b,sp,rfl,h1,h2,h3,h4⟩
 ·exact .inl ⟨h1,List.eq_nil_of_length_eq_zero hl,h3⟩
 ·exact .inr ⟨b,sp,rfl,h1,by rw[he];exact h2,by rw[he];exact h3,Qo⟩
def LW{α:Type}{enc:α->List Va}:∀(l:List α) (i:Nat) (x:α),(∀y,l[i]? = some y->enc x=enc y)->(l.set i x).flatMap enc=l.flatMap enc
 |[],_,_,_=>rfl
 |y::r,0,x,h=>by simp only[List.set_cons_zero,List.flatMap_cons];rw[h y rfl]
 |y::r,i+1,x,h=>by
  simp only[List.set_cons_succ,List.flatMap_cons];rw[LW r i x λz hz=>h z (by simpa using hz)]
def zum{α:Type}[Inhabited α]{l:List α}{i:Int}(h0:0<=i)(hi:i<(l.length:Int)):l[i.toNat]? = some (gi l i):=by
 obtain⟨k,rfl⟩:=Int.eq_ofNat_of_zero_le h0;rw[Ii];exact zr0 Qo
section
variable {base:Nat}{w w':Wo}{o:OA}{cap:Nat}{ps:List (ZL×MG)}
def Mi.BN6{α:Type}{enc:α->List Va}{z:Nat}{ty:TypeId}{aO mH:Nat}{o':OA}{l:List α}(h:Mi base w o cap ps)(h':Jy enc z ty aO w o' mH l)(n1:QT≠ty)(n2:Qc≠ty)(n3:YT≠ty)(n4:YA≠ty)(hx:Q0 (QE o') w w'):Mi base w' o cap ps:=
 ⟨h.row.ext hx (h.row.WX h' n1),λi a b=>(h.each i a b).ext hx λx hm=>by
  simp only[Qw,Ip] at hm;rcases hm with (hm|hm)|hm
  ·exact(h.each i a b).loc.WX h' n2 x hm
  ·exact(h.each i a b).RW.WX h' n3 x hm
  ·exact(h.each i a b).shl.WX h' n4 x hm,h.dj⟩
def Mi.RN(h:Mi base w o cap ps){i:Int}(h0:0<=i)(hi:i<(ps.length:Int)){p:ZL×MG}(hp:Mj base w p)(hd:∀j:Int,0<=j->j<(ps.length:Int)->i≠j->∀b∈Qw (gi ps j).2,b∉Qw p.2){j:Nat}{vs:List Va}(he:OG p=(OG (gi ps i)).take j++vs++(OG (gi ps i)).drop (j+vs.length))(hj:j+vs.length<=14):Mi base (YtjinkcmkgnofjaaGreat.RN w o (Int.toNat i*14+j) vs) o cap (ps.set i.toNat p):=by
 have hx:=h.row.tN (Int.toNat i*14+j) vs;have hlen:(ps.set i.toNat p).length=ps.length:=I0;refine⟨h.row.RN X4.len h0 hi he hj,λk hk mL=>?_,λa k ha hal hk mL hak b hb gW=>?_⟩
 ·rw[hlen] at mL;rw[QD _ _ h0 hi hk];split
  ·exact hp.ext hx (XU h.row hp)
  ·exact(h.each k hk mL).ext hx (XU h.row (h.each k hk mL))
 ·rw[hlen] at hal mL;rw[QD _ _ h0 hi ha] at hb;rw[QD _ _ h0 hi hk] at gW
  by_cases e1:i=a
  ·rw[H' e1] at hb
   by_cases e2:i=k
   ·omega
   ·rw[E' e2] at gW;exact hd k hk mL e2 b gW hb
  ·rw[E' e1] at hb
   by_cases e2:i=k
   ·rw[H' e2] at gW;exact hd a ha hal e1 b hb gW
   ·rw[E' e2] at gW;exact h.dj a k ha hal hk mL hak b hb gW
def Mi.in(h:Mi base w o cap ps){i:Int}(h0:0<=i)(hi:i<(ps.length:Int)){p:ZL×MG}{bs:List Nat}(hx:Q0 bs w w')(hb:∀x∈bs,x∈Qw (gi ps i).2)(hp:Mj base w' p)(hm:p.2=(gi ps i).2)(he:OG p=OG (gi ps i)):Mi base w' o cap (ps.set i.toNat p):=by
 have hlen:(ps.set i.toNat p).length=ps.length:=I0;refine⟨?_,λk hk mL=>?_,λa k ha hal hk mL hak b fI gW=>?_⟩
 ·refine(h.row.ext hx λb fI cA=>XU h.row (h.each i h0 hi) b (hb b cA) fI).same (LW _ _ _ λy hy=>?_) hlen;rw[zum h0 hi] at hy;cases hy;exact he
 ·rw[hlen] at mL;rw[QD _ _ h0 hi hk];split
  ·exact hp
  ·rename_i fJ;exact(h.each k hk mL).ext hx λb fI cA=>h.dj i k h0 hi hk mL fJ b (hb b cA) fI
 ·rw[hlen] at hal mL;rw[QD _ _ h0 hi ha] at fI;rw[QD _ _ h0 hi hk] at gW
  have e1:b∈Qw (gi ps a).2:=by
   by_cases e:i=a
   ·rw[H' e,hm,e] at fI;exact fI
   ·rw[E' e] at fI;exact fI
  have e2:b∈Qw (gi ps k).2:=by
   by_cases e:i=k
   ·rw[H' e,hm,e] at gW;exact gW
   ·rw[E' e] at gW;exact gW
  exact h.dj a k ha hal hk mL hak b e1 e2
end
def zm7(W:Q7)(m:MW):List (ZL×MG):=(List.range W.IE.length).map λ(k:Nat)=>(gi W.IE (k:Int),m.ms k)
def Xt(W:Q7)(m:MW):(zm7 W m).length=W.IE.length:=by simp[zm7]
def VF{W:Q7}{m:MW}{i:Int}(h0:0<=i)(hi:i<(W.IE.length:Int)):gi (zm7 W m) i=(gi W.IE i,m.ms i.toNat):=by
 obtain⟨k,rfl⟩:=Int.eq_ofNat_of_zero_le h0;rw[XT (by rw[Xt];omega)];simp[zm7]
def QS(n:Nat)(m:MW):List Nat:=QE m.cO++QE m.tO++QE m.gO++(List.range n).flatMap λ(k:Nat)=>Qw (m.ms k)
structure Yn (n base:Nat) (w:Wo) (W:Q7) (m:MW):Prop where
 c:Jy K5 5 ZE base w m.cO m.cC W.IF
 t:Jy Ys 9 QR base w m.tO m.tC W.IK
 g:Mi base w m.gO m.gC (zm7 W m)
 len:W.IE.length=n
section
variable {n base:Nat}{w w':Wo}{W:Q7}{m:MW}{bs:List Nat}
def ED{x:Nat}(h:x∈QE m.cO):x∈QS n m:=by simp[QS,h]
def EF{x:Nat}(h:x∈QE m.tO):x∈QS n m:=by simp[QS,h]
def EE{x:Nat}(h:x∈QE m.gO):x∈QS n m:=by simp[QS,h]
def JN{x k:Nat}(hk:k<n)(h:x∈Qw (m.ms k)):x∈QS n m:=by
 unfold QS;exact Iz _ (List.mem_flatMap.2 ⟨k,List.mem_range.2 hk,h⟩)
def Fu{x:Nat}(h:x∈QS n m):x∈QE m.cO\/x∈QE m.tO\/x∈QE m.gO\/∃k,k<n/\x∈Qw (m.ms k):=by
 unfold QS at h;simp only[Ip,List.mem_flatMap,List.mem_range] at h;rcases h with ((h|h)|h)|⟨k,hk,h⟩
 ·exact .inl h
 ·exact .inr (.inl h)
 ·exact .inr (.inr (.inl h))
 ·exact .inr (.inr (.inr ⟨k,hk,h⟩))
def Yn.each(h:Yn n base w W m){i:Int}(h0:0<=i)(hi:i<(n:Int)):Mj base w (gi W.IE i,m.ms i.toNat):=by
 have:=h.g.each i h0 (by rw[Xt,h.len];exact hi)
 rwa[VF h0 (by rw[h.len];exact hi)] at this
def Yn.lt(h:Yn n base w W m):∀x∈QS n m,base<=x/\x<w.heap.size:=λx hx=>by
 rcases Fu hx with hx|hx|hx|⟨k,hk,hx⟩
 ·exact h.c.lt x hx
 ·exact h.t.lt x hx
 ·exact h.g.row.lt x hx
 ·exact(h.each (i:=(k:Int)) Qo Qo).lt x (by simpa using hx)
def Yn.ext(h:Yn n base w W m)(hx:Q0 bs w w')(hd:∀x∈QS n m,x∉bs):Yn n base w' W m:=
 ⟨h.c.ext hx λb hb=>hd b (ED hb),h.t.ext hx λb hb=>hd b (EF hb),
  ⟨h.g.row.ext hx λb hb=>hd b (EE hb),λi a b=>by
   have b':i<(W.IE.length:Int):=by rw[Xt] at b;exact b
   have hl:=h.len;refine(h.g.each i a b).ext hx λx hm=>?_
   rw[VF a b'] at hm;exact hd x (JN Qo hm),h.g.dj⟩,h.len⟩
def Yn.gG(h:Yn n base w W m)(hx:Q0 [] w w'):Yn n base w' W m:=h.ext hx Qs
def Yn.mono{aO:Nat}(h:Yn n base w W m)(hb:aO<=base):Yn n aO w W m:=⟨h.c.mono hb,h.t.mono hb,h.g.mono hb,h.len⟩
def Yn.rd(h:Yn n base w W m)(hd:∀x∈QS n m,x∉bs):X0 bs w W m:=by
 have hl:=h.len;refine⟨h.c.rd Lb.len λb hb=>hd b (ED hb),h.t.rd OF.len λb hb=>hd b (EF hb),⟨λi h0 hi=>?_,λi h0 hi=>?_,λi h0 hi=>?_,λi h0 hi=>?_⟩⟩
 ·have:=h.g.row.rd X4.len (bs:=bs) (λb hb=>hd b (EE hb)) i h0 (by rw[Xt];exact hi)
  rwa[VF h0 hi] at this
 ·exact(h.each h0 Qo).loc.rd Yr.len λb hb=>hd b (JN (k:=i.toNat) Qo (by simp[Qw];exact .inl hb))
 ·exact(h.each h0 Qo).RW.rd Xm.len λb hb=>hd b (JN (k:=i.toNat) Qo (by simp[Qw];exact .inr (.inl hb)))
 ·exact(h.each h0 Qo).shl.rd VX.len λb hb=>hd b (JN (k:=i.toNat) Qo (by simp[Qw];exact .inr (.inr hb)))
def Yn.AC1(h:Yn n base w W m){i:Int}(h0:0<=i)(hi:i<(W.IK.length:Int)){j:Nat}{vs:List Va}{x:Pv}(he:Ys x=(Ys (gi W.IK i)).take j++vs++(Ys (gi W.IK i)).drop (j+vs.length))(hj:j+vs.length<=9) :
  Yn n base (RN w m.tO (Int.toNat i*9+j) vs) { W with IK:=W.IK.set i.toNat x } m:=
 ⟨h.c.ext (h.t.tN _ _) (h.c.WX h.t Qd),h.t.RN OF.len h0 hi he hj,h.g.BN6 h.t Qd Qd Qd Qd (h.t.tN _ _),h.len⟩
def Yn.Aa5(h:Yn n base w W m){i:Int}(h0:0<=i)(hi:i<(W.IF.length:Int)){j:Nat}{vs:List Va}{x:Pe}(he:K5 x=(K5 (gi W.IF i)).take j++vs++(K5 (gi W.IF i)).drop (j+vs.length))(hj:j+vs.length<=5) :
  Yn n base (RN w m.cO (Int.toNat i*5+j) vs) { W with IF:=W.IF.set i.toNat x } m:=
 ⟨h.c.RN Lb.len h0 hi he hj,h.t.ext (h.c.tN _ _) (h.t.WX h.c Qd),h.g.BN6 h.c Qd Qd Qd Qd (h.c.tN _ _),h.len⟩
def Oo(m:MW)(k:Nat)(p:MG):MW:={ m with ms:=λj=>if k=j then p else m.ms j }
def zc5(m:MW)(k:Nat):Oo m k (m.ms k)=m:=by
 unfold Oo
 have:(λj=>if k=j then m.ms k else m.ms j)=m.ms:=by
  funext j
  split
  ·rename_i e;rw[e]
  ·rfl
 rw[this]
def zff{i:Int}(h0:0<=i)(hi:i<(W.IE.length:Int))(g:ZL)(p:MG):zm7 { W with IE:=W.IE.set i.toNat g } (Oo m i.toNat p)=(zm7 W m).set i.toNat (g,p):=by
 refine zos (by rw[Xt,I0,I0,Xt]) λk hk=>?_
 rw[Xt,I0] at hk;rw[VF Qo (by rw[I0];omega),QD _ _ h0 hi Qo,QD _ _ h0 (by rw[Xt];exact hi) Qo];simp only[Oo]
 by_cases e:i=(k:Int)
 ·rw[H' e,H' e,H' Qo]
 ·rw[E' e,E' e,E' Qo,VF Qo Qo]
def Yn.Bg8{p:MG}(h:Yn n base w W m){i:Int}(hn:∀x∈Qw p,x∉QS n m\/x∈Qw (m.ms i.toNat))(h0:0<=i)(hi:i<(n:Int)):∀j:Int,0<=j->j<((zm7 W m).length:Int)->i≠j->∀b∈Qw (gi (zm7 W m) j).2,b∉Qw p:=λj hj hjl hij b hb gW=>by
 have hl:=h.len;rw[Xt] at hjl;have cA:=hb;rw[VF hj hjl] at hb;rcases hn b gW with h1|h1
 ·exact h1 (JN Qo hb)
 ·have:=h.g.dj i j h0 (by rw[Xt];omega) hj (by rw[Xt];exact hjl) hij b (by rw[VF h0 Qo];exact h1);exact this cA
def Yn.Bm9(h:Yn n base w W m){i:Int}(h0:0<=i)(hi:i<(n:Int)){g:ZL}{p:MG}(hp:Mj base w (g,p))(hn:∀x∈Qw p,x∉QS n m\/x∈Qw (m.ms i.toNat)){j:Nat}{vs:List Va}(he:YC g p=(YC (gi W.IE i) (m.ms i.toNat)).take j++vs++(YC (gi W.IE i) (m.ms i.toNat)).drop (j+vs.length))(hj:j+vs.length<=14) :
  Yn n base (RN w m.gO (Int.toNat i*14+j) vs) { W with IE:=W.IE.set i.toNat g } (Oo m i.toNat p):=by
 have hl:=h.len;have hx:=h.g.row.tN (Int.toNat i*14+j) vs;refine⟨h.c.ext hx (h.c.WX h.g.row Qd),h.t.ext hx (h.t.WX h.g.row Qd),?_,by rw[I0];exact hl⟩;have:=h.g.RN h0 (by rw[Xt];omega) hp (h.Bg8 hn h0 hi) (j:=j) (vs:=vs) (by rw[VF h0 Qo];exact he) hj;rw[zff h0 Qo];exact this
def Yn.A84(h:Yn n base w W m){i:Int}(h0:0<=i)(hi:i<(n:Int)){g:ZL}(e1:g.IY.locals=(gi W.IE i).IY.locals)(e2:g.IY.RW=(gi W.IE i).IY.RW)(e3:g.IH=(gi W.IE i).IH){j:Nat}{vs:List Va}(he:YC g (m.ms i.toNat)=(YC (gi W.IE i) (m.ms i.toNat)).take j++vs++(YC (gi W.IE i) (m.ms i.toNat)).drop (j+vs.length))(hj:j+vs.length<=14) :
  Yn n base (RN w m.gO (Int.toNat i*14+j) vs) { W with IE:=W.IE.set i.toNat g } m:=by
 have hm:=h.each h0 hi;have:=h.Bm9 h0 hi (g:=g) (p:=m.ms i.toNat) ⟨by rw[e1];exact hm.loc,by rw[e2];exact hm.RW,by rw[e3];exact hm.shl⟩ (λx hx=>.inr hx) he hj
 rwa[zc5] at this
def Yn.in(h:Yn n base w W m){i:Int}(h0:0<=i)(hi:i<(n:Int)){g:ZL}(hx:Q0 bs w w')(hb:∀x∈bs,x∈Qw (m.ms i.toNat))(hp:Mj base w' (g,m.ms i.toNat))(he:YC g (m.ms i.toNat)=YC (gi W.IE i) (m.ms i.toNat)) :
  Yn n base w' { W with IE:=W.IE.set i.toNat g } m:=by
 have hl:=h.len;have hmi:=h.each h0 hi
 have hf:∀{α:Type} {enc:α->List Va} {z:Nat} {ty:TypeId} {aO mH:Nat} {o':OA} {l:List α},Jy enc z ty aO w o' mH l->ty≠Qc->ty≠YT->ty≠YA->∀b∈QE o',b∉bs:=λho n1 n2 n3 b fI cA=>by
  have hm:=hb b cA;simp only[Qw,Ip] at hm;rcases hm with (hm|hm)|hm
  ·exact ho.WX hmi.loc n1 b fI hm
  ·exact ho.WX hmi.RW n2 b fI hm
  ·exact ho.WX hmi.shl n3 b fI hm
 refine⟨h.c.ext hx (hf h.c Qd Qd Qd),h.t.ext hx (hf h.t Qd Qd Qd),?_,by rw[I0];exact hl⟩;have:=h.g.in h0 (by rw[Xt];omega) (p:=(g,m.ms i.toNat)) hx (by rw[VF h0 Qo];exact hb) hp (by rw[VF h0 Qo]) (by rw[VF h0 Qo];exact he);have hs:=zff (m:=m) h0 (W:=W) Qo g (m.ms i.toNat);rw[zc5] at hs;rw[hs];exact this
def zte(W:Q7)(i:Int)(c:Int)(x:MK)(mg:MG):YC { gi W.IE i with IH:=(gi W.IE i).IH.set c.toNat x } mg=YC (gi W.IE i) mg:=by
 simp[YC]
def Yn.BK9(h:Yn n base w W m){i c:Int}(h0:0<=i)(hi:i<(n:Int))(c0:0<=c)(c1:c<((gi W.IE i).IH.length:Int)){j:Nat}{vs:List Va}{x:MK}(he:TY x=(TY (gi (gi W.IE i).IH c)).take j++vs++(TY (gi (gi W.IE i).IH c)).drop (j+vs.length))(hj:j+vs.length<=5) :
  Yn n base (RN w (m.ms i.toNat).sO (Int.toNat c*5+j) vs) { W with IE:=W.IE.set i.toNat { gi W.IE i with IH:=(gi W.IE i).IH.set c.toNat x } } m:=by
 have hm:=h.each h0 hi;have hx:=hm.shl.tN (Int.toNat c*5+j) vs;exact h.in h0 hi hx (λx hx=>by simp[Qw];exact .inr (.inr hx)) ⟨hm.loc.ext hx (hm.loc.WX hm.shl Qd),hm.RW.ext hx (hm.RW.WX hm.shl Qd),hm.shl.RN VX.len c0 c1 he hj⟩ (zte _ _ _ _ _)
end
structure Mv (n base:Nat) (bs:List Nat) (w0:Wo) (m0:MW) (w:Wo) (W:Q7) (m:MW):Prop where
 own:Yn n base w W m
 ext:Q0 (QS n m0) w0 w
 sub:∀x∈QS n m,x∈QS n m0\/w0.heap.size<=x
 hd:m={ m0 with ms:=m.ms }
 nb:∀x∈QS n m,x∉bs
 new:∀x∈bs,w0.heap.size<=x
section
variable {n base:Nat}{bs cs:List Nat}{w0 w w':Wo}{W W':Q7}{m0 m m':MW}{b:Nat}
def Mv.start(h:Yn n base w W m):Mv n base [] w m w W m:=⟨h,Q0.refl _ _,λx hx=>.inl hx,rfl,Qs,Qs⟩
def Mv.add(h:Mv n base bs w0 m0 w W m)(hb:w.heap.size<=b):Mv n base (bs++[b]) w0 m0 w W m:=⟨h.own,h.ext,h.sub,h.hd,λx hx hm=>by
 rcases Ip.1 hm with hm|hm
 ·exact h.nb x hx hm
 ·have:x=b:=by simpa using hm
  have:=(h.own.lt x hx).2;omega,λx hm=>by
 rcases Ip.1 hm with hm|hm
 ·exact h.new x hm
 ·have:x=b:=by simpa using hm
  have:=h.ext.size;omega⟩
def Mv.BX7(h:Mv n base bs w0 m0 w W m)(hs:∀x∈cs,x∈bs):Mv n base cs w0 m0 w W m:=⟨h.own,h.ext,h.sub,h.hd,λx hx hm=>h.nb x hx (hs x hm),λx hm=>h.new x (hs x hm)⟩
def Mv.close(h:Mv n base bs w0 m0 w W m):Mv n base [] w0 m0 w W m:=h.BX7 Qs
def Mv.step(h:Mv n base bs w0 m0 w W m)(hx:Q0 bs w w'):Mv n base bs w0 m0 w' W m:=⟨h.own.ext hx h.nb,h.ext.fresh hx λx hm=>.inl (h.new x hm),h.sub,h.hd,h.nb,h.new⟩
def Mv.RJ(h:Mv n base bs w0 m0 w W m)(hx:Q0 [] w w'):Mv n base bs w0 m0 w' W m:=⟨h.own.gG hx,h.ext.trans hx.of_nil,h.sub,h.hd,h.nb,h.new⟩
def Mv.call(h:Mv n base bs w0 m0 w W m)(k:Mv n base [] w m w' W' m')(hs:∀x∈bs,x<w.heap.size):Mv n base bs w0 m0 w' W' m':=
 ⟨k.own,h.ext.fresh k.ext λx hm=>(h.sub x hm).symm,λx hx=>by
  rcases k.sub x hx with h1|h1
  ·exact h.sub x h1
  ·have:=h.ext.size;exact .inr Qo,by rw[k.hd,h.hd],λx hx hm=>by
  rcases k.sub x hx with h1|h1
  ·exact h.nb x h1 hm
  ·have:=hs x hm;omega,h.new⟩
def Mv.W9(h:Mv n base bs w0 m0 w W m)(k:Yn n base w' W' m)(hx:Q0 (QS n m) w w'):Mv n base bs w0 m0 w' W' m:=
 ⟨k,h.ext.fresh hx λx hm=>(h.sub x hm).symm,h.sub,h.hd,h.nb,h.new⟩
def Mv.kept(h:Mv n base bs w0 m0 w W m)(k:Mv n base [] w m w' W' m')(hs:∀x∈bs,x<w.heap.size):Q9 bs w w':=λx hm=>k.ext.block x (hs x hm) λnZ=>h.nb x nZ hm
def Mv.rd(h:Mv n base bs w0 m0 w W m):X0 bs w W m:=h.own.rd h.nb
def Mv.rd0(h:Mv n base bs w0 m0 w W m):X0 [] w W m:=h.own.rd Qs
def Mv.AI5(h:Mv n base bs w0 m0 w W m){W0:Q7}(e0:W.now=W0.now)(e1:W.IF.length=W0.IF.length)(e2:W.IK.length=W0.IK.length)(e3:W.IE.length=W0.IE.length):Qa W m=Qa W0 m0:=by
 rw[h.hd];simp only[Qa,e0,e1,e2,e3]
end
structure OW (n base:Nat) (bs:List Nat) (w:Wo) (W:Q7) (m:MW):Prop where
 own:Yn n base w W m
 nb:∀x∈QS n m,x∉bs
section
variable {n base:Nat}{bs cs:List Nat}{w w':Wo}{W:Q7}{m:MW}{b:Nat}
def OW.of(h:Yn n base w W m)(hs:∀x∈bs,x<base):OW n base bs w W m:=⟨h,λx hx hm=>by
 have:=(h.lt x hx).1;have:=hs x hm;omega⟩
def OW.step(h:OW n base bs w W m)(hx:Q0 bs w w'):OW n base bs w' W m:=⟨h.own.ext hx h.nb,h.nb⟩
def OW.RJ(h:OW n base bs w W m)(hx:Q0 [] w w'):OW n base bs w' W m:=⟨h.own.gG hx,h.nb⟩
def OW.add(h:OW n base bs w W m)(hb:w.heap.size<=b):OW n base (bs++[b]) w W m:=⟨h.own,λx hx hm=>by
 rcases Ip.1 hm with hm|hm
 ·exact h.nb x hx hm
 ·have:x=b:=by simpa using hm
  have:=(h.own.lt x hx).2;omega⟩
def OW.put(h:OW n base bs w W m)(hx:Q0 bs w w')(hb:w.heap.size<=b):OW n base (bs++[b]) w' W m:=⟨(h.step hx).own,(h.add hb).nb⟩
def OW.sJ{b2:Nat}(h:OW n base bs w W m)(hx:Q0 bs w w')(hb:w.heap.size<=b)(cA:w.heap.size<=b2):OW n base (bs++[b]++[b2]) w' W m:=⟨(h.step hx).own,((h.add hb).add cA).nb⟩
def OW.sub(h:OW n base bs w W m)(hs:∀x∈cs,x∈bs):OW n base cs w W m:=⟨h.own,λx hx hm=>h.nb x hx (hs x hm)⟩
def OW.mono{aO:Nat}(h:OW n base bs w W m)(hb:aO<=base):OW n aO bs w W m:=⟨h.own.mono hb,h.nb⟩
def OW.rd(h:OW n base bs w W m):X0 bs w W m:=h.own.rd h.nb
def OW.rd0(h:OW n base bs w W m):X0 [] w W m:=h.own.rd Qs
end
def QN(p:Nat->Bool)(v:Nat->Int):Nat->Int
 |0 => -1
 |k+1=>if (p k&&(decide (QN p v k<0)||decide (v k<v (QN p v k).toNat)))=true then (k:Int) else QN p v k
def Z9(p:Nat->Bool)(v:Nat->Int):∀k:Nat,(QN p v k = -1/\∀j,j<k->p j=false) \/
  (0<=QN p v k/\QN p v k<(k:Int)/\p (QN p v k).toNat/\(∀j,j<k->p j->v (QN p v k).toNat<=v j)/\∀j:Nat,(j:Int)<QN p v k->p j->v (QN p v k).toNat<v j)
 |0=>.inl ⟨rfl,λj hj=>It hj (Nat.not_lt_zero j)⟩
 |k+1=>by
  simp only[QN];split
  ·rename_i h;simp only[A',Iw,Il] at h;refine .inr ⟨Qo,Qo,by simpa using h.1,λj hj hp=>?_,λj hj hp=>?_⟩
   ·rw[Ii]
    by_cases gY:j=k
    ·subst gY;exact I4 _
    ·rcases Z9 p v k with ⟨_,h2⟩|⟨h1,_,_,h4,_⟩
     ·rw[h2 j Qo] at hp;cases hp
     ·have:=h4 j Qo hp;rcases h.2 with h5|h5 <;> omega
   ·rw[Ii];rcases Z9 p v k with ⟨_,h2⟩|⟨h1,_,_,h4,_⟩
    ·rw[h2 j Qo] at hp;cases hp
    ·have:=h4 j Qo hp;rcases h.2 with h5|h5 <;> omega
  ·rename_i h;rcases Z9 p v k with ⟨h1,h2⟩|⟨h1,h2,h3,h4,h5⟩
   ·refine .inl ⟨h1,λj hj=>?_⟩
    by_cases gY:j=k
    ·subst gY
     cases hp:p j with
     |false=>rfl
     |true=>
      exfalso;apply h
      rw[hp,h1];rfl
    ·exact h2 j Qo
   ·refine .inr ⟨h1,Qo,h3,λj hj hp=>?_,h5⟩
    by_cases gY:j=k
    ·subst gY;rcases Int.lt_or_le (v j) (v (QN p v j).toNat) with h6|h6
     ·exfalso;apply h
      rw[hp,Ij h6];simp
     ·exact h6
    ·exact h4 j Qo hp
def zi3{p:Nat->Bool}{v:Nat->Int}{n k:Nat}(hk:k<n)(hp:p k)(h0:0<=QN p v n)(hv:v k=v (QN p v n).toNat)(hb:∀j,j<k->p j->v j≠v (QN p v n).toNat):QN p v n=(k:Int):=by
 rcases Z9 p v n with ⟨h1,_⟩|⟨_,h2,h3,h4,h5⟩
 ·omega
 ·by_cases IX:(k:Int)<QN p v n
  ·have:=h5 k IX hp;omega
  ·by_cases hgt:QN p v n<(k:Int)
   ·exact It rfl (hb _ Qo h3)
   ·omega
def GI(v:Nat->Int)(l:List Nat):Int:=l.foldl (λ(m:Int) x=>if (decide (m<0)||decide (v x<v m.toNat))=true then (x:Int) else m) (-1)
def D2(v:Nat->Int)(l:List Nat)(x:Nat):GI v (l++[x])=if (decide (GI v l<0)||decide (v x<v (GI v l).toNat))=true then (x:Int) else GI v l:=by
 unfold GI;rw[List.foldl_append];rfl
def KE(p:Nat->Bool)(v:Nat->Int):∀n:Nat,GI v ((List.range n).filter p)=QN p v n
 |0=>rfl
 |n+1=>by
  rw[List.range_succ,List.filter_append];simp only[QN]
  cases hp:p n with
  |false=>simp[hp,KE p v n]
  |true=>
   have:[n].filter p=[n]:=by simp[hp]
   rw[this,D2,KE p v n,Bool.true_and]
def zkz(v:Nat->Int):∀l:List Nat,l≠[]->0<=GI v l:=by
 have key:∀(l:List Nat) (m:Int),0<=m->0<=l.foldl (λ(m:Int) x=>if (decide (m<0)||decide (v x<v m.toNat))=true then (x:Int) else m) m:=λl=>by
  induction l with
  |nil=>exact λm h=>h
  |cons x l ih=>
   intro m h;rw[List.foldl_cons];refine ih _ ?_
   split <;> omega
 intro l hl
 cases l with
 |nil=>exact It rfl hl
 |cons x l=>
  unfold GI;rw[List.foldl_cons];refine key l _ ?_;rw[H' Qs];omega
def QX(W:Q7)(g c:Int)(i:Nat):Bool:=if i<12 then VT W g c i else Xy W g c (i-12)
def QZ(W:Q7)(c:Int)(i:Nat):Int:=if i<12 then (Q8 W (i:Int)).v else (Qb W ((i-12:Nat):Int) c).v
def Qi(W:Q7)(g c:Int):Int:=QN (QX W g c) (QZ W c) 20
def zk3:Nat->Q7->Int->Int->Int
 |0,_,_,_ => -1
 |f+1,W,g,c=>if Qi W g c<0 then -1 else if Qi W g c<12 then Qi W g c else zk3 f W (Qi W g c-12) c
def U5(W:Q7)(g c:Int):Int:=zk3 (4-dep 3 W.IE g).toNat W g c
def Qj(W:Q7)(c:Int):Int:=if (gi W.IF c).cur>=0/\(gi W.IF c).WC<50 then (gi W.IF c).cur else U5 W 0 c
noncomputable def M8(W:Q7)(c:Int):Int:=if QH W=true/\Y4 W c/\(gi W.IF c).up then Qj W c else -1
def XN{W:Q7}{g c:Int}{i:Nat}(h:i<12):QX W g c i=VT W g c i:=H' h
def YZ{W:Q7}{g c:Int}{i:Nat}:QX W g c (12+i)=Xy W g c i:=by
 unfold QX;rw[E' Qo,show 12+i-12=i by omega]
def Mx{W:Q7}{c:Int}{i:Nat}(h:i<12):QZ W c i=(Q8 W (i:Int)).v:=H' h
def Mw{W:Q7}{c:Int}{i:Nat}:QZ W c (12+i)=(Qb W (i:Int) c).v:=by
 unfold QZ;rw[E' Qo,show 12+i-12=i by omega]
def zky(W:Q7)(g c:Int):QX W g c 12=false:=by
 rw[show (12:Nat)=12+0 from rfl,YZ];rfl
def Oq{W:Q7}{g c:Int}(ha:WA W)(hu:Q6 W.IE g)(h:12<=Qi W g c):Q6 W.IE (Qi W g c-12)/\Qi W g c-12≠0/\dep 3 W.IE (Qi W g c-12)=dep 3 W.IE g+1/\Qi W g c<20:=by
 unfold Qi at *;rcases Z9 (QX W g c) (QZ W c) 20 with ⟨h1,_⟩|⟨h1,h2,h3,_,_⟩
 ·omega
 ·have e:(QN (QX W g c) (QZ W c) 20).toNat=12+((QN (QX W g c) (QZ W c) 20).toNat-12):=Qo;rw[e,YZ] at h3;unfold Xy at h3;simp only[A',Il,Iu] at h3;obtain⟨⟨k1,k2,k3⟩,_⟩:=h3;have ek:(((QN (QX W g c) (QZ W c) 20).toNat-12:Nat):Int)=QN (QX W g c) (QZ W c) 20-12:=Qo;rw[ek] at k2 k3;have cN:=ha.gl;have hk:Q6 W.IE (QN (QX W g c) (QZ W c) 20-12):=Q5.2 ⟨Qo,Qo,k2⟩;have hz:QN (QX W g c) (QZ W c) 20-12≠0:=Qo;obtain⟨_,_,_,d,e1,e2,_⟩:=ZR ha.tree hk hz;rw[k3] at e2;exact⟨hk,hz,Qo,Qo⟩
def OD{W:Q7}(ha:WA W){g:Int}(hu:Q6 W.IE g):0<=dep 3 W.IE g/\dep 3 W.IE g<=3:=by
 have hr:=VW W.IE 3 g
 by_cases hz:g=0
 ·subst hz;rw[Ye];omega
 ·obtain⟨_,_,_,d,e1,_⟩:=ZR ha.tree hu hz;omega
def Ox{W:Q7}(ha:WA W){g c:Int}(hu:Q6 W.IE g):U5 W g c=if Qi W g c<0 then -1 else if Qi W g c<12 then Qi W g c else U5 W (Qi W g c-12) c:=by
 have hd:=OD ha hu;have e:(4-dep 3 W.IE g).toNat=(3-dep 3 W.IE g).toNat+1:=Qo;show zk3 (4-dep 3 W.IE g).toNat W g c=_;rw[e];simp only[zk3];split
 ·rfl
 ·split
  ·rfl
  ·obtain⟨_,_,hk,_⟩:=Oq ha hu (c:=c) Qo;unfold U5;rw[hk,show (4-(dep 3 W.IE g+1))=3-dep 3 W.IE g by omega]
section
variable {W:Q7}{m:MW}{w:Wo}{bs:List Nat}{p:OA}
def Zc(W:Q7)(g c:Int)(k:Nat):Int:=if QN (QX W g c) (QZ W c) k<0 then 0 else QZ W c (QN (QX W g c) (QZ W c) k).toNat
def ZO(W:Q7)(g c:Int)(k:Nat):Bool:=decide (0<=QN (QX W g c) (QZ W c) k)
def zb4{W:Q7}{g c:Int}{k:Nat}:(decide (QN (QX W g c) (QZ W c) k<0)||decide (QZ W c k<QZ W c (QN (QX W g c) (QZ W c) k).toNat))=(!ZO W g c k||decide (QZ W c k<Zc W g c k)):=by
 unfold ZO Zc
 by_cases h:QN (QX W g c) (QZ W c) k<0
 ·have h2:decide (0<=QN (QX W g c) (QZ W c) k)=false:=decide_eq_false Qo;rw[H' h,Ij h,h2];rfl
 ·have h2:decide (0<=QN (QX W g c) (QZ W c) k):=Ij Qo;rw[E' h,decide_eq_false h,h2];rfl
def zf0{W:Q7}{g c:Int}{k:Nat}(h:(QX W g c k&&(!ZO W g c k||decide (QZ W c k<Zc W g c k)))):Zc W g c (k+1)=QZ W c k/\ZO W g c (k+1):=by
 rw[<-zb4] at h
 have e:QN (QX W g c) (QZ W c) (k+1)=(k:Int):=by
  simp only[QN];rw[H' h]
 unfold Zc ZO;rw[e,E' Qo,Ii];exact⟨rfl,Ij Qo⟩
def zd2{W:Q7}{g c:Int}{k:Nat}(h:(QX W g c k&&(!ZO W g c k||decide (QZ W c k<Zc W g c k)))=false):Zc W g c (k+1)=Zc W g c k/\ZO W g c (k+1)=ZO W g c k:=by
 rw[<-zb4] at h
 have e:QN (QX W g c) (QZ W c) (k+1)=QN (QX W g c) (QZ W c) k:=by
  simp only[QN];rw[E' (by rw[h];decide)]
 unfold Zc ZO;rw[e];exact⟨rfl,rfl⟩
def KA{g c:Int}(h:X0 bs w W m)(ha:WA W)(c0:0<=c)(c1:c<(W.IF.length:Int)):PX bs Uu #[.agg (Qa W m).toArray,I g,I c] w (.tuple #[I (Zc W g c 20),.bool (ZO W g c 20)]):=
 Co _ _ _ _ _ _ _ _ _ _ g c λwr hx=>by
  have h:=(h.ext hx).less (cs:=[]) Qs;have cN:=ha.gl;have lB:=ha.t;intro _ _;refine⟨λvs=>∃k:Nat,k<=12/\vs=[I (Zc W g c k),.bool (ZO W g c k),I (k:Int)],J5 12 2,⟨0,Qo,rfl⟩,?_⟩;rintro aT some t ⟨k,hk,he⟩;simp only[I6,I7,Value.bool.injEq,true_and,and_true] at he;obtain⟨rfl,rfl,rfl⟩:=he;refine⟨λIX=>?_,λRX=>?_⟩
  ·have IX:=Ot IX;have kZ:k<12:=Qo;refine⟨h.t.ix QF Qo IX,_,_,_,_,_,_,_,_,_,h.t k Qo IX,λ_ _=>⟨λq=>⟨⟨Qo,Qo⟩,⟨k+1,Qo,?_⟩,QJ (k:=k) rfl rfl kZ⟩,λq=>⟨⟨Qo,Qo⟩,⟨k+1,Qo,?_⟩,QJ (k:=k) rfl rfl kZ⟩⟩⟩
   ·have q':(QX W g c k&&(!ZO W g c k||decide (QZ W c k<Zc W g c k))):=by rw[XN kZ,Mx kZ];exact q
    obtain⟨e1,e2⟩:=zf0 q';rw[e1,e2,Mx kZ];simp[Q8]
   ·have q':(QX W g c k&&(!ZO W g c k||decide (QZ W c k<Zc W g c k)))=false:=by rw[XN kZ,Mx kZ];exact q
    obtain⟨e1,e2⟩:=zd2 q';rw[e1,e2];simp
  ·have RX:=Ou RX;have:k=12:=Qo;subst this;have e12:Zc W g c 13=Zc W g c 12/\ZO W g c 13=ZO W g c 12:=zd2 (by rw[zky];rfl);refine⟨λvs=>∃k:Nat,1<=k/\k<=8/\vs=[I (Zc W g c (12+k)),.bool (ZO W g c (12+k)),I (k:Int)],J5 8 2,⟨1,Qo,Qo,by rw[show 12+1=13 from rfl,e12.1,e12.2];rfl⟩,?_⟩;rintro jL Cz9 t1 ⟨k,hk1,hk,he⟩;simp only[I6,I7,Value.bool.injEq,true_and,and_true] at he;obtain⟨rfl,rfl,rfl⟩:=he;refine⟨λIX=>?_,λRX=>?_⟩
   ·have IX:=Ot IX;have dD:(0:Int)<=(k:Int):=Qo
    have IW:∀{x:Bool},(((gi W.IE (k:Int)).IW&&((gi W.IE (k:Int)).IG==g))&&x)->Q6 W.IE (k:Int)/\c<((gi W.IE (k:Int)).IH.length:Int):=λ{x} q=>by
     simp only[A'] at q;have hu:=Nw IX q.1.1;exact⟨hu,by rw[ha.sl hu];exact c1⟩
    have eA:Xy W g c k=(((gi W.IE (k:Int)).IW&&((gi W.IE (k:Int)).IG==g))&&(Qb W (k:Int) c).on):=by
     unfold Xy;rw[Ij hk1,Bool.true_and]
    have eP:QX W g c (12+k)=(((gi W.IE (k:Int)).IW&&((gi W.IE (k:Int)).IG==g))&&(Qb W (k:Int) c).on):=by rw[YZ,eA]
    refine⟨h.g.ix dD IX,_,h.g.IW dD IX,λ_=>h.g.ix dD IX,_,λ_=>h.g.IG dD IX,(Qb W (k:Int) c).on,λq=>UA h ha (IW (x:=true) (by rw[q];rfl)).1 c0 c1,λ_ _=>h.g.ix dD IX,_,_,_,λ_ _=>h.g.RY dD IX,λ_ q=>(h.g.IH _ dD IX).ix Zz c0 (IW q).2,(Qb W (k:Int) c).v,λ_ q=>zia.f (h.g.IH _ dD IX) c0 (IW q).2 (j:=2) rfl,λq=>?_,λq=>⟨⟨Qo,Qo⟩,⟨k+1,Qo,Qo,?_⟩,QJ (k:=k) rfl rfl Qo⟩⟩
    ·have q2:=q;simp only[A'] at q2;have hu:=IW (x:=(Qb W (k:Int) c).on) (by simp only[A'];exact q2.1);have q':(QX W g c (12+k)&&(!ZO W g c (12+k)||decide (QZ W c (12+k)<Zc W g c (12+k)))):=by rw[eP,Mw];exact q
     obtain⟨e1,e2⟩:=zf0 q';refine⟨h.g.ix dD IX,_,_,_,h.g.RY dD IX,(h.g.IH _ dD IX).ix Zz c0 hu.2,_,zia.f (h.g.IH _ dD IX) c0 hu.2 (j:=2) rfl,⟨Qo,Qo⟩,⟨k+1,Qo,Qo,?_⟩,QJ (k:=k) rfl rfl Qo⟩;rw[show 12+(k+1)=12+k+1 from rfl,e1,e2,Mw];simp[Qb]
    ·have q':(QX W g c (12+k)&&(!ZO W g c (12+k)||decide (QZ W c (12+k)<Zc W g c (12+k))))=false:=by rw[eP,Mw];exact q
     obtain⟨e1,e2⟩:=zd2 q';rw[show 12+(k+1)=12+k+1 from rfl,e1,e2];simp
   ·have RX:=Ou RX;have:k=8:=Qo;subst this;rfl
def za7{g c:Int}(h:X0 bs w W m)(ha:WA W)(hu:Q6 W.IE g)(c0:0<=c)(c1:c<(W.IF.length:Int)):PX bs JJ #[.agg (Qa W m).toArray,I g,I c] w (I (U5 W g c)):=by
 have cN:=ha.gl;have lB:=ha.t
 have key:∀(n:Nat) (g:Int),Q6 W.IE g->(3-dep 3 W.IE g).toNat=n->∀{bs:List Nat} {w:Wo},X0 bs w W m->PX bs JJ #[.agg (Qa W m).toArray,I g,I c] w (I (U5 W g c)):=by
  intro n
  induction n using Nat.strongRecOn with
  |ind n ih=>
   intro g hu hn bs w h;refine zbu _ _ _ _ _ _ _ _ _ _ g c λwr hx=>?_
   have h:=(h.ext hx).less (cs:=[]) Qs;have hZ:=Ox ha hu (c:=c);have hd:=OD ha hu;intro _ _;refine⟨_,_,KA h ha c0 c1,λq=>?_,λq=>?_⟩
   ·have q:¬0<=QN (QX W g c) (QZ W c) 20:=by
     unfold ZO at q
     simpa using q
    have q:¬0<=Qi W g c:=q;rw[hZ,H' Qo]
   have hF0:0<=QN (QX W g c) (QZ W c) 20:=by
    unfold ZO at q
    simpa using q
   have hF:0<=Qi W g c:=hF0
   have By5:Zc W g c 20=QZ W c (Qi W g c).toNat:=by
    show (if Qi W g c<0 then 0 else QZ W c (Qi W g c).toNat)=_;rw[E' (show ¬Qi W g c<0 by omega)]
   have found:∀k:Nat,k<20->QX W g c k->QZ W c k=Zc W g c 20->(∀j,j<k->QX W g c j->QZ W c j≠Zc W g c 20)->Qi W g c=(k:Int):=λk hk hp hv hb=>by
    rw[By5] at hv hb;exact zi3 hk hp hF hv hb
   refine⟨λvs=>∃k:Nat,vs=[I (k:Int)]/\k<=12/\∀j,j<k->QX W g c j->QZ W c j≠Zc W g c 20,J5 12 0,⟨0,rfl,Qo,λj hj=>It hj (Nat.not_lt_zero j)⟩,?_⟩;rintro t ⟨k,he,hk,hI⟩;simp only[I6,I7,true_and,and_true] at he;subst he;refine⟨λIX=>?_,λRX=>?_⟩
   ·have IX:=Ot IX;have kZ:k<12:=Qo;refine⟨h.t.ix QF Qo IX,_,_,_,_,_,_,_,_,_,h.t k Qo IX,λb1 fI=>⟨λq2=>?_,λq2=>⟨⟨Qo,Qo⟩,⟨k+1,Qs,Qo,λj hj hp hv=>?_⟩,QJ (k:=k) rfl rfl kZ⟩⟩⟩
    ·have q2':(VT W g c k&&((Q8 W (k:Int)).v==Zc W g c 20)):=q2;simp only[A',Iu] at q2';have:=found k Qo (by rw[XN kZ];exact q2'.1) (by rw[Mx kZ];exact q2'.2) hI;rw[hZ,E' Qo,H' Qo,this]
    ·by_cases gY:j<k
     ·exact hI j gY hp hv
     ·have:j=k:=Qo;subst this;rw[XN kZ] at hp;rw[Mx kZ] at hv;have q2':(VT W g c j&&((Q8 W (j:Int)).v==Zc W g c 20))=false:=q2;rw[hp,hv] at q2';simp at q2'
   ·have RX:=Ou RX;have:k=12:=Qo;subst this
    refine⟨λvs=>∃k:Nat,vs=[I (k:Int)]/\1<=k/\k<=8/\∀j,j<12+k->QX W g c j->QZ W c j≠Zc W g c 20,J5 8 0,⟨1,rfl,Qo,Qo,λj hj hp=>by
     by_cases tG:j<12
     ·exact hI j tG hp
     ·have:j=12:=Qo;subst this;rw[zky] at hp;cases hp⟩,?_⟩
    rintro t2 ⟨k,he,hk1,hk,hI2⟩;simp only[I6,I7,true_and,and_true] at he;subst he;refine⟨λIX=>?_,λdA=>?_⟩
    ·have IX:=Ot IX;have dD:(0:Int)<=(k:Int):=Qo
     have IW:∀{x:Bool},(((gi W.IE (k:Int)).IW&&((gi W.IE (k:Int)).IG==g))&&x)->Q6 W.IE (k:Int)/\c<((gi W.IE (k:Int)).IH.length:Int):=λ{x} q=>by
      simp only[A'] at q;have hu:=Nw IX q.1.1;exact⟨hu,by rw[ha.sl hu];exact c1⟩
     have eA:Xy W g c k=(((gi W.IE (k:Int)).IW&&((gi W.IE (k:Int)).IG==g))&&(Qb W (k:Int) c).on):=by
      unfold Xy;rw[Ij hk1,Bool.true_and]
     have eP:QX W g c (12+k)=(((gi W.IE (k:Int)).IW&&((gi W.IE (k:Int)).IG==g))&&(Qb W (k:Int) c).on):=by rw[YZ,eA]
     refine⟨h.g.ix dD IX,_,h.g.IW dD IX,λ_=>h.g.ix dD IX,_,λ_=>h.g.IG dD IX,(Qb W (k:Int) c).on,λq=>UA h ha (IW (x:=true) (by rw[q];rfl)).1 c0 c1,λ_=>h.g.ix dD IX,_,_,_,λ_=>h.g.RY dD IX,λq=>(h.g.IH _ dD IX).ix Zz c0 (IW q).2,(Qb W (k:Int) c).v,λq=>zia.f (h.g.IH _ dD IX) c0 (IW q).2 (j:=2) rfl,λq=>?_,λq=>⟨⟨Qo,Qo⟩,⟨k+1,Qs,Qo,Qo,λj hj hp hv=>?_⟩,QJ (k:=k) rfl rfl Qo⟩⟩
     ·have q2:=q;simp only[A',Iu] at q2;have hfk:=found (12+k) Qo (by rw[eP];simp only[A',Iu];exact q2.1) (by rw[Mw];exact q2.2) hI2;have B78:=Oq ha hu (c:=c) Qo;have ek:Qi W g c-12=(k:Int):=Qo;rw[ek] at B78;have hdk:=OD ha B78.1;refine⟨_,ih _ (show (3-dep 3 W.IE (k:Int)).toNat<n by omega) (k:Int) B78.1 rfl h,?_⟩;rw[hZ,E' Qo,E' Qo,ek]
     ·by_cases gY:j<12+k
      ·exact hI2 j gY hp hv
      ·have:j=12+k:=Qo;subst this;rw[eP] at hp;rw[Mw] at hv;rw[hp,hv] at q;simp at q
    ·have dA:=Ou dA;have:k=8:=Qo;subst this;rcases Z9 (QX W g c) (QZ W c) 20 with ⟨h1,_⟩|⟨h1,h2,h3,_,_⟩
     ·have:Qi W g c = -1:=h1;omega
     ·exact It By5.symm (hI2 (Qi W g c).toNat (by unfold Qi;omega) h3)
 exact key _ g hu rfl h
def G6{c:Int}(h:X0 bs w W m)(ha:WA W)(c0:0<=c)(c1:c<(W.IF.length:Int)):PX bs Vy #[.agg (Qa W m).toArray,I c] w (I (Qj W c)):=by
 refine zbv _ _ _ _ _ _ _ _ _ _ c λwr hx=>?_
 have h:=(h.ext hx).less (cs:=[]) Qs;intro _ _;refine⟨h.c.ix Zy c0 c1,_,h.c.f c0 c1 (j:=1) rfl,λ_=>h.c.ix Zy c0 c1,_,λ_=>h.c.f c0 c1 (j:=2) rfl,λg=>⟨h.c.ix Zy c0 c1,_,h.c.f c0 c1 (j:=1) rfl,?_⟩,λg=>⟨_,za7 h ha ha.root c0 c1,?_⟩⟩
 ·simp only[A',Il] at g;unfold Qj;rw[H' g]
 ·unfold Qj;rw[E' (λhc=>by
   rw[Ij hc.1,Ij hc.2] at g;cases g)]
def zgv{c:Int}(h:X0 bs w W m)(hl:W.IF.length<=maxLen):PX bs Ms #[.agg (Qa W m).toArray,I c] w (.bool (Y4 W c&&(gi W.IF c).up)):=
 zg8 _ _ _ _ _ _ _ _ _ _ c λwr hx=>by
  have h:=(h.ext hx).less (cs:=[]) Qs;have hm:=YQ;intro _ _;exact⟨⟨Qo,Qo⟩,Y4 W c,Ql,λq=>h.c.ix Zy (Xg q).1 (Xg q).2,_,λq=>h.c.f (Xg q).1 (Xg q).2 (j:=0) rfl,rfl⟩
def Et{c:Int}(h:X0 bs w W m)(hl:Xk W):PX bs Vs #[.agg (Qa W m).toArray,I c] w (I (M8 W c)):=by
 refine EQ _ _ _ _ _ _ _ _ _ _ c λwr hx=>?_
 have h:=(h.ext hx).less (cs:=[]) Qs;intro _ _;refine⟨_,YH h hl.c hl.t hl.g hl.f,_,λ_=>zgv h hl.c,λg=>?_,λg=>?_⟩
 ·unfold M8;rw[E'];rintro⟨h1,h2,h3⟩;rw[h1,h2,h3] at g;cases g
 ·simp only[I1,I8,A'] at g;have e:M8 W c=Qj W c:=by unfold M8;rw[H' ⟨g.1,g.2.1,g.2.2⟩]
  rw[e];obtain⟨c0,c1⟩:=Xg g.2.1;exact⟨_,G6 h (Qm.1 g.1).a c0 c1,rfl⟩
end
end Go.Proofs.YtjinkcmkgnofjaaGreat
