/- Part 15 of what the law FnPull needs: the engine, the functions' propositions, the contracts. -/
import Derived.Test.YtclpmgfpjeaibaaGreatFnPullPn
import Derived.Shelf.Abstract
namespace Go.Proofs.YtclpmgfpjeaibaaGreat
open Go.RowKit
set_option linter.unusedVariables false
set_option linter.unusedSimpArgs false
set_option maxRecDepth 10000
set_option maxHeartbeats 8000000
def ztg(W:Q8)(a b:Int):Bool:=decide (UG W a>UG W b)
def Ti(W:Q8)(c m:Int):Nat->Int
 | 0 => -1
 | k+1=>if ((QP m (k:Int)&&KK W (k:Int) c)&&(decide (Ti W c m k<0)||ztg W (k:Int) (Ti W c m k)))=true then (k:Int) else Ti W c m k
theorem Ck{W:Q8}{c m:Int}{k:Nat}(h:((QP m (k:Int)&&KK W (k:Int) c)&&(decide (Ti W c m k<0)||ztg W (k:Int) (Ti W c m k)))=true):Ti W c m (k+1)=(k:Int):=if_pos h
theorem G7{W:Q8}{c m:Int}{k:Nat}(h:¬((QP m (k:Int)&&KK W (k:Int) c)&&(decide (Ti W c m k<0)||ztg W (k:Int) (Ti W c m k)))=true):Ti W c m (k+1)=Ti W c m k:=if_neg h
theorem ztq{p:Nat->Bool}{n:Nat}(h:p n=false):Tg p (n+1)=Tg p n:=by simp[Tg,h]
theorem P8(W:Q8)(c m:Int):∀k:Nat,-1<=Ti W c m k/\Ti W c m k<k
 | 0=>by simp[Ti]
 | k+1=>by
  have:=P8 W c m k;simp only[Ti]
  split <;> omega
noncomputable def ZL(W:Q8)(c lv:Int):Int:=Ti W c (Gp (W.cpus.length:Int) c lv) W.cpus.length
theorem zqt{W:Q8}(wp:YW W){b c:Int}(h:KK W b c=true):0<=b/\b<(W.cpus.length:Int)/\b≠c:=by
 obtain⟨t,ht,hp⟩:=L5.1 h;simp only[Bool.and_eq_true,beq_iff_eq] at hp;obtain⟨h1,h2⟩:=M2 hp.2;have:=wp.li (t:=(t:Int)) (by omega) (by have:=wp.a.t; omega) h1;rw[hp.1] at this h2;exact⟨this.2.1,this.2.2,h2⟩
def VG(W:Q8)(c m:Int)(k:Nat):List Int:=(zhh m k).filter fun x=>KK W x c
theorem zef{lt:Int->Int->Bool}{l r:List Int}:∀k:Nat,k<=l.length->X0 lt (l++r) k=X0 lt l k
 | 0,_=>rfl
 | k+1,hk=>by
  have e:gi (l++r) (k:Int)=gi l (k:Int):=by
   unfold gi;rw[Int.toNat_natCast];simp[List.getElem?_append_left (show k<l.length by omega)]
  simp only[X0];rw[zef k (by omega),e]
theorem zks{lt:Int->Int->Bool}{l:List Int}{x:Int}:X0 lt (l++[x]) (l++[x]).length=if (!(X0 lt l l.length).2||lt x (X0 lt l l.length).1)=true then (x,true) else X0 lt l l.length:=by
 rw[List.length_append,List.length_singleton];simp only[X0];rw[zef l.length (Nat.le_refl _),HN l [] x]
theorem zel(W:Q8)(c m:Int):∀k:Nat,X0 (ztg W) (VG W c m k) (VG W c m k).length=if Ti W c m k<0 then (0,false) else (Ti W c m k,true)
 | 0=>rfl
 | k+1=>by
  have ih:=zel W c m k;have hr:=P8 W c m k
  cases hh:QP m (k:Int) with
  | false=>
   have:VG W c m (k+1)=VG W c m k:=by unfold VG; rw[zaj hh]
   rw[this,ih,G7 (by rw[hh]; simp)]
  | true=>
   cases ha:KK W (k:Int) c with
   | false=>
    have:VG W c m (k+1)=VG W c m k:=by unfold VG; rw[LD hh,List.filter_append]; simp[ha]
    rw[this,ih,G7 (by rw[hh,ha]; simp)]
   | true=>
    have:VG W c m (k+1)=VG W c m k++[(k:Int)]:=by unfold VG; rw[LD hh,List.filter_append]; simp[ha]
    rw[this,zks,ih]
    by_cases hn:Ti W c m k<0
    ·rw[if_pos hn,Ck (by rw[hh,ha,decide_eq_true hn]; rfl),if_neg (by omega:¬(k:Int)<0),if_pos (by rfl)]
    ·rw[if_neg hn]
     cases hl:ztg W (k:Int) (Ti W c m k) with
     | true=>rw[Ck (by rw[hh,ha,hl]; simp),if_neg (by omega:¬(k:Int)<0),if_pos (by rfl)]
     | false=>rw[G7 (by rw[hh,ha,hl,decide_eq_false hn]; simp),if_neg hn,if_neg (by simp)]
theorem zqv{W:Q8}{c lv:Int}(h4:W.cpus.length<=4):Ti W c (Gp (W.cpus.length:Int) c lv) 4=ZL W c lv:=by
 unfold ZL
 have key:∀j:Nat,W.cpus.length+j<=4->Ti W c (Gp (W.cpus.length:Int) c lv) (W.cpus.length+j)=Ti W c (Gp (W.cpus.length:Int) c lv) W.cpus.length:=by
  intro j
  induction j with
  | zero=>intro _; rfl
  | succ j ih=>
   intro hj;rw[show W.cpus.length+(j+1)=(W.cpus.length+j)+1 from rfl];rw[G7 (by rw[zsp (by omega) (by omega)]; simp),ih (by omega)]
 have:=key (4-W.cpus.length) (by omega)
 rwa[show W.cpus.length+(4-W.cpus.length)=4 by omega] at this
section
variable {W:Q8}{m:MW}{w:Wo}{bs:List Nat}{p:OA}
theorem Ec{s c:Int}(h:Xt bs w W m)(wp:YW W)(c0:0<=c)(c1:c<(W.cpus.length:Int)):PX bs Vf #[.agg (Qa W m).toArray,.int .i64 s,.int .i64 c] w (.int .i64 (Ti W c s W.cpus.length)):=
 Ev W.now m.cO W.cpus.length m.cC m.tO W.tasks.length m.tC m.gO W.groups.length m.gC s c fun wr hx=>by
  have h:=(h.ext hx).less (cs:=[]) (by simp);have h4:=wp.a.c2;have htl:=wp.a.t;intro _ _;refine T3 W.cpus.length 0 rfl (fun x k=>k<=W.cpus.length/\x=Ti W c s k) ⟨Nat.zero_le _,rfl⟩ fun x k ⟨hk,hx2⟩=>⟨fun hlt=>?_,fun hge=>?_⟩
  ·subst hx2;have hlt:=Ot hlt;have hr:=P8 W c s k;refine⟨_,fun _=>Zy,_,fun _ _=>T1 h wp,_,fun _ _=>T1 h wp,fun g=>?_,fun g=>?_⟩
   ·refine⟨⟨by omega,by omega⟩,Qw (by omega) ⟨by omega,?_⟩⟩;rw[G7];intro hc;simp only[Bool.and_eq_true] at hc;have hne:=(zqt wp hc.1.2).2.2;rw[beq_eq_false_iff_ne.2 hne,hc.1.1] at g;simp only[Bool.not_true,Bool.or_self,Bool.false_or,Bool.and_eq_true,decide_eq_true_eq] at g;unfold ztg at hc;simp only[Bool.or_eq_true,decide_eq_true_eq] at hc;omega
   ·simp only[Bool.or_eq_false_iff,Bool.not_eq_false'] at g;obtain⟨⟨g1,g2⟩,g3⟩:=g
    have hb:(decide (Ti W c s k<0)||ztg W (k:Int) (Ti W c s k))=true:=by
     unfold ztg;simp only[Bool.or_eq_true,decide_eq_true_eq];simp only[Bool.and_eq_false_iff,decide_eq_false_iff_not] at g3;omega
    refine T3 12 0 rfl (fun y j=>j<=12/\y=if Tg (fun t=>((Q7 W (t:Int)).cpu==(k:Int))&&ZP W (t:Int) c) j=true then (k:Int) else Ti W c s k) ⟨Nat.zero_le _,rfl⟩ fun y j ⟨hj,hy⟩=>⟨fun hlt2=>?_,fun hge2=>?_⟩
    ·have hlt2:=Ot hlt2;have hj12:j<12:=by omega
     refine⟨h.t.ix Qy (by omega) hlt2,_,h.t.f (by omega) hlt2 (j:=2) rfl,_,fun _=>Kx h wp (by omega) hlt2 c0 c1,fun g4=>?_,fun g4=>?_⟩
     ·have g4:(((Q7 W (j:Int)).cpu==(k:Int))&&ZP W (j:Int) c)=true:=g4;refine⟨⟨by omega,by omega⟩,Qw hj12 ⟨by omega,?_⟩⟩;rw[if_pos];simp only[Tg,Bool.or_eq_true];exact .inr g4
     ·have g4:(((Q7 W (j:Int)).cpu==(k:Int))&&ZP W (j:Int) c)=false:=g4;refine⟨⟨by omega,by omega⟩,Qw hj12 ⟨by omega,?_⟩⟩;rw[hy,ztq (p:=fun t=>((Q7 W (t:Int)).cpu==(k:Int))&&ZP W (t:Int) c) g4]
    ·have hge2:=Ou hge2;have:j=12:=by omega
     subst this;refine⟨⟨by omega,by omega⟩,Qw (by omega) ⟨by omega,?_⟩⟩;rw[hy];show (if KK W (k:Int) c=true then (k:Int) else Ti W c s k)=_
     cases ha:KK W (k:Int) c with
     | true=>rw[Ck (by rw[g2,ha,hb]; rfl),if_pos rfl]
     | false=>rw[G7 (by rw[ha]; simp),if_neg (by decide)]
  ·have hge:=Ou hge;have:k=W.cpus.length:=by omega
   subst this;rw[hx2]
theorem zt2{P:Int->Bool}{l:List Int}{k:Nat}(hk:k<l.length):(P (gi l (k:Int))=true->((l.take k).filter P).length<(l.filter P).length/\gi (l.filter P) (((l.take k).filter P).length:Int)=gi l (k:Int)/\(l.take (k+1)).filter P=(l.take k).filter P++[gi l (k:Int)])/\
  (P (gi l (k:Int))=false->(l.take (k+1)).filter P=(l.take k).filter P):=by
 have e1:l.take (k+1)=l.take k++[gi l (k:Int)]:=by rw[List.take_succ_eq_append_getElem hk,J2 hk]
 have e2:l=l.take k++(gi l (k:Int)::l.drop (k+1)):=by
  conv=>lhs; rw[<-List.take_append_drop (k+1) l,e1,List.append_assoc]
  rfl
 refine⟨fun h=>?_,fun h=>?_⟩
 ·have e3:l.filter P=(l.take k).filter P++(gi l (k:Int)::(l.drop (k+1)).filter P):=by
   conv=>lhs; rw[e2,List.filter_append]
   simp[h]
  refine⟨by rw[e3]; simp,?_,by rw[e1,List.filter_append]; simp[h]⟩;rw[e3];exact HN _ _ _
 ·rw[e1,List.filter_append]; simp[h]
theorem zoq:J6 Tryz.f153=zl6 ZG (.block 0 (.rangeFunc (.tmp 17) #[18] Yj Yb)):=by kernel_rfl
theorem zle{c lv:Int}{b b1:Nat}{I:Nat->Wo->Prop}(wp:YW W)(c0:0<=c)(c1:c<(W.cpus.length:Int))(hp:TW [] w p W m)(hbx:Q2 [] w (some ⟨b,0,none⟩) 0 [.pointer p,.int .i64 c])(hb1:Q2 [] w (some ⟨b1,0,none⟩) 0 [.int .i64 lv])(hI:∀k W1,I k W1->Q0 [] w W1) :
  BF Tryz.prog Jb #[.pointer (some ⟨b,0,none⟩),.pointer (some ⟨b1,0,none⟩)] (VG W c (Gp (W.cpus.length:Int) c lv) 4).length (fun k=>[.int .i64 (gi (VG W c (Gp (W.cpus.length:Int) c lv) 4) (k:Int))]) I w:=by
 intro l0 J Jx Wc hxc hJI hAJ hAx hY h0;obtain⟨M,hM⟩:∃M,M=zhh (Gp (W.cpus.length:Int) c lv) 4:=⟨_,rfl⟩;have hcand:VG W c (Gp (W.cpus.length:Int) c lv) 4=M.filter fun x=>KK W x c:=by rw[hM]; rfl
 rw[hcand] at hY ⊢;refine DN (args:=[.func (.yield l0) #[] #[],.pointer (some ⟨b,0,none⟩),.pointer (some ⟨b1,0,none⟩)]) (n:=44) Tryz.func153 (body:=J6 Tryz.f153) rfl (by kernel_rfl) (by simp) fun a hn ha hd=>?_
 rw[zoq];have a0:=ha 0 _ rfl;have a1:=ha 1 _ rfl;have a2:=ha 2 _ rfl;refine PS none (.yield l0) #[] #[] (some ⟨b,0,none⟩) (some ⟨b1,0,none⟩) (R:=fun e vs w1=>e=.normal/\∃bm b3:Nat,vs=[.func (.func QT) #[] #[.pointer (some ⟨bm,0,none⟩)],.pointer (some ⟨b3,0,none⟩)]/\Q2 [] w1 (some ⟨bm,0,none⟩) 0 [.int .i64 (Gp (W.cpus.length:Int) c lv)]/\Q2 [] w1 (some ⟨b3,0,none⟩) 0 [.func (.yield l0) #[] #[]]/\Wc.heap.size<=bm/\Wc.heap.size<=b3/\Q0 [] Wc w1) hn ?_ ?_ ?_ (fun e vs a1 w1 hne hR _=>absurd hR.1 hne)
 ·intro q hq;simp only[List.mem_cons,List.not_mem_nil,or_false] at hq;rcases hq with rfl | rfl | rfl
  ·exact⟨Nat.le_of_ble_eq_true rfl,a0⟩
  ·exact⟨Nat.le_of_ble_eq_true rfl,a1⟩
  ·exact⟨Nat.le_of_ble_eq_true rfl,a2⟩
 ·intro b3 wb hx hb0 hcell _;have hxw:=hxc.trans hx;have hpb:=hp.ext hxw;have hbb:=hbx.ext hxw;refine⟨rfl,p,hbb.get 0 _ rfl,hpb.some,_,_,_,hpb.cpus,rfl,c,hbb.get 1 _ rfl,lv,hb1.ext hxw,_,E6,fun wr hx2 _=>?_⟩;refine(zpa (m:=Gp (W.cpus.length:Int) c lv)).mono fun e w2 ⟨bm,hbm,he,hcm,hx3⟩=>⟨_,_,_,he,Jq,fun wr1 hx4=>⟨rfl,bm,b3,rfl,hcm.ext hx4,?_,by have:=hx.size; have:=hx2.size; omega,hb0,((hx.trans hx2).trans hx3).trans hx4⟩⟩
  exact(((P7 ⟨_,hcell⟩).ext hx2).ext hx3).ext hx4
 rintro vs a3 w2 ⟨_,bm,b3,rfl,hcm,hc3,hbm,hb3',hX⟩ fo
 obtain⟨o17,o3⟩:a3.tmps.getD 17 undef=.func (.func QT) #[] #[.pointer (some ⟨bm,0,none⟩)]/\a3.tmps.getD 3 undef=.pointer (some ⟨b3,0,none⟩):=by
  have:=fo.out;simp only[List.map_cons,List.map_nil,List.cons.injEq,and_true] at this;exact this
 have o1:=(fo.kept 1 (by decide +kernel)).trans a1;have hsz3:a3.tmps.size=44:=by rw[fo.size,hn]
 have hd3:a3.defers=[]:=by rw[fo.defers,hd]
 have hWc:=hX.size;have hbmL:=DO hcm;have hb3L:=DO hc3;have noR:∀w',(results Tryz.f153 a3.tmps).run Tryz.prog w'=.ok (.tuple #[]) w':=fun w'=>results_none (by kernel_rfl) _ _ _
 refine wpIn_block (zsi (gf:=QT) (lb:=#[.pointer (some ⟨bm,0,none⟩)]) o17 (enters_of Tryz.func178 (by kernel_rfl) rfl)
  (fun k W1=>J ((M.take k).filter fun x=>KK W x c).length W1/\Q2 [] W1 (some ⟨bm,0,none⟩) 0 [.int .i64 (Gp (W.cpus.length:Int) c lv)]/\Q2 [] W1 (some ⟨b3,0,none⟩) 0 [.func (.yield l0) #[] #[]]) (fun cd W1=>cd=.ret/\Jx () W1) M.length (fun k=>[.int .i64 (gi M (k:Int))])
  (fun k W1 W2 ys h hx hy=>⟨hAJ _ _ _ ys h.1 hx fun y hm=>by have:=hy y hm; omega,Vr h.2.1 hx fun hm=>by have:=hy _ hm; omega,Vr h.2.2 hx fun hm=>by have:=hy _ hm; omega⟩)
  (fun cd W1 W2 ys h hx hy=>⟨h.1,hAx _ _ _ ys h.2 hx fun y hm=>by have:=hy y hm; omega⟩)
  ⟨hAJ 0 _ _ [] h0 hX (by simp),hcm,hc3⟩ (fun k=>rfl) (by
   have:=zlf (m:=Gp (W.cpus.length:Int) c lv) (bm:=bm) (w:=w2) (I:=fun k W1=>J ((M.take k).filter fun x=>KK W x c).length W1/\Q2 [] W1 (some ⟨bm,0,none⟩) 0 [.int .i64 (Gp (W.cpus.length:Int) c lv)]/\Q2 [] W1 (some ⟨b3,0,none⟩) 0 [.func (.yield l0) #[] #[]]) (fun k W1 h=>h.2.1);rw[<-hM] at this;exact this) ?_ ?_ ?_)
 ·intro l k W1 hk ⟨hJk,hCm,hC3⟩ hl;rw[zi1];refine PR (some l) (gi M (k:Int)) (R:=fun e vs W2=>e=.normal/\vs=[.int .i64 (gi M (k:Int))]/\Q0 [] W1 W2) (by simpa using hsz3) (fun q hq=>?_) (fun wr hx=>⟨rfl,rfl,hx⟩) fun e vs a4 W2 hR fo4=>?_
  ·simp only[List.mem_cons,List.not_mem_nil,or_false] at hq;subst hq;exact⟨Nat.le_of_ble_eq_true rfl,H8 (i:=18) (by rw[hsz3]; decide)⟩
  obtain⟨rfl,rfl,hx4⟩:=hR
  have q4:a4.tmps.getD 4 undef=.int .i64 (gi M (k:Int)):=by
   have:=fo4.out
   simpa using this
  have q1:a4.tmps.getD 1 undef=.pointer (some ⟨b,0,none⟩):=((fo4.kept 1 (by decide +kernel)).trans (JU (i:=18) (j:=1) (by decide))).trans o1;have q3:a4.tmps.getD 3 undef=.pointer (some ⟨b3,0,none⟩):=((fo4.kept 3 (by decide +kernel)).trans (JU (i:=18) (j:=3) (by decide))).trans o3;refine⟨⟨[],hx4,by simp⟩,fun W3 hx5=>?_⟩;have hly:∀y∈[l],w2.heap.size<=y:=by simpa using hl
  have hJ3:J ((M.take k).filter fun x=>KK W x c).length W3:=hAJ _ _ _ [l] (hAJ _ _ _ [] hJk hx4 (by simp)) hx5 fun y hm=>by have:=hly y hm; omega
  have hm3:=Vr (hCm.ext hx4) hx5 (fun hm=>by have:=hly _ hm; omega);have hy3:=Vr (hC3.ext hx4) hx5 (fun hm=>by have:=hly _ hm; omega);have hb3W:=DO hy3;have hW3:Q0 [] w W3:=hI _ _ (hJI _ _ hJ3);have hp3:=hp.ext hW3;have hb3:=hbx.ext hW3;have htl:=wp.a.t;obtain⟨F1,F2⟩:=zt2 (P:=fun x=>KK W x c) (l:=M) hk;refine Ps (some l) (some ⟨b,0,none⟩) (some ⟨b3,0,none⟩) (gi M (k:Int)) (R:=fun e _ W4=>(∃X,Q0 X W3 W4/\∀x∈X,x<w2.heap.size)/\((e=.normal/\J ((M.take (k+1)).filter fun x=>KK W x c).length W4/\Q2 [] W4 (some ⟨bm,0,none⟩) 0 [.int .i64 (Gp (W.cpus.length:Int) c lv)]/\Q2 [] W4 (some ⟨b3,0,none⟩) 0 [.func (.yield l0) #[] #[]])\/(e=.ret/\Jx () W4))) (by rw[fo4.size]; simpa using hsz3) (fun q hq=>?_) ?_ fun e vs a5 W4 hR _=>?_
  ·simp only[List.mem_cons,List.not_mem_nil,or_false] at hq;rcases hq with rfl | rfl | rfl
   ·exact⟨Nat.le_of_ble_eq_true rfl,q1⟩
   ·exact⟨Nat.le_of_ble_eq_true rfl,q3⟩
   ·exact⟨Nat.le_of_ble_eq_true rfl,q4⟩
  ·refine⟨rfl,p,hb3.get 0 _ rfl,hp3.some,_,_,_,hp3.tasks,?_⟩;refine TM 12 0 rfl (fun j w5=>j<=12/\Q0 [] W3 w5/\∀i:Nat,i<j->(((Q7 W (i:Int)).cpu==gi M (k:Int))&&ZP W (i:Int) c)=false) (fun w5 hx6 _=>⟨Nat.zero_le _,hx6,fun i hi=>absurd hi (Nat.not_lt_zero i)⟩) fun j w5 _ ⟨hj,hX5,hno⟩=>⟨fun hlt=>?_,fun hge wr hx6=>?_⟩
   ·have hlt:=Ot hlt;have hj12:j<12:=by omega
    have hp5:=hp3.ext hX5;refine⟨hp5.rd.t.ix Qy (by omega) hlt,_,_,_,_,_,_,_,_,_,hp5.rd.t j (by omega) hlt,fun b' hb'=>⟨p,c,fun _=>hb3.ext hX5,_,fun _=>Ks hp5 wp (by omega) hlt c0 c1,fun g=>?_,fun g=>⟨⟨by omega,by omega⟩,fun wr hx6 _=>QM hj12 ⟨by omega,hX5.trans hx6,fun i hi=>?_⟩⟩⟩⟩
    ·have g:(((Q7 W (j:Int)).cpu==gi M (k:Int))&&ZP W (j:Int) c)=true:=g;have hany:KK W (gi M (k:Int)) c=true:=L5.2 ⟨j,hj12,g⟩;obtain⟨f1,f2,f3⟩:=F1 hany;refine⟨.yield l0,#[],#[],hy3.ext hX5,fun wr1 hx6 hs6=>?_⟩;have hxa:=hX5.trans hx6;have hc:=hY _ wr1 f1 (hAJ _ _ _ [] hJ3 hxa (by simp))
     dsimp only at hc
     rw[f2] at hc;have hsz5:=hX5.size;have hsz6:=hx6.size;have hb6:b'<wr1.heap.size:=hs6 b' (by simp);refine hc.mono fun e w6 ⟨⟨X,hXX,hXl⟩,hr⟩=>?_
     have hk6:Q9 [b'] wr1 w6:=fun x hm=>by
      have:x=b':=by simpa using hm
      subst this;exact hXX.block x hb6 fun hmX=>by have:=hXl x hmX; omega
     have outX:∀wr2,Q0 [b'] w6 wr2->∃X,Q0 X W3 wr2/\∀x∈X,x<w2.heap.size:=fun wr2 hx7=>⟨X,(hxa.of_nil.trans hXX).fresh hx7 fun x hm=>.inl (by
      have:x=b':=by simpa using hm
      omega),fun x hm=>by have:=hXl x hm; omega⟩
     have hby:∀y∈[b'],Wc.heap.size<=y:=by
      intro y hm;have:y=b':=by simpa using hm
      omega
     rcases hr with ⟨he,hJn⟩ | ⟨he,hJx⟩
     ·refine⟨true,he,hk6,fun g=>(by cases g),fun _ wr2 hx7=>⟨outX wr2 hx7,.inl ⟨rfl,?_,?_,?_⟩⟩⟩
      ·rw[f3,List.length_append];exact hAJ _ _ _ [b'] hJn hx7 hby
      ·exact Vr (Vr (hm3.ext hxa) hXX fun hm=>by have:=hXl _ hm; omega) hx7 fun hm=>by
        have:bm=b':=by simpa using hm
        have:=DO hm3;omega
      ·exact Vr (Vr (hy3.ext hxa) hXX fun hm=>by have:=hXl _ hm; omega) hx7 fun hm=>by
        have:b3=b':=by simpa using hm
        have:=DO hy3;omega
     ·exact⟨false,he,hk6,fun _ wr2 hx7=>⟨outX wr2 hx7,.inr ⟨rfl,hAx _ _ _ [b'] hJx hx7 hby⟩⟩,fun g=>(by cases g)⟩
    ·have g:(((Q7 W (j:Int)).cpu==gi M (k:Int))&&ZP W (j:Int) c)=false:=g
     by_cases hij:i<j
     ·exact hno i hij
     ·have:i=j:=by omega
      subst this; exact g
   ·have hge:=Ou hge;have:j=12:=by omega
    subst this;have hany:KK W (gi M (k:Int)) c=false:=Ci hno;have hxa:=hX5.trans hx6;refine⟨⟨[],hxa,by simp⟩,.inl ⟨rfl,?_,hm3.ext hxa,hy3.ext hxa⟩⟩;rw[F2 hany];exact hAJ _ _ _ [] hJ3 hxa (by simp)
  ·obtain⟨hX4,hr⟩:=hR;rcases hr with ⟨rfl,h1⟩ | ⟨rfl,h1⟩
   ·exact⟨hX4,h1⟩
   ·exact⟨hX4,rfl,h1⟩
 ·intro D W1 hD ⟨hJn,_⟩ hdD;rw[List.take_length] at hJn
  exact(HS (R:=fun e W2=>(∃v,e=Ending.returned v)/\(J (M.filter fun x=>KK W x c).length W2\/Jx () W2)) (a:={ a3 with defers:=FX D::a3.defers }) (D:=D) (by simp[hd3]) hdD noR fun w' hx=>⟨⟨_,rfl⟩,.inl (hAJ _ _ _ [D] hJn hx fun y hm=>by
   have:y=D:=by simpa using hm
   omega)⟩).1
 ·intro D cd W1 hD ⟨hcd,hJx⟩ hdD;subst hcd
  exact wpIn_ret (HS (R:=fun e W2=>(∃v,e=Ending.returned v)/\(J (M.filter fun x=>KK W x c).length W2\/Jx () W2)) (a:={ a3 with defers:=FX D::a3.defers }) (D:=D) (by simp[hd3]) hdD noR fun w' hx=>⟨⟨_,rfl⟩,.inr (hAx _ _ _ [D] hJx hx fun y hm=>by
   have:y=D:=by simpa using hm
   omega)⟩).2
end
theorem zh9(cs:List M0){c:Int}(c0:0<=c):∀k:Nat,k<=4->c<(k:Int)->(gi cs c).up=true->QP (UJ cs k) c=true
 | 0,_,h,_=>by omega
 | k+1,hk,h,hu=>by
  have hl:=Gs cs k (by omega)
  have hb:Xs k<=8:=by
   have:k=0\/k=1\/k=2\/k=3:=by omega
   rcases this with rfl | rfl | rfl | rfl <;> decide
  have key:=zi7 ⟨k,by omega⟩ ⟨(UJ cs k).toNat,by omega⟩ ⟨c.toNat,by omega⟩;rw[show ((⟨(UJ cs k).toNat,by omega⟩:Fin 8).val:Int)=UJ cs k by show (((UJ cs k).toNat:Nat):Int)=UJ cs k; omega,show ((⟨c.toNat,by omega⟩:Fin 4).val:Int)=c by show ((c.toNat:Nat):Int)=c; omega] at key;simp only[UJ]
  by_cases e:c=(k:Int)
  ·subst e;rw[if_pos hu,key hl.2];simp
  ·have ih:=zh9 cs c0 k (by omega) (by omega) hu;split
   ·rw[key hl.2,ih]; simp
   ·exact ih
theorem BE{cs:List M0}(h4:cs.length<=4){c:Int}(c0:0<=c)(c1:c<(cs.length:Int))(hu:(gi cs c).up=true):Jr cs≠0:=fun e=>by
 have h:=zh9 cs c0 cs.length h4 c1 hu;rw[show UJ cs cs.length=0 from e] at h;have hr:=PB h;have:c=0\/c=1\/c=2\/c=3:=by omega
 rcases this with rfl | rfl | rfl | rfl <;> exact absurd h (by decide)
theorem zrv{m c:Int}(c0:0<=c)(c4:c<4)(h:QP m c=true)(hn:∀j:Int,0<=j->j<4->j≠c->QP m j=false):HT m 4=1:=by
 have h0:=hn 0 (by decide) (by decide);have h1:=hn 1 (by decide) (by decide);have h2:=hn 2 (by decide) (by decide);have h3:=hn 3 (by decide) (by decide);have i0:((0:Nat):Int)=0:=rfl;have i1:((1:Nat):Int)=1:=rfl;have i2:((2:Nat):Int)=2:=rfl;have i3:((3:Nat):Int)=3:=rfl;have:c=0\/c=1\/c=2\/c=3:=by omega
 simp only[HT,i0,i1,i2,i3];rcases this with rfl | rfl | rfl | rfl
 ·have e1:=h1 (by decide); have e2:=h2 (by decide); have e3:=h3 (by decide); simp[h,e1,e2,e3]
 ·have e1:=h0 (by decide); have e2:=h2 (by decide); have e3:=h3 (by decide); simp[h,e1,e2,e3]
 ·have e1:=h0 (by decide); have e2:=h1 (by decide); have e3:=h3 (by decide); simp[h,e1,e2,e3]
 ·have e1:=h0 (by decide); have e2:=h1 (by decide); have e3:=h2 (by decide); simp[h,e1,e2,e3]
theorem zp8{cs:List M0}(h4:cs.length<=4){c:Int}(c0:0<=c)(c1:c<(cs.length:Int))(hu:(gi cs c).up=true)(hn:HT (Jr cs) 4≠1):∃j:Int,0<=j/\j<(cs.length:Int)/\j≠c/\(gi cs j).up=true:=by
 refine Classical.byContradiction fun hne=>hn (zrv c0 (by omega) (zh9 cs c0 cs.length h4 c1 hu) fun j j0 j4 hj=>?_)
 cases h:QP (Jr cs) j with
 | false=>rfl
 | true=>
  obtain⟨a,b⟩:=zh8 cs (c:=j) cs.length h4 h;exact absurd ⟨j,j0,a,hj,b⟩ hne
theorem SW.setCp{K:Int}{W:Q8}(h:SW K W){c:Int}(c0:0<=c)(c1:c<(W.cpus.length:Int)){x:M0}(hu:Jr (W.cpus.set c.toNat x)≠0)(h1 : -1<=x.cur)(h2:x.cur<12):SW K (setCp W c x):=by
 have hl:(W.cpus.set c.toNat x).length=W.cpus.length:=List.length_set;have hg:∀d:Int,0<=d->gi (W.cpus.set c.toNat x) d=if c=d then x else gi W.cpus d:=fun d d0=>QA _ _ c0 c1 d0
 refine⟨h.a.cp hl hu,fun t a b n=>?_,h.tv,fun k d u a b=>?_,fun d a b=>?_⟩
 ·show _/\_/\_<(((W.cpus.set c.toNat x).length:Nat):Int);rw[hl];exact h.t t a b n
 ·have b:d<(((W.cpus.set c.toNat x).length:Nat):Int):=b;rw[hl] at b;exact h.s k d u a b
 ·have b:d<(((W.cpus.set c.toNat x).length:Nat):Int):=b;rw[hl] at b;show _<=(gi (W.cpus.set c.toNat x) d).cur/\(gi (W.cpus.set c.toNat x) d).cur<12;rw[hg _ a];split
  ·exact⟨h1,h2⟩
  ·exact h.cu d a b
noncomputable def VH(W:Q8)(c:Int)(up:Bool)(last:Int):Int:=if Yi W c=false then 1 else if (gi W.cpus c).up≠up then 6 else if last≠0 then last else if QG W=false then 10 else 0
theorem zgj{W:Q8}{c:Int}{up:Bool}{last:Int}(h:VH W c up last=0):Yi W c=true/\(gi W.cpus c).up=up/\last=0/\QG W=true:=by
 unfold VH at h
 split at h
 ·cases h
 ·rename_i h1
  split at h
  ·cases h
  ·rename_i h2
   split at h
   ·rename_i h3; exact absurd h h3
   ·rename_i h3
    split at h
    ·cases h
    ·rename_i h4;exact⟨by simpa using h1,by simpa using h2,by omega,by simpa using h4⟩
theorem Ga{W:Q8}{c:Int}{up:Bool}{last:Int}(h1:Yi W c=true)(h2:(gi W.cpus c).up=up)(h3:last=0):VH W c up last=if QG W=false then 10 else 0:=by
 unfold VH;rw[if_neg (by rw[h1]; decide),if_neg (by simpa using h2),if_neg (by simpa using h3)]
def KC(x:M0)(b:Bool):M0:={ x with up:=b }
def zyx(W:Q8)(c:Int):Q8:=Qg (GT (setCp W c (KC (gi W.cpus c) true)))
def GN(W:Q8):Int:=if HT (Jr W.cpus) 4=1 then 5 else 0
def zu1(W:Q8)(c:Int):Q8:=Qg (GT (endW (setCp W c (KC (gi W.cpus c) false)) c))
theorem zv4{W:Q8}{c:Int}(hW:Qv W=true)(hb:VH W c false 0=0):0<=c/\c<(W.cpus.length:Int)/\SF Qq (Qq+Ql) W/\SF Qq (Qq+Ql) (setCp W c (KC (gi W.cpus c) true)):=by
 obtain⟨h1,h2,_,h4⟩:=zgj hb;have wp:=Qh.1 hW;have sw:=PK wp (Qh.1 h4);obtain⟨c0,c1⟩:=J7 h1;have hcu:=sw.cu c c0 c1;have hl:(W.cpus.set c.toNat (KC (gi W.cpus c) true)).length=W.cpus.length:=List.length_set;have hc2:=wp.a.c2;exact⟨c0,c1,MY sw,MY (sw.setCp c0 c1 (x:=KC (gi W.cpus c) true) (BE (by omega) c0 (by omega) (by rw[QA _ _ c0 c1 c0,if_pos rfl]; rfl)) hcu.1 hcu.2)⟩
theorem zr7{W:Q8}{c:Int}(hW:Qv W=true)(hb:VH W c true (GN W)=0):0<=c/\c<(W.cpus.length:Int)/\SF Qq (Qq+Ql) W/\SF Qq (Qq+Ql) (setCp W c (KC (gi W.cpus c) false)):=by
 obtain⟨h1,h2,h3,h4⟩:=zgj hb;have wp:=Qh.1 hW;have sw:=PK wp (Qh.1 h4);obtain⟨c0,c1⟩:=J7 h1;have hcu:=sw.cu c c0 c1;have hl:(W.cpus.set c.toNat (KC (gi W.cpus c) false)).length=W.cpus.length:=List.length_set;have hc2:=wp.a.c2;have hn:HT (Jr W.cpus) 4≠1:=fun e=>by unfold GN at h3; rw[if_pos e] at h3; cases h3
 obtain⟨j,j0,j1,jc,hj⟩:=zp8 hc2 c0 c1 h2 hn;exact⟨c0,c1,MY sw,MY (sw.setCp c0 c1 (x:=KC (gi W.cpus c) false) (BE (by omega) j0 (by omega) (by rw[QA _ _ c0 c1 j0,if_neg fun e=>jc e.symm]; exact hj)) hcu.1 hcu.2)⟩
theorem Ax(W:Q8)(c:Int)(x:M0)(m:MW):Qa (setCp W c x) m=Qa W m:=by simp[Qa,setCp]
section
variable {W W':Q8}{m:MW}{w:Wo}
theorem zg5{c:Int}(h:Xt [] w W m)(hl:X5 W) :
  Cz Mj #[.agg (Qa W m).toArray,.int .i64 c] w fun e w'=>∃v,e=.returned v/\QE (Xc W (VH W c false 0) (zyx W c)) w v w':=by
 refine zgq W.now m.cO W.cpus.length m.cC m.tO W.tasks.length m.tC m.gO W.groups.length m.gC c (R:=fun v w'=>QE (Xc W (VH W c false 0) (zyx W c)) w v w') ?_;intro y hy y1 hy1 wr hx2 hs2;have hm9:=Zl;have hlc:=hl.c;refine Calls.mono (Z5 (h.ext hx2) hl) ?_;rintro e wv (⟨hW,he,hy2⟩ | ⟨hW,m',he,hM,hy2⟩)
 ·exact⟨_,_,_,_,_,_,_,_,_,_,_,he,Qe hy2 hs2,fun g=>by simp at g,true,fun g=>by simp at g,fun _ wr1 hx3=>QE.bad hW ((hx2.trans hy2).fresh hx3 fun z hm=>.inl (YC hy hy1 z hm)),fun g=>by simp at g⟩
 have hK:=Wk.begin hy hy1 hx2 hs2 hM hy2;have hr:=hK.rd;have wp:=Qh.1 hW;have hm0:=Xb;refine⟨_,_,_,_,_,_,_,_,_,_,_,he,Qe hy2 hs2,fun _=>⟨by omega,by omega⟩,Yi W c,fun _=>Qi,fun g wr1 hx3=>?_,fun g=>?_⟩
 ·have g:Yi W c=false:=by
   cases hc:Yi W c with
   | false=>rfl
   | true=>rw[hc] at g; split at g <;> simp at g
  have hb:VH W c false 0=1:=by unfold VH; rw[if_pos g]
  exact QE.no hW (by rw[hb]; decide) (hK.step hx3) hb
 have g:Yi W c=true:=by
  cases hc:Yi W c with
  | true=>rfl
  | false=>rw[hc] at g; simp at g
 obtain⟨c0,c1⟩:=J7 g;refine⟨hr.c.ix ZH c0 c1,_,hr.c.f c0 c1 (j:=0) rfl,fun g2 wr2 hx3=>?_,fun g2=>⟨fun g3 wr3 hx3=>?_,fun g3=>?_⟩⟩
 ·have hb:VH W c false 0=6:=by unfold VH; rw[if_neg (by rw[g]; decide),if_pos (by rw[g2]; decide)]
  exact QE.no hW (by rw[hb]; decide) (hK.step hx3) hb
 ·have hr0:¬QG W=true:=fun hr=>by rw[if_pos hr] at g3; simp at g3
  have hb:VH W c false 0=10:=by rw[Ga g g2 rfl,if_pos (by simpa using hr0)]
  rw[if_neg hr0];exact QE.no hW (by rw[hb]; decide) (hK.step hx3) hb
 have hr0:QG W=true:=Decidable.byContradiction fun hr=>by rw[if_neg hr] at g3; simp at g3
 have hb:VH W c false 0=0:=by rw[Ga g g2 rfl,if_neg (by rw[hr0]; decide)]
 obtain⟨_,_,_,sf⟩:=zv4 hW hb;have hset:Wk 8 [y,y1] w (sto wv m'.cO (Int.toNat c*5+0) [.bool true]) (setCp W c (KC (gi W.cpus c) true)) m':=hK.sto (hK.own.stoC c0 c1 (j:=0) (vs:=[.bool true]) (x:=KC (gi W.cpus c) true) rfl (by simp)) zec;refine⟨hr.c.ix ZH c0 c1,zqf hK.own hK.nb c0 c1 (by decide),fun wr4 hx4 hs4=>?_⟩;have e5:Qa (setCp W c (KC (gi W.cpus c) true)) m'=Qa W m':=Ax _ _ _ _;have hE:zyx W c=Qg (GT (setCp W c (KC (gi W.cpus c) true))):=rfl;rw[hE];generalize setCp W c (KC (gi W.cpus c) true)=V at hset sf e5;have hK4:=hset.step hx4;have hcall:=Jd hK4.own sf (Int.le_refl _) (by simp only[Ql]; decide);rw[e5] at hcall;refine Calls.mono hcall ?_;rintro e1 wv1 ⟨he1,hy3⟩;refine⟨_,_,_,_,_,_,_,_,_,_,he1,hK4.kept hy3 hs4,fun wr5 hx5 hs5=>?_⟩;have hK5:=(hK4.deed hy3 hs4).step hx5;have hcall2:=Qr hK5.own (Gl sf (Int.le_refl _)).1.w (by simp only[Ql]; decide) (by simp only[Ql]; decide) hK5.base;rw[E0 sf (Int.le_refl _),e5] at hcall2;refine Calls.mono hcall2 ?_;rintro e2 wv2 ⟨m2,he2,hy4⟩;exact⟨_,_,_,_,_,_,_,_,_,_,he2,hK5.kept hy4 hs5,fun wr6 hx6=>QE.ok hW hb ((hK5.deed hy4 hs5).step hx6)⟩
theorem zde{c:Int}(h:Xt [] w W m)(hl:X5 W) :
  Cz Pk #[.agg (Qa W m).toArray,.int .i64 c] w fun e w'=>∃v,e=.returned v/\QE (Xc W (VH W c true (GN W)) (zu1 W c)) w v w':=by
 refine zc2 W.now m.cO W.cpus.length m.cC m.tO W.tasks.length m.tC m.gO W.groups.length m.gC c (R:=fun v w'=>QE (Xc W (VH W c true (GN W)) (zu1 W c)) w v w') ?_;intro y hy y1 hy1 wr hx2 hs2;have hm0:=Xb;have hlc:=hl.c;refine Calls.mono (Z5 (h.ext hx2) hl) ?_;rintro e wv (⟨hW,he,hy2⟩ | ⟨hW,m',he,hM,hy2⟩)
 ·exact⟨_,_,_,_,_,_,_,_,_,_,_,he,Qe hy2 hs2,fun g=>by simp at g,true,fun g=>by simp at g,fun _ wr1 hx3=>QE.bad hW ((hx2.trans hy2).fresh hx3 fun z hm=>.inl (YC hy hy1 z hm)),fun g=>by simp at g⟩
 have hK:=Wk.begin hy hy1 hx2 hs2 hM hy2;have hr:=hK.rd;have wp:=Qh.1 hW;refine⟨_,_,_,_,_,_,_,_,_,_,_,he,Qe hy2 hs2,fun _=>⟨by omega,by omega⟩,Yi W c,fun _=>Qi,fun g wr1 hx3=>?_,fun g=>?_⟩
 ·have g:Yi W c=false:=by
   cases hc:Yi W c with
   | false=>rfl
   | true=>rw[hc] at g; split at g <;> simp at g
  have hb:VH W c true (GN W)=1:=by unfold VH; rw[if_pos g]
  exact QE.no hW (by rw[hb]; decide) (hK.step hx3) hb
 have g:Yi W c=true:=by
  cases hc:Yi W c with
  | true=>rfl
  | false=>rw[hc] at g; simp at g
 obtain⟨c0,c1⟩:=J7 g;refine⟨hr.c.ix ZH c0 c1,_,hr.c.f c0 c1 (j:=0) rfl,fun g2 wr2 hx3=>?_,fun g2=>⟨_,Kd hr wp.a.c2,_,FL,fun g3 wr3 hx3=>?_,fun g3=>⟨fun g4 wr4 hx3=>?_,fun g4=>?_⟩⟩⟩
 ·have g2:(gi W.cpus c).up=false:=by simpa using g2
  have hb:VH W c true (GN W)=6:=by unfold VH; rw[if_neg (by rw[g]; decide),if_pos (by rw[g2]; decide)]
  exact QE.no hW (by rw[hb]; decide) (hK.step hx3) hb
 ·have g2:(gi W.cpus c).up=true:=by simpa using g2
  have hL:GN W=5:=by unfold GN; rw[if_pos (by simpa using g3)]
  have hb:VH W c true (GN W)=5:=by unfold VH; rw[if_neg (by rw[g]; decide),if_neg (by rw[g2]; decide),hL,if_pos (by decide)]
  exact QE.no hW (by rw[hb]; decide) (hK.step hx3) hb
 ·have g2:(gi W.cpus c).up=true:=by simpa using g2
  have hL:GN W=0:=by unfold GN; rw[if_neg (by simpa using g3)]
  have hr0:¬QG W=true:=fun hr=>by rw[if_pos hr] at g4; simp at g4
  have hb:VH W c true (GN W)=10:=by rw[Ga g g2 hL,if_pos (by simpa using hr0)]
  rw[if_neg hr0];exact QE.no hW (by rw[hb]; decide) (hK.step hx3) hb
 have g2:(gi W.cpus c).up=true:=by simpa using g2
 have hL:GN W=0:=by unfold GN; rw[if_neg (by simpa using g3)]
 have hr0:QG W=true:=Decidable.byContradiction fun hr=>by rw[if_neg hr] at g4; simp at g4
 have hb:VH W c true (GN W)=0:=by rw[Ga g g2 hL,if_neg (by rw[hr0]; decide)]
 obtain⟨_,_,_,sf⟩:=zr7 hW hb;have hset:Wk 8 [y,y1] w (sto wv m'.cO (Int.toNat c*5+0) [.bool false]) (setCp W c (KC (gi W.cpus c) false)) m':=hK.sto (hK.own.stoC c0 c1 (j:=0) (vs:=[.bool false]) (x:=KC (gi W.cpus c) false) rfl (by simp)) zec;refine⟨hr.c.ix ZH c0 c1,zqf hK.own hK.nb c0 c1 (by decide),fun wr5 hx5 hs5=>?_⟩;have e5:Qa (setCp W c (KC (gi W.cpus c) false)) m'=Qa W m':=Ax _ _ _ _;have hlV:(setCp W c (KC (gi W.cpus c) false)).cpus.length=W.cpus.length:=by simp[setCp]
 have hE:zu1 W c=Qg (GT (endW (setCp W c (KC (gi W.cpus c) false)) c)):=rfl;rw[hE];generalize setCp W c (KC (gi W.cpus c) false)=V at hset sf e5 hlV;have c1V:c<(V.cpus.length:Int):=by rw[hlV]; exact c1
 have hK4:=hset.step hx5;have hcall0:=Zn hK4.own c0 c1V;rw[e5] at hcall0;refine Calls.mono hcall0 ?_;rintro e0 wv0 ⟨he0,hy0⟩;refine⟨_,_,_,_,_,_,_,_,_,_,he0,hK4.kept hy0 hs5,fun wr6 hx6 hs6=>?_⟩;have sfE:=sf.endW c0 c1V;have hK6:=(hK4.deed hy0 hs5).step hx6;generalize endW V c=U at hK6 sfE;have hcall:=Jd hK6.own sfE (Int.le_refl _) (by simp only[Ql]; decide);refine Calls.mono hcall ?_;rintro e1 wv1 ⟨he1,hy3⟩;refine⟨_,_,_,_,_,_,_,_,_,_,he1,hK6.kept hy3 hs6,fun wr7 hx7 hs7=>?_⟩;have hK7:=(hK6.deed hy3 hs6).step hx7;have hcall2:=Qr hK7.own (Gl sfE (Int.le_refl _)).1.w (by simp only[Ql]; decide) (by simp only[Ql]; decide) hK7.base;rw[E0 sfE (Int.le_refl _)] at hcall2;refine Calls.mono hcall2 ?_;rintro e2 wv2 ⟨m2,he2,hy4⟩;exact⟨_,_,_,_,_,_,_,_,_,_,he2,hK7.kept hy4 hs7,fun wr8 hx8=>QE.ok hW hb ((hK7.deed hy4 hs7).step hx8)⟩
end
noncomputable def K0(W:Q8)(t:Int):Int:=if Zz W t=false then 2 else if (Q7 W t).state≠2 then 6 else if QG W=false then 10 else 0
def PO(W:Q8)(t:Int):Int:=if zjy W (Q7 W t).cpu>0 then PU W (Qp W (Q7 W t).group (Q7 W t).mask) else (Q7 W t).cpu
def Ta(W:Q8)(t c:Int):Mw:={ Mt W t (Q7 W t).group c with state:=1 }
def zbv(W:Q8)(t:Int):Q8:=Qg (endW (setTk W t (Ta W t (PO W t))) (PO W t))
theorem Vv(W:Q8)(t:Int)(x:Mw):(setTk W t x).tasks.length=W.tasks.length:=by simp[setTk]
theorem zn0{W:Q8}{t:Int}(h:(Q7 W t).state=2)(c:Int):Vk W t (Q7 W t).group c=setTk W t (Mt W t (Q7 W t).group c):=by
 unfold Vk;rw[if_neg (by rw[h]; decide)]
theorem zib{W:Q8}{t c:Int}(sf:SF Qq (Qq+Ql) W)(t0:0<=t)(t1:t<(W.tasks.length:Int))(n:(Q7 W t).state≠0)(c0:0<=c)(c1:c<(W.cpus.length:Int)):SF Qq (Qq+Ql) (setTk W t (Ta W t c)):=by
 have hl:=sf.w.a.t;have hu:=(sf.w.t t t0 (by omega) n).1;have hv:=znz sf (Int.le_refl _) (t:=t) hu c0 c1;exact sf.setTk t0 (by omega) (x:=Ta W t c) (fun _=>⟨hu,c0,c1⟩) hv.1 hv.2
theorem zoh{W:Q8}{t:Int}(hW:Qv W=true)(hb:K0 W t=0):Zz W t=true/\(Q7 W t).state=2/\QG W=true/\SF Qq (Qq+Ql) W/\0<=PO W t/\PO W t<(W.cpus.length:Int):=by
 have wp:=Qh.1 hW;unfold K0 at hb
 split at hb
 ·cases hb
 ·rename_i h1
  split at hb
  ·cases hb
  ·rename_i h2
   split at hb
   ·cases hb
   ·rename_i h3;have h1:Zz W t=true:=by simpa using h1
    have h2:(Q7 W t).state=2:=by simpa using h2
    have h3:QG W=true:=by simpa using h3
    have sw:=PK wp (Qh.1 h3);obtain⟨t0,t1,n⟩:=Yc h1;have hl:=wp.a.t;have hc:=sw.t t t0 (by omega) n;refine⟨h1,h2,h3,MY sw,?_⟩;unfold PO;split
    ·have:=Gk wp.a (Q7 W t).group (Q7 W t).mask;exact⟨this.1,this.2.1⟩
    ·exact hc.2
section
variable {base pb:Nat}{W W':Q8}{m:MW}{w:Wo}
theorem NU{t:Int}(h:Xt [] w W m)(hl:X5 W) :
  Cz Tx #[.agg (Qa W m).toArray,.int .i64 t] w fun e w'=>∃v,e=.returned v/\QE (Xc W (K0 W t) (zbv W t)) w v w':=by
 refine ND W.now m.cO W.cpus.length m.cC m.tO W.tasks.length m.tC m.gO W.groups.length m.gC t (R:=fun v w'=>QE (Xc W (K0 W t) (zbv W t)) w v w') ?_;intro y hy y1 hy1 wr hx2 hs2;refine Calls.mono (Z5 (h.ext hx2) hl) ?_;rintro e wv (⟨hW,he,hy2⟩ | ⟨hW,m',he,hM,hy2⟩)
 ·exact⟨_,_,_,_,_,_,_,_,_,_,_,he,Qe hy2 hs2,fun _ wr1 hx3=>QE.bad hW ((hx2.trans hy2).fresh hx3 fun z hm=>.inl (YC hy hy1 z hm)),fun g=>by simp at g⟩
 have hK:=Wk.begin hy hy1 hx2 hs2 hM hy2;have hr:=hK.rd;have wp:=Qh.1 hW;refine⟨_,_,_,_,_,_,_,_,_,_,_,he,Qe hy2 hs2,fun g=>by split at g <;> simp at g,fun _=>⟨_,XL hr hl.t,fun g wr2 hx3=>?_,fun g=>?_⟩⟩
 ·have g:Zz W t=false:=by simpa using g
  have hb:K0 W t=2:=by unfold K0; rw[if_pos g]
  exact QE.no hW (by rw[hb]; decide) (hK.step hx3) hb
 have g:Zz W t=true:=by simpa using g
 obtain⟨t0,t1,tn⟩:=Yc g;have htl:=wp.a.t;have hix:=hr.t.ix Qy t0 t1;refine⟨hix,_,hr.t.f t0 t1 (j:=0) rfl,fun g2 wr3 hx3=>?_,fun g2=>⟨fun g3 wr4 hx3=>?_,fun g3=>?_⟩⟩
 ·have g2:(Q7 W t).state≠2:=by simpa[Q7] using g2
  have hb:K0 W t=6:=by unfold K0; rw[if_neg (by rw[g]; decide),if_pos g2]
  exact QE.no hW (by rw[hb]; decide) (hK.step hx3) hb
 ·have g2:¬(Q7 W t).state≠2:=by simpa[Q7] using g2
  have hr0:¬QG W=true:=fun hr=>by rw[if_pos hr] at g3; simp at g3
  have hb:K0 W t=10:=by unfold K0; rw[if_neg (by rw[g]; decide),if_neg g2,if_pos (by simpa using hr0)]
  rw[if_neg hr0];exact QE.no hW (by rw[hb]; decide) (hK.step hx3) hb
 have g2:¬(Q7 W t).state≠2:=by simpa[Q7] using g2
 have hr0:QG W=true:=Decidable.byContradiction fun hr=>by rw[if_neg hr] at g3; simp at g3
 have hb:K0 W t=0:=by unfold K0; rw[if_neg (by rw[g]; decide),if_neg g2,if_neg (by rw[hr0]; decide)]
 have hs2':(Q7 W t).state=2:=by simpa using g2
 obtain⟨_,_,_,sf,_,_⟩:=zoh hW hb;obtain⟨hu,c0,c1⟩:=sf.w.t t t0 (by omega) tn;refine⟨hix,_,hr.t.f t0 t1 (j:=2) rfl,_,OG hr htl,fun g4=>?_,fun g4=>?_⟩
 ·have g4:zjy W (Q7 W t).cpu>0:=Ot g4;have hC:PO W t=PU W (Qp W (Q7 W t).group (Q7 W t).mask):=if_pos g4;obtain⟨d0,d1,_⟩:=Gk wp.a (Q7 W t).group (Q7 W t).mask;refine⟨hix,_,hr.t.f t0 t1 (j:=1) rfl,hix,_,hr.t.f t0 t1 (j:=4) rfl,_,Xg hr wp.a.c2 wp.a.tree hu,_,Kw hr wp.a (zrq wp),hix,_,hr.t.f t0 t1 (j:=1) rfl,fun wr5 hx5 hs5=>?_⟩;have hM4:=hK.step hx5;have hcall:=UE hM4.own sf (Int.le_refl _) (by simp only[Ql]; decide) (t:=t) (g:=(Q7 W t).group) (c:=PU W (Qp W (Q7 W t).group (Q7 W t).mask)) t0 (by omega) tn hu d0 d1;refine Calls.mono hcall ?_;rintro e1 wv1 ⟨he1,hy3⟩;rw[zn0 hs2' (PU W (Qp W (Q7 W t).group (Q7 W t).mask))] at hy3;have hK5:=hM4.deed hy3 hs5
  have hset:Wk 8 [y,y1] w (sto wv1 m'.tO (Int.toNat t*9+0) [.int .i64 1]) (setTk W t (Ta W t (PU W (Qp W (Q7 W t).group (Q7 W t).mask)))) m':=by
   have:Wk 8 [y,y1] w (sto wv1 m'.tO (Int.toNat t*9+0) [.int .i64 1]) (setTk (setTk W t (Mt W t (Q7 W t).group (PU W (Qp W (Q7 W t).group (Q7 W t).mask)))) t (Ta W t (PU W (Qp W (Q7 W t).group (Q7 W t).mask)))) m':=hK5.sto (hK5.own.stoT t0 (by rw[Vv]; exact t1) (j:=0) (vs:=[.int .i64 1]) (x:=Ta W t (PU W (Qp W (Q7 W t).group (Q7 W t).mask))) (by rw[show gi (setTk W t (Mt W t (Q7 W t).group (PU W (Qp W (Q7 W t).group (Q7 W t).mask)))).tasks t=_ from BB t0 t1]; rfl) (by simp)) GX
   rwa[set_set] at this
  have hixT:Ix m'.tO W.tasks.length t:=by
   have:=hK5.rd.t.ix Qy t0 (by rw[Vv]; exact t1)
   rwa[Vv] at this
  refine⟨_,_,_,_,_,_,_,_,_,_,he1,hM4.kept hy3 hs5,hixT,zif hK5.own hK5.nb t0 (by rw[Vv]; exact t1) (j:=0) (by decide),fun wr6 hx6 hs6=>?_⟩;have e5:Qa (setTk W t (Ta W t (PU W (Qp W (Q7 W t).group (Q7 W t).mask)))) m'=Qa W m':=E1 _ _ _ _;have hE:zbv W t=Qg (endW (setTk W t (Ta W t (PU W (Qp W (Q7 W t).group (Q7 W t).mask)))) (PU W (Qp W (Q7 W t).group (Q7 W t).mask))):=by unfold zbv; rw[hC]
  have sfV:=zib sf t0 t1 tn d0 d1;rw[hE];have hlV:(setTk W t (Ta W t (PU W (Qp W (Q7 W t).group (Q7 W t).mask)))).cpus.length=W.cpus.length:=rfl;generalize setTk W t (Ta W t (PU W (Qp W (Q7 W t).group (Q7 W t).mask)))=V at hset e5 sfV hlV;have hK6:=hset.step hx6;have hcall2:=Zn hK6.own d0 (by rw[hlV]; exact d1);rw[e5] at hcall2;refine Calls.mono hcall2 ?_;rintro e2 wv2 ⟨he2,hy4⟩;refine⟨_,_,_,_,_,_,_,_,_,_,he2,hK6.kept hy4 hs6,fun wr7 hx7 hs7=>?_⟩;have hK7:=(hK6.deed hy4 hs6).step hx7;have hcall3:=Qr hK7.own (sfV.endW d0 (by rw[hlV]; exact d1)).w (by simp only[Ql]; decide) (by simp only[Ql]; decide) hK7.base;refine Calls.mono hcall3 ?_;rintro e3 wv3 ⟨m2,he3,hy5⟩;exact⟨_,_,_,_,_,_,_,_,_,_,he3,hK7.kept hy5 hs7,fun wr8 hx8=>QE.ok hW hb ((hK7.deed hy5 hs7).step hx8)⟩
 ·have g4:¬zjy W (Q7 W t).cpu>0:=Ou g4;have hC:PO W t=(Q7 W t).cpu:=if_neg g4;have d0:=c0;have d1:=c1;refine⟨hix,_,hr.t.f t0 t1 (j:=1) rfl,fun wr5 hx5 hs5=>?_⟩;have hM4:=hK.step hx5;have hcall:=UE hM4.own sf (Int.le_refl _) (by simp only[Ql]; decide) (t:=t) (g:=(Q7 W t).group) (c:=(Q7 W t).cpu) t0 (by omega) tn hu d0 d1;refine Calls.mono hcall ?_;rintro e1 wv1 ⟨he1,hy3⟩;rw[zn0 hs2' ((Q7 W t).cpu)] at hy3;have hK5:=hM4.deed hy3 hs5
  have hset:Wk 8 [y,y1] w (sto wv1 m'.tO (Int.toNat t*9+0) [.int .i64 1]) (setTk W t (Ta W t ((Q7 W t).cpu))) m':=by
   have:Wk 8 [y,y1] w (sto wv1 m'.tO (Int.toNat t*9+0) [.int .i64 1]) (setTk (setTk W t (Mt W t (Q7 W t).group ((Q7 W t).cpu))) t (Ta W t ((Q7 W t).cpu))) m':=hK5.sto (hK5.own.stoT t0 (by rw[Vv]; exact t1) (j:=0) (vs:=[.int .i64 1]) (x:=Ta W t ((Q7 W t).cpu)) (by rw[show gi (setTk W t (Mt W t (Q7 W t).group ((Q7 W t).cpu))).tasks t=_ from BB t0 t1]; rfl) (by simp)) GX
   rwa[set_set] at this
  have hixT:Ix m'.tO W.tasks.length t:=by
   have:=hK5.rd.t.ix Qy t0 (by rw[Vv]; exact t1)
   rwa[Vv] at this
  refine⟨_,_,_,_,_,_,_,_,_,_,he1,hM4.kept hy3 hs5,hixT,zif hK5.own hK5.nb t0 (by rw[Vv]; exact t1) (j:=0) (by decide),fun wr6 hx6 hs6=>?_⟩;have e5:Qa (setTk W t (Ta W t ((Q7 W t).cpu))) m'=Qa W m':=E1 _ _ _ _;have hE:zbv W t=Qg (endW (setTk W t (Ta W t ((Q7 W t).cpu))) ((Q7 W t).cpu)):=by unfold zbv; rw[hC]
  have sfV:=zib sf t0 t1 tn d0 d1;rw[hE];have hlV:(setTk W t (Ta W t ((Q7 W t).cpu))).cpus.length=W.cpus.length:=rfl;generalize setTk W t (Ta W t ((Q7 W t).cpu))=V at hset e5 sfV hlV;have hK6:=hset.step hx6;have hcall2:=Zn hK6.own d0 (by rw[hlV]; exact d1);rw[e5] at hcall2;refine Calls.mono hcall2 ?_;rintro e2 wv2 ⟨he2,hy4⟩;refine⟨_,_,_,_,_,_,_,_,_,_,he2,hK6.kept hy4 hs6,fun wr7 hx7 hs7=>?_⟩;have hK7:=(hK6.deed hy4 hs6).step hx7;have hcall3:=Qr hK7.own (sfV.endW d0 (by rw[hlV]; exact d1)).w (by simp only[Ql]; decide) (by simp only[Ql]; decide) hK7.base;refine Calls.mono hcall3 ?_;rintro e3 wv3 ⟨m2,he3,hy5⟩;exact⟨_,_,_,_,_,_,_,_,_,_,he3,hK7.kept hy5 hs7,fun wr8 hx8=>QE.ok hW hb ((hK7.deed hy5 hs7).step hx8)⟩
end
theorem zfw{a b w:Int}(ha:0<=a)(hb:0<=b)(h:a+b<=100000000)(w1:1<=w)(w2:w<=20):Z3 (a+b) w=Z3 a w+Z3 b w:=by
 rw[Ok (by omega) h w1 w2,Ok ha (by omega) w1 w2,Ok hb (by omega) w1 w2,Int.add_mul]
theorem zpc{l w:Int}(h0:0<=l)(h1:l<=Zo w):Xh l w=l:=by
 unfold Xh;rw[if_neg (show ¬Zo w<l by omega)]
 split <;> omega
theorem My{p q:Nat->Bool}:∀{n:Nat},(∀j,j<n->p j=q j)->Tg p n=Tg q n
 | 0,_=>rfl
 | n+1,h=>by simp only[Tg]; rw[My fun j hj=>h j (by omega),h n (by omega)]
theorem M6{p q:Nat->Bool}{v u:Nat->Int}:∀{n:Nat},(∀j,j<n->p j=q j)->(∀j,j<n->p j=true->v j=u j)->QI p v n=QI q u n
 | 0,_,_=>rfl
 | n+1,h,hv=>by
  have ih:=M6 (p:=p) (q:=q) (v:=v) (u:=u) (n:=n) (fun j hj=>h j (by omega)) fun j hj=>hv j (by omega)
  simp only[QI];rw[ih,<-h n (by omega)]
  cases hp:p n with
  | false=>simp
  | true=>
   rw[hv n (by omega) hp];rcases Zb q u n with ⟨e,_⟩ | ⟨e0,e1,e2,_⟩
   ·rw[e]; simp
   ·rw[hv _ (by omega) (by rw[h _ (by omega)]; exact e2)]
theorem YB{gs:List ZF}(ht:ZX gs):∀g:Int,Q6 gs g=true->∀x∈QX gs g,Q6 gs x=true/\x≠0:=
 PD ht (fun x hx=>by rw[show QX gs 0=[] from Za _ _] at hx; cases hx) fun h hu hz ih x hx=>by
  rw[Ys ht hu hz] at hx;rcases List.mem_cons.1 hx with e | e
  ·subst e; exact⟨hu,hz⟩
  ·exact ih x e
def Vn(W:Q8)(k c:Int):Prop:=(Qb W (gi W.groups k).parent c).floor<=(Qb W k c).v/\(Qb W k c).v-(Qb W (gi W.groups k).parent c).floor<=Zo (Qb W k c).w
structure Dj (W:Q8) (x:Mw):Prop where
 st:x.state=1\/x.state=2
 g:Q6 W.groups x.group=true
 n:Qc x.nice≠0
 m:P0 x.mask=true
 m0:x.mask≠0
 s:ZA x.sum=true
 u:ZA x.used=true
 l1:0<=x.load
 l2:x.load<=8000000
 f:x.state=1->(Qb W x.group x.cpu).floor<=x.v/\x.v-(Qb W x.group x.cpu).floor<=Zo (Qc x.nice)
structure zkq (W:Q8) (k c:Int):Prop where
 s:ZA (Qb W k c).sum=true
 root:k=0->(Qb W k c).on=false/\(Qb W k c).v=0/\(Qb W k c).w=10
 st:k≠0->(Qb W k c).on=true->Vn W k c
structure zwb (W:Q8) (c:Int):Prop where
 b:ZA (gi W.cpus c).busy=true
 i:ZA (gi W.cpus c).idle=true
 c1 : -1<=(gi W.cpus c).cur
 c2:(gi W.cpus c).cur<12
 no:(gi W.cpus c).cur<0->(gi W.cpus c).ran=0
 yes:0<=(gi W.cpus c).cur->(gi W.cpus c).up=true/\1<=(gi W.cpus c).ran/\(gi W.cpus c).ran<=149
 q:0<=(gi W.cpus c).cur->(Q7 W (gi W.cpus c).cur).state=1->(Q7 W (gi W.cpus c).cur).cpu=c->
  (Q7 W (gi W.cpus c).cur).v-(Qb W (Q7 W (gi W.cpus c).cur).group c).floor<=Z3 (gi W.cpus c).ran (Qc (Q7 W (gi W.cpus c).cur).nice)/\
  ∀x∈QX W.groups (Q7 W (gi W.cpus c).cur).group,Vn W x c/\(Qb W x c).v-(Qb W (gi W.groups x).parent c).floor<=Z3 (gi W.cpus c).ran (Qb W x c).w
structure PreA (W:Q8):Prop where
 a:WA W
 t:∀t:Int,0<=t->t<12->(Q7 W t).state=0/\Q7 W t=Tm\/(Q7 W t).state≠0/\Dj W (Q7 W t)
 l:∀t:Int,0<=t->t<12->(Q7 W t).state≠0->0<=(Q7 W t).cpu/\(Q7 W t).cpu<(W.cpus.length:Int)
 s:∀k c:Int,Q6 W.groups k=true->0<=c->c<(W.cpus.length:Int)->zkq W k c
structure Tb (W:Q8):Prop extends PreA W where
 c:∀c:Int,0<=c->c<(W.cpus.length:Int)->zwb W c
def AJ(W:Q8):Prop:=∀t:Int,0<=t->t<12->(Q7 W t).state≠0->QP (Qp W (Q7 W t).group (Q7 W t).mask) (Q7 W t).cpu=true
def zyv(W:Q8):Prop:=∀k c:Int,Q6 W.groups k=true->0<=c->c<(W.cpus.length:Int)->ZK W k c 20=true->Z7 W k c 20<=(Qb W k c).floor
theorem EG{v f k:Int}(hv:ZA v=true)(hf:ZA f=true):Mu v f k=true↔f<=v/\v-f<=Zo k:=by
 have h1:=Y3.1 hv;have h2:=Y3.1 hf;have hw:IntKind.i64.wrap (v-f)=v-f:=Qj.wrap (k:=.i64) ⟨by show _<=v-f; omega,by show v-f<=_; omega⟩;unfold Mu;rw[hw];simp
theorem Ux{W:Q8}(wp:YW W):AJ W:=fun t t0 t1 n=>by
 rcases wp.t t t0 t1 with h | h
 ·exact absurd h.1 n
 ·exact h.2.c
theorem D7{W:Q8}(wp:YW W){k c:Int}(hu:Q6 W.groups k=true)(c0:0<=c)(c1:c<(W.cpus.length:Int)):Me W k c:=by
 obtain⟨u0,u1,_⟩:=wp.a.u hu;have hl:=wp.a.sl hu;exact wp.s k c u0 u1 c0 (by omega)
theorem Xk{W:Q8}(wp:YW W):Tb W:=by
 have hst:∀k c:Int,Q6 W.groups k=true->k≠0->0<=c->c<(W.cpus.length:Int)->(Qb W k c).on=true->Vn W k c:=fun k c hu hz c0 c1 ho=>by
  have h1:=D7 wp hu c0 c1;have h2:=D7 wp (wp.a.up hu hz) c0 c1;exact(EG h1.v h2.f).1 (h1.st hz ho)
 refine⟨⟨wp.a,fun t t0 t1=>?_,fun t t0 t1 n=>?_,fun k c hu c0 c1=>?_⟩,fun c c0 c1=>?_⟩
 ·rcases wp.t t t0 t1 with h | ⟨n,h⟩
  ·exact .inl h
  ·refine .inr ⟨n,h.st,h.g,h.n,h.m,h.m0,h.s,h.u,h.l1,h.l2,fun h1=>?_⟩;obtain⟨d0,d1⟩:=L9 wp.a h.c;exact(EG h.v (D7 wp h.g d0 d1).f).1 (h.f h1)
 ·rcases wp.t t t0 t1 with h | ⟨_,h⟩
  ·exact absurd h.1 n
  ·exact L9 wp.a h.c
 ·have h:=D7 wp hu c0 c1;exact⟨h.s,h.root,fun hz ho=>hst k c hu hz c0 c1 ho⟩
 ·have h:=wp.c c c0 c1;have hl:=wp.a.t;refine⟨h.b,h.i,h.c1,by have:=h.c2; omega,h.no,fun h0=>⟨(h.yes h0).1,(h.yes h0).2.1,(h.yes h0).2.2.1⟩,fun h0 h1 h2=>?_⟩;obtain⟨_,_,_,_,hline,hstay⟩:=h.yes h0;unfold PJ at hstay;rw[Bool.and_eq_true,decide_eq_true_eq] at hstay;refine⟨hstay.1,fun x hx=>?_⟩
  have hu:Q6 W.groups (Q7 W (gi W.cpus c).cur).group=true:=by
   rcases wp.t _ h0 (by have:=h.c2; omega) with hz | ⟨_,hz⟩
   ·rw[hz.1] at h1; cases h1
   ·exact hz.g
  obtain⟨xu,xz⟩:=YB wp.a.tree _ hu x hx;unfold Z9 UF at hline;rw[Bool.and_eq_true,h2,List.all_eq_true] at hline;have hs:=hstay.2;unfold Tl at hs;rw[List.all_eq_true] at hs;exact⟨hst x c xu xz c0 c1 (hline.2 x hx),Ot (hs x hx)⟩
structure ES (c:Int) (W W':Q8):Prop where
 n:W'.now=W.now
 t:W'.tasks=W.tasks
 g:QR W.groups W'.groups
 len:W'.cpus.length=W.cpus.length
 b:∀i:Int,0<=i->(gi W'.groups i).band=(gi W.groups i).band
 e:∀k d:Int,0<=k->0<=d->d≠c->Qb W' k d=Qb W k d
 cp:∀d:Int,0<=d->d≠c->gi W'.cpus d=gi W.cpus d
theorem ES.refl(c:Int)(W:Q8):ES c W W:=⟨rfl,rfl,QR.refl _,rfl,fun _ _=>rfl,fun _ _ _ _ _=>rfl,fun _ _ _=>rfl⟩
theorem ES.trans{c:Int}{A B C:Q8}(h:ES c A B)(k:ES c B C):ES c A C:=⟨k.n.trans h.n,k.t.trans h.t,h.g.trans k.g,k.len.trans h.len,fun i hi=>(k.b i hi).trans (h.b i hi),fun i d hi hd hn=>(k.e i d hi hd hn).trans (h.e i d hi hd hn),fun d hd hn=>(k.cp d hd hn).trans (h.cp d hd hn)⟩
theorem B7{W:Q8}{g c:Int}{s:KE}(h0:0<=g)(h1:g<(W.groups.length:Int))(c0:0<=c)(c1:c<((gi W.groups g).shelves.length:Int)):ES c W (setSh W g c s):=
 ⟨rfl,rfl,XI h0 h1,rfl,fun i hi=>zei h0 h1 hi,fun k d hk hd hn=>by
  rw[Jv h0 h1 c0 c1 hk hd,if_neg fun h=>hn h.2.symm],fun _ _ _=>rfl⟩
theorem zjq{W:Q8}{c:Int}(c0:0<=c)(c1:c<(W.cpus.length:Int)):ES c W (endW W c):=
 ⟨rfl,rfl,QR.refl _,List.length_set,fun _ _=>rfl,fun _ _ _ _ _=>rfl,fun d d0 hn=>by
  show gi (W.cpus.set c.toNat (XK (gi W.cpus c))) d=_;rw[QA _ _ c0 c1 d0,if_neg fun h=>hn h.symm]⟩
section
variable {c d:Int}{W W':Q8}
theorem O6(ht:W'.tasks=W.tasks)(hT:QR W.groups W'.groups){g:Int}(h:∀j:Nat,j<W.groups.length->1<=j->(gi W.groups (j:Int)).used=true->(gi W.groups (j:Int)).parent=g->(Qb W' (j:Int) d).on=(Qb W (j:Int) d).on):QO W' g d=QO W g d:=by
 unfold QO;rw[ht,hT.len]
 congr 1
 ·refine My fun j _=>?_
  unfold On;rw[ht]
 ·refine My fun j hj=>?_
  unfold Jg;rw[hT.u,hT.p]
  by_cases h1:1<=j
  ·cases hu:(gi W.groups (j:Int)).used with
   | false=>simp
   | true=>
    by_cases hp:(gi W.groups (j:Int)).parent=g
    ·rw[h j hj h1 hu hp]
    ·rw[show ((gi W.groups (j:Int)).parent==g)=false from beq_false_of_ne hp]; simp
  ·simp[h1]
theorem zpi(ht:W'.tasks=W.tasks)(hT:QR W.groups W'.groups)(hl:W.groups.length=8)(h:∀k:Int,0<=k->(Qb W' k d).on=(Qb W k d).on)(g:Int){j:Nat}(hj:j<20):Ze W' g d j=Ze W g d j:=by
 unfold Ze;split
 ·unfold On; rw[ht]
 ·unfold Jg;rw[hT.u,hT.p,h _ (by omega)]
theorem ze2(ht:W'.tasks=W.tasks)(h:∀k:Int,0<=k->(Qb W' k d).v=(Qb W k d).v)(j:Nat):Zf W' d j=Zf W d j:=by
 unfold Zf;split
 ·unfold Q7; rw[ht]
 ·rw[h _ (by omega)]
theorem Fj(ht:W'.tasks=W.tasks)(hT:QR W.groups W'.groups)(hl:W.groups.length=8)(h:∀k:Int,0<=k->(Qb W' k d).on=(Qb W k d).on)(hv:∀k:Int,0<=k->(Qb W' k d).v=(Qb W k d).v)(g:Int):ZK W' g d 20=ZK W g d 20/\Z7 W' g d 20=Z7 W g d 20:=by
 have e:QI (Ze W' g d) (Zf W' d) 20=QI (Ze W g d) (Zf W d) 20:=M6 (fun j hj=>zpi ht hT hl h g hj) fun j _ _=>ze2 ht hv j
 unfold ZK Z7;rw[e];refine⟨rfl,?_⟩;split
 ·rfl
 ·exact ze2 ht hv _
theorem J1(ht:W'.tasks=W.tasks)(t:Int):Q7 W' t=Q7 W t:=by unfold Q7; rw[ht]
theorem T7(hT:QR W.groups W'.groups)(g:Int):QX W'.groups g=QX W.groups g:=hT.path 3 g
theorem zgn{g:Int}(hb:(gi W'.groups g).band=(gi W.groups g).band):UB W' g d=UB W g d:=by unfold UB; rw[hb]
end
theorem zmy{W:Q8}{g c:Int}{j:Nat}(hj:j<20)(h:Ze W g c j=true):ZK W g c 20=true/\Z7 W g c 20<=Zf W c j:=by
 unfold ZK Z7;rcases Zb (Ze W g c) (Zf W c) 20 with ⟨_,h2⟩ | ⟨h1,_,_,h4,_⟩
 ·rw[h2 j hj] at h; cases h
 ·rw[if_neg (by omega)];exact⟨decide_eq_true h1,h4 j hj h⟩
theorem zoo{W:Q8}(ha:WA W){t:Int}(t0:0<=t)(t1:t<12)(hs:(Q7 W t).state=1):ZK W (Q7 W t).group (Q7 W t).cpu 20=true/\Z7 W (Q7 W t).group (Q7 W t).cpu 20<=(Q7 W t).v:=by
 have e:((t.toNat:Nat):Int)=t:=by omega
 have h:Ze W (Q7 W t).group (Q7 W t).cpu t.toNat=true:=by
  rw[T5 (by omega)];unfold On;rw[e];show (((Q7 W t).state==1)&&((Q7 W t).group==_)&&((Q7 W t).cpu==_))=true;rw[hs]; simp
 have:=zmy (by omega) h
 rwa[FZ (by omega),e] at this
theorem zkt{W:Q8}(ha:WA W){k c:Int}(hu:Q6 W.groups k=true)(hz:k≠0)(ho:(Qb W k c).on=true):ZK W (gi W.groups k).parent c 20=true/\Z7 W (gi W.groups k).parent c 20<=(Qb W k c).v:=by
 obtain⟨k0,k1,ku⟩:=Q5.1 hu;have hl:=ha.gl;have e:((k.toNat:Nat):Int)=k:=by omega
 have h:Ze W (gi W.groups k).parent c (12+k.toNat)=true:=by
  rw[JW];unfold Jg;rw[e,ku,ho];simp;omega
 have:=zmy (by omega) h
 rwa[FY,e] at this
structure LC (c:Int) (W W':Q8):Prop where
 o:ES c W W'
 cs:W'.cpus=W.cpus
 f:∀k d:Int,0<=k->0<=d->(Qb W' k d).floor=(Qb W k d).floor
 w:∀k d:Int,0<=k->0<=d->(Qb W' k d).w=(Qb W k d).w
 s:∀k d:Int,0<=k->0<=d->(Qb W' k d).sum=(Qb W k d).sum
 r:∀d:Int,0<=d->Qb W' 0 d=Qb W 0 d
 v:∀k d:Int,Q6 W.groups k=true->k≠0->0<=d->Vn W k d->(Qb W' k d).v=(Qb W k d).v
theorem LC.refl(c:Int)(W:Q8):LC c W W:=⟨ES.refl _ _,rfl,fun _ _ _ _=>rfl,fun _ _ _ _=>rfl,fun _ _ _ _=>rfl,fun _ _=>rfl,fun _ _ _ _ _ _=>rfl⟩
theorem LC.st{c:Int}{W W':Q8}(ht:ZX W.groups)(h:LC c W W'){k d:Int}(hu:Q6 W.groups k=true)(hz:k≠0)(d0:0<=d)(hs:Vn W k d):Vn W' k d:=by
 have hp:=(Q5.1 (ZY ht hu hz).1).1;have k0:=(Q5.1 hu).1;unfold Vn;rw[h.o.g.p,h.f _ d hp d0,h.v k d hu hz d0 hs,h.w k d k0 d0];exact hs
theorem LC.trans{c:Int}{A B C:Q8}(ht:ZX A.groups)(h:LC c A B)(k:LC c B C):LC c A C:=
 ⟨h.o.trans k.o,k.cs.trans h.cs,fun i d a b=>(k.f i d a b).trans (h.f i d a b),fun i d a b=>(k.w i d a b).trans (h.w i d a b),fun i d a b=>(k.s i d a b).trans (h.s i d a b),fun d a=>(k.r d a).trans (h.r d a),fun i d hu hz d0 hs=>by
  rw[k.v i d (by rw[h.o.g.usd]; exact hu) hz d0 (h.st ht hu hz d0 hs),h.v i d hu hz d0 hs]⟩
theorem Tb.lc{c:Int}{W W':Q8}(p:Tb W)(h:LC c W W')(ha:WA W')(hon:∀k d:Int,Q6 W.groups k=true->k≠0->0<=d->d<(W.cpus.length:Int)->(Qb W' k d).on=true->Vn W' k d):Tb W':=by
 have et:∀t,Q7 W' t=Q7 W t:=J1 h.o.t;refine⟨⟨ha,fun t t0 t1=>?_,fun t t0 t1 n=>?_,fun k d hu d0 d1=>?_⟩,fun d d0 d1=>?_⟩
 ·rw[et];rcases p.t t t0 t1 with hz | ⟨n,hx⟩
  ·exact .inl hz
  ·refine .inr ⟨n,hx.st,by rw[h.o.g.usd]; exact hx.g,hx.n,hx.m,hx.m0,hx.s,hx.u,hx.l1,hx.l2,fun h1=>?_⟩;rw[h.f _ _ (Q5.1 hx.g).1 (p.l t t0 t1 n).1];exact hx.f h1
 ·rw[et] at n ⊢;rw[h.o.len];exact p.l t t0 t1 n
 ·rw[h.o.g.usd] at hu;rw[h.cs] at d1;have hs:=p.s k d hu d0 d1;have k0:=(Q5.1 hu).1;refine⟨by rw[h.s k d k0 d0]; exact hs.s,fun hz=>?_,fun hz ho=>hon k d hu hz d0 d1 ho⟩;subst hz;rw[h.r d d0];exact hs.root rfl
 ·rw[h.cs] at d1;have hc:=p.c d d0 d1;refine⟨by rw[h.cs]; exact hc.b,by rw[h.cs]; exact hc.i,by rw[h.cs]; exact hc.c1,by rw[h.cs]; exact hc.c2,by rw[h.cs]; exact hc.no,by rw[h.cs]; exact hc.yes,?_⟩;rw[h.cs];simp only[et];intro h0 h1 h2;obtain⟨q1,q2⟩:=hc.q h0 h1 h2
  have hu:Q6 W.groups (Q7 W (gi W.cpus d).cur).group=true:=by
   rcases p.t _ h0 hc.c2 with hz | ⟨_,hx⟩
   ·rw[hz.1] at h1; cases h1
   ·exact hx.g
  refine⟨by rw[h.f _ d (Q5.1 hu).1 d0]; exact q1,fun x hx=>?_⟩;rw[T7 h.o.g] at hx;obtain⟨xu,xz⟩:=YB p.a.tree _ hu x hx;obtain⟨s1,s2⟩:=q2 x hx;refine⟨h.st p.a.tree xu xz d0 s1,?_⟩;rw[h.o.g.p,h.v x d xu xz d0 s1,h.f _ d (Q5.1 (p.a.up xu xz)).1 d0,h.w x d (Q5.1 xu).1 d0];exact s2
def VA(W:Q8)(c k:Int):Prop:=(Qb W k c).on=(QO W k c && !UB W k c)
theorem zrs{W:Q8}(p:Tb W){k c d:Int}(hu:Q6 W.groups k=true)(hd:dep 3 W.groups k=d)(d1:1<=d)(c0:0<=c)(c1:c<(W.cpus.length:Int)) :
  LC c W (setSh W k c (Yx W k c))/\Tb (setSh W k c (Yx W k c))/\VA (setSh W k c (Yx W k c)) c k/\∀g:Int,Q6 W.groups g=true->g≠k->(gi W.groups k).parent≠g->VA W c g->VA (setSh W k c (Yx W k c)) c g:=by
 have hz:k≠0:=fun e=>by subst e; rw[Yk] at hd; omega
 obtain⟨u0,u1,_⟩:=Q5.1 hu;have hl:=p.a.gl;have hsl:=p.a.sl hu;have c1':c<((gi W.groups k).shelves.length:Int):=by omega
 have hpu:=p.a.up hu hz
 have hpk:(gi W.groups k).parent≠k:=fun e=>by
  obtain⟨_,_,_,n,e1,e2,_⟩:=ZY p.a.tree hu hz;rw[e] at e2; omega
 have e:∀{i j:Int},0<=i->0<=j->Qb (setSh W k c (Yx W k c)) i j=if k=i/\c=j then Yx W k c else Qb W i j:=fun hi hj=>Jv u0 u1 c0 c1' hi hj
 have ev:Vn W k c->(Yx W k c).v=(Qb W k c).v:=fun hs=>by
  simp only[Yx];split
  ·rw[zpc (by have:=hs.1; omega) hs.2]; omega
  ·rfl
 have eq0:∀{i j:Int},k=i/\c=j->(Yx W k c).floor=(Qb W i j).floor/\(Yx W k c).w=(Qb W i j).w/\(Yx W k c).sum=(Qb W i j).sum:=fun h=>by
  obtain⟨rfl,rfl⟩:=h; exact⟨rfl,rfl,rfl⟩
 have hT:=XI (W:=W) (g:=k) (c:=c) (s:=Yx W k c) u0 u1
 have lc:LC c W (setSh W k c (Yx W k c)):=by
  refine⟨B7 u0 u1 c0 c1',rfl,fun i j hi hj=>?_,fun i j hi hj=>?_,fun i j hi hj=>?_,fun j hj=>?_,fun i j iu iz hj hs=>?_⟩
  ·rw[e hi hj]; split
   ·rename_i h; exact(eq0 h).1
   ·rfl
  ·rw[e hi hj]; split
   ·rename_i h; exact(eq0 h).2.1
   ·rfl
  ·rw[e hi hj]; split
   ·rename_i h; exact(eq0 h).2.2
   ·rfl
  ·rw[e (Int.le_refl 0) hj,if_neg fun h=>hz h.1]
  ·rw[e (Q5.1 iu).1 hj]; split
   ·rename_i h;obtain⟨rfl,rfl⟩:=h;exact ev hs
   ·rfl
 have act:∀g:Int,(gi W.groups k).parent≠g->QO (setSh W k c (Yx W k c)) g c=QO W g c:=fun g hg=>by
  refine O6 (W:=W) (W':=setSh W k c (Yx W k c)) rfl hT fun j hj _ _ hp=>?_
  rw[e (by omega) c0,if_neg];rintro⟨h,_⟩;exact hg (by rw[h]; exact hp)
 have hoe:VA (setSh W k c (Yx W k c)) c k:=by
  unfold VA;rw[e u0 c0,if_pos ⟨rfl,rfl⟩,act k hpk,Gb u0 u1 u0];rfl
 refine⟨lc,p.lc lc (p.a.setSh u0 (by omega)) fun i j iu iz j0 j1 ho=>?_,hoe,fun g gu gk hg h=>?_⟩
 ·by_cases h:k=i/\c=j
  ·obtain⟨rfl,rfl⟩:=h
   by_cases hs:Vn W k c
   ·exact lc.st p.a.tree hu hz c0 hs
   ·have hoff:(Qb W k c).on=false:=by
     cases hb:(Qb W k c).on with
     | false=>rfl
     | true=>exact absurd ((p.s k c hu c0 c1).st hz hb) hs
    rw[e u0 c0,if_pos ⟨rfl,rfl⟩] at ho;have ho:(QO W k c && !UB W k c)=true:=ho;unfold Vn;rw[hT.p,e u0 c0,if_pos ⟨rfl,rfl⟩,lc.f _ c (Q5.1 hpu).1 c0];simp only[Yx];rw[if_pos ⟨ho,hoff⟩];have:=ZW ((Qb W k c).v-(Qb W (gi W.groups k).parent c).floor) (Qb W k c).w;omega
  ·rw[e (Q5.1 iu).1 j0,if_neg h] at ho;exact lc.st p.a.tree iu iz j0 ((p.s i j iu j0 j1).st iz ho)
 ·unfold VA;have g0:=(Q5.1 gu).1;rw[e g0 c0,if_neg fun h=>gk h.1.symm,act g hg,Gb u0 u1 g0];exact h
theorem zjk{W:Q8}(p:Tb W){c d:Int}(d1:1<=d)(c0:0<=c)(c1:c<(W.cpus.length:Int))(hI:∀g:Int,Q6 W.groups g=true->d<dep 3 W.groups g->VA W c g):∀k:Nat,k<=8->
  LC c W (ZU W c d k)/\Tb (ZU W c d k)/\∀g:Int,Q6 W.groups g=true->d<dep 3 W.groups g\/dep 3 W.groups g=d/\g<(k:Int)->VA (ZU W c d k) c g
 | 0,_=>⟨LC.refl _ _,p,fun g gu h=>hI g gu (by
   rcases h with h | h
   ·exact h
   ·have:=(Q5.1 gu).1;have:=h.2;omega)⟩
 | k+1,hk=>by
  obtain⟨a,b,ih⟩:=zjk p d1 c0 c1 hI k (by omega);have hl:=b.a.gl;have hT:=a.o.g;simp only[ZU];split
  ·rename_i hc;have hu:Q6 (ZU W c d k).groups (k:Int)=true:=Q5.2 ⟨by omega,by omega,hc.1⟩;obtain⟨l1,l2,l3,l4⟩:=zrs b hu hc.2 d1 c0 (c:=c) (by rw[a.cs]; exact c1);refine⟨a.trans p.a.tree l1,l2,fun g gu h=>?_⟩
   by_cases e:g=(k:Int)
   ·subst e; exact l3
   ·have hkz:(k:Int)≠0:=fun e=>by have:=hc.2; rw[e,Yk] at this; omega
    obtain⟨_,_,_,n,e1,e2,_⟩:=ZY b.a.tree hu hkz;refine l4 g (by rw[hT.usd]; exact gu) e (fun hp=>?_) (ih g gu ?_)
    ·rw[hp,hT.dep] at e2;have:=hc.2;omega
    ·rcases h with h | h
     ·exact .inl h
     ·exact .inr ⟨h.1,by have:=h.2; omega⟩
  ·rename_i hc;refine⟨a,b,fun g gu h=>ih g gu ?_⟩;rcases h with h | h
   ·exact .inl h
   ·refine .inr ⟨h.1,?_⟩
    by_cases e:g=(k:Int)
    ·subst e;exact absurd ⟨by rw[hT.u]; exact(Q5.1 gu).2.2,by rw[hT.dep]; exact h.1⟩ hc
    ·have:=h.2;omega
theorem ze1{W:Q8}(p:Tb W){c:Int}(c0:0<=c)(c1:c<(W.cpus.length:Int)):LC c W (QJ W c)/\Tb (QJ W c)/\∀g:Int,Q6 W.groups g=true->g≠0->VA (QJ W c) c g:=by
 have key:∀j:Nat,j<=3->LC c W (XX W c j)/\Tb (XX W c j)/\∀g:Int,Q6 W.groups g=true->3-(j:Int)<dep 3 W.groups g->VA (XX W c j) c g:=by
  intro j
  induction j with
  | zero=>exact fun _=>⟨LC.refl _ _,p,fun g gu h=>by have:=(Lb p.a gu).2; omega⟩
  | succ j ih=>
   intro hj;obtain⟨a,b,h⟩:=ih (by omega);have hT:=a.o.g;obtain⟨a2,b2,h2⟩:=zjk b (c:=c) (d:=3-(j:Int)) (by omega) c0 (by rw[a.cs]; exact c1) (fun g gu hd=>h g (by rwa[hT.usd] at gu) (by rwa[hT.dep] at hd)) 8 (Nat.le_refl _);refine⟨a.trans p.a.tree a2,b2,fun g gu hd=>h2 g (by rw[hT.usd]; exact gu) ?_⟩;rw[hT.dep];have:=(Q5.1 gu).2.1;have:=p.a.gl
   by_cases e:dep 3 W.groups g=3-(j:Int)
   ·exact .inr ⟨e,by omega⟩
   ·exact .inl (by omega)
 obtain⟨a,b,h⟩:=key 3 (Nat.le_refl _);refine⟨a,b,fun g gu gz=>h g gu ?_⟩;obtain⟨_,_,_,n,e1,_⟩:=ZY p.a.tree gu gz;omega
theorem zaf{W:Q8}(p:Tb W):∀c:Nat,c<=W.cpus.length->Tb (YP W c)/\(YP W c).cpus=W.cpus
 | 0,_=>⟨p,rfl⟩
 | c+1,hc=>by
  obtain⟨a,e⟩:=zaf p c (by omega);obtain⟨l,b,_⟩:=ze1 a (c:=(c:Int)) (by omega) (by rw[e]; omega);exact⟨b,l.cs.trans e⟩
theorem Tb.onlyB{W W':Q8}(p:Tb W)(ho:VE W W')(ha:WA W'):Tb W':=by
 have et:∀t,Q7 W' t=Q7 W t:=J1 ho.t;have es:∀k d:Int,0<=k->Qb W' k d=Qb W k d:=fun k d hk=>by unfold Qb; rw[ho.s k hk]
 have est:∀k d:Int,Q6 W.groups k=true->k≠0->(Vn W' k d↔Vn W k d):=fun k d hu hz=>by
  unfold Vn;rw[ho.g.p,es _ _ (Q5.1 (p.a.up hu hz)).1,es _ _ (Q5.1 hu).1]
 refine⟨⟨ha,fun t t0 t1=>?_,fun t t0 t1 n=>?_,fun k d hu d0 d1=>?_⟩,fun d d0 d1=>?_⟩
 ·rw[et];rcases p.t t t0 t1 with hz | ⟨n,hx⟩
  ·exact .inl hz
  ·refine .inr ⟨n,hx.st,by rw[ho.g.usd]; exact hx.g,hx.n,hx.m,hx.m0,hx.s,hx.u,hx.l1,hx.l2,fun h1=>?_⟩;rw[es _ _ (Q5.1 hx.g).1];exact hx.f h1
 ·rw[et] at n ⊢;rw[ho.c];exact p.l t t0 t1 n
 ·rw[ho.g.usd] at hu;rw[ho.c] at d1;have hs:=p.s k d hu d0 d1;have k0:=(Q5.1 hu).1;exact⟨by rw[es k d k0]; exact hs.s,by rw[es k d k0]; exact hs.root,fun hz h=>(est k d hu hz).2 (hs.st hz (by rwa[es k d k0] at h))⟩
 ·rw[ho.c] at d1;have hc:=p.c d d0 d1;refine⟨by rw[ho.c]; exact hc.b,by rw[ho.c]; exact hc.i,by rw[ho.c]; exact hc.c1,by rw[ho.c]; exact hc.c2,by rw[ho.c]; exact hc.no,by rw[ho.c]; exact hc.yes,?_⟩;rw[ho.c];simp only[et];intro h0 h1 h2;obtain⟨q1,q2⟩:=hc.q h0 h1 h2
  have hu:Q6 W.groups (Q7 W (gi W.cpus d).cur).group=true:=by
   rcases p.t _ h0 hc.c2 with hz | ⟨_,hx⟩
   ·rw[hz.1] at h1; cases h1
   ·exact hx.g
  refine⟨by rw[es _ d (Q5.1 hu).1]; exact q1,fun x hx=>?_⟩;rw[T7 ho.g] at hx;obtain⟨xu,xz⟩:=YB p.a.tree _ hu x hx;obtain⟨s1,s2⟩:=q2 x hx;refine⟨(est x d xu xz).2 s1,?_⟩;rw[ho.g.p,es x d (Q5.1 xu).1,es _ d (Q5.1 (p.a.up xu xz)).1];exact s2
structure FC (c:Int) (W W':Q8):Prop where
 o:ES c W W'
 cs:W'.cpus=W.cpus
 on:∀k d:Int,0<=k->0<=d->(Qb W' k d).on=(Qb W k d).on
 v:∀k d:Int,0<=k->0<=d->(Qb W' k d).v=(Qb W k d).v
 w:∀k d:Int,0<=k->0<=d->(Qb W' k d).w=(Qb W k d).w
 s:∀k d:Int,0<=k->0<=d->(Qb W' k d).sum=(Qb W k d).sum
 up:∀k d:Int,0<=k->0<=d->(Qb W k d).floor<=(Qb W' k d).floor
 fl:∀k:Int,0<=k->(Qb W' k c).floor=(Qb W k c).floor\/ZK W k c 20=true/\(Qb W' k c).floor=Z7 W k c 20
theorem Fx{W:Q8}(ha:WA W){c:Int}(c0:0<=c)(c1:c<(W.cpus.length:Int)):∀k:Nat,k<=8->FC c W (QZ W c k)/\WA (QZ W c k)/\∀g:Int,Q6 W.groups g=true->g<(k:Int)->ZK W g c 20=true->Z7 W g c 20<=(Qb (QZ W c k) g c).floor
 | 0,_=>⟨⟨ES.refl _ _,rfl,fun _ _ _ _=>rfl,fun _ _ _ _=>rfl,fun _ _ _ _=>rfl,fun _ _ _ _=>rfl,fun _ _ _ _=>Int.le_refl _,fun _ _=>.inl rfl⟩,ha,fun g gu h=>by have:=(Q5.1 gu).1; omega⟩
 | k+1,hk=>by
  obtain⟨f,hA,ih⟩:=Fx ha c0 c1 k (by omega);have hl:=hA.gl;have hT:=f.o.g;have hb:=Fj f.o.t hT ha.gl (fun i hi=>f.on i c hi c0) (fun i hi=>f.v i c hi c0);simp only[QZ];split
  ·rename_i hc;have hu:Q6 (QZ W c k).groups (k:Int)=true:=Q5.2 ⟨by omega,by omega,hc.1⟩;have hsl:=hA.sl hu;have c1':c<((gi (QZ W c k).groups (k:Int)).shelves.length:Int):=by rw[hsl,f.cs]; exact c1
   have e:∀{i j:Int},0<=i->0<=j->Qb (setSh (QZ W c k) (k:Int) c (Fy (QZ W c k) (k:Int) c)) i j=if (k:Int)=i/\c=j then Fy (QZ W c k) (k:Int) c else Qb (QZ W c k) i j:=fun hi hj=>Jv (by omega) (by omega) c0 c1' hi hj
   refine⟨⟨f.o.trans (B7 (by omega) (by omega) c0 c1'),f.cs,fun i j hi hj=>?_,fun i j hi hj=>?_,fun i j hi hj=>?_,fun i j hi hj=>?_,fun i j hi hj=>?_,fun i hi=>?_⟩,hA.setSh (by omega) (by omega),fun g gu hg hB=>?_⟩
   ·rw[e hi hj]; split
    ·rename_i h; obtain⟨rfl,rfl⟩:=h; exact f.on _ _ hi hj
    ·exact f.on i j hi hj
   ·rw[e hi hj]; split
    ·rename_i h; obtain⟨rfl,rfl⟩:=h; exact f.v _ _ hi hj
    ·exact f.v i j hi hj
   ·rw[e hi hj]; split
    ·rename_i h; obtain⟨rfl,rfl⟩:=h; exact f.w _ _ hi hj
    ·exact f.w i j hi hj
   ·rw[e hi hj]; split
    ·rename_i h; obtain⟨rfl,rfl⟩:=h; exact f.s _ _ hi hj
    ·exact f.s i j hi hj
   ·rw[e hi hj]; split
    ·rename_i h; obtain⟨rfl,rfl⟩:=h;have h1:=f.up (k:Int) c hi hj;have h2:=hc.2.2;show _<=Z7 (QZ W c k) (k:Int) c 20;omega
    ·exact f.up i j hi hj
   ·rw[e hi c0]; split
    ·rename_i h; obtain⟨rfl,_⟩:=h;refine .inr ⟨(hb _).1▸hc.2.1,?_⟩;show Z7 (QZ W c k) (k:Int) c 20=_;exact(hb _).2
    ·exact f.fl i hi
   ·have g0:=(Q5.1 gu).1;rw[e g0 c0];split
    ·rename_i h; obtain⟨rfl,_⟩:=h;show _<=Z7 (QZ W c k) (k:Int) c 20;rw[(hb _).2]; exact Int.le_refl _
    ·rename_i h;exact ih g gu (by have:g≠(k:Int):=fun e=>h ⟨e.symm,rfl⟩; omega) hB
  ·rename_i hc;refine⟨f,hA,fun g gu hg hB=>?_⟩
   by_cases e:g=(k:Int)
   ·subst e;rw[hT.u,(hb _).1,(hb _).2] at hc
    by_cases h:Z7 W (k:Int) c 20>(Qb (QZ W c k) (k:Int) c).floor
    ·exact absurd ⟨(Q5.1 gu).2.2,hB,h⟩ hc
    ·omega
   ·exact ih g gu (by omega) hB
theorem ES.active{c d:Int}{W W':Q8}(h:ES c W W')(d0:0<=d)(hd:d≠c)(g:Int):QO W' g d=QO W g d:=
 O6 h.t h.g fun j _ _ _ _=>by rw[h.e _ d (by omega) d0 hd]
theorem ES.line{c:Int}{W W':Q8}(h:ES c W W')(ht:ZX W.groups){t:Int}(hu:Q6 W.groups (Q7 W t).group=true)(d0:0<=(Q7 W t).cpu)(hd:(Q7 W t).cpu≠c):Z9 W' t=Z9 W t:=by
 unfold Z9 UF;rw[J1 h.t,T7 h.g]
 congr 1
 rw[Bool.eq_iff_iff,List.all_eq_true,List.all_eq_true];refine forall_congr' fun x=>forall_congr' fun hx=>?_
 rw[h.e x _ (Q5.1 (YB ht _ hu x hx).1).1 d0 hd]
structure Dn (W:Q8) (c:Int):Prop where
 on:∀k:Int,Q6 W.groups k=true->k≠0->VA W c k
 cu:0<=(gi W.cpus c).cur->(Q7 W (gi W.cpus c).cur).cpu=c/\Z9 W (gi W.cpus c).cur=true
 fl:∀k:Int,Q6 W.groups k=true->ZK W k c 20=true->Z7 W k c 20<=(Qb W k c).floor
theorem Dn.oth{c d:Int}{W W':Q8}(h:Dn W d)(p:Tb W)(o:ES c W W')(d0:0<=d)(d1:d<(W.cpus.length:Int))(hd:d≠c):Dn W' d:=by
 refine⟨fun k hu hz=>?_,fun h0=>?_,fun k hu hB=>?_⟩
 ·rw[o.g.usd] at hu;have k0:=(Q5.1 hu).1;have:=h.on k hu hz;unfold VA at this ⊢;rw[o.e k d k0 d0 hd,o.active d0 hd,zgn (o.b k k0)];exact this
 ·rw[o.cp d d0 hd] at h0 ⊢;rw[J1 o.t];obtain⟨h1,h2⟩:=h.cu h0;refine⟨h1,?_⟩
  have hs:(Q7 W (gi W.cpus d).cur).state=1:=by
   unfold Z9 at h2;rw[Bool.and_eq_true] at h2;exact eq_of_beq h2.1
  have hu:Q6 W.groups (Q7 W (gi W.cpus d).cur).group=true:=by
   rcases p.t _ h0 (p.c d d0 d1).c2 with hz | ⟨_,hx⟩
   ·rw[hz.1] at hs; cases hs
   ·exact hx.g
  rw[o.line p.a.tree hu (by rw[h1]; exact d0) (by rw[h1]; exact hd)];exact h2
 ·rw[o.g.usd] at hu;have hb:=Fj (d:=d) o.t o.g p.a.gl (fun i hi=>by rw[o.e i d hi d0 hd]) (fun i hi=>by rw[o.e i d hi d0 hd]) k;rw[hb.1] at hB;rw[hb.2,o.e k d (Q5.1 hu).1 d0 hd];exact h.fl k hu hB
theorem Dj.cp{W:Q8}{x:Mw}(h:Dj W x)(cs:List M0):Dj { W with cpus:=cs } x:=⟨h.st,h.g,h.n,h.m,h.m0,h.s,h.u,h.l1,h.l2,h.f⟩
theorem zkq.cp{W:Q8}{k c:Int}(h:zkq W k c)(cs:List M0):zkq { W with cpus:=cs } k c:=⟨h.s,h.root,h.st⟩
theorem PreA.endW{W:Q8}(p:PreA W){c:Int}(c0:0<=c)(c1:c<(W.cpus.length:Int)):PreA (endW W c):=by
 have hlen:(YtclpmgfpjeaibaaGreat.endW W c).cpus.length=W.cpus.length:=List.length_set;refine⟨?_,fun t t0 t1=>?_,fun t t0 t1 n=>?_,fun k d hu d0 d1=>?_⟩
 ·refine p.a.cp List.length_set ?_;rw[zh7 List.length_set fun j hj=>?_]
  ·exact p.a.ups
  ·rw[QA _ _ c0 c1 (by omega)];split
   ·rename_i e; rw[<-e]; rfl
   ·rfl
 ·rcases p.t t t0 t1 with h | h
  ·exact .inl h
  ·exact .inr ⟨h.1,h.2.cp _⟩
 ·rw[hlen]; exact p.l t t0 t1 n
 ·rw[hlen] at d1; exact(p.s k d hu d0 d1).cp _
theorem Tb.endW{W:Q8}(p:Tb W){c:Int}(c0:0<=c)(c1:c<(W.cpus.length:Int)):Tb (endW W c):=by
 refine⟨p.toPreA.endW c0 c1,fun d d0 d1=>?_⟩;have hlen:(YtclpmgfpjeaibaaGreat.endW W c).cpus.length=W.cpus.length:=List.length_set;have hcp:gi (YtclpmgfpjeaibaaGreat.endW W c).cpus d=if c=d then XK (gi W.cpus c) else gi W.cpus d:=QA _ _ c0 c1 d0;rw[hlen] at d1;have hc:=p.c d d0 d1
 by_cases e:c=d
 ·subst e;rw[if_pos rfl] at hcp;have n1:(XK (gi W.cpus c)).cur = -1:=rfl;exact⟨by rw[hcp]; exact hc.b,by rw[hcp]; exact hc.i,by rw[hcp,n1]; exact Int.le_refl _,by rw[hcp,n1]; decide,fun _=>by rw[hcp]; rfl,fun h=>by rw[hcp,n1] at h; omega,fun h=>by rw[hcp,n1] at h; omega⟩
 ·rw[if_neg e] at hcp;exact⟨by rw[hcp]; exact hc.b,by rw[hcp]; exact hc.i,by rw[hcp]; exact hc.c1,by rw[hcp]; exact hc.c2,by rw[hcp]; exact hc.no,by rw[hcp]; exact hc.yes,by rw[hcp]; exact hc.q⟩
theorem zsu{W:Q8}(p:Tb W){c:Int}(c0:0<=c)(c1:c<(W.cpus.length:Int)):Tb (T9 W c)/\ES c W (T9 W c)/\Dn (T9 W c) c:=by
 obtain⟨l,p1,hon⟩:=ze1 p c0 c1;obtain⟨f,hA,hfl⟩:=Fx p1.a c0 (c:=c) (by rw[l.cs]; exact c1) 8 (Nat.le_refl _);have f:FC c (QJ W c) (Zm (QJ W c) c):=f;have hA:WA (Zm (QJ W c) c):=hA;have hfl:∀g:Int,Q6 (QJ W c).groups g=true->g<((8:Nat):Int)->ZK (QJ W c) g c 20=true->Z7 (QJ W c) g c 20<=(Qb (Zm (QJ W c) c) g c).floor:=hfl;have hon:∀g:Int,Q6 (QJ W c).groups g=true->g≠0->VA (QJ W c) c g:=fun g gu gz=>hon g (by rwa[l.o.g.usd] at gu) gz
 have hgl:=p1.a.gl;have hlc:(QJ W c).cpus.length=W.cpus.length:=by rw[l.cs]
 have hdef:T9 W c=if Kq (Zm (QJ W c) c) c=true then endW (Zm (QJ W c) c) c else Zm (QJ W c) c:=rfl;have hO:ES c W (Zm (QJ W c) c):=l.o.trans f.o;rw[hdef];clear hdef;have c1':c<((QJ W c).cpus.length:Int):=by rw[hlc]; exact c1
 generalize QJ W c=V at p1 hon f hA hfl hgl hlc hO c1';generalize Zm V c=F at f hA hfl hO;have et:∀t,Q7 F t=Q7 V t:=J1 f.o.t;have hT:=f.o.g;have best:=Fj (d:=c) f.o.t hT hgl (fun i hi=>f.on i c hi c0) (fun i hi=>f.v i c hi c0)
 have low:∀k:Int,Q6 V.groups k=true->∀v:Int,(ZK V k c 20=true/\Z7 V k c 20<=v)->(Qb V k c).floor<=v->(Qb F k c).floor<=v:=fun k hu v hv hf=>by
  rcases f.fl k (Q5.1 hu).1 with e | ⟨_,e⟩
  ·rw[e]; exact hf
  ·rw[e]; exact hv.2
 have st:∀k d:Int,Q6 V.groups k=true->k≠0->0<=d->(Qb V k d).on=true->Vn V k d->Vn F k d:=fun k d hu hz d0 ho hs=>by
  have pu:=p1.a.up hu hz;have k0:=(Q5.1 hu).1;have q0:=(Q5.1 pu).1;unfold Vn;rw[hT.p,f.v k d k0 d0,f.w k d k0 d0];have hup:=f.up _ d q0 d0;refine⟨?_,by have:=hs.2; omega⟩
  by_cases hd:d=c
  ·subst hd;exact low _ pu _ (zkt p1.a hu hz ho) hs.1
  ·rw[f.o.e _ d q0 d0 hd]; exact hs.1
 have pa:PreA F:=by
  refine⟨hA,fun t t0 t1=>?_,fun t t0 t1 n=>?_,fun k d hu d0 d1=>?_⟩
  ·rw[et];rcases p1.t t t0 t1 with hz | ⟨n,hx⟩
   ·exact .inl hz
   ·refine .inr ⟨n,hx.st,by rw[hT.usd]; exact hx.g,hx.n,hx.m,hx.m0,hx.s,hx.u,hx.l1,hx.l2,fun h1=>?_⟩;obtain⟨d0,d1⟩:=p1.l t t0 t1 n;have g0:=(Q5.1 hx.g).1;have hup:=f.up _ _ g0 d0;have hs:=hx.f h1;refine⟨?_,by omega⟩
    by_cases hd:(Q7 V t).cpu=c
    ·have hb:=zoo p1.a t0 t1 h1;rw[hd] at hb hs ⊢;exact low _ hx.g _ hb hs.1
    ·rw[f.o.e _ _ g0 d0 hd]; exact hs.1
  ·rw[et] at n ⊢;rw[f.cs];exact p1.l t t0 t1 n
  ·rw[hT.usd] at hu;rw[f.cs] at d1;have hs:=p1.s k d hu d0 d1;have k0:=(Q5.1 hu).1;refine⟨by rw[f.s k d k0 d0]; exact hs.s,fun hz=>?_,fun hz h=>?_⟩
   ·rw[f.on k d k0 d0,f.v k d k0 d0,f.w k d k0 d0]; exact hs.root hz
   ·rw[f.on k d k0 d0] at h;exact st k d hu hz d0 h (hs.st hz h)
 have ptu:∀t:Int,0<=t->t<12->(Q7 V t).state=1->Q6 V.groups (Q7 V t).group=true:=fun t t0 t1 h=>by
  rcases p1.t t t0 t1 with hz | ⟨_,hx⟩
  ·rw[hz.1] at h; cases h
  ·exact hx.g
 have pc:∀d:Int,0<=d->d<(V.cpus.length:Int)->(d=c->Kq F c=false)->zwb F d:=fun d d0 d1 hg=>by
  have hc:=p1.c d d0 d1;refine⟨by rw[f.cs]; exact hc.b,by rw[f.cs]; exact hc.i,by rw[f.cs]; exact hc.c1,by rw[f.cs]; exact hc.c2,by rw[f.cs]; exact hc.no,by rw[f.cs]; exact hc.yes,?_⟩;rw[f.cs];simp only[et];intro h0 h1 h2;obtain⟨q1,q2⟩:=hc.q h0 h1 h2;have hu:=ptu _ h0 hc.c2 h1;have hup:=f.up _ d (Q5.1 hu).1 d0;refine⟨by omega,fun x hx=>?_⟩;rw[T7 hT] at hx;obtain⟨xu,xz⟩:=YB p1.a.tree _ hu x hx;obtain⟨s1,s2⟩:=q2 x hx;have x0:=(Q5.1 xu).1;have q0:=(Q5.1 (p1.a.up xu xz)).1;have hup2:=f.up _ d q0 d0;refine⟨?_,by rw[hT.p,f.v x d x0 d0,f.w x d x0 d0]; omega⟩
  by_cases hd:d=c
  ·subst hd
   have hl:Z9 F (gi V.cpus d).cur=true:=by
    have:=hg rfl;unfold Kq at this;rw[f.cs,et,decide_eq_true h0,h2] at this
    simpa using this
   unfold Z9 UF at hl;rw[et,h2,T7 hT,Bool.and_eq_true,List.all_eq_true] at hl;have ho:=hl.2 x hx;rw[f.on x d x0 d0] at ho;exact st x d xu xz d0 ho s1
  ·unfold Vn;rw[hT.p,f.o.e x d x0 d0 hd,f.o.e _ d q0 d0 hd];exact s1
 have honF:∀k:Int,Q6 F.groups k=true->k≠0->VA F c k:=fun k hu hz=>by
  rw[hT.usd] at hu;have k0:=(Q5.1 hu).1;have:=hon k hu hz;unfold VA at this ⊢;rw[f.on k c k0 c0,O6 f.o.t hT fun j _ _ _ _=>f.on _ c (by omega) c0,zgn (f.o.b k k0)];exact this
 have hflF:∀k:Int,Q6 F.groups k=true->ZK F k c 20=true->Z7 F k c 20<=(Qb F k c).floor:=fun k hu hB=>by
  rw[hT.usd] at hu;rw[(best k).1] at hB;rw[(best k).2];exact hfl k hu (by have:=(Q5.1 hu).2.1; omega) hB
 split
 ·rename_i hg;have cF:c<(F.cpus.length:Int):=by rw[f.cs]; exact c1'
  have hcp:∀d:Int,0<=d->gi (endW F c).cpus d=if c=d then XK (gi F.cpus c) else gi F.cpus d:=fun d d0=>QA _ _ c0 cF d0
  have hlen:(endW F c).cpus.length=F.cpus.length:=List.length_set;refine⟨⟨pa.endW c0 cF,fun d d0 d1=>?_⟩,hO.trans (zjq c0 cF),honF,fun h0=>?_,hflF⟩
  ·rw[hlen] at d1
   by_cases e:c=d
   ·subst e;have hc:=p1.c c c0 c1';have e1:gi (endW F c).cpus c=XK (gi V.cpus c):=by rw[hcp c c0,if_pos rfl,f.cs]
    have n1:(XK (gi V.cpus c)).cur = -1:=rfl;exact⟨by rw[e1]; exact hc.b,by rw[e1]; exact hc.i,by rw[e1,n1]; exact Int.le_refl _,by rw[e1,n1]; decide,fun _=>by rw[e1]; rfl,fun h=>by rw[e1,n1] at h; omega,fun h=>by rw[e1,n1] at h; omega⟩
   ·have hc:=pc d d0 (by rw[<-f.cs]; exact d1) fun h=>absurd h.symm e
    have e1:gi (endW F c).cpus d=gi F.cpus d:=by rw[hcp d d0,if_neg e]
    exact⟨by rw[e1]; exact hc.b,by rw[e1]; exact hc.i,by rw[e1]; exact hc.c1,by rw[e1]; exact hc.c2,by rw[e1]; exact hc.no,by rw[e1]; exact hc.yes,by rw[e1]; exact hc.q⟩
  ·rw[hcp c c0,if_pos rfl] at h0;have h0:(0:Int)<=-1:=h0;omega
 ·rename_i hg;have hg:Kq F c=false:=by simpa using hg
  refine⟨⟨pa,fun d d0 d1=>pc d d0 (by rw[<-f.cs]; exact d1) fun _=>hg⟩,hO,honF,fun h0=>?_,hflF⟩;unfold Kq at hg;rw[decide_eq_true h0,Bool.true_and,Bool.or_eq_false_iff] at hg;exact⟨by simpa using hg.1,by simpa using hg.2⟩
theorem zkc{W:Q8}(p:Tb W):∀c:Nat,c<=W.cpus.length->Tb (U2 W c)/\(U2 W c).cpus.length=W.cpus.length/\(U2 W c).tasks=W.tasks/\QR W.groups (U2 W c).groups/\∀d:Int,0<=d->d<(c:Int)->Dn (U2 W c) d
 | 0,_=>⟨p,rfl,rfl,QR.refl _,fun d a b=>by omega⟩
 | c+1,hc=>by
  obtain⟨a,e,et,eg,ih⟩:=zkc p c (by omega);obtain⟨p1,o,dn⟩:=zsu a (c:=(c:Int)) (by omega) (by rw[e]; omega);refine⟨p1,o.len.trans e,o.t.trans et,eg.trans o.g,fun d d0 d1=>?_⟩
  by_cases h:d=(c:Int)
  ·subst h; exact dn
  ·exact(ih d d0 (by omega)).oth a o d0 (by rw[e]; omega) h
theorem zp0{K:Int}{W:Q8}(sw:SW K W)(p:Tb W)(hK:0<=K):Tb (Qg W)/\Fr W (Qg W)/\∀d:Int,0<=d->d<(W.cpus.length:Int)->Dn (Qg W) d:=by
 obtain⟨a,e⟩:=zaf p W.cpus.length (Nat.le_refl _);obtain⟨s1,_⟩:=P4 (F:=K) (K:=K+Ql) (sw.sf.mono (Int.le_refl _) (by simp only[Ql]; omega)) (Int.le_refl _) W.cpus.length (Nat.le_refl _);obtain⟨s2,b2⟩:=Od s1 8 (Nat.le_refl _);have p2:=a.onlyB b2 s2.w.a;have e2:(X1 (YP W W.cpus.length) 8).cpus.length=W.cpus.length:=by rw[b2.c,e]
 obtain⟨p3,e3,_,_,dn⟩:=zkc p2 W.cpus.length (by rw[e2]; exact Nat.le_refl _);exact⟨p3,(U1 sw hK).2,dn⟩
theorem zxo{K:Int}{W:Q8}(sw:SW K W)(hK:K<=100000000000000000)(p:Tb W)(hl:AJ W)(dn:∀d:Int,0<=d->d<(W.cpus.length:Int)->Dn W d):YW W/\zyv W:=by
 have tm:∀k c:Int,Q6 W.groups k=true->0<=c->c<(W.cpus.length:Int)->ZA (Qb W k c).floor=true/\ZA (Qb W k c).v=true:=fun k c hu c0 c1=>by
  have:=sw.s k c hu c0 c1;exact⟨Y3.2 (by omega),Y3.2 (by omega)⟩
 have tv:∀t:Int,0<=t->t<12->ZA (Q7 W t).v=true:=fun t t0 t1=>by
  have:=sw.tv t t0 t1;exact Y3.2 (by omega)
 refine⟨⟨p.a,fun t t0 t1=>?_,fun k c k0 k1 c0 c1=>?_,fun c c0 c1=>?_⟩,fun k c hu c0 c1 hB=>(dn c c0 c1).fl k hu hB⟩
 ·rcases p.t t t0 t1 with hz | ⟨n,hx⟩
  ·exact .inl hz
  ·obtain⟨d0,d1⟩:=p.l t t0 t1 n;exact .inr ⟨n,hx.st,hx.g,hx.n,hx.m,hx.m0,tv t t0 t1,hx.s,hx.u,hx.l1,hx.l2,hl t t0 t1 n,fun h1=>(EG (tv t t0 t1) (tm _ _ hx.g d0 d1).1).2 (hx.f h1)⟩
 ·have hgl:=p.a.gl
  have hu:Q6 W.groups k=true:=by
   cases hb:(gi W.groups k).used with
   | true=>exact Q5.2 ⟨k0,by omega,hb⟩
   | false=>
    have:=((p.a.grp k k0 k1).1 hb).l;omega
  have hsl:=p.a.sl hu;have c1:c<(W.cpus.length:Int):=by omega
  have hs:=p.s k c hu c0 c1;have ht:=tm k c hu c0 c1;have hw:=sw.s k c hu c0 c1;exact⟨ht.1,ht.2,hs.s,hw.2.2.2.2.1,hw.2.2.2.2.2,hs.root,fun hz=>(dn c c0 c1).on k hu hz,fun hz ho=>(EG ht.2 (tm _ c (p.a.up hu hz) c0 c1).1).2 (hs.st hz ho)⟩
 ·have hc:=p.c c c0 c1;have htl:=p.a.t;refine⟨hc.b,hc.i,hc.c1,by have:=hc.c2; omega,hc.no,fun h0=>?_⟩;obtain⟨y1,y2,y3⟩:=hc.yes h0;obtain⟨z1,z2⟩:=(dn c c0 c1).cu h0
  have hs:(Q7 W (gi W.cpus c).cur).state=1:=by
   unfold Z9 at z2;rw[Bool.and_eq_true] at z2;exact eq_of_beq z2.1
  obtain⟨q1,q2⟩:=hc.q h0 hs z1;refine⟨y1,y2,y3,z1,z2,?_⟩;unfold PJ Tl;rw[Bool.and_eq_true,List.all_eq_true];exact⟨decide_eq_true q1,fun x hx=>decide_eq_true (q2 x hx).2⟩
theorem YH{α β:Type}[Inhabited α]{f:α->β}(l:List α)(k:Int){x:α}(h:f x=f (gi l k))(i:Int):f (gi (l.set k.toNat x) i)=f (gi l i):=by
 unfold gi at *;simp only[List.getD_eq_getElem?_getD,List.getElem?_set] at *
 by_cases e:k.toNat=i.toNat
 ·rw[if_pos e];split
  ·rw[<-e]; simpa using h
  ·rename_i hl;have:l[i.toNat]? = none:=List.getElem?_eq_none_iff.2 (by omega);rw[this]
 ·rw[if_neg e]
structure Te (W W':Q8):Prop where
 g:QR W.groups W'.groups
 m:∀i:Int,(gi W'.groups i).cpus=(gi W.groups i).cpus
 w:∀i:Int,(gi W'.groups i).weight=(gi W.groups i).weight
 len:W'.cpus.length=W.cpus.length
 u:∀i:Int,(gi W'.cpus i).up=(gi W.cpus i).up
theorem Te.refl(W:Q8):Te W W:=⟨QR.refl _,fun _=>rfl,fun _=>rfl,rfl,fun _=>rfl⟩
theorem Te.trans{A B C:Q8}(h:Te A B)(k:Te B C):Te A C:=⟨h.g.trans k.g,fun i=>(k.m i).trans (h.m i),fun i=>(k.w i).trans (h.w i),k.len.trans h.len,fun i=>(k.u i).trans (h.u i)⟩
theorem zmd{W:Q8}{g:Int}{x:ZF}(u:x.used=(gi W.groups g).used)(p:x.parent=(gi W.groups g).parent)(n:x.name=(gi W.groups g).name)(m:x.cpus=(gi W.groups g).cpus)(w:x.weight=(gi W.groups g).weight):Te W (setGr W g x):=
 ⟨⟨List.length_set,fun i=>YH (f:=ZF.used) _ _ u i,fun i=>YH (f:=ZF.parent) _ _ p i,fun i=>YH (f:=ZF.name) _ _ n i⟩,fun i=>YH (f:=ZF.cpus) _ _ m i,fun i=>YH (f:=ZF.weight) _ _ w i,rfl,fun _=>rfl⟩
theorem zbl(W:Q8)(g c:Int)(s:KE):Te W (setSh W g c s):=zmd rfl rfl rfl rfl rfl
theorem zmc(W:Q8)(g:Int)(b:JH):Te W (setBd W g b):=zmd rfl rfl rfl rfl rfl
theorem zmf(W:Q8)(t:Int)(x:Mw):Te W (setTk W t x):=⟨QR.refl _,fun _=>rfl,fun _=>rfl,rfl,fun _=>rfl⟩
theorem zh2{W:Q8}{c:Int}{x:M0}(u:x.up=(gi W.cpus c).up):Te W (setCp W c x):=⟨QR.refl _,fun _=>rfl,fun _=>rfl,List.length_set,fun i=>YH (f:=M0.up) _ _ u i⟩
theorem Gq(W:Q8)(c:Int):Te W (endW W c):=zh2 rfl
theorem Bt(W:Q8)(c d:Int):∀k:Nat,Te W (ZU W c d k)
 | 0=>Te.refl _
 | k+1=>by
  simp only[ZU];split
  ·exact(Bt W c d k).trans (zbl _ _ _ _)
  ·exact Bt W c d k
theorem D9(W:Q8)(c:Int):∀j:Nat,Te W (XX W c j)
 | 0=>Te.refl _
 | j+1=>(D9 W c j).trans (Bt _ _ _ _)
theorem zbk(W:Q8):∀c:Nat,Te W (YP W c)
 | 0=>Te.refl _
 | c+1=>(zbk W c).trans (D9 (YP W c) (c:Int) 3)
theorem Br(W:Q8)(k:Int):∀c:Nat,Te W (YI W k c)
 | 0=>Te.refl _
 | c+1=>by
  simp only[YI];split
  ·exact(Br W k c).trans (zmc _ _ _)
  ·exact Br W k c
theorem Bs(W:Q8):∀k:Nat,Te W (X1 W k)
 | 0=>Te.refl _
 | k+1=>by
  simp only[X1];split
  ·exact(Bs W k).trans (Br _ _ _)
  ·exact Bs W k
theorem D8(W:Q8)(c:Int):∀k:Nat,Te W (QZ W c k)
 | 0=>Te.refl _
 | k+1=>by
  simp only[QZ];split
  ·exact(D8 W c k).trans (zbl _ _ _ _)
  ·exact D8 W c k
theorem zp2(W:Q8)(c:Int):Te W (T9 W c):=by
 have h:=(D9 W c 3).trans (D8 (QJ W c) c 8);unfold T9;split
 ·exact h.trans (Gq _ _)
 ·exact h
theorem zfo(W:Q8):∀c:Nat,Te W (U2 W c)
 | 0=>Te.refl _
 | c+1=>(zfo W c).trans (zp2 (U2 W c) (c:Int))
theorem zme(W:Q8):Te W (Qg W):=((zbk W W.cpus.length).trans (Bs (YP W W.cpus.length) 8)).trans (zfo (H9 (YP W W.cpus.length)) W.cpus.length)
theorem Te.ups{W W':Q8}(h:Te W W'):Jr W'.cpus=Jr W.cpus:=zh7 h.len fun j _=>h.u j
theorem Te.pin{W W':Q8}(h:Te W W')(g u:Int):VB W'.groups g u=VB W.groups g u:=by
 unfold VB;rw[show QX W'.groups g=QX W.groups g from h.g.path 3 g]
 congr 1
 funext s x
 rw[h.m]
theorem Te.wh{W W':Q8}(h:Te W W')(g m:Int):Qp W' g m=Qp W g m:=by
 unfold Qp;rw[h.ups,h.pin]
theorem Te.loc{W W':Q8}(h:Te W W')(ht:W'.tasks=W.tasks)(hl:AJ W):AJ W':=fun t t0 t1 n=>by
 rw[J1 ht] at n ⊢;rw[h.wh];exact hl t t0 t1 n
theorem zbi{K:Int}{W:Q8}(sw:SW K W)(hK:0<=K)(hK2:K+Vm<=100000000000000000)(p:Tb W)(hl:AJ W):YW (Qg W)/\zyv (Qg W):=by
 obtain⟨p1,hf,dn⟩:=zp0 sw p hK;exact zxo (U1 sw hK).1 hK2 p1 ((zme W).loc hf.t hl) fun d d0 d1=>dn d d0 (by rw[<-hf.c]; exact d1)
theorem zkq.cong{W W':Q8}{k c:Int}(h:zkq W k c)(e:Qb W' k c=Qb W k c)(ep:k≠0->(Qb W' (gi W'.groups k).parent c).floor=(Qb W (gi W.groups k).parent c).floor):zkq W' k c:=
 ⟨by rw[e]; exact h.s,by rw[e]; exact h.root,fun hz ho=>by
  rw[e] at ho;have:=h.st hz ho;unfold Vn at this ⊢;rw[e,ep hz]; exact this⟩
theorem Tb.setTk{W:Q8}(p:Tb W){t:Int}(t0:0<=t)(t1:t<12){x:Mw}(hx:x.state=0/\x=Tm\/x.state≠0/\Dj W x/\0<=x.cpu/\x.cpu<(W.cpus.length:Int))(hc:∀c:Int,0<=c->c<(W.cpus.length:Int)->(gi W.cpus c).cur=t->x.state=1->x.cpu=c->x.v-(Qb W x.group c).floor<=Z3 (gi W.cpus c).ran (Qc x.nice)/\∀y∈QX W.groups x.group,Vn W y c/\(Qb W y c).v-(Qb W (gi W.groups y).parent c).floor<=Z3 (gi W.cpus c).ran (Qb W y c).w):Tb (setTk W t x):=by
 have hl:=p.a.t;have e:∀i:Int,0<=i->Q7 (YtclpmgfpjeaibaaGreat.setTk W t x) i=if t=i then x else Q7 W i:=fun i i0=>QA _ _ t0 (by omega) i0
 refine⟨⟨p.a.tk List.length_set,fun i a b=>?_,fun i a b n=>?_,fun k c hu c0 c1=>?_⟩,fun c c0 c1=>?_⟩
 ·rw[e i a];split
  ·rcases hx with h | ⟨h1,h2,_⟩
   ·exact .inl h
   ·exact .inr ⟨h1,h2.st,h2.g,h2.n,h2.m,h2.m0,h2.s,h2.u,h2.l1,h2.l2,h2.f⟩
  ·rcases p.t i a b with h | ⟨h1,h2⟩
   ·exact .inl h
   ·exact .inr ⟨h1,h2.st,h2.g,h2.n,h2.m,h2.m0,h2.s,h2.u,h2.l1,h2.l2,h2.f⟩
 ·rw[e i a] at n ⊢;split
  ·rename_i h;rw[if_pos h] at n;rcases hx with h | ⟨_,_,h2⟩
   ·exact absurd h.1 n
   ·exact h2
  ·rename_i h;rw[if_neg h] at n;exact p.l i a b n
 ·exact(p.s k c hu c0 c1).cong rfl fun _=>rfl
 ·have h:=p.c c c0 c1;refine⟨h.b,h.i,h.c1,h.c2,h.no,h.yes,fun h0=>?_⟩;rw[e _ h0];split
  ·rename_i he;exact fun h1 h2=>hc c c0 c1 he.symm h1 h2
  ·exact h.q h0
def HM(p:Nat->Bool):Nat->Int
 | 0 => -1
 | k+1=>if (decide (HM p k<0)&&p k)=true then (k:Int) else HM p k
theorem MH(p:Nat->Bool):∀k:Nat,(HM p k = -1/\∀j,j<k->p j=false)\/(0<=HM p k/\HM p k<(k:Int)/\p (HM p k).toNat=true/\∀j:Nat,(j:Int)<HM p k->p j=false)
 | 0=>.inl ⟨rfl,fun j hj=>absurd hj (Nat.not_lt_zero j)⟩
 | k+1=>by
  simp only[HM];rcases MH p k with ⟨h1,h2⟩ | ⟨h1,h2,h3,h4⟩
  ·cases hp:p k with
   | true=>
    rw[h1,if_pos (by rfl)];exact .inr ⟨by omega,by omega,by simpa using hp,fun j hj=>h2 j (by omega)⟩
   | false=>
    rw[if_neg (by simp),h1];refine .inl ⟨rfl,fun j hj=>?_⟩
    by_cases e:j=k
    ·rw[e]; exact hp
    ·exact h2 j (by omega)
  ·rw[if_neg (by rw[decide_eq_false (by omega:¬HM p k<0)]; simp)];exact .inr ⟨h1,by omega,h3,h4⟩
theorem znb{p:Nat->Bool}{n:Nat}(h:∀j,j<n->p j=false):HM p n = -1:=by
 rcases MH p n with ⟨h1,_⟩ | ⟨h1,h2,h3,_⟩
 ·exact h1
 ·rw[h _ (by omega)] at h3; cases h3
theorem zna{p:Nat->Bool}{n:Nat}{a:Int}(a0:0<=a)(a1:a<(n:Int))(hp:p a.toNat=true)(hn:∀j:Nat,(j:Int)<a->p j=false):HM p n=a:=by
 rcases MH p n with ⟨_,h2⟩ | ⟨h1,h2,h3,h4⟩
 ·rw[h2 _ (by omega)] at hp; cases hp
 ·by_cases l:HM p n<a
  ·rw[hn _ (by omega)] at h3; cases h3
  ·by_cases g:a<HM p n
   ·rw[h4 _ (by omega)] at hp; cases hp
   ·omega
def Pu(W:Q8)(j:Nat):Bool:=(Q7 W (j:Int)).state==0
def Vt(W:Q8):Int:=HM (Pu W) 12
noncomputable def Pr(W:Q8)(g n x:Int):Int:=if Qc n=0\/P0 x=false\/x=0 then 1 else if Q6 W.groups g=false then 2 else if Vt W<0 then 3 else if QG W=false then 10 else 0
def Kp(W:Q8)(g x:Int):Int:=PU W (Qp W g x)
def Li(W:Q8)(g n x:Int):Mw:=⟨1,g,Kp W g x,n,x,(Qb W g (Kp W g x)).floor,0,0,0⟩
def zq8(W:Q8)(g n x:Int):Q8:=Qg (endW (setTk W (Vt W) (Li W g n x)) (Kp W g x))
noncomputable def O7(W:Q8)(bar:Int)(W':Q8)(a:Int):Q8×Int×Int:=if Qv W=false then (K3,-1,1) else if bar≠0 then (W,-1,bar) else (W',a,0)
def Om(r:Q8×Int×Int)(w:Wo)(v:Va)(w':Wo):Prop:=∃n m',v=.tuple #[.agg (Qa r.1 m').toArray,.int .i64 r.2.1,.int .i64 r.2.2]/\Yu n w.heap.size w' r.1 m'/\Q0 [] w w'
structure zxz (W:Q8) (g n x:Int):Prop where
 w:Qc n≠0
 m:P0 x=true
 m0:x≠0
 u:Q6 W.groups g=true
 f0:0<=Vt W
 f1:Vt W<12
 f2:(Q7 W (Vt W)).state=0
 r:QG W=true
 sw:SW Qq W
 c0:0<=Kp W g x
 c1:Kp W g x<(W.cpus.length:Int)
 ch:QP (Qp W g x) (Kp W g x)=true
 sw2:SW Qq (setTk W (Vt W) (Li W g n x))
theorem zm8{W:Q8}{g n x:Int}(hW:Qv W=true)(hb:Pr W g n x=0):zxz W g n x:=by
 have wp:=Qh.1 hW;unfold Pr at hb
 split at hb
 ·cases hb
 ·rename_i h1
  split at hb
  ·cases hb
  ·rename_i h2
   split at hb
   ·cases hb
   ·rename_i h3
    split at hb
    ·cases hb
    ·rename_i h4;have h4:QG W=true:=by simpa using h4
     have h2:Q6 W.groups g=true:=by simpa using h2
     have sw:=PK wp (Qh.1 h4)
     have hf:0<=Vt W/\Vt W<12/\Pu W (Vt W).toNat=true:=by
      rcases MH (Pu W) 12 with ⟨a,_⟩ | ⟨a,b,c,_⟩
      ·unfold Vt at h3; omega
      ·exact⟨a,b,c⟩
     obtain⟨c0,c1,ch⟩:=Gk wp.a g x;have hs:=sw.s g _ h2 c0 c1;have e:(((Vt W).toNat:Nat):Int)=Vt W:=by omega
     refine⟨fun h=>h1 (.inl h),?_,fun h=>h1 (.inr (.inr h)),h2,hf.1,hf.2.1,?_,h4,sw,c0,c1,ch,sw.setTk hf.1 hf.2.1 (x:=Li W g n x) (fun _=>⟨h2,c0,c1⟩) hs.1 hs.2.1⟩
     ·cases hm:P0 x with
      | true=>rfl
      | false=>exact absurd (.inr (.inl hm)) h1
     ·have:=hf.2.2;unfold Pu at this;rw[e] at this;exact eq_of_beq this
section
variable {W W':Q8}{m:MW}{w:Wo}{bar a:Int}
theorem Om.bad{w':Wo}(hW:Qv W=false)(hx:Q0 [] w w'):Om (O7 W bar W' a) w (.tuple #[.agg (Qa K3 zu0).toArray,.int .i64 (-1),.int .i64 1]) w':=by
 rw[show O7 W bar W' a=(K3,-1,1) from if_pos hW];exact⟨0,zu0,rfl,Yu.zero _ _,hx⟩
theorem Om.no{n:Nat}{bs:List Nat}{w':Wo}{m':MW}(hW:Qv W=true)(hb:bar≠0)(hk:Wk n bs w w' W m'){c:Int}(hc:bar=c):Om (O7 W bar W' a) w (.tuple #[.agg (Qa W m').toArray,.int .i64 (-1),.int .i64 c]) w':=by
 rw[show O7 W bar W' a=(W,-1,c) by unfold O7; rw[if_neg (by rw[hW]; decide),if_pos hb,hc]];exact⟨n,m',rfl,hk.fin⟩
theorem Om.ok{n:Nat}{bs:List Nat}{w':Wo}{m':MW}(hW:Qv W=true)(hb:bar=0)(hk:Wk n bs w w' W' m'):Om (O7 W bar W' a) w (.tuple #[.agg (Qa W' m').toArray,.int .i64 a,.int .i64 0]) w':=by
 rw[show O7 W bar W' a=(W',a,0) by unfold O7; rw[if_neg (by rw[hW]; decide),if_neg (by simpa using hb)]];exact⟨n,m',rfl,hk.fin⟩
theorem OF{g n x:Int}(h:Xt [] w W m)(hl:X5 W) :
  Cz Yo #[.agg (Qa W m).toArray,.int .i64 g,.int .i64 n,.int .i64 x] w fun e w'=>∃v,e=.returned v/\Om (O7 W (Pr W g n x) (zq8 W g n x) (Vt W)) w v w':=by
 refine NA W.now m.cO W.cpus.length m.cC m.tO W.tasks.length m.tC m.gO W.groups.length m.gC g n x (R:=fun v w'=>Om (O7 W (Pr W g n x) (zq8 W g n x) (Vt W)) w v w') ?_;intro y hy y1 hy1 wr hx2 hs2;refine Calls.mono (Z5 (h.ext hx2) hl) ?_;rintro e wv (⟨hW,he,hy2⟩ | ⟨hW,m',he,hM,hy2⟩)
 ·exact⟨_,_,_,_,_,_,_,_,_,_,_,he,Qe hy2 hs2,fun _ wr1 hx3=>Om.bad hW ((hx2.trans hy2).fresh hx3 fun z hm=>.inl (YC hy hy1 z hm)),fun g=>by simp at g⟩
 have hK:=Wk.begin hy hy1 hx2 hs2 hM hy2;have hr:=hK.rd;have wp:=Qh.1 hW;have htl:=wp.a.t;refine⟨_,_,_,_,_,_,_,_,_,_,_,he,Qe hy2 hs2,fun g=>by split at g <;> simp at g,fun _=>⟨_,Zh,_,fun _=>X3,fun g1 wr2 hx3=>?_,fun g1=>⟨_,X4 hr.g,fun g2 wr3 hx3=>?_,fun g2=>⟨⟨by omega,by omega⟩,?_⟩⟩⟩⟩
 ·have hb:Pr W g n x=1:=by
   unfold Pr;rw[if_pos];simp only[Bool.or_eq_true,beq_iff_eq,Bool.not_eq_true'] at g1;rcases g1 with (g1 | g1) | g1
   ·exact .inl g1
   ·exact .inr (.inl g1)
   ·exact .inr (.inr g1)
  exact Om.no hW (by rw[hb]; decide) (hK.step hx3) hb
 ·have n1:¬(Qc n=0\/P0 x=false\/x=0):=by
   simp only[Bool.or_eq_false_iff,beq_eq_false_iff_ne,Bool.not_eq_false',ne_eq] at g1;rintro (h | h | h)
   ·exact g1.1.1 h
   ·rw[g1.1.2] at h; cases h
   ·exact g1.2 h
  have hb:Pr W g n x=2:=by unfold Pr; rw[if_neg n1,if_pos (by simpa using g2)]
  exact Om.no hW (by rw[hb]; decide) (hK.step hx3) hb
 have n1:¬(Qc n=0\/P0 x=false\/x=0):=by
  simp only[Bool.or_eq_false_iff,beq_eq_false_iff_ne,Bool.not_eq_false',ne_eq] at g1;rintro (h | h | h)
  ·exact g1.1.1 h
  ·rw[g1.1.2] at h; cases h
  ·exact g1.2 h
 have hu:Q6 W.groups g=true:=by simpa using g2
 have n2:¬Q6 W.groups g=false:=by rw[hu]; decide
 refine⟨fun vs w1=>∃a t:Int,vs=[.int .i64 a,.int .i64 t]/\-1<=t/\t<12/\(a = -1/\(∀j:Nat,t<(j:Int)->j<12->Pu W j=false)\/t<a/\a<12/\Pu W a.toNat=true/\∀j:Nat,t<(j:Int)->(j:Int)<a->Pu W j=false)/\Q0 [y,y1] wv w1,
  fun vs _=>(ZZ 1 vs+1).toNat,fun w1 hx0 _=>⟨-1,_,rfl,by omega,by omega,.inl ⟨rfl,fun j h1 h2=>by omega⟩,hx0⟩,?_⟩
 rintro av tv wv1 hs3 ⟨a,t,he2,ht0,ht1,hcond,hxw⟩;simp only[List.cons.injEq,Value.int.injEq,true_and,and_true] at he2;obtain⟨rfl,rfl⟩:=he2;have hK1:=hK.step hxw;have hr1:=hK1.rd;refine⟨fun hlt=>?_,fun hge=>?_⟩
 ·have hlt:=Ot hlt;have e:((tv.toNat:Nat):Int)=tv:=by omega
  have hst:Pu W tv.toNat=((Q7 W tv).state==0):=by unfold Pu; rw[e]
  refine⟨hr1.t.ix Qy hlt (by omega),_,hr1.t.f hlt (by omega) (j:=0) rfl,fun g3=>⟨⟨by omega,by omega⟩,fun wr5 hx5 _=>⟨⟨tv,tv-1,rfl,by omega,by omega,.inr ⟨by omega,ht1,by rw[hst]; exact g3,fun j h1 h2=>by omega⟩,hxw.trans hx5⟩,?_⟩⟩,fun g3=>⟨⟨by omega,by omega⟩,fun wr6 hx6 _=>⟨⟨av,tv-1,rfl,by omega,by omega,?_,hxw.trans hx6⟩,?_⟩⟩⟩
  ·simp only[ZZ,List.getElem?_cons_zero,List.getElem?_cons_succ]; omega
  ·have g3:Pu W tv.toNat=false:=by rw[hst]; exact g3
   have one:∀j:Nat,tv-1<(j:Int)->¬tv<(j:Int)->Pu W j=false:=fun j h1 h2=>by
    have:j=tv.toNat:=by omega
    rw[this]; exact g3
   rcases hcond with ⟨h1,h2⟩ | ⟨h1,h2,h3,h4⟩
   ·exact .inl ⟨h1,fun j j1 j2=>if h:tv<(j:Int) then h2 j h j2 else one j j1 h⟩
   ·exact .inr ⟨by omega,h2,h3,fun j j1 j2=>if h:tv<(j:Int) then h4 j h j2 else one j j1 h⟩
  ·simp only[ZZ,List.getElem?_cons_zero,List.getElem?_cons_succ]; omega
 ·have hge:=Ou hge;have ht:tv = -1:=by omega
  subst ht
  have hfree:av=Vt W:=by
   rcases hcond with ⟨h1,h2⟩ | ⟨h1,h2,h3,h4⟩
   ·rw[h1]; exact(znb fun j hj=>h2 j (by omega) hj).symm
   ·exact(zna (by omega) h2 h3 fun j hj=>h4 j (by omega) hj).symm
  subst hfree;refine⟨fun g4 wr7 hx7=>?_,fun g4=>⟨fun g5 wr8 hx8=>?_,fun g5=>?_⟩⟩
  ·have g4:=Ot g4;have hb:Pr W g n x=3:=by unfold Pr; rw[if_neg n1,if_neg n2,if_pos g4]
   exact Om.no hW (by rw[hb]; decide) (hK1.step hx7) hb
  ·have g4:=Ou g4;have hr0:¬QG W=true:=fun hr=>by rw[if_pos hr] at g5; simp at g5
   have hb:Pr W g n x=10:=by unfold Pr; rw[if_neg n1,if_neg n2,if_neg g4,if_pos (by simpa using hr0)]
   rw[if_neg hr0];exact Om.no hW (by rw[hb]; decide) (hK1.step hx8) hb
  have g4:=Ou g4;have hr0:QG W=true:=Decidable.byContradiction fun hr=>by rw[if_neg hr] at g5; simp at g5
  have hb:Pr W g n x=0:=by unfold Pr; rw[if_neg n1,if_neg n2,if_neg g4,if_neg (by rw[hr0]; decide)]
  have hf:=zm8 hW hb;obtain⟨u0,u1,_⟩:=Q5.1 hu;have hsl:=wp.a.sl hu;have c0:=hf.c0;have c1:=hf.c1;have f0:=hf.f0;have f1:=hf.f1;have hset:Wk 8 [y,y1] w (sto wv1 m'.tO (Int.toNat (Vt W)*9) (X7 (Li W g n x))) (setTk W (Vt W) (Li W g n x)) m':=hK1.sto (hK1.own.stoT f0 (by rw[htl]; exact f1) (j:=0) (vs:=X7 (Li W g n x)) (x:=Li W g n x) (by simp[X7]) (by simp[X7])) GX;refine⟨_,Xg hr1 wp.a.c2 wp.a.tree hu,_,Kw hr1 wp.a (zrq wp),hr1.g.ix u0 u1,_,_,_,hr1.g.shelf u0 u1,(hr1.g.shelves g u0 u1).ix ZQ c0 (by rw[hsl]; exact c1),(Qb W g (Kp W g x)).floor,zkn.f (hr1.g.shelves g u0 u1) c0 (by rw[hsl]; exact c1) (j:=0) rfl,hr1.t.ix Qy f0 (by rw[htl]; exact f1),zif hK1.own hK1.nb f0 (by rw[htl]; exact f1) (j:=0) (k:=9) (by decide),fun wr9 hx9 hs9=>?_⟩;have e5:Qa (setTk W (Vt W) (Li W g n x)) m'=Qa W m':=E1 _ _ _ _;have hK4:=hset.step hx9;have hcall2:=Zn hK4.own c0 (show Kp W g x<((setTk W (Vt W) (Li W g n x)).cpus.length:Int) from c1);rw[e5] at hcall2;refine Calls.mono hcall2 ?_;rintro e2 wv2 ⟨he2,hy4⟩;refine⟨_,_,_,_,_,_,_,_,_,_,he2,hK4.kept hy4 hs9,fun wr10 hx10 hs10=>?_⟩;have hK7:=(hK4.deed hy4 hs9).step hx10;have hcall3:=Qr hK7.own (hf.sw2.endW c0 c1) (by decide) (by decide) hK7.base;refine Calls.mono hcall3 ?_;rintro e3 wv3 ⟨m2,he3,hy5⟩;exact⟨_,_,_,_,_,_,_,_,_,_,he3,hK7.kept hy5 hs10,fun wr8 hx8=>Om.ok hW hb ((hK7.deed hy5 hs10).step hx8)⟩
end
section
variable {base pb:Nat}{W W':Q8}{m:MW}{w:Wo}
end
structure J5 (W:Q8):Prop where
 wp:YW W
 fl:zyv W
theorem Zk{K:Int}{W:Q8}(sw:SW K W)(hK:0<=K)(hK2:K+Vm<=100000000000000000)(p:Tb W)(hl:AJ W):J5 (Qg W):=by
 obtain⟨a,b⟩:=zbi sw hK hK2 p hl;exact⟨a,b⟩
theorem AJ.endW{W:Q8}(h:AJ W)(c:Int):AJ (endW W c):=(Gq W c).loc rfl h
theorem AJ.setTk{W:Q8}(h:AJ W)(ha:WA W){t:Int}(t0:0<=t)(t1:t<12){x:Mw}(hx:x.state≠0->QP (Qp W x.group x.mask) x.cpu=true):AJ (setTk W t x):=fun i i0 i1 n=>by
 have hl:=ha.t;have e:Q7 (YtclpmgfpjeaibaaGreat.setTk W t x) i=if t=i then x else Q7 W i:=QA _ _ t0 (by omega) i0;rw[e] at n ⊢;rw[(zmf W t x).wh]
 split at n
 ·rename_i he;rw[if_pos he]; exact hx n
 ·rename_i he;rw[if_neg he]; exact h i i0 i1 n
theorem zt0(W:Q8)(t c:Int)(x:Mw):endW (setTk W t x) c=setTk (endW W c) t x:=rfl
theorem O0{W:Q8}(p:Tb W){t:Int}(t0:0<=t)(t1:t<12)(n:(Q7 W t).state≠0):Dj W (Q7 W t):=by
 rcases p.t t t0 t1 with h | h
 ·exact absurd h.1 n
 ·exact h.2
theorem zo6{W:Q8}{t:Int}(hW:Qv W=true)(hb:Tp W t=0):J5 (zkw W t):=by
 have wp:=Qh.1 hW;obtain⟨h1,h2,sw,sw2⟩:=zij hW hb;obtain⟨t0,t1,n⟩:=Yc h1;have hl:=wp.a.t;have p:=Xk wp;have h:=O0 p t0 (by omega) n;have hloc:=Ux wp;refine Zk sw2 (by decide) (by decide) (p.setTk t0 (by omega) (.inr ⟨by show (2:Int)≠0; decide,⟨.inr rfl,h.g,h.n,h.m,h.m0,h.s,h.u,h.l1,h.l2,fun h=>by cases h⟩,p.l t t0 (by omega) n⟩) fun c c0 c1 _ hs _=>by cases hs) (hloc.setTk wp.a t0 (by omega) fun _=>hloc t t0 (by omega) n)
theorem zrf{W:Q8}{t:Int}(hW:Qv W=true)(hb:OQ W t=0):J5 (CJ W t):=by
 have wp:=Qh.1 hW;obtain⟨h1,_,sw,_,sw2⟩:=zgv hW hb;obtain⟨t0,t1,n⟩:=Yc h1;have hl:=wp.a.t;have p:=Xk wp;obtain⟨c0,c1⟩:=p.l t t0 (by omega) n
 have key:Tb (QQ W t)/\AJ (QQ W t):=by
  unfold QQ;split
  ·exact⟨p.endW c0 c1,(Ux wp).endW _⟩
  ·exact⟨p,Ux wp⟩
 exact Zk sw2 (by decide) (by decide) (key.1.setTk t0 (by omega) (.inl ⟨rfl,rfl⟩) fun c c0 c1 _ hs _=>by cases hs) (key.2.setTk key.1.a t0 (by omega) fun h=>absurd rfl h)
theorem AC{W:Q8}(p:Tb W){t c:Int}(t0:0<=t)(t1:t<12){x:Mw}(n:x.state≠0)(hx:Dj W x)(hc:x.cpu=c)(c0:0<=c)(c1:c<(W.cpus.length:Int)):Tb (endW (setTk W t x) c):=by
 rw[zt0];have hl:(endW W c).cpus.length=W.cpus.length:=List.length_set;refine(p.endW c0 c1).setTk t0 t1 (.inr ⟨n,⟨hx.st,hx.g,hx.n,hx.m,hx.m0,hx.s,hx.u,hx.l1,hx.l2,hx.f⟩,by rw[hl,hc]; exact⟨c0,c1⟩⟩) fun d d0 d1 hcur _ hd=>?_
 rw[hc] at hd;subst hd;have e1:gi (endW W c).cpus c=XK (gi W.cpus c):=(QA _ _ c0 c1 c0).trans (if_pos rfl);rw[e1] at hcur;have hcur:(-1:Int)=t:=hcur;omega
theorem zw2(f v w:Int):f<=f+Xh (v-f) w/\f+Xh (v-f) w-f<=Zo w:=by
 have:=ZW (v-f) w;omega
theorem zrh{W:Q8}{t n:Int}(hW:Qv W=true)(hb:PC W t n=0):J5 (Hi W t n):=by
 have wp:=Qh.1 hW;have hq:=znu hW hb;obtain⟨t0,t1,tn⟩:=Yc hq.th;have hl:=wp.a.t;have p:=Xk wp;have hw:Qc n≠0:=fun h=>by unfold PC at hb; rw[if_pos h] at hb; cases hb
 have h:=O0 p t0 (by omega) tn;obtain⟨c0,c1⟩:=p.l t t0 (by omega) tn;have hloc:=Ux wp;have hL:AJ (setTk W t (XZ W t n)):=hloc.setTk wp.a t0 (by omega) fun _=>hloc t t0 (by omega) tn
 have hT:Dj W (XZ W t n):=⟨h.st,h.g,hw,h.m,h.m0,h.s,h.u,h.l1,h.l2,fun hs=>by
  have hs:(Q7 W t).state=1:=hs;rw[znt hs];exact zw2 _ _ _⟩
 have hK:K1+Vm<=100000000000000000:=by simp only[K1,Ql,Vm]; decide
 have hK0:0<=K1:=by simp only[K1,Ql]; decide
 unfold Hi;split
 ·rename_i hs
  have hlv:QQ (setTk W t (XZ W t n)) t=if (gi W.cpus (Q7 W t).cpu).cur=t then endW (setTk W t (XZ W t n)) (Q7 W t).cpu else setTk W t (XZ W t n):=by
   unfold QQ;rw[BB t0 t1]; rfl
  have s2:=hq.s2;rw[hlv] at s2 ⊢;split
  ·rename_i hcur;rw[if_pos hcur] at s2;exact Zk s2 hK0 hK (AC p t0 (by omega) tn hT rfl c0 c1) (hL.endW _)
  ·rename_i hcur;rw[if_neg hcur] at s2;refine Zk s2 hK0 hK (p.setTk t0 (by omega) (.inr ⟨tn,hT,c0,c1⟩) fun d d0 d1 hd _ hx=>?_) hL;have hx:(Q7 W t).cpu=d:=hx;rw[hx] at hcur;exact absurd hd hcur
 ·rename_i hs;exact Zk hq.s1 hK0 hK (p.setTk t0 (by omega) (.inr ⟨tn,hT,c0,c1⟩) fun d d0 d1 hd hx _=>absurd hx hs) hL
theorem zrj{W:Q8}{t:Int}(hW:Qv W=true)(hb:K0 W t=0):J5 (zbv W t):=by
 have wp:=Qh.1 hW;obtain⟨h1,h2,_,sf,c0,c1⟩:=zoh hW hb;obtain⟨t0,t1,tn⟩:=Yc h1;have hl:=wp.a.t;have p:=Xk wp;have h:=O0 p t0 (by omega) tn;have hloc:=Ux wp
 have hT:Dj W (Ta W t (PO W t)):=⟨.inl rfl,h.g,h.n,h.m,h.m0,h.s,h.u,h.l1,h.l2,fun _=>by
  have:=ZW ((Q7 W t).v-(Qb W (Q7 W t).group (Q7 W t).cpu).floor) (Qc (Q7 W t).nice);show (Qb W (Q7 W t).group (PO W t)).floor<=(Qb W (Q7 W t).group (PO W t)).floor+FSx W t/\(Qb W (Q7 W t).group (PO W t)).floor+FSx W t-(Qb W (Q7 W t).group (PO W t)).floor<=Zo (Qc (Q7 W t).nice);unfold FSx;exact⟨by omega,by omega⟩⟩
 have hwh:QP (Qp W (Q7 W t).group (Q7 W t).mask) (PO W t)=true:=by
  unfold PO;split
  ·exact(Gk wp.a _ _).2.2
  ·exact hloc t t0 (by omega) tn
 exact Zk ((zib sf t0 t1 tn c0 c1).endW c0 c1).w (by simp only[Ql]; decide) (by simp only[Ql,Vm]; decide) (AC p t0 (by omega) (show (1:Int)≠0 by decide) hT rfl c0 c1) ((hloc.setTk wp.a t0 (by omega) (x:=Ta W t (PO W t)) fun _=>hwh).endW _)
def DM(l u:Int):Int:=if Yh l 0 8000000=true/\Yh u 0 1000000=true then l-Int.tdiv l 8+u else 0
def zcx(x:Mw):Mw:={ x with used:=0,load:=Y2 (DM x.load (Y2 x.used 1000000)) 8000000 }
def Oo(W:Q8):Nat->Q8
 | 0=>W
 | t+1=>setTk (Oo W t) (t:Int) (zcx (Q7 (Oo W t) (t:Int)))
def LG(next p now:Int):Nat->Int
 | 0=>next
 | i+1=>if LG next p now i<=now+((i:Int)+1) then LG next p now i+p else LG next p now i
structure zqj (next p now v:Int):Prop where
 gt:now<v
 at':∃j:Nat,v=next+p*(j:Int)/\(j=0\/v-p<=now)
theorem HW{next p now:Int}(hp:1<=p)(hn:now<next):∀i:Nat,zqj next p (now+(i:Int)) (LG next p now i)
 | 0=>⟨by simp only[LG]; omega,0,by simp only[LG]; omega,.inl rfl⟩
 | i+1=>by
  obtain⟨h1,j,h2,h3⟩:=HW hp hn i;simp only[LG]
  push_cast
  split
  ·refine⟨by omega,j+1,?_,.inr (by omega)⟩;rw[h2]; push_cast; rw[Int.mul_add,Int.mul_one,Int.add_assoc]
  ·exact⟨by omega,j,h2,h3.imp id fun h=>by omega⟩
theorem zuj{next p now v v':Int}(hp:1<=p)(h:zqj next p now v)(h':zqj next p now v'):v=v':=by
 obtain⟨h1,j,h2,h3⟩:=h;obtain⟨k1,k,k2,k3⟩:=h'
 have key:∀a b:Nat,a<b->p*(a:Int)+p<=p*(b:Int):=fun a b hab=>by
  have:p*((a:Int)+1)<=p*(b:Int):=Int.mul_le_mul_of_nonneg_left (by omega) (by omega);rw[Int.mul_add,Int.mul_one] at this;exact this
 rcases Nat.lt_trichotomy j k with h | h | h
 ·have:=key j k h; omega
 ·subst h; omega
 ·have:=key k j h; omega
def XE(now:Int)(n:Nat)(G:ZF):ZF:=if (G.used&&(G.band.quota != 0))=true/\G.next<=now+(n:Int) then { G with next:=LG G.next G.period now n,band:=Ul G.band } else G
theorem zlt{now:Int}{G:ZF}(h:G.band.quota≠0->now<G.next):XE now 0 G=G:=by
 unfold XE;rw[if_neg];rintro⟨h1,h2⟩;simp only[Bool.and_eq_true,bne_iff_ne,ne_eq] at h1;have:=h h1.2;simp at h2;omega
def T6(W:Q8)(n:Nat):Nat->Q8
 | 0=>{ W with now:=W.now+(n:Int) }
 | k+1=>setGr (T6 W n k) (k:Int) (XE W.now n (gi W.groups (k:Int)))
def ZD(W:Q8)(n:Nat):Q8:=T6 W n 8
noncomputable def LY(W:Q8)(n:Int):Int:=if Yh n 1 1000=false then 1 else if QG W=false then 10 else 0
def zkh(W:Q8)(n:Int):Q8:=Qg (Oo (ZD W n.toNat) 12)
theorem Gi(now:Int)(n:Nat)(G:ZF):(XE now n G).used=G.used/\(XE now n G).parent=G.parent/\(XE now n G).name=G.name/\(XE now n G).shelves=G.shelves/\(XE now n G).weight=G.weight/\(XE now n G).cpus=G.cpus/\(XE now n G).sum=G.sum/\(XE now n G).period=G.period/\(XE now n G).band.quota=G.band.quota:=by
 unfold XE; split <;> exact⟨rfl,rfl,rfl,rfl,rfl,rfl,rfl,rfl,rfl⟩
theorem TO(W:Q8)(n:Nat):∀k:Nat,(T6 W n k).groups.length=W.groups.length/\(T6 W n k).now=W.now+(n:Int)/\(T6 W n k).cpus=W.cpus/\(T6 W n k).tasks=W.tasks
 | 0=>⟨rfl,rfl,rfl,rfl⟩
 | k+1=>by
  obtain⟨a,b,c,d⟩:=TO W n k;exact⟨by show (List.set _ _ _).length=_; rw[List.length_set]; exact a,b,c,d⟩
theorem MV(W:Q8)(n:Nat):∀k:Nat,k<=W.groups.length->∀i:Int,0<=i->gi (T6 W n k).groups i=if i<(k:Int) then XE W.now n (gi W.groups i) else gi W.groups i
 | 0,_,i,i0=>by rw[if_neg (by omega)]; rfl
 | k+1,hk,i,i0=>by
  have ih:=MV W n k (by omega) i i0;have hl:=(TO W n k).1;show gi (setGr (T6 W n k) (k:Int) _).groups i=_;rw[Yt (by omega) (by omega) i0]
  by_cases e:(k:Int)=i
  ·subst e;rw[if_pos rfl,if_pos (by omega)]
  ·rw[if_neg e,ih]
   by_cases h:i<(k:Int)
   ·rw[if_pos h,if_pos (by omega)]
   ·rw[if_neg h,if_neg (by omega)]
theorem zm2(W:Q8):∀k:Nat,(Oo W k).groups=W.groups/\(Oo W k).now=W.now/\(Oo W k).cpus=W.cpus/\(Oo W k).tasks.length=W.tasks.length
 | 0=>⟨rfl,rfl,rfl,rfl⟩
 | k+1=>by
  obtain⟨a,b,c,d⟩:=zm2 W k;exact⟨a,b,c,by show (List.set _ _ _).length=_; rw[List.length_set]; exact d⟩
theorem zm3{K:Int}{W:Q8}(h:SW K W):∀k:Nat,k<=12->SW K (Oo W k)
 | 0,_=>h
 | k+1,hk=>by
  have ih:=zm3 h k (by omega);have hv:=ih.tv (k:Int) (by omega) (by omega);exact ih.setTk (by omega) (by omega) (x:=zcx (Q7 (Oo W k) (k:Int))) (fun hs=>ih.t (k:Int) (by omega) (by omega) hs) hv.1 hv.2
theorem ziy{b:JH}(h:Tc b):Tc (Ul b)/\(Ul b).locals.length=b.locals.length:=by
 have hd:=h.dl;refine⟨⟨h.q1,h.q2,by simp only[Ul,List.length_replicate]; have:=h.l1; omega,by simp only[Ul,List.length_replicate]; have:=h.l2; omega,by simp[Ul],by simp only[Ul]; have:=h.q1; omega,Int.le_refl _,by simp[Ul],by simp only[Ul]; have:=h.q1; omega,fun c c0 c1=>?_,?_⟩,by simp[Ul,hd]⟩
 ·simp only[Ul,List.length_replicate] at c1 ⊢;rw[OC _ _ c0 c1,OC _ _ c0 c1];have:=h.q1;exact⟨Int.le_refl _,by omega,fun h=>by cases h⟩
 ·simp only[Ul,List.length_replicate];rw[Bv _ _ (Nat.le_refl _)]; omega
theorem zsa{W W':Q8}{n:Nat}{k:Int}{G:ZF}(hg:zkp W k G)(hu:G.used=true)(hn:W'.now=W.now+(n:Int))(hc:W'.cpus.length=W.cpus.length):zkp W' k (XE W.now n G):=by
 obtain⟨_,_,_,u4,u5,u6,u7,u8,u9⟩:=Gi W.now n G;refine⟨by rw[u5]; exact hg.w1,by rw[u5]; exact hg.w2,by rw[u6]; exact hg.m,by rw[u6]; exact hg.m0,by rw[u7]; exact hg.s,by rw[u4,hc]; exact hg.len,fun h=>by rw[u5,u6,u9]; exact hg.root h,fun hq=>?_,fun hq=>?_⟩
 ·rw[u9] at hq
  have:XE W.now n G=G:=by
   unfold XE;rw[if_neg];rintro⟨h1,_⟩;simp only[Bool.and_eq_true,bne_iff_ne,ne_eq] at h1;exact h1.2 hq
  rw[this];exact hg.none hq
 ·rw[u9] at hq;obtain⟨b1,b2,b3,b4,b5,b6⟩:=hg.band hq;rw[hn,hc];unfold XE;split
  ·obtain⟨f1,f2⟩:=ziy b1;have hj:=HW b3 b5 n;refine⟨f1,by show (Ul G.band).locals.length=_; rw[f2]; exact b2,b3,b4,hj.gt,?_⟩;obtain⟨h1,j,h2,h3⟩:=hj;show LG G.next G.period W.now n-(W.now+(n:Int))<=G.period;rcases h3 with rfl | h3
   ·simp at h2; omega
   ·omega
  ·rename_i hcnd;have hlt:W.now+(n:Int)<G.next:=Int.not_le.1 fun hle=>hcnd ⟨by rw[hu]; simpa using hq,hle⟩
   exact⟨b1,b2,b3,b4,hlt,by omega⟩
theorem D3(W:Q8)(n:Nat):∀k:Nat,k<=W.groups.length->QR W.groups (T6 W n k).groups
 | 0,_=>QR.refl _
 | k+1,hk=>by
  have ih:=D3 W n k (by omega);have hl:=(TO W n k).1;have e:=MV W n k (by omega) (k:Int) (by omega);rw[if_neg (by omega)] at e;obtain⟨u1,u2,u3,_⟩:=Gi W.now n (gi W.groups (k:Int));exact ih.trans (Jw (W:=T6 W n k) (g:=(k:Int)) (x:=XE W.now n (gi W.groups (k:Int))) (by omega) (by omega) (by rw[u1,e]) (by rw[u2,e]) (by rw[u3,e]))
theorem zsb{K:Int}{W:Q8}{n:Nat}(h:SW K W)(h1:W.now+(n:Int)<=100000000000000000):SW K (ZD W n):=by
 have hl:=h.a.gl;have hT:=D3 W n 8 (by omega);obtain⟨l1,l2,l3,l4⟩:=TO W n 8
 have e:∀i:Int,0<=i->i<8->gi (ZD W n).groups i=XE W.now n (gi W.groups i):=fun i a b=>by
  have:=MV W n 8 (by omega) i a
  rwa[if_pos (show i<((8:Nat):Int) by omega)] at this
 have n1:=h.a.n1;have et:∀t:Int,Q7 (ZD W n) t=Q7 W t:=fun t=>by unfold Q7; rw[show (ZD W n).tasks=W.tasks from l4]
 have ec:(ZD W n).cpus=W.cpus:=l3;have hT:QR W.groups (ZD W n).groups:=hT;refine⟨⟨by rw[show (ZD W n).now=_ from l2]; omega,by rw[show (ZD W n).now=_ from l2]; exact h1,by rw[ec]; exact h.a.c1,by rw[ec]; exact h.a.c2,by rw[show (ZD W n).tasks=W.tasks from l4]; exact h.a.t,hT.tree h.a.tree,by rw[ec]; exact h.a.ups,fun k a b=>?_⟩,fun t a b hs=>?_,fun t a b=>?_,fun k c u a b=>?_,fun c a b=>?_⟩
 ·have hg:=h.a.grp k a b;obtain⟨u1,u2,u3,u4,u5,u6,u7,u8,u9⟩:=Gi W.now n (gi W.groups k);unfold Md;rw[e k a b];refine⟨fun hu=>?_,fun hu=>?_⟩
  ·rw[u1] at hu
   have:XE W.now n (gi W.groups k)=gi W.groups k:=by
    unfold XE;rw[if_neg];rintro⟨h1,_⟩;rw[hu] at h1;cases h1
   rw[this];exact hg.1 hu
  ·rw[u1] at hu;exact zsa (hg.2 hu) hu l2 (by rw[ec])
 ·rw[et] at hs ⊢;rw[hT.usd,ec];exact h.t t a b hs
 ·rw[et]; exact h.tv t a b
 ·rw[hT.usd] at u;rw[ec] at b;have hk:=Q5.1 u
  have:Qb (ZD W n) k c=Qb W k c:=by
   unfold Qb;rw[e k hk.1 (by omega),(Gi W.now n (gi W.groups k)).2.2.2.1]
  rw[this];exact h.s k c u a b
 ·rw[ec] at b ⊢;exact h.cu c a b
theorem zxg{W:Q8}(ha:WA W):ZD W 0=W:=by
 have hl:=ha.gl;obtain⟨l1,l2,l3,l4⟩:=TO W 0 8
 have hg:(ZD W 0).groups=W.groups:=zra l1 fun k hk=>by
  have hk8:k<8:=by have:(ZD W 0).groups.length=W.groups.length:=l1; omega
  have:=MV W 0 8 (by omega) (k:Int) (by omega);rw[if_pos (by omega)] at this;refine this.trans (zlt fun hq=>?_);have hgp:=ha.grp (k:Int) (by omega) (by omega)
  cases hu:(gi W.groups (k:Int)).used with
  | true=>exact((hgp.2 hu).band hq).2.2.2.2.1
  | false=>
   have:=(hgp.1 hu).b;exact absurd (by unfold TN at this; simp only[Bool.and_eq_true,beq_iff_eq] at this; exact this.1.1.1.1) hq
 have h2:(ZD W 0).now=W.now:=by rw[show (ZD W 0).now=_ from l2]; simp
 have h3:(ZD W 0).cpus=W.cpus:=l3;have h4:(ZD W 0).tasks=W.tasks:=l4;generalize ZD W 0=V at hg h2 h3 h4;cases V;cases W;simp only at hg h2 h3 h4;subst hg; subst h2; subst h3; subst h4;rfl
theorem zoc{W:Q8}{n:Int}(hW:Qv W=true)(hb:LY W n=0):Yh n 1 1000=true/\QG W=true/\SW Qq W/\W.now<=Qq/\SW Qq (ZD W n.toNat)/\SW Qq (Oo (ZD W n.toNat) 12):=by
 have wp:=Qh.1 hW;unfold LY at hb
 split at hb
 ·cases hb
 ·rename_i h1
  split at hb
  ·cases hb
  ·rename_i h3;have h1:Yh n 1 1000=true:=by simpa using h1
   have h3:QG W=true:=by simpa using h3
   have hr:=Qh.1 h3;have sw:=PK wp hr;have hn:=hr.n;have hi:=Qm.1 h1;have hh:Qq=50000000000000000:=rfl;have s1:=zsb (n:=n.toNat) sw (by omega);exact⟨h1,h3,sw,hn,s1,zm3 s1 12 (Nat.le_refl _)⟩
section
variable {W W':Q8}{m:MW}{w:Wo}{bar:Int}
theorem ztt{l u:Int}(h1:Yh l 0 8000000=true)(h2:Yh u 0 1000000=true):0<=Int.tdiv l 8/\Int.tdiv l 8<=l:=by
 have:=Qm.1 h1;rw[Int.tdiv_eq_ediv_of_nonneg this.1];omega
theorem FJ{bs:List Nat}{l u:Int}:PX bs VP #[.int .i64 l,.int .i64 u] w (.int .i64 (DM l u)):=
 Bd l u fun wr hx=>⟨_,Qi,_,fun _=>Qi,fun g=>(by
  unfold DM;rw[if_neg];rintro⟨h1,h2⟩;rw[h1,h2] at g
  cases g),fun g=>by
  have h1:Yh l 0 8000000=true:=by cases h:Yh l 0 8000000 <;> simp_all
  have h2:Yh u 0 1000000=true:=by cases h:Yh u 0 1000000 <;> simp_all
  have hb:=ztt h1 h2;have i1:=Qm.1 h1;have i2:=Qm.1 h2;refine⟨⟨by decide,by omega,by omega⟩,⟨by omega,by omega⟩,⟨by omega,by omega⟩,?_⟩;unfold DM;rw[if_pos ⟨h1,h2⟩]⟩
theorem zl8{W:Q8}{k:Int}(h0:0<=k)(h1:k<(W.groups.length:Int)):setGr W k (gi W.groups k)=W:=by
 unfold setGr;rw[zj7 h0 h1]
theorem NV{n:Int}(h:Xt [] w W m)(hl:X5 W) :
  Cz Tz #[.agg (Qa W m).toArray,.int .i64 n] w fun e w'=>∃v,e=.returned v/\QE (Xc W (LY W n) (zkh W n)) w v w':=by
 refine NE W.now m.cO W.cpus.length m.cC m.tO W.tasks.length m.tC m.gO W.groups.length m.gC n (R:=fun v w'=>QE (Xc W (LY W n) (zkh W n)) w v w') ?_;intro x hx x1 hx1 wr hx2 hs2;refine Calls.mono (Z5 (h.ext hx2) hl) ?_;rintro e wv (⟨hW,he,hy⟩ | ⟨hW,m',he,hM,hy⟩)
 ·exact⟨_,_,_,_,_,_,_,_,_,_,_,he,Qe hy hs2,false,fun g=>by simp at g,fun _ wr1 hx3=>QE.bad hW ((hx2.trans hy).fresh hx3 fun y hm=>.inl (YC hx hx1 y hm)),fun g=>by simp at g⟩
 have hK:=Wk.begin hx hx1 hx2 hs2 hM hy;have hc1:((if QG W=true then 0 else 10:Int)==1)=false:=by split <;> rfl
 refine⟨_,_,_,_,_,_,_,_,_,_,_,he,Qe hy hs2,_,fun _=>Qi,fun g wr1 hx3=>?_,fun g=>⟨fun g3 wr2 hx3=>?_,fun g3=>?_⟩⟩
 ·rw[hc1] at g;have g:Yh n 1 1000=false:=by simpa using g
  have hb:LY W n=1:=by unfold LY; rw[if_pos g]
  exact QE.no hW (by rw[hb]; decide) (hK.step hx3) hb
 ·rw[hc1] at g;have g:Yh n 1 1000=true:=by simpa using g
  have hr0:¬QG W=true:=fun hr=>by rw[if_pos hr] at g3; simp at g3
  have hb:LY W n=10:=by unfold LY; rw[if_neg (by rw[g]; decide),if_pos (by simpa using hr0)]
  rw[if_neg hr0];exact QE.no hW (by rw[hb]; decide) (hK.step hx3) hb
 rw[hc1] at g;have g:Yh n 1 1000=true:=by simpa using g
 have hr0:QG W=true:=Decidable.byContradiction fun hr=>by rw[if_neg hr] at g3; simp at g3
 have hb:LY W n=0:=by unfold LY; rw[if_neg (by rw[g]; decide),if_neg (by rw[hr0]; decide)]
 obtain⟨_,_,sw,hnow,sp,sd⟩:=zoc hW hb;have hn:=Qm.1 g;obtain⟨N,rfl⟩:=Int.eq_ofNat_of_zero_le (show 0<=n by omega);have hE:zkh W (N:Int)=Qg (Oo (ZD W N) 12):=by unfold zkh; rw[Int.toNat_natCast]
 rw[Int.toNat_natCast] at sp sd;rw[hE];have hgl:=sw.a.gl;have htl:=sw.a.t;have hn1:=sw.a.n1;have hh:Qq=50000000000000000:=rfl;refine⟨⟨by omega,by omega⟩,?_⟩;refine TM W.groups.length 0 rfl (fun k w2=>k<=8/\∃m2,Wk 8 [x,x1] w w2 (T6 W N k) m2/\m2={ m' with ms:=m2.ms }) (fun w2 hx3 _=>⟨by decide,m',(show Wk 8 [x,x1] w wv (T6 W N 0) m' from ⟨hK.s,⟨⟨hK.own.c,hK.own.t,hK.own.g,hK.own.len⟩,hK.nb⟩⟩).step hx3,rfl⟩) fun k w2 hs3 ⟨hk8,m2,hK2,hd2⟩=>?_
 obtain⟨l1,l2,l3,l4⟩:=TO W N k;have eG:=MV W N k (by omega) (k:Int) (by omega);rw[if_neg (by omega)] at eG;have hdef:T6 W N (k+1)=setGr (T6 W N k) (k:Int) (XE W.now N (gi W.groups (k:Int))):=rfl;have hend:k=8->ZD W N=T6 W N k:=fun e=>by rw[e]; rfl
 have hself:(k:Int)<(W.groups.length:Int)->setGr (T6 W N k) (k:Int) (gi W.groups (k:Int))=T6 W N k:=fun hlt=>by
  have:=zl8 (W:=T6 W N k) (k:=(k:Int)) (by omega) (by omega)
  rwa[eG] at this
 have emg:m2.gO=m'.gO:=by rw[hd2]
 have emc:m2.gC=m'.gC:=by rw[hd2]
 refine⟨fun hlt=>?_,fun hge=>?_⟩
 ·have hlt:=Ot hlt;generalize T6 W N k=V at hK2 l1 l2 l3 l4 eG hdef hend hself;have hr:=hK2.rd;have hltV:(k:Int)<(V.groups.length:Int):=by omega
  have hix:Ix m'.gO W.groups.length (k:Int):=by have:=hr.g.ix (i:=(k:Int)) (by omega) hltV; rwa[l1,emg] at this
  have hcs:=hr.g.cells (k:Int) (by omega) hltV;rw[eG,emg] at hcs;refine⟨hix,_,_,_,_,_,_,_,_,_,_,_,_,_,_,_,_,_,_,_,_,hcs,fun b2 hb2=>⟨fun g4=>⟨⟨by omega,by omega⟩,fun w3 hx3 _=>QM (by omega) ⟨by omega,m2,?_,hd2⟩⟩,fun g4 wr5 hx5 hs5=>?_⟩⟩
  ·have:XE W.now N (gi W.groups (k:Int))=gi W.groups (k:Int):=by
    unfold XE;rw[if_neg];rintro⟨a,b⟩;simp only[Bool.or_eq_true,Bool.not_eq_true',beq_iff_eq,decide_eq_true_eq] at g4;simp only[Bool.and_eq_true,bne_iff_ne,ne_eq] at a;rcases g4 with (h1 | h1) | h1
    ·rw[a.1] at h1; cases h1
    ·exact a.2 h1
    ·omega
   rw[hdef,this,hself hlt];exact hK2.step hx3
  ·simp only[Bool.or_eq_false_iff,Bool.not_eq_false',beq_eq_false_iff_ne,ne_eq,decide_eq_false_iff_not] at g4;obtain⟨⟨hu,hq⟩,hdue⟩:=g4;have hgu:=(sw.a.grp (k:Int) (by omega) (by omega)).2 hu;obtain⟨hbd,hbl,hp1,hp2,hnx,hnp⟩:=hgu.band hq
   have hP:XE W.now N (gi W.groups (k:Int))={ gi W.groups (k:Int) with next:=LG (gi W.groups (k:Int)).next (gi W.groups (k:Int)).period W.now N,band:=Ul (gi W.groups (k:Int)).band }:=by
    unfold XE;rw[if_pos ⟨by rw[hu]; simpa using hq,by omega⟩]
   have hJ:=HW hp1 hnx N;have hK3:=(hK2.add hb2).step (hx5.mono fun y hy=>List.mem_append_left _ hy);have hr5:=hK3.o.rd0;have hLo:=hr5.g.locals (k:Int) (by omega) hltV;have hDo:=hr5.g.dry (k:Int) (by omega) hltV;rw[eG] at hLo hDo;refine Calls.mono (Jt (op:=⟨4,0,0⟩) hbd hLo hDo) ?_;rintro e wv2 ⟨pb,he,hO,hy2⟩;have hbdE:YM (gi W.groups (k:Int)).band ⟨4,0,0⟩=(Ul (gi W.groups (k:Int)).band,0):=by unfold YM; rw[if_pos rfl]
   rw[hbdE] at he hO
   dsimp only at he hO
   refine⟨_,_,_,_,_,_,_,_,_,_,he,Qe hy2 hs5,fun b3 hb3=>?_⟩;have hK4:=(hK3.call0 hy2).add hb3
   have hOb:∀y∈ZO pb,y∉QL 8 m2/\y∉[x,x1]++[b2]++[b3]:=fun y hy=>by
    have:=hO.lt y hy;refine⟨fun hm=>by have:=(hK3.own.lt y hm).2; omega,fun hm=>?_⟩;rcases List.mem_append.1 hm with h1 | h1
    ·have:=hs5 y h1; omega
    ·have:y=b3:=by simpa using h1
     omega
   have hO4:QY w.heap.size wv2 (Ul (gi W.groups (k:Int)).band) pb:=hO.mono hK3.base;refine⟨fun vs w'=>∃v:Int,vs=YF { gi W.groups (k:Int) with next:=v,band:=Ul (gi W.groups (k:Int)).band } (PG (m2.ms k) pb)/\(∃j:Nat,v=(gi W.groups (k:Int)).next+(gi W.groups (k:Int)).period*(j:Int)/\(j=0\/v-(gi W.groups (k:Int)).period<=W.now+(N:Int)))/\0<=v/\Wk 8 ([x,x1]++[b2]++[b3]) w w' V m2/\QY w.heap.size w' (Ul (gi W.groups (k:Int)).band) pb,fun vs _=>(W.now+(N:Int)+1-ZZ 6 vs).toNat,fun wr7 hx7 hs7=>⟨(gi W.groups (k:Int)).next,by simp[YF,PG],⟨0,by simp,.inl rfl⟩,by omega,hK4.step (hx7.mono fun y hy=>List.mem_append_left _ hy),hO4.ext hx7 fun y hy hm=>(hOb y hy).2 (List.mem_append_left _ hm)⟩,?_⟩;rintro l0 a1 a2 a3 a4 a5 a6 a7 a8 a9 a10 a11O a11L a11C a12O a12L a12C a13O a13L a13C wv4 hs4 ⟨v,hv,hj,hv0,hK5,hO5⟩;simp only[YF,Z6,List.cons_append,List.nil_append,List.cons.injEq,Value.bool.injEq,Value.int.injEq,Value.string.injEq,Value.slice.injEq,true_and,and_true] at hv;obtain⟨rfl,rfl,rfl,rfl,rfl,rfl,rfl,rfl,rfl,rfl,rfl,⟨rfl,rfl,rfl⟩,⟨rfl,rfl,rfl⟩,rfl,rfl,rfl⟩:=hv;refine⟨fun hle=>?_,fun hgt=>?_⟩
   ·have hle:=Ot hle;refine⟨⟨by omega,by omega⟩,fun wr8 hx8 hs8=>⟨⟨a6+(gi W.groups (k:Int)).period,rfl,?_,by omega,hK5.step hx8,hO5.ext hx8 fun y hy=>(hOb y hy).2⟩,?_⟩⟩
    ·obtain⟨j,h1,_⟩:=hj;exact⟨j+1,by rw[h1]; push_cast; rw[Int.mul_add,Int.mul_one,Int.add_assoc],.inr (by omega)⟩
    ·show (_-(a6+(gi W.groups (k:Int)).period)).toNat<(_-a6).toNat;omega
   ·have hgt:=Ou hgt;have hv6:a6=LG (gi W.groups (k:Int)).next (gi W.groups (k:Int)).period W.now N:=zuj hp1 ⟨by omega,hj⟩ hJ;have hwr:=zee hK5.own hK5.nb (i:=(k:Int)) (by omega) (by omega) (j:=0) (k:=14) (by decide);rw[emg] at hwr;refine⟨hix,hwr,⟨by omega,by omega⟩,fun wr9 hx9 hs9=>QM (by omega) ⟨by omega,P2 m2 k (PG (m2.ms k) pb),?_,by rw[hd2]; rfl⟩⟩;rw[hdef];have hK6:=hK5.gr (g:=(k:Int)) (by omega) (by omega) (G:=XE W.now N (gi W.groups (k:Int))) (p:=pb) (j:=0) (vs:=YF (XE W.now N (gi W.groups (k:Int))) (PG (m2.ms k) pb)) (by rw[hP]; exact hO5) hOb (by rw[eG]; exact(Gi _ _ _).2.2.2.1) (by simp[YF]) (by simp[YF]);refine(hK6.step (w':=wr9) ?_).sub fun y hy=>List.mem_append_left _ (List.mem_append_left _ hy)
    rw[hP,<-hv6,emg];exact hx9
 ·have hge:=Ou hge;rw[<-hend (by omega)] at hK2 l1 l2 l3 l4;have emt:m2.tO=m'.tO:=by rw[hd2]
  refine TM W.tasks.length 0 rfl (fun t w2=>t<=12/\Wk 8 [x,x1] w w2 (Oo (ZD W N) t) m2) (fun w2 hx3 _=>⟨by decide,hK2.step hx3⟩) fun t w2 hs4 ⟨ht12,hK3⟩=>?_
  obtain⟨q1,q2,q3,q4⟩:=zm2 (ZD W N) t;have hdef2:Oo (ZD W N) (t+1)=setTk (Oo (ZD W N) t) (t:Int) (zcx (Q7 (Oo (ZD W N) t) (t:Int))):=rfl;have hend2:t=12->Oo (ZD W N) 12=Oo (ZD W N) t:=fun e=>by rw[e]
  generalize hU:Oo (ZD W N) t=U at hK3 q1 q2 q3 q4 hdef2 hend2;have hr:=hK3.rd;refine⟨fun hlt=>?_,fun hge2 wr12 hx12 hs12=>?_⟩
  ·have hlt:=Ot hlt;have t1:(t:Int)<(U.tasks.length:Int):=by rw[q4,l4]; exact hlt
   have hix:Ix m'.tO W.tasks.length (t:Int):=by have:=hr.t.ix Qy (i:=(t:Int)) (by omega) t1; rwa[q4,l4,emt] at this
   have hcs:=hr.t (t:Int) (by omega) t1;rw[emt] at hcs;have hwr:=zif hK3.own hK3.nb (i:=(t:Int)) (by omega) t1 (j:=0) (k:=9) (by decide);rw[emt] at hwr;refine⟨hix,_,_,_,_,_,_,_,_,_,hcs,fun b4 hb4=>⟨_,Je,_,FJ,_,Je,hix,hwr,⟨by omega,by omega⟩,fun wr11 hx11 hs11=>QM (by omega) ⟨by omega,?_⟩⟩⟩;rw[hdef2];have hset:=hK3.own.stoT (i:=(t:Int)) (by omega) t1 (j:=0) (vs:=X7 (zcx (Q7 U (t:Int)))) (x:=zcx (Q7 U (t:Int))) (by simp[X7]) (by simp[X7]);have hK4:=hK3.sto hset GX;rw[emt] at hK4;exact hK4.step hx11
  ·have hge2:=Ou hge2;rw[hend2 (by omega)] at sd ⊢;have hK4:=hK3.step hx12;have hcall:=Qr hK4.own sd (by decide) (by decide) hK4.base
   have e5:Qa U m2=[.int .i64 (W.now+(N:Int)),.slice m'.cO W.cpus.length m'.cC,.slice m'.tO W.tasks.length m'.tC,.slice m'.gO W.groups.length m'.gC]:=by
    unfold Qa;rw[q2,q3,q4,q1,l1,l2,l3,l4,hd2]
   rw[e5] at hcall;refine Calls.mono hcall ?_;rintro e2 wv2 ⟨m3,he2,hy2⟩;exact⟨_,_,_,_,_,_,_,_,_,_,he2,hK4.kept hy2 hs12,fun wr13 hx13=>QE.ok hW hb ((hK4.deed hy2 hs12).step hx13)⟩
section
variable {base pb:Nat}{w0 w':Wo}{m0 m':MW}
end
end
theorem Tb.same{W W':Q8}(p:Tb W)(ha:WA W')(ht:W'.tasks=W.tasks)(hc:W'.cpus=W.cpus)(hT:QR W.groups W'.groups)(hs:∀k c:Int,Qb W' k c=Qb W k c):Tb W':=by
 have est:∀k c:Int,Vn W' k c↔Vn W k c:=fun k c=>by
  unfold Vn;rw[hT.p,hs,hs]
 refine⟨⟨ha,fun t t0 t1=>?_,fun t t0 t1 n=>by rw[J1 ht] at n ⊢; rw[hc]; exact p.l t t0 t1 n,fun k c hk c0 c1=>?_⟩,fun c c0 c1=>?_⟩
 ·rw[J1 ht];rcases p.t t t0 t1 with h | ⟨h1,h2⟩
  ·exact .inl h
  ·exact .inr ⟨h1,h2.st,by rw[hT.usd]; exact h2.g,h2.n,h2.m,h2.m0,h2.s,h2.u,h2.l1,h2.l2,fun h=>by rw[hs]; exact h2.f h⟩
 ·rw[hT.usd] at hk;rw[hc] at c1;exact(p.s k c hk c0 c1).cong (hs _ _) fun _=>by rw[hT.p,hs]
 ·rw[hc] at c1;have h:=p.c c c0 c1;refine⟨by rw[hc]; exact h.b,by rw[hc]; exact h.i,by rw[hc]; exact h.c1,by rw[hc]; exact h.c2,by rw[hc]; exact h.no,by rw[hc]; exact h.yes,fun h0 h1 h2=>?_⟩;rw[hc,J1 ht] at *;obtain⟨q1,q2⟩:=h.q h0 h1 h2;refine⟨by rw[hs]; exact q1,fun y hy=>?_⟩;rw[T7 hT] at hy;rw[est,hT.p,hs,hs];exact q2 y hy
theorem zvq{W W':Q8}(hT:QR W.groups W'.groups)(hm:∀i:Int,(gi W'.groups i).cpus=(gi W.groups i).cpus)(hu:Jr W'.cpus=Jr W.cpus)(g m:Int):Qp W' g m=Qp W g m:=by
 unfold Qp
 have hp:VB W'.groups g (Jr W.cpus)=VB W.groups g (Jr W.cpus):=by
  unfold VB;rw[show QX W'.groups g=QX W.groups g from hT.path 3 g]
  congr 1
  funext s x
  rw[hm]
 rw[hu,hp]
theorem AJ.same{W W':Q8}(h:AJ W)(ht:W'.tasks=W.tasks)(hT:QR W.groups W'.groups)(hm:∀i:Int,(gi W'.groups i).cpus=(gi W.groups i).cpus)(hu:Jr W'.cpus=Jr W.cpus):AJ W':=fun t t0 t1 n=>by
 rw[J1 ht] at n ⊢;rw[zvq hT hm hu];exact h t t0 t1 n
theorem zma{W:Q8}{g:Int}{x:ZF}(s:x.shelves=(gi W.groups g).shelves)(k c:Int):Qb (setGr W g x) k c=Qb W k c:=by
 unfold Qb;rw[show (gi (setGr W g x).groups k).shelves=(gi W.groups k).shelves from YH (f:=ZF.shelves) _ _ s k]
theorem zud{W:Q8}{g q p:Int}(hW:Qv W=true)(hb:zlk W g q p=0):J5 (zw5 W g q p):=by
 have wp:=Qh.1 hW;obtain⟨hu,hz,_,_,sw,sw2⟩:=zrr hW hb;obtain⟨u0,u1,_⟩:=Q5.1 hu;have h:=zg9 (W:=W) (g:=g) (q:=q) (p:=p);have hT:=Jw (W:=W) (x:=Mr W g q p) u0 u1 h.1 h.2.1 h.2.2.1;exact Zk sw2 (by decide) (by decide) ((Xk wp).same sw2.a rfl rfl hT (zma h.2.2.2.1)) ((Ux wp).same rfl hT (fun i=>YH (f:=ZF.cpus) _ _ h.2.2.2.2.2.1 i) rfl)
theorem zri{W:Q8}{n:Int}(hW:Qv W=true)(hb:LY W n=0):J5 (zkh W n):=by
 have wp:=Qh.1 hW;obtain⟨_,_,sw,_,sp,sd⟩:=zoc hW hb;have hgl:=wp.a.gl;obtain⟨l1,l2,l3,l4⟩:=TO W n.toNat 8;have hT:QR W.groups (ZD W n.toNat).groups:=D3 W n.toNat 8 (by omega)
 have key:∀i:Int,(gi (ZD W n.toNat).groups i).shelves=(gi W.groups i).shelves/\(gi (ZD W n.toNat).groups i).cpus=(gi W.groups i).cpus:=fun i=>by
  have hu:=Gi W.now n.toNat (gi W.groups ((i.toNat:Nat):Int));have e:=MV W n.toNat 8 (by omega) ((i.toNat:Nat):Int) (by omega);rw[CU (ZD W n.toNat).groups i,CU W.groups i];unfold ZD;rw[e];split
  ·exact⟨hu.2.2.2.1,hu.2.2.2.2.2.1⟩
  ·exact⟨rfl,rfl⟩
 have p1:Tb (ZD W n.toNat):=(Xk wp).same sp.a l4 l3 hT fun k c=>by unfold Qb; rw[(key k).1]
 have q1:AJ (ZD W n.toNat):=(Ux wp).same l4 hT (fun i=>(key i).2) (by rw[show (ZD W n.toNat).cpus=W.cpus from l3])
 have all:∀k:Nat,k<=12->Tb (Oo (ZD W n.toNat) k)/\AJ (Oo (ZD W n.toNat) k):=by
  intro k
  induction k with
  | zero=>exact fun _=>⟨p1,q1⟩
  | succ k ih=>
   intro hk;obtain⟨a,b⟩:=ih (by omega);show Tb (setTk (Oo (ZD W n.toNat) k) (k:Int) (zcx (Q7 (Oo (ZD W n.toNat) k) (k:Int))))/\AJ (setTk (Oo (ZD W n.toNat) k) (k:Int) (zcx (Q7 (Oo (ZD W n.toNat) k) (k:Int))));generalize Oo (ZD W n.toNat) k=V at a b
   by_cases hs:(Q7 V (k:Int)).state=0
   ·have hz:Q7 V (k:Int)=Tm:=by
     rcases a.t (k:Int) (by omega) (by omega) with h | h
     ·exact h.2
     ·exact absurd hs h.1
    rw[hz];have hd:zcx Tm=Tm:=by decide
    rw[hd];exact⟨a.setTk (by omega) (by omega) (.inl ⟨rfl,rfl⟩) fun c _ _ _ h _=>(by cases h),b.setTk a.a (by omega) (by omega) fun h=>absurd rfl h⟩
   ·have h:=O0 a (t:=(k:Int)) (by omega) (by omega) hs;have hlo:=a.l (k:Int) (by omega) (by omega) hs
    have hld:0<=(zcx (Q7 V (k:Int))).load/\(zcx (Q7 V (k:Int))).load<=8000000:=by
     have h1:=h.l1;have h2:=h.l2;have h3:=Y3.1 h.u
     have ht:0<=Int.tdiv (Q7 V (k:Int)).load 8/\Int.tdiv (Q7 V (k:Int)).load 8<=(Q7 V (k:Int)).load:=by
      rw[Int.tdiv_eq_ediv_of_nonneg h1];omega
     show 0<=Y2 (DM (Q7 V (k:Int)).load (Y2 (Q7 V (k:Int)).used 1000000)) 8000000/\Y2 (DM (Q7 V (k:Int)).load (Y2 (Q7 V (k:Int)).used 1000000)) 8000000<=8000000;have hm:0<=Y2 (Q7 V (k:Int)).used 1000000:=by unfold Y2; split <;> omega
     have hbt:0<=DM (Q7 V (k:Int)).load (Y2 (Q7 V (k:Int)).used 1000000):=by unfold DM; split <;> omega
     generalize DM (Q7 V (k:Int)).load (Y2 (Q7 V (k:Int)).used 1000000)=y at hbt;unfold Y2
     split <;> omega
    refine⟨a.setTk (by omega) (by omega) (.inr ⟨hs,⟨h.st,h.g,h.n,h.m,h.m0,h.s,by show ZA 0=true; decide,hld.1,hld.2,h.f⟩,hlo⟩) fun c c0 c1 hcur h1 h2=>?_,b.setTk a.a (by omega) (by omega) fun _=>b (k:Int) (by omega) (by omega) hs⟩;have hc:=(a.c c c0 c1).q (by rw[hcur]; omega);rw[hcur] at hc;exact hc h1 h2
 obtain⟨p2,q2⟩:=all 12 (Nat.le_refl _);exact Zk sd (by decide) (by decide) p2 q2
theorem zba{W:Q8}(p:Tb W){t g c:Int}(t0:0<=t)(t1:t<12)(n:(Q7 W t).state≠0)(hg:Q6 W.groups g=true)(c0:0<=c)(c1:c<(W.cpus.length:Int)):Tb (Vk W t g c):=by
 have h:=O0 p t0 t1 n
 have hT:Dj W (Mt W t g c):=⟨h.st,hg,h.n,h.m,h.m0,h.s,h.u,h.l1,h.l2,fun _=>by
  have:=ZW ((Q7 W t).v-(Qb W (Q7 W t).group (Q7 W t).cpu).floor) (Qc (Q7 W t).nice);show (Qb W g c).floor<=(Qb W g c).floor+FSx W t/\(Qb W g c).floor+FSx W t-(Qb W g c).floor<=Zo (Qc (Q7 W t).nice);unfold FSx;exact⟨by omega,by omega⟩⟩
 unfold Vk;split
 ·exact AC p t0 t1 n hT rfl c0 c1
 ·rename_i hs;exact p.setTk t0 t1 (.inr ⟨n,hT,c0,c1⟩) fun d _ _ _ h _=>absurd h hs
theorem AG(W:Q8)(t g c:Int):Te W (Vk W t g c):=by
 unfold Vk;split
 ·exact(zmf _ _ _).trans (Gq _ _)
 ·exact zmf _ _ _
theorem zl0{W:Q8}(hl:W.tasks.length=12){t g c:Int}(t0:0<=t)(t1:t<12){i:Int}(i0:0<=i):Q7 (Vk W t g c) i=if t=i then Mt W t g c else Q7 W i:=by
 have e:Q7 (setTk W t (Mt W t g c)) i=if t=i then Mt W t g c else Q7 W i:=QA _ _ t0 (by omega) i0;unfold Vk;split
 ·exact e
 ·exact e
end Go.Proofs.YtclpmgfpjeaibaaGreat
