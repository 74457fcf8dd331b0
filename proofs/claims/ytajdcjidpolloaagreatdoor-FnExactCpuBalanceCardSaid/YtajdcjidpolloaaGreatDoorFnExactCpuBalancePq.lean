/- Part 17 of what the law FnExactCpuBalance needs: the engine, the functions' propositions, the contracts. -/
import Derived.Test.YtajdcjidpolloaaGreatDoorFnExactCpuBalancePp
import Derived.Shelf.Abstract
namespace Go.Proofs.YtajdcjidpolloaaGreatDoor
open Go.RowKit
set_option linter.unusedVariables false
set_option linter.unusedSimpArgs false
set_option maxRecDepth 10000
def ltL (W:Wld) (a b:Int):Bool:=decide (zz7 W a>zz7 W b)
def bsyN (W:Wld) (c m:Int):Nat→Int
 | 0 => -1
 | k+1=>if ((mHas m (k:Int)&&anyC W (k:Int) c)&&(decide (bsyN W c m k<0)||ltL W (k:Int) (bsyN W c m k)))=true then (k:Int) else bsyN W c m k
theorem z50 {W:Wld} {c m:Int} {k:Nat} (h:((mHas m (k:Int)&&anyC W (k:Int) c)&&(decide (bsyN W c m k<0)||ltL W (k:Int) (bsyN W c m k)))=true):bsyN W c m (k+1)=(k:Int):=if_pos h
theorem ztz {W:Wld} {c m:Int} {k:Nat} (h:¬((mHas m (k:Int)&&anyC W (k:Int) c)&&(decide (bsyN W c m k<0)||ltL W (k:Int) (bsyN W c m k)))=true):bsyN W c m (k+1)=bsyN W c m k:=if_neg h
theorem zako {p:Nat→Bool} {n:Nat} (h:p n=false):anyB p (n+1)=anyB p n:=by simp [anyB,h]
theorem zm4 (W:Wld) (c m:Int):∀k:Nat,-1≤bsyN W c m k∧bsyN W c m k<k
 | 0=>by simp [bsyN]
 | k+1=>by
  have:=zm4 W c m k
  simp only [bsyN]
  split <;> omega
noncomputable def zd1 (W:Wld) (c lv:Int):Int:=bsyN W c (spD (W.cpus.length:Int) c lv) W.cpus.length
theorem zaj3 {W:Wld} (wp:WldP W) {b c:Int} (h:anyC W b c=true):0≤b∧b<(W.cpus.length:Int)∧b≠c:=by
 obtain ⟨t,ht,hp⟩:=zu9.1 h
 simp only [Bool.and_eq_true,beq_iff_eq] at hp
 obtain ⟨h1,h2⟩:=zy0 hp.2
 have:=wp.li (t:=(t:Int)) (by omega) (by have:=wp.a.t; omega) h1
 rw [hp.1] at this h2
 exact ⟨this.2.1,this.2.2,h2⟩
def zni (W:Wld) (c m:Int) (k:Nat):List Int:=(msL m k).filter fun x=>anyC W x c
theorem z8q {lt:Int→Int→Bool} {l r:List Int}:∀k:Nat,k≤l.length→zfz lt (l++r) k=zfz lt l k
 | 0,_=>rfl
 | k+1,hk=>by
  have e:gi (l++r) (k:Int)=gi l (k:Int):=by
   unfold gi
   rw [Int.toNat_natCast]
   simp [List.getElem?_append_left (show k<l.length by omega)]
  simp only [zfz]
  rw [z8q k (by omega),e]
theorem zadb {lt:Int→Int→Bool} {l:List Int} {x:Int}:zfz lt (l++[x]) (l++[x]).length=if (!(zfz lt l l.length).2||lt x (zfz lt l l.length).1)=true then (x,true) else zfz lt l l.length:=by
 rw [List.length_append,List.length_singleton]
 simp only [zfz]
 rw [z8q l.length (Nat.le_refl _),zua l [] x]
theorem z8v (W:Wld) (c m:Int):∀k:Nat,zfz (ltL W) (zni W c m k) (zni W c m k).length=if bsyN W c m k<0 then (0,false) else (bsyN W c m k,true)
 | 0=>rfl
 | k+1=>by
  have ih:=z8v W c m k
  have hr:=zm4 W c m k
  cases hh:mHas m (k:Int) with
  | false =>
   have:zni W c m (k+1)=zni W c m k:=by unfold zni; rw [z64 hh]
   rw [this,ih,ztz (by rw [hh]; simp)]
  | true =>
   cases ha:anyC W (k:Int) c with
   | false =>
    have:zni W c m (k+1)=zni W c m k:=by unfold zni; rw [zsu hh,List.filter_append]; simp [ha]
    rw [this,ih,ztz (by rw [hh,ha]; simp)]
   | true =>
    have:zni W c m (k+1)=zni W c m k++[(k:Int)]:=by unfold zni; rw [zsu hh,List.filter_append]; simp [ha]
    rw [this,zadb,ih]
    by_cases hn:bsyN W c m k<0
    ·rw [if_pos hn,z50 (by rw [hh,ha,decide_eq_true hn]; rfl),if_neg (by omega:¬(k:Int)<0),if_pos (by rfl)]
    ·rw [if_neg hn]
     cases hl:ltL W (k:Int) (bsyN W c m k) with
     | true=>rw [z50 (by rw [hh,ha,hl]; simp),if_neg (by omega:¬(k:Int)<0),if_pos (by rfl)]
     | false=>rw [ztz (by rw [hh,ha,hl,decide_eq_false hn]; simp),if_neg hn,if_neg (by simp)]
theorem zah8 {W:Wld} {c lv:Int} (h4:W.cpus.length≤4):bsyN W c (spD (W.cpus.length:Int) c lv) 4=zd1 W c lv:=by
 unfold zd1
 have key:∀j:Nat,W.cpus.length+j≤4→bsyN W c (spD (W.cpus.length:Int) c lv) (W.cpus.length+j)=bsyN W c (spD (W.cpus.length:Int) c lv) W.cpus.length:=by
  intro j
  induction j with
  | zero=>intro _; rfl
  | succ j ih =>
   intro hj
   rw [show W.cpus.length+(j+1)=(W.cpus.length+j)+1 from rfl]
   rw [ztz (by rw [zajp (by omega) (by omega)]; simp),ih (by omega)]
 have:=key (4 - W.cpus.length) (by omega)
 rwa [show W.cpus.length+(4 - W.cpus.length)=4 by omega] at this
section
variable {W:Wld} {m:MW} {w:World} {bs:List Nat} {p:Option Addr}
theorem zug {s c:Int} (h:RdW bs w W m) (wp:WldP W) (c0:0≤c) (c1:c<(W.cpus.length:Int)):zab bs Tryz.prog zhl #[.agg (encW W m).toArray,.int .i64 s,.int .i64 c] w (.int .i64 (bsyN W c s W.cpus.length)) :=
 zuv W.now m.cO W.cpus.length m.cC m.tO W.tasks.length m.tC m.gO W.groups.length m.gC s c fun wr hx=>by
  have h:=(h.ext hx).less (cs:=[]) (by simp)
  have h4:=wp.a.c2
  have htl:=wp.a.t
  intro _ _
  refine zmr W.cpus.length 0 rfl (fun x k=>k≤W.cpus.length∧x=bsyN W c s k) ⟨Nat.zero_le _,rfl⟩ fun x k ⟨hk,hx2⟩=>⟨fun hlt => ?_,fun hge => ?_⟩
  ·subst hx2
   have hlt:=of_decide_eq_true hlt
   have hr:=zm4 W c s k
   refine ⟨_,fun _=>zga,_,fun _ _=>zit h wp,_,fun _ _=>zit h wp,fun g => ?_,fun g => ?_⟩
   ·refine ⟨⟨by omega,by omega⟩,zap (by omega) ⟨by omega,?_⟩⟩
    rw [ztz]
    intro hc
    simp only [Bool.and_eq_true] at hc
    have hne:=(zaj3 wp hc.1.2).2.2
    rw [beq_eq_false_iff_ne.2 hne,hc.1.1] at g
    simp only [Bool.not_true,Bool.or_self,Bool.false_or,Bool.and_eq_true,decide_eq_true_eq] at g
    unfold ltL at hc
    simp only [Bool.or_eq_true,decide_eq_true_eq] at hc
    omega
   ·simp only [Bool.or_eq_false_iff,Bool.not_eq_false'] at g
    obtain ⟨⟨g1,g2⟩,g3⟩:=g
    have hb:(decide (bsyN W c s k<0)||ltL W (k:Int) (bsyN W c s k))=true:=by
     unfold ltL
     simp only [Bool.or_eq_true,decide_eq_true_eq]
     simp only [Bool.and_eq_false_iff,decide_eq_false_iff_not] at g3
     omega
    refine zmr 12 0 rfl (fun y j=>j≤12∧y=if anyB (fun t=>((tkk W (t:Int)).cpu==(k:Int))&&zdr W (t:Int) c) j=true then (k:Int) else bsyN W c s k) ⟨Nat.zero_le _,rfl⟩ fun y j ⟨hj,hy⟩=>⟨fun hlt2 => ?_,fun hge2 => ?_⟩
    ·have hlt2:=of_decide_eq_true hlt2
     have hj12:j<12:=by omega
     refine ⟨h.t.ix zbb (by omega) hlt2,_,h.t.f (by omega) hlt2 (j:=2) rfl,_,fun _=>zov h wp (by omega) hlt2 c0 c1,fun g4 => ?_,fun g4 => ?_⟩
     ·have g4:(((tkk W (j:Int)).cpu==(k:Int))&&zdr W (j:Int) c)=true:=g4
      refine ⟨⟨by omega,by omega⟩,zap hj12 ⟨by omega,?_⟩⟩
      rw [if_pos]
      simp only [anyB,Bool.or_eq_true]
      exact .inr g4
     ·have g4:(((tkk W (j:Int)).cpu==(k:Int))&&zdr W (j:Int) c)=false:=g4
      refine ⟨⟨by omega,by omega⟩,zap hj12 ⟨by omega,?_⟩⟩
      rw [hy,zako (p:=fun t=>((tkk W (t:Int)).cpu==(k:Int))&&zdr W (t:Int) c) g4]
    ·have hge2:=of_decide_eq_false hge2
     have:j=12:=by omega
     subst this
     refine ⟨⟨by omega,by omega⟩,zap (by omega) ⟨by omega,?_⟩⟩
     rw [hy]
     show (if anyC W (k:Int) c=true then (k:Int) else bsyN W c s k)=_
     cases ha:anyC W (k:Int) c with
     | true=>rw [z50 (by rw [g2,ha,hb]; rfl),if_pos rfl]
     | false=>rw [ztz (by rw [ha]; simp),if_neg (by decide)]
  ·have hge:=of_decide_eq_false hge
   have:k=W.cpus.length:=by omega
   subst this
   rw [hx2]
theorem zak5 {P:Int→Bool} {l:List Int} {k:Nat} (hk:k<l.length):(P (gi l (k:Int))=true→((l.take k).filter P).length<(l.filter P).length∧gi (l.filter P) (((l.take k).filter P).length:Int)=gi l (k:Int)∧(l.take (k+1)).filter P=(l.take k).filter P++[gi l (k:Int)]) ∧
  (P (gi l (k:Int))=false→(l.take (k+1)).filter P=(l.take k).filter P):=by
 have e1:l.take (k+1)=l.take k++[gi l (k:Int)]:=by rw [List.take_succ_eq_append_getElem hk,zd9 hk]
 have e2:l=l.take k++(gi l (k:Int)::l.drop (k+1)):=by
  conv=>lhs; rw [←List.take_append_drop (k+1) l,e1,List.append_assoc]
  rfl
 refine ⟨fun h => ?_,fun h => ?_⟩
 ·have e3:l.filter P=(l.take k).filter P++(gi l (k:Int)::(l.drop (k+1)).filter P):=by
   conv=>lhs; rw [e2,List.filter_append]
   simp [h]
  refine ⟨by rw [e3]; simp,?_,by rw [e1,List.filter_append]; simp [h]⟩
  rw [e3]
  exact zua _ _ _
 ·rw [e1,List.filter_append]; simp [h]
theorem zaey:zgx Tryz.f209=seqs zbn (.block 0 (.rangeFunc (.tmp 17) #[18] zb7 zb1)):=by kernel_rfl
theorem zado {c lv:Int} {b b1:Nat} {I:Nat→World→Prop} (wp:WldP W) (c0:0≤c) (c1:c<(W.cpus.length:Int)) (hp:WPt [] w p W m) (hbx:zaa [] w (some ⟨b,0,none⟩) 0 [.pointer p,.int .i64 c]) (hb1:zaa [] w (some ⟨b1,0,none⟩) 0 [.int .i64 lv]) (hI:∀k W1,I k W1→ExtX [] w W1) :
  z78 Tryz.prog zex #[.pointer (some ⟨b,0,none⟩),.pointer (some ⟨b1,0,none⟩)] (zni W c (spD (W.cpus.length:Int) c lv) 4).length (fun k=>[.int .i64 (gi (zni W c (spD (W.cpus.length:Int) c lv) 4) (k:Int))]) I w:=by
 intro l0 J Jx Wc hxc hJI hAJ hAx hY h0
 obtain ⟨M,hM⟩:∃M,M=msL (spD (W.cpus.length:Int) c lv) 4:=⟨_,rfl⟩
 have hcand:zni W c (spD (W.cpus.length:Int) c lv) 4=M.filter fun x=>anyC W x c:=by rw [hM]; rfl
 rw [hcand] at hY ⊢
 refine zva (args:=[.func (.yield l0) #[] #[],.pointer (some ⟨b,0,none⟩),.pointer (some ⟨b1,0,none⟩)]) (n:=44) Tryz.func209 (body:=zgx Tryz.f209) rfl (by kernel_rfl) (by simp) fun a hn ha hd => ?_
 rw [zaey]
 have a0:=ha 0 _ rfl
 have a1:=ha 1 _ rfl
 have a2:=ha 2 _ rfl
 refine zmo none (.yield l0) #[] #[] (some ⟨b,0,none⟩) (some ⟨b1,0,none⟩) (R:=fun e vs w1=>e = .normal∧∃bm b3:Nat,vs=[.func (.func zaw) #[] #[.pointer (some ⟨bm,0,none⟩)],.pointer (some ⟨b3,0,none⟩)]∧zaa [] w1 (some ⟨bm,0,none⟩) 0 [.int .i64 (spD (W.cpus.length:Int) c lv)]∧zaa [] w1 (some ⟨b3,0,none⟩) 0 [.func (.yield l0) #[] #[]]∧Wc.heap.size≤bm∧Wc.heap.size≤b3∧ExtX [] Wc w1) hn ?_ ?_ ?_ (fun e vs a1 w1 hne hR _=>absurd hR.1 hne)
 ·intro q hq
  simp only [List.mem_cons,List.not_mem_nil,or_false] at hq
  rcases hq with rfl | rfl | rfl
  ·exact ⟨Nat.le_of_ble_eq_true rfl,a0⟩
  ·exact ⟨Nat.le_of_ble_eq_true rfl,a1⟩
  ·exact ⟨Nat.le_of_ble_eq_true rfl,a2⟩
 ·intro b3 wb hx hb0 hcell _
  have hxw:=hxc.trans hx
  have hpb:=hp.ext hxw
  have hbb:=hbx.ext hxw
  refine ⟨rfl,p,hbb.get 0 _ rfl,hpb.some,_,_,_,hpb.cpus,rfl,c,hbb.get 1 _ rfl,lv,hb1.ext hxw,_,zuc,fun wr hx2 _ => ?_⟩
  refine (zafx (m:=spD (W.cpus.length:Int) c lv)).mono fun e w2 ⟨bm,hbm,he,hcm,hx3⟩=>⟨_,_,_,he,zbc,fun wr1 hx4=>⟨rfl,bm,b3,rfl,hcm.ext hx4,?_,by have:=hx.size; have:=hx2.size; omega,hb0,((hx.trans hx2).trans hx3).trans hx4⟩⟩
  exact (((znh ⟨_,hcell⟩).ext hx2).ext hx3).ext hx4
 rintro vs a3 w2 ⟨_,bm,b3,rfl,hcm,hc3,hbm,hb3',hX⟩ fo
 obtain ⟨o17,o3⟩:a3.tmps.getD 17 undef = .func (.func zaw) #[] #[.pointer (some ⟨bm,0,none⟩)]∧a3.tmps.getD 3 undef = .pointer (some ⟨b3,0,none⟩):=by
  have:=fo.out
  simp only [List.map_cons,List.map_nil,List.cons.injEq,and_true] at this
  exact this
 have o1:=(fo.kept 1 (by decide +kernel)).trans a1
 have hsz3:a3.tmps.size=44:=by rw [fo.size,hn]
 have hd3:a3.defers=[]:=by rw [fo.defers,hd]
 have hWc:=hX.size
 have hbmL:=zyz hcm
 have hb3L:=zyz hc3
 have noR:∀w',(results Tryz.f209 a3.tmps).run Tryz.prog w' = .ok (.tuple #[]) w':=fun w'=>results_none (by kernel_rfl) _ _ _
 refine wpIn_block (zakh (gf:=zaw) (lb:=#[.pointer (some ⟨bm,0,none⟩)]) o17 (enters_of Tryz.func182 (by kernel_rfl) rfl)
  (fun k W1=>J ((M.take k).filter fun x=>anyC W x c).length W1∧zaa [] W1 (some ⟨bm,0,none⟩) 0 [.int .i64 (spD (W.cpus.length:Int) c lv)]∧zaa [] W1 (some ⟨b3,0,none⟩) 0 [.func (.yield l0) #[] #[]]) (fun cd W1=>cd = .ret∧Jx () W1) M.length (fun k=>[.int .i64 (gi M (k:Int))])
  (fun k W1 W2 ys h hx hy=>⟨hAJ _ _ _ ys h.1 hx fun y hm=>by have:=hy y hm; omega,zix h.2.1 hx fun hm=>by have:=hy _ hm; omega,zix h.2.2 hx fun hm=>by have:=hy _ hm; omega⟩)
  (fun cd W1 W2 ys h hx hy=>⟨h.1,hAx _ _ _ ys h.2 hx fun y hm=>by have:=hy y hm; omega⟩)
  ⟨hAJ 0 _ _ [] h0 hX (by simp),hcm,hc3⟩ (fun k=>rfl) (by
   have:=zadp (m:=spD (W.cpus.length:Int) c lv) (bm:=bm) (w:=w2) (I:=fun k W1=>J ((M.take k).filter fun x=>anyC W x c).length W1∧zaa [] W1 (some ⟨bm,0,none⟩) 0 [.int .i64 (spD (W.cpus.length:Int) c lv)]∧zaa [] W1 (some ⟨b3,0,none⟩) 0 [.func (.yield l0) #[] #[]]) (fun k W1 h=>h.2.1)
   rw [←hM] at this
   exact this) ?_ ?_ ?_)
 ·intro l k W1 hk ⟨hJk,hCm,hC3⟩ hl
  rw [zaca]
  refine zmn (some l) (gi M (k:Int)) (R:=fun e vs W2=>e = .normal∧vs=[.int .i64 (gi M (k:Int))]∧ExtX [] W1 W2) (by simpa using hsz3) (fun q hq => ?_) (fun wr hx=>⟨rfl,rfl,hx⟩) fun e vs a4 W2 hR fo4 => ?_
  ·simp only [List.mem_cons,List.not_mem_nil,or_false] at hq
   subst hq
   exact ⟨Nat.le_of_ble_eq_true rfl,zsj (i:=18) (by rw [hsz3]; decide)⟩
  obtain ⟨rfl,rfl,hx4⟩:=hR
  have q4:a4.tmps.getD 4 undef = .int .i64 (gi M (k:Int)):=by
   have:=fo4.out
   simpa using this
  have q1:a4.tmps.getD 1 undef = .pointer (some ⟨b,0,none⟩):=((fo4.kept 1 (by decide +kernel)).trans (zf8 (i:=18) (j:=1) (by decide))).trans o1
  have q3:a4.tmps.getD 3 undef = .pointer (some ⟨b3,0,none⟩):=((fo4.kept 3 (by decide +kernel)).trans (zf8 (i:=18) (j:=3) (by decide))).trans o3
  refine ⟨⟨[],hx4,by simp⟩,fun W3 hx5 => ?_⟩
  have hly:∀y∈[l],w2.heap.size≤y:=by simpa using hl
  have hJ3:J ((M.take k).filter fun x=>anyC W x c).length W3:=hAJ _ _ _ [l] (hAJ _ _ _ [] hJk hx4 (by simp)) hx5 fun y hm=>by have:=hly y hm; omega
  have hm3:=zix (hCm.ext hx4) hx5 (fun hm=>by have:=hly _ hm; omega)
  have hy3:=zix (hC3.ext hx4) hx5 (fun hm=>by have:=hly _ hm; omega)
  have hb3W:=zyz hy3
  have hW3:ExtX [] w W3:=hI _ _ (hJI _ _ hJ3)
  have hp3:=hp.ext hW3
  have hb3:=hbx.ext hW3
  have htl:=wp.a.t
  obtain ⟨F1,F2⟩:=zak5 (P:=fun x=>anyC W x c) (l:=M) hk
  refine zll (some l) (some ⟨b,0,none⟩) (some ⟨b3,0,none⟩) (gi M (k:Int)) (R:=fun e _ W4=>(∃X,ExtX X W3 W4∧∀x∈X,x<w2.heap.size)∧((e = .normal∧J ((M.take (k+1)).filter fun x=>anyC W x c).length W4∧zaa [] W4 (some ⟨bm,0,none⟩) 0 [.int .i64 (spD (W.cpus.length:Int) c lv)]∧zaa [] W4 (some ⟨b3,0,none⟩) 0 [.func (.yield l0) #[] #[]])∨(e = .ret∧Jx () W4))) (by rw [fo4.size]; simpa using hsz3) (fun q hq => ?_) ?_ fun e vs a5 W4 hR _ => ?_
  ·simp only [List.mem_cons,List.not_mem_nil,or_false] at hq
   rcases hq with rfl | rfl | rfl
   ·exact ⟨Nat.le_of_ble_eq_true rfl,q1⟩
   ·exact ⟨Nat.le_of_ble_eq_true rfl,q3⟩
   ·exact ⟨Nat.le_of_ble_eq_true rfl,q4⟩
  ·refine ⟨rfl,p,hb3.get 0 _ rfl,hp3.some,_,_,_,hp3.tasks,?_⟩
   refine zd6 12 0 rfl (fun j w5=>j≤12∧ExtX [] W3 w5∧∀i:Nat,i<j→(((tkk W (i:Int)).cpu==gi M (k:Int))&&zdr W (i:Int) c)=false) (fun w5 hx6 _=>⟨Nat.zero_le _,hx6,fun i hi=>absurd hi (Nat.not_lt_zero i)⟩) fun j w5 _ ⟨hj,hX5,hno⟩=>⟨fun hlt => ?_,fun hge wr hx6 => ?_⟩
   ·have hlt:=of_decide_eq_true hlt
    have hj12:j<12:=by omega
    have hp5:=hp3.ext hX5
    refine ⟨hp5.rd.t.ix zbb (by omega) hlt,_,_,_,_,_,_,_,_,_,hp5.rd.t j (by omega) hlt,fun b' hb'=>⟨p,c,fun _=>hb3.ext hX5,_,fun _=>zos hp5 wp (by omega) hlt c0 c1,fun g => ?_,fun g=>⟨⟨by omega,by omega⟩,fun wr hx6 _=>zae hj12 ⟨by omega,hX5.trans hx6,fun i hi => ?_⟩⟩⟩⟩
    ·have g:(((tkk W (j:Int)).cpu==gi M (k:Int))&&zdr W (j:Int) c)=true:=g
     have hany:anyC W (gi M (k:Int)) c=true:=zu9.2 ⟨j,hj12,g⟩
     obtain ⟨f1,f2,f3⟩:=F1 hany
     refine ⟨.yield l0,#[],#[],hy3.ext hX5,fun wr1 hx6 hs6 => ?_⟩
     have hxa:=hX5.trans hx6
     have hc:=hY _ wr1 f1 (hAJ _ _ _ [] hJ3 hxa (by simp))
     dsimp only at hc
     rw [f2] at hc
     have hsz5:=hX5.size
     have hsz6:=hx6.size
     have hb6:b'<wr1.heap.size:=hs6 b' (by simp)
     refine hc.mono fun e w6 ⟨⟨X,hXX,hXl⟩,hr⟩ => ?_
     have hk6:Kept [b'] wr1 w6:=fun x hm=>by
      have:x=b':=by simpa using hm
      subst this
      exact hXX.block x hb6 fun hmX=>by have:=hXl x hmX; omega
     have outX:∀wr2,ExtX [b'] w6 wr2→∃X,ExtX X W3 wr2∧∀x∈X,x<w2.heap.size:=fun wr2 hx7=>⟨X,(hxa.of_nil.trans hXX).fresh hx7 fun x hm=>.inl (by
      have:x=b':=by simpa using hm
      omega),fun x hm=>by have:=hXl x hm; omega⟩
     have hby:∀y∈[b'],Wc.heap.size≤y:=by
      intro y hm
      have:y=b':=by simpa using hm
      omega
     rcases hr with ⟨he,hJn⟩ | ⟨he,hJx⟩
     ·refine ⟨true,he,hk6,fun g=>(by cases g),fun _ wr2 hx7=>⟨outX wr2 hx7,.inl ⟨rfl,?_,?_,?_⟩⟩⟩
      ·rw [f3,List.length_append]
       exact hAJ _ _ _ [b'] hJn hx7 hby
      ·exact zix (zix (hm3.ext hxa) hXX fun hm=>by have:=hXl _ hm; omega) hx7 fun hm=>by
        have:bm=b':=by simpa using hm
        have:=zyz hm3
        omega
      ·exact zix (zix (hy3.ext hxa) hXX fun hm=>by have:=hXl _ hm; omega) hx7 fun hm=>by
        have:b3=b':=by simpa using hm
        have:=zyz hy3
        omega
     ·exact ⟨false,he,hk6,fun _ wr2 hx7=>⟨outX wr2 hx7,.inr ⟨rfl,hAx _ _ _ [b'] hJx hx7 hby⟩⟩,fun g=>(by cases g)⟩
    ·have g:(((tkk W (j:Int)).cpu==gi M (k:Int))&&zdr W (j:Int) c)=false:=g
     by_cases hij:i<j
     ·exact hno i hij
     ·have:i=j:=by omega
      subst this; exact g
   ·have hge:=of_decide_eq_false hge
    have:j=12:=by omega
    subst this
    have hany:anyC W (gi M (k:Int)) c=false:=z8n hno
    have hxa:=hX5.trans hx6
    refine ⟨⟨[],hxa,by simp⟩,.inl ⟨rfl,?_,hm3.ext hxa,hy3.ext hxa⟩⟩
    rw [F2 hany]
    exact hAJ _ _ _ [] hJ3 hxa (by simp)
  ·obtain ⟨hX4,hr⟩:=hR
   rcases hr with ⟨rfl,h1⟩ | ⟨rfl,h1⟩
   ·exact ⟨hX4,h1⟩
   ·exact ⟨hX4,rfl,h1⟩
 ·intro D W1 hD ⟨hJn,_⟩ hdD
  rw [List.take_length] at hJn
  exact (zui (R:=fun e W2=>(∃v,e=Ending.returned v)∧(J (M.filter fun x=>anyC W x c).length W2∨Jx () W2)) (a:={ a3 with defers:=z4a D::a3.defers }) (D:=D) (by simp [hd3]) hdD noR fun w' hx=>⟨⟨_,rfl⟩,.inl (hAJ _ _ _ [D] hJn hx fun y hm=>by
   have:y=D:=by simpa using hm
   omega)⟩).1
 ·intro D cd W1 hD ⟨hcd,hJx⟩ hdD
  subst hcd
  exact wpIn_ret (zui (R:=fun e W2=>(∃v,e=Ending.returned v)∧(J (M.filter fun x=>anyC W x c).length W2∨Jx () W2)) (a:={ a3 with defers:=z4a D::a3.defers }) (D:=D) (by simp [hd3]) hdD noR fun w' hx=>⟨⟨_,rfl⟩,.inr (hAx _ _ _ [D] hJx hx fun y hm=>by
   have:y=D:=by simpa using hm
   omega)⟩).2
end
end Go.Proofs.YtajdcjidpolloaaGreatDoor
namespace Go.Proofs.YtajdcjidpolloaaGreatDoor
open Go.RowKit
set_option linter.unusedVariables false
set_option linter.unusedSimpArgs false
set_option maxRecDepth 10000
noncomputable def cpuB (W:Wld) (c:Int) (up:Bool) (last:Int):Int:=if zy1 W c=false then 1 else if (gi W.cpus c).up≠up then 6 else if last≠0 then last else if zs5 W=false then 10 else 0
theorem zae2 {W:Wld} {c:Int} {up:Bool} {last:Int} (h:cpuB W c up last=0):zy1 W c=true∧(gi W.cpus c).up=up∧last=0∧zs5 W=true:=by
 unfold cpuB at h
 split at h
 ·cases h
 ·rename_i h1
  split at h
  ·cases h
  ·rename_i h2
   split at h
   ·rename_i h3; exact absurd h h3
   ·rename_i h3
    split at h
    ·cases h
    ·rename_i h4
     exact ⟨by simpa using h1,by simpa using h2,by omega,by simpa using h4⟩
theorem z53 {W:Wld} {c:Int} {up:Bool} {last:Int} (h1:zy1 W c=true) (h2:(gi W.cpus c).up=up) (h3:last=0):cpuB W c up last=if zs5 W=false then 10 else 0:=by
 unfold cpuB
 rw [if_neg (by rw [h1]; decide),if_neg (by simpa using h2),if_neg (by simpa using h3)]
section
variable {W W':Wld} {m:MW} {w:World}
theorem z2k {base pb:Nat} {cap cap1 cap2 cap3:Option Addr} {c:Int} {up:Bool} {last:Int} {lf cf:Fn} {la lk ca ck:Array Value} (h:PW base pb w W m) (hW:zcq W=true)
  (h0:zaa [] w cap 0 [.int .i64 c]) (h1:zaa [] w cap1 0 [.bool up]) (h2:zaa [] w cap2 0 [.func lf la lk]) (h3:zaa [] w cap3 0 [.func cf ca ck])
  (hlast:∀w1,ExtX [] w w1→zm0 Tryz.prog (.func lf la lk) [.pointer (pA pb)] w1 fun e w2=>(last≠0∧e = .returned (.iface za5 (.agg #[.int .i64 last]))∨last=0∧e = .returned .nilIface)∧ExtX [] w1 w2)
  (hcall:cpuB W c up last=0→∀w1,ExtX [] w w1→zm0 Tryz.prog (.func cf ca ck) [.pointer (pA pb),.agg #[.pointer (pA pb),.int .i64 c]] w1 fun e w2=>e = .returned (.tuple #[])∧∃m2,Done base pb [] w1 m w2 W' m2) :
  Calls Tryz.prog zdw #[.pointer (pA pb),.pointer cap,.pointer cap1,.pointer cap2,.pointer cap3] w fun e w2=>(cpuB W c up last≠0∧e = .returned (.iface za5 (.agg #[.int .i64 (cpuB W c up last)]))∧ExtX [] w w2)∨(cpuB W c up last=0∧e = .returned .nilIface∧∃m2,Done base pb [] w m w2 W' m2):=by
 have wp:=zb9.1 hW
 have hp:=(Mp.start h).wpt
 refine (zq5 (pA pb) cap cap1 cap2 cap3 (R:=fun v w2=>(cpuB W c up last≠0∧v = .iface za5 (.agg #[.int .i64 (cpuB W c up last)])∧ExtX [] w w2)∨(cpuB W c up last=0∧v = .nilIface∧∃m2,Done base pb [] w m w2 W' m2)) ?_).mono fun e w' ⟨v,he,h3⟩=>by
  rw [he]
  rcases h3 with ⟨a,b,c⟩ | ⟨a,b,c⟩
  ·exact .inl ⟨a,by rw [b],c⟩
  ·exact .inr ⟨a,by rw [b],c⟩
 have hc2:=wp.a.c2
 have hm9:=zbh
 refine ⟨c,h0,zy1 W c,zzr hp (by omega),fun g wr hx=>.inl ?_,fun g => ?_⟩
 ·have hb:cpuB W c up last=1:=by unfold cpuB; rw [if_pos (by simpa using g)]
  rw [hb]
  exact ⟨by decide,rfl,hx⟩
 have g:zy1 W c=true:=by simpa using g
 obtain ⟨c0,c1⟩:=zaa6 g
 refine ⟨hp.some,_,_,_,hp.cpus,c,h0,hp.rd.c.ix zf2 c0 c1,_,hp.rd.c.f c0 c1 (j:=0) rfl,up,h1,fun g2 wr hx=>.inl ?_,fun g2=>⟨lf,la,lk,h2,fun wr hx _ => ?_⟩⟩
 ·have g2:(gi W.cpus c).up≠up:=by simpa using g2
  have hb:cpuB W c up last=6:=by unfold cpuB; rw [if_neg (by rw [g]; decide),if_pos g2]
  rw [hb]
  exact ⟨by decide,rfl,hx⟩
 have g2:(gi W.cpus c).up=up:=by simpa using g2
 refine (hlast wr hx).mono fun e w2 ⟨hA,hy⟩ => ?_
 rcases hA with ⟨a1,a2⟩ | ⟨a1,a2⟩
 ·have hb:cpuB W c up last=last:=by unfold cpuB; rw [if_neg (by rw [g]; decide),if_neg (by simpa using g2),if_pos a1]
  refine ⟨_,a2,zbc,true,fun wq=>by kernel_rfl,fun _ wr3 hx3=>.inl ?_,fun g=>by cases g⟩
  rw [hb]
  exact ⟨a1,rfl,(hx.trans hy).trans hx3⟩
 ·have hM:=(Mp.start h).nil (hx.trans hy)
  have hp2:=hM.wpt
  refine ⟨_,a2,zbc,false,fun wq=>by kernel_rfl,fun g=>(by cases g),fun _=>⟨_,z9i hp2 wp.a,fun g3 wr4 hx4=>.inl ?_,fun g3 => ?_⟩⟩
  ·have g3:zs5 W=false:=by simpa using g3
   have hb:cpuB W c up last=10:=by rw [z53 g g2 a1,if_pos g3]
   rw [hb]
   exact ⟨by decide,rfl,(hx.trans hy).trans hx4⟩
  have g3:zs5 W=true:=by simpa using g3
  have hb:cpuB W c up last=0:=by rw [z53 g g2 a1,if_neg (by rw [g3]; decide)]
  refine ⟨cf,ca,ck,h3.ext (hx.trans hy),c,h0.ext (hx.trans hy),pA pb,c,zby,fun wr5 hx5 _ => ?_⟩
  refine (hcall hb wr5 ((hx.trans hy).trans hx5)).mono fun e1 w3 ⟨b1,m2,b2⟩ => ?_
  exact ⟨b1,zbc,fun wr6 hx6=>.inr ⟨hb,rfl,m2,(b2.pre ((hx.trans hy).trans hx5)).post hx6⟩⟩
theorem z9f {c:Int} {up:Bool} {last:Int} {lf cf:Fn} {la lk ca ck:Array Value} (h:RdW [] w W m) (hl:LenW W) (hg:ztf w)
  (hlast:∀(base pb:Nat) (w1:World) (m1:MW),zcq W=true→PW base pb w1 W m1→zm0 Tryz.prog (.func lf la lk) [.pointer (pA pb)] w1 fun e w2=>(last≠0∧e = .returned (.iface za5 (.agg #[.int .i64 last]))∨last=0∧e = .returned .nilIface)∧ExtX [] w1 w2)
  (hcall:∀(base pb:Nat) (w1:World) (m1:MW),zcq W=true→cpuB W c up last=0→ExtX [] w w1→w.heap.size≤base→base≤pb→PW base pb w1 W m1→zm0 Tryz.prog (.func cf ca ck) [.pointer (pA pb),.agg #[.pointer (pA pb),.int .i64 c]] w1 fun e w2=>e = .returned (.tuple #[])∧∃m2,Done base pb [] w1 m1 w2 W' m2) :
  Calls Tryz.prog zg8 #[.agg (encW W m).toArray,.int .i64 c,.bool up,.func lf la lk,.func cf ca ck] w fun e w'=>∃v,e = .returned v∧AnsW (ansD W (cpuB W c up last) W') w v w':=by
 refine zt3 W.now m.cO W.cpus.length m.cC m.tO W.tasks.length m.tC m.gO W.groups.length m.gC c up lf la lk cf ca ck (R:=fun v w'=>AnsW (ansD W (cpuB W c up last) W') w v w') ?_
 intro x hx b1 wb hx1 hb1 hc1 hn1 b2 wb1 hxb hb2 hc2 hn2 b3 wb2 hxb2 hb3 hc3 hn3 b4 wb3 hxb3 hb4 hc4 hn4 b5 hb5 wr hx2 hs
 have hX0:ExtX [] w wb1:=hx1.fresh hxb fun y hy=>.inl (zz3 hy hx)
 have hX1:ExtX [] w wb2:=hX0.fresh hxb2 fun y hy=>.inl (zz3 hy hx)
 have hX3:ExtX [] w wb3:=hX1.fresh hxb3 fun y hy=>.inl (zz3 hy hx)
 have hX:ExtX [] w wr:=hX3.fresh hx2 fun y hy=>.inl (zz3 hy hx)
 have c1:=zan (zan (zan (zan hc1 hxb hn1) hxb2 hn1) hxb3 hn1) hx2 hn1
 have c2:=zan (zan (zan hc2 hxb2 hn2) hxb3 hn2) hx2 hn2
 have c3:=zan (zan hc3 hxb3 hn3) hx2 hn3
 have c4:=zan hc4 hx2 hn4
 have cell:∀{b:Nat} {v:Value} {t:TypeId} {w1:World},wr.heap[b]? = some (Obj.cells ([v]:List Value).toArray t (0,0))→ExtX [] wr w1→zaa [] w1 (some ⟨b,0,none⟩) 0 [v]:=fun hb hx=>zkj (zan hb hx (by simp)) (by simp) (k0:=0) rfl
 refine Calls.mono (zafq (bar:=cpuB W c up last) (W':=W') (h.ext hX) hl (hg.ext hX) fun w1 pb m1 hW hx3 hpb hP=>.inl ⟨zdw,_,rfl,z2k hP hW (cell c1 hx3) (cell c2 hx3) (cell c3 hx3) (cell c4 hx3) (fun w9 hx9=>hlast _ pb w9 m1 hW (hP.ext0 hx9)) fun hb w9 hx9=>hcall _ pb w9 m1 hW hb ((hX.trans hx3).trans hx9) hX.size hpb (hP.ext0 hx9)⟩) ?_
 rintro e wv ⟨v,he,n',m',hv,hM,hy⟩
 subst hv
 refine ⟨_,_,_,_,_,_,_,_,_,_,_,he,za9 hy hs,fun wr1 hx4=>⟨n',m',rfl,(hM.ext hx4 fun y hy hm => ?_).mono hX.size,(hX.trans hy).fresh hx4 fun y hm => ?_⟩⟩
 ·have:=(hM.lt y hy).1
  have:=hs y hm
  omega
 ·simp only [List.mem_cons,List.not_mem_nil,or_false] at hm
  rcases hm with rfl | rfl
  ·exact .inl hx
  ·exact .inl (Nat.le_trans hX3.size hb5)
theorem zafy {p:Option Addr} {bs:List Nat}:zab bs Tryz.prog zha #[.pointer p] w .nilIface:=z21 p fun _ _=>rfl
end
end Go.Proofs.YtajdcjidpolloaaGreatDoor
namespace Go.Proofs.YtajdcjidpolloaaGreatDoor
open Go.RowKit
set_option linter.unusedVariables false
set_option linter.unusedSimpArgs false
set_option maxRecDepth 10000
section
variable {W W':Wld} {m:MW} {w:World} {bar:Int}
structure Mn (base pb:Nat) (w0:World) (m0:MW) (w:World) (W:Wld) (m:MW):Prop where
 own:MWd 8 base w W m
 pt:w.heap[pb]? = some (.cells (encW W m).toArray zaz (0,0))
 pn:pb∉za3 8 m
 ext:ExtX (pb::za3 8 m0) w0 w
 sub:∀x∈za3 8 m,x∈za3 8 m0∨w0.heap.size≤x
section
variable {base pb:Nat} {w0 w':World} {m0 m':MW}
theorem Mn.start (h:PW base pb w W m):Mn base pb w m w W m:=⟨h.own,h.pt,h.pn,ExtX.refl _ _,fun _ hx=>.inl hx⟩
end
end
end Go.Proofs.YtajdcjidpolloaaGreatDoor
namespace Go.Proofs.YtajdcjidpolloaaGreatDoor
open Go.RowKit
set_option linter.unusedVariables false
set_option linter.unusedSimpArgs false
set_option maxRecDepth 10000
def weiS (W:Wld) (g c x:Int):Shf:={ shf W g c with v:=if (shf W g c).on=true then (shf W (gi W.groups g).parent c).floor+zc5 ((shf W g c).v - (shf W (gi W.groups g).parent c).floor) x else (shf W g c).v,w:=x }
def weiE (W:Wld) (g c:Int):Bool:=decide ((gi W.cpus c).cur≥0)&&insD 3 W.groups g (tkk W (gi W.cpus c).cur).group
def weiV (W:Wld) (g c x:Int):Wld:=setSh W g c (weiS W g c x)
def weiW (W:Wld) (g c x:Int):Wld:=if (shf W g c).w=x then W else if weiE (weiV W g c x) g c=true then endW (weiV W g c x) c else weiV W g c x
def CurU (W:Wld):Prop:=∀c:Int,0≤c→c<(W.cpus.length:Int)→(gi W.cpus c).cur≥0→zad W.groups (tkk W (gi W.cpus c).cur).group=true
theorem zakw {W:Wld} (wp:WldP W):CurU W:=fun c c0 c1 h=>by
 have hc:=wp.c c c0 c1
 have hy:=hc.yes h
 have hl:=hy.2.2.2.2.1
 have c2:=hc.c2
 have ht:=wp.a.t
 unfold zcs at hl
 simp only [Bool.and_eq_true,beq_iff_eq] at hl
 rcases wp.t (gi W.cpus c).cur h (by omega) with h1 | h1
 ·rw [h1.1] at hl; exact absurd hl.1 (by decide)
 ·exact h1.2.g
theorem CurU.setSh {W:Wld} (h:CurU W) {g c:Int} {s:Shf} (u0:0≤g) (u1:g<(W.groups.length:Int)):CurU (setSh W g c s):=fun d d0 d1 hc=>by
 rw [(zdq u0 u1).usd]
 exact h d d0 d1 hc
theorem CurU.endW {W:Wld} (h:CurU W) {c:Int} (c0:0≤c) (c1:c<(W.cpus.length:Int)):CurU (endW W c):=fun d d0 d1 hc=>by
 have d1:d<(((W.cpus.set c.toNat (endC (gi W.cpus c))).length:Nat):Int):=d1
 rw [List.length_set] at d1
 have hg:gi (Go.Proofs.YtajdcjidpolloaaGreatDoor.endW W c).cpus d=if c=d then endC (gi W.cpus c) else gi W.cpus d:=zci _ _ c0 c1 d0
 rw [hg] at hc ⊢
 split at hc
 ·exact absurd hc (by show ¬(-1:Int)≥0; decide)
 ·rename_i hn
  rw [if_neg hn]
  exact h d d0 d1 hc
theorem zal2 {F K:Int} {W:Wld} (h:SF F K W) (hk:F+lagB≤K) {g c x:Int} (hu:zad W.groups g=true) (hz:g≠0) (c0:0≤c) (c1:c<(W.cpus.length:Int)) (x1:1≤x) (x2:x≤20):SF F K (weiV W g c x):=by
 have hp:=h.w.a.up hu hz
 have s1:=h.w.s g c hu c0 c1
 have s2:=h.w.s _ c hp c0 c1
 have f1:=h.f g c hu c0 c1
 have f2:=h.f _ c hp c0 c1
 have lc:=zdi ((shf W g c).v - (shf W (gi W.groups g).parent c).floor) x
 have lm:=zcm x
 refine h.setSh hu c0 c1 s1.1 f1 (by show (shf W g c).floor≤K; omega) ?_ ?_ x1 x2
 ·simp only [weiS]; split <;> omega
 ·simp only [weiS]; simp only [lagB] at hk; split <;> omega
theorem zal3 {F K:Int} {W:Wld} (h:SF F K W) (hk:F+lagB≤K) (hc:CurU W) {g c x:Int} (hu:zad W.groups g=true) (hz:g≠0) (c0:0≤c) (c1:c<(W.cpus.length:Int)) (x1:1≤x) (x2:x≤20):SF F K (weiW W g c x)∧Fr W (weiW W g c x)∧CurU (weiW W g c x):=by
 obtain ⟨u0,u1,_⟩:=zac.1 hu
 have hv:=zal2 h hk hu hz c0 c1 x1 x2
 have hf:Fr W (weiV W g c x):=(zh0 u0 u1).fr
 have hc2:CurU (weiV W g c x):=hc.setSh u0 u1
 unfold weiW
 split
 ·exact ⟨h,Fr.refl _,hc⟩
 ·split
  ·exact ⟨hv.endW c0 c1,hf.trans (z9c _ _),hc2.endW c0 c1⟩
  ·exact ⟨hv,hf,hc2⟩
theorem zaj0 {gs:List Grp} (ht:zei gs) {g h:Int} (u1:zad gs g=true) (u2:zad gs h=true):zn5 gs g h=insD 3 gs g h:=by
 unfold zn5
 rw [u1,u2,show zte gs=true from @decide_eq_true _ (Classical.propDecidable _) ht]
 rfl
section
variable {base:Nat} {W W':Wld} {m:MW} {w:World} {bar:Int}
set_option maxHeartbeats 1000000 in
theorem zwt {F K:Int} (h:MWd 8 base w W m) (hsw:SF F K W) (hk:F+lagB≤K) (hK:K≤1000000000000000000) (hcu:CurU W) {g c x:Int} (hu:zad W.groups g=true) (hz:g≠0) (c0:0≤c) (c1:c<(W.cpus.length:Int)) :
  Calls Tryz.prog zif #[.agg (encW W m).toArray,.int .i64 g,.int .i64 c,.int .i64 x] w fun e w'=>e = .returned (.agg (encW W m).toArray)∧Mv 8 base [] w m w' (weiW W g c x) m:=by
 refine (zwl W.now m.cO W.cpus.length m.cC m.tO W.tasks.length m.tC m.gO W.groups.length m.gC g c x (R:=fun v w'=>v = .agg (encW W m).toArray∧Mv 8 base [] w m w' (weiW W g c x) m) ?_).mono fun e w' ⟨v,he,hv,h3⟩=>⟨by rw [he,hv],h3⟩
 intro y hy y1 hy1
 obtain ⟨u0,u1,_⟩:=zac.1 hu
 have hgl:=hsw.w.a.gl
 have htl:=hsw.w.a.t
 have hsl:=hsw.w.a.sl hu
 have hp:=hsw.w.a.up hu hz
 obtain ⟨p0,p1,_⟩:=zac.1 hp
 have hpl:=hsw.w.a.sl hp
 have s1:=hsw.w.s g c hu c0 c1
 have s2:=hsw.w.s _ c hp c0 c1
 have lc:=zdi ((shf W g c).v - (shf W (gi W.groups g).parent c).floor) x
 have lm:=zcm x
 have hM:=Mv.two h hy hy1
 have hr:=(Mv.start h).rd
 have hix:=hr.g.ix (i:=g) u0 u1
 have hixS:=(hr.g.shelves g u0 u1).ix zej c0 (by omega)
 have hcx:=hr.c.ix zf2 c0 c1
 have hwr:=wrS h (by simp) (i:=g) (bs:=[]) u0 (by omega) c0 (by omega) (j:=0) (k:=5) (by decide)
 have hcr:=hsw.w.cu c c0 c1
 have cur1:decide ((gi W.cpus c).cur≥0)=true→(gi W.cpus c).cur<(W.tasks.length:Int):=fun _=>by omega
 have hT:zdo W.groups (weiV W g c x).groups:=zdq u0 u1
 have hE:(decide ((gi W.cpus c).cur≥0)&&zn5 (weiV W g c x).groups g (gi W.tasks (gi W.cpus c).cur).group)=weiE (weiV W g c x) g c:=by
  unfold weiE
  show _=(decide ((gi W.cpus c).cur≥0)&&insD 3 (weiV W g c x).groups g (tkk W (gi W.cpus c).cur).group)
  by_cases hc:(gi W.cpus c).cur≥0
  ·rw [zaj0 (hT.tree hsw.w.a.tree) (by rw [hT.usd]; exact hu) (by rw [hT.usd]; exact hcu c c0 c1 hc)]; rfl
  ·rw [decide_eq_false hc]; rfl
 have hlen:(weiV W g c x).groups.length=W.groups.length:=hT.len
 have hfr:Fr W (weiV W g c x):=(zh0 u0 u1).fr
 have eW:encW (weiV W g c x) m=encW W m:=zfr hfr
 have eE:encW (endW (weiV W g c x) c) m=encW W m:=zfr (hfr.trans (z9c _ _))
 refine ⟨hix,_,_,_,hr.g.shelf u0 u1,hixS,_,_,_,_,_,(hr.g.shelves g u0 u1) c c0 (by omega),fun b2 hb2=>⟨fun g1 wr hx=>⟨rfl,?_⟩,fun g1=>⟨fun g2 => ?_,fun g2 => ?_⟩⟩⟩
 ·have g1:(shf W g c).w=x:=eq_of_beq g1
  unfold weiW
  rw [if_pos g1]
  exact (Mv.start h).call0 hx
 ·have hss:weiS W g c x=⟨(shf W g c).floor,(shf W g c).on,(shf W (gi W.groups g).parent c).floor+zc5 ((shf W g c).v - (shf W (gi W.groups g).parent c).floor) x,x,(shf W g c).sum⟩:=by
   unfold weiS
   rw [if_pos (show (shf W g c).on=true from g2)]
  have hset:=z61 hsw h hk hu rfl c0 c1 (weiS W g c x)
  rw [hss] at hset
  have hM2:=((hM.add hb2).deed hset (subS (by omega)))
  have hV:setSh W g c ⟨(shf W g c).floor,(shf W g c).on,(shf W (gi W.groups g).parent c).floor+zc5 ((shf W g c).v - (shf W (gi W.groups g).parent c).floor) x,x,(shf W g c).sum⟩=weiV W g c x:=by unfold weiV; rw [hss]
  rw [hV] at hM2
  have hr2:=hM2.rd
  have hM2':=hM2.close
  have hr0:=hM2'.rd
  refine ⟨hix,_,hr.g.parent u0 u1,hr.g.ix p0 p1,_,_,_,hr.g.shelf p0 p1,(hr.g.shelves _ p0 p1).ix zej c0 (by omega),_,RdS.f (hr.g.shelves _ p0 p1) c0 (by omega) (j:=0) rfl,⟨by show _≤(shf W g c).v - (shf W (gi W.groups g).parent c).floor; omega,by show (shf W g c).v - (shf W (gi W.groups g).parent c).floor≤_; omega⟩,_,znw,⟨by show _≤(shf W (gi W.groups g).parent c).floor+zc5 ((shf W g c).v - (shf W (gi W.groups g).parent c).floor) x; omega,by show (shf W (gi W.groups g).parent c).floor+zc5 ((shf W g c).v - (shf W (gi W.groups g).parent c).floor) x≤_; omega⟩,hix,_,_,_,hr.g.shelf u0 u1,hixS,hwr,hcx,(gi W.cpus c).cur,?_⟩
  refine ⟨RdC.f hr0.c c0 c1 (j:=1) rfl,fun gc=>hr0.t.ix zbb (of_decide_eq_true gc) (cur1 gc),_,fun gc=>RdT.f hr0.t (of_decide_eq_true gc) (cur1 gc) (j:=1) rfl,_,fun gc=>by rw [←hlen]; exact zjk hr0.g (by have:=zbh; omega),fun gc wr1 hx3 hs3 => ?_,fun gc wr3 hx3 => ?_⟩
  ·have he:weiE (weiV W g c x) g c=true:=by rw [←hE]; exact gc
   have hM3:=hM2.step (hx3.of_nil)
   have hcall:=zlw hM3.own c0 c1
   rw [eW,eE] at hcall
   refine Calls.mono hcall ?_
   rintro e wv ⟨he1,hy2⟩
   refine ⟨_,_,_,_,_,_,_,_,_,_,he1,hM3.kept hy2 hs3,fun wr2 hx4=>⟨rfl,?_⟩⟩
   unfold weiW
   rw [if_neg (show ¬(shf W g c).w=x from ne_of_beq_false g1),if_pos he]
   exact ((hM3.call hy2 hs3).step hx4).close
  ·have he:weiE (weiV W g c x) g c=false:=by rw [←hE]; exact gc
   refine ⟨rfl,?_⟩
   unfold weiW
   rw [if_neg (show ¬(shf W g c).w=x from ne_of_beq_false g1),if_neg (by rw [he]; decide)]
   exact (hM2.step hx3.of_nil).close
 ·have hss:weiS W g c x=⟨(shf W g c).floor,(shf W g c).on,(shf W g c).v,x,(shf W g c).sum⟩:=by
   unfold weiS
   rw [if_neg (by rw [show (shf W g c).on=false from g2]; decide)]
  have hset:=z61 hsw h hk hu rfl c0 c1 (weiS W g c x)
  rw [hss] at hset
  have hM2:=((hM.add hb2).deed hset (subS (by omega)))
  have hV:setSh W g c ⟨(shf W g c).floor,(shf W g c).on,(shf W g c).v,x,(shf W g c).sum⟩=weiV W g c x:=by unfold weiV; rw [hss]
  rw [hV] at hM2
  have hr2:=hM2.rd
  have hM2':=hM2.close
  have hr0:=hM2'.rd
  refine ⟨hix,_,_,_,hr.g.shelf u0 u1,hixS,hwr,hcx,(gi W.cpus c).cur,?_⟩
  refine ⟨RdC.f hr0.c c0 c1 (j:=1) rfl,fun gc=>hr0.t.ix zbb (of_decide_eq_true gc) (cur1 gc),_,fun gc=>RdT.f hr0.t (of_decide_eq_true gc) (cur1 gc) (j:=1) rfl,_,fun gc=>by rw [←hlen]; exact zjk hr0.g (by have:=zbh; omega),fun gc wr1 hx3 hs3 => ?_,fun gc wr3 hx3 => ?_⟩
  ·have he:weiE (weiV W g c x) g c=true:=by rw [←hE]; exact gc
   have hM3:=hM2.step (hx3.of_nil)
   have hcall:=zlw hM3.own c0 c1
   rw [eW,eE] at hcall
   refine Calls.mono hcall ?_
   rintro e wv ⟨he1,hy2⟩
   refine ⟨_,_,_,_,_,_,_,_,_,_,he1,hM3.kept hy2 hs3,fun wr2 hx4=>⟨rfl,?_⟩⟩
   unfold weiW
   rw [if_neg (show ¬(shf W g c).w=x from ne_of_beq_false g1),if_pos he]
   exact ((hM3.call hy2 hs3).step hx4).close
  ·have he:weiE (weiV W g c x) g c=false:=by rw [←hE]; exact gc
   refine ⟨rfl,?_⟩
   unfold weiW
   rw [if_neg (show ¬(shf W g c).w=x from ne_of_beq_false g1),if_neg (by rw [he]; decide)]
   exact (hM2.step hx3.of_nil).close
section
variable {pb:Nat}
theorem z6r {F K:Int} (h:PW base pb w W m) (hsw:SF F K W) (hk:F+lagB≤K) (hK:K≤1000000000000000000) (hcu:CurU W) {g c x:Int} (hu:zad W.groups g=true) (hz:g≠0) (c0:0≤c) (c1:c<(W.cpus.length:Int)) :
  Calls Tryz.prog zgo #[.agg #[.pointer (pA pb),.int .i64 c],.int .i64 g,.int .i64 x] w fun e w'=>e = .returned (.tuple #[])∧Mp base pb [] w m w' (weiW W g c x) m:=by
 refine (zsf (pA pb) c g x (R:=fun v w'=>v = .tuple #[]∧Mp base pb [] w m w' (weiW W g c x) m) ?_).mono fun e w' ⟨v,he,hv,h3⟩=>⟨by rw [he,hv],h3⟩
 intro b hb
 obtain ⟨u0,u1,_⟩:=zac.1 hu
 have hgl:=hsw.w.a.gl
 have htl:=hsw.w.a.t
 have hsl:=hsw.w.a.sl hu
 have hp:=hsw.w.a.up hu hz
 obtain ⟨p0,p1,_⟩:=zac.1 hp
 have hpl:=hsw.w.a.sl hp
 have s1:=hsw.w.s g c hu c0 c1
 have s2:=hsw.w.s _ c hp c0 c1
 have lc:=zdi ((shf W g c).v - (shf W (gi W.groups g).parent c).floor) x
 have lm:=zcm x
 have hM:=Mp.start h
 have hpt:=hM.wpt
 have hcr:=hsw.w.cu c c0 c1
 have hsome:=(hpt.sh u0 u1 c0 (c:=c) (by omega)).1
 have hcell:=fun {j:Nat} {v:Value} hj=>(hpt.sh u0 u1 c0 (c:=c) (by omega)).2 (j:=j) (v:=v) hj
 have hfr:Fr W (setSh W g c { shf W g c with w:=x }):=(zh0 u0 u1).fr
 have hset1:=hM.own.shSto (k:=g) (c:=c) u0 (by omega) c0 (by omega) (j:=3) (vs:=[.int .i64 x]) (s:={ shf W g c with w:=x }) rfl (by simp)
 have hM1:=hM.deed hset1 (zaao u0 (by omega)) (zfr hfr)
 have hT1:zdo W.groups (setSh W g c { shf W g c with w:=x }).groups:=zdq u0 u1
 refine ⟨_,za2 hpt u0 u1 c0 (by omega),hsome,_,hcell (j:=3) rfl,fun g1 wr hx=>⟨rfl,?_⟩,fun g1=>⟨hsome,hM.own.shWr (by simp) u0 (by omega) c0 (by omega) (by decide),hsome,?_⟩⟩
 ·have g1:(shf W g c).w=x:=eq_of_beq g1
  unfold weiW
  rw [if_pos g1]
  exact hM.nil hx
 have hp1:=hM1.wpt
 have hM1b:=(hM.add hb).deed hset1 (zaao u0 (by omega)) (zfr hfr)
 have hl1:(setSh W g c { shf W g c with w:=x }).groups.length=W.groups.length:=hT1.len
 have e1:shf (setSh W g c { shf W g c with w:=x }) g c={ shf W g c with w:=x }:=by rw [zi0 u0 u1 c0 (by omega) u0 c0,if_pos ⟨rfl,rfl⟩]
 have hs1:(gi (setSh W g c { shf W g c with w:=x }).groups g).shelves.length=(gi W.groups g).shelves.length:=zs8 u0 u1 u0
 have hcell1:=fun {j:Nat} {v:Value} hj=>(hp1.sh u0 (by omega) c0 (c:=c) (by omega)).2 (j:=j) (v:=v) hj
 rw [e1] at hcell1
 refine ⟨_,hcell1 (j:=1) rfl,fun g2 => ?_,fun g2 => ?_⟩
 ·have hss:weiS W g c x={ shf W g c with v:=(shf W (gi W.groups g).parent c).floor+zc5 ((shf W g c).v - (shf W (gi W.groups g).parent c).floor) x,w:=x }:=by
   unfold weiS
   rw [if_pos (show (shf W g c).on=true from g2)]
  have ep:(gi (setSh W g c { shf W g c with w:=x }).groups g).parent=(gi W.groups g).parent:=hT1.p g
  have hsp:(gi (setSh W g c { shf W g c with w:=x }).groups (gi W.groups g).parent).shelves.length=(gi W.groups (gi W.groups g).parent).shelves.length:=zs8 u0 u1 p0
  have e2:(shf (setSh W g c { shf W g c with w:=x }) (gi W.groups g).parent c).floor=(shf W (gi W.groups g).parent c).floor:=by
   rw [zi0 u0 u1 c0 (by omega) p0 c0]
   split
   ·rename_i h
    rw [←h.1]
   ·rfl
  have hpc:=hp1.rd.g.parent (i:=g) u0 (by omega)
  rw [ep] at hpc
  have hsp2:=hp1.sh (g:=(gi W.groups g).parent) (c:=c) p0 (by omega) c0 (by omega)
  have hfl:=hsp2.2 (j:=0) rfl
  rw [e2] at hfl
  have hset2:=hM1.own.shSto (k:=g) (c:=c) u0 (by omega) c0 (by omega) (j:=2) (vs:=[.int .i64 ((shf W (gi W.groups g).parent c).floor+zc5 ((shf W g c).v - (shf W (gi W.groups g).parent c).floor) x)]) (s:=weiS W g c x) (by rw [e1,hss]; rfl) (by simp)
  have hfr2:Fr (setSh W g c { shf W g c with w:=x }) (setSh (setSh W g c { shf W g c with w:=x }) g c (weiS W g c x)):=(zh0 u0 (by omega)).fr
  have hM2:=hM1.deed hset2 (zaao u0 (by omega)) (zfr hfr2)
  have hM2b:=hM1b.deed hset2 (zaao u0 (by omega)) (zfr hfr2)
  rw [zaai u0 u1] at hM2 hM2b
  refine ⟨hpt.some,_,_,_,hp1.groups,hp1.rd.g.ix u0 (by omega),_,hpc,_,za2 hp1 p0 (by omega) c0 (by omega),hsp2.1,_,hfl,hsome,_,hcell1 (j:=2) rfl,⟨by show _≤(shf W g c).v - (shf W (gi W.groups g).parent c).floor; omega,by show (shf W g c).v - (shf W (gi W.groups g).parent c).floor≤_; omega⟩,_,znq,⟨by show _≤(shf W (gi W.groups g).parent c).floor+zc5 ((shf W g c).v - (shf W (gi W.groups g).parent c).floor) x; omega,by show (shf W (gi W.groups g).parent c).floor+zc5 ((shf W g c).v - (shf W (gi W.groups g).parent c).floor) x≤_; omega⟩,hsome,hM1.own.shWr (by simp) u0 (by omega) c0 (by omega) (by decide),?_⟩
  have hM2:Mp base pb [] w m _ (weiV W g c x) m:=hM2
  have hM2b:Mp base pb ([]++[b]) w m _ (weiV W g c x) m:=hM2b
  have hp2:=hM2.wpt
  have hT2:zdo W.groups (weiV W g c x).groups:=zdq u0 u1
  have hc2:=hp2.rd.c c c0 c1
  have hEq:((gi W.cpus c).cur != -1&&insD 3 (weiV W g c x).groups g (gi W.tasks (gi W.cpus c).cur).group)=weiE (weiV W g c x) g c:=by
   unfold weiE
   show _=(decide ((gi W.cpus c).cur≥0)&&insD 3 (weiV W g c x).groups g (tkk W (gi W.cpus c).cur).group)
   rw [show ((gi W.cpus c).cur != -1)=decide ((gi W.cpus c).cur≥0) by rw [Bool.eq_iff_iff]; simp; omega]
   rfl
  have c0':((gi W.cpus c).cur != -1)=true→0≤(gi W.cpus c).cur∧(gi W.cpus c).cur<(W.tasks.length:Int):=fun gc=>by
   have:(gi W.cpus c).cur≠-1:=by simpa using gc
   omega
  refine ⟨_,zj6 hp2 c0 c1,zpl hc2,_,zpd hc2 (j:=1) rfl,fun _=>hp2.some,_,_,_,fun _=>hp2.groups,fun _=>hp2.some,_,_,_,fun _=>hp2.tasks,fun gc=>hp2.rd.t.ix zbb (c0' gc).1 (c0' gc).2,_,fun gc=>RdT.f hp2.rd.t (c0' gc).1 (c0' gc).2 (j:=1) rfl,_,fun gc=>znt hp2.rd.g (hT2.tree hsw.w.a.tree) (by rw [hT2.usd]; exact hcu c c0 c1 (c0' gc).1),fun gc wr1 hx1 hs1 => ?_,fun gc wr3 hx3=>⟨rfl,?_⟩⟩
  ·have he:weiE (weiV W g c x) g c=true:=by rw [←hEq]; exact gc
   have hM3:=hM2b.call0 hx1
   refine Calls.mono (zgj hM3.pw c0 c1) ?_
   rintro e wv ⟨he1,hy⟩
   refine ⟨he1,hM3.kept hy hs1,fun wr2 hx2=>⟨rfl,?_⟩⟩
   unfold weiW
   rw [if_neg (show ¬(shf W g c).w=x from ne_of_beq_false g1),if_pos he]
   exact ((hM3.call hy hs1).step hx2).close
  ·have he:weiE (weiV W g c x) g c=false:=by rw [←hEq]; exact gc
   unfold weiW
   rw [if_neg (show ¬(shf W g c).w=x from ne_of_beq_false g1),if_neg (by rw [he]; decide)]
   exact hM2.nil hx3
 ·have hss:weiS W g c x={ shf W g c with w:=x }:=by
   unfold weiS
   rw [if_neg (by rw [show (shf W g c).on=false from g2]; decide)]
  have hM2:Mp base pb [] w m (sto w (shO m g c) (0+3) [.int .i64 x]) (weiV W g c x) m:=by unfold weiV; rw [hss]; exact hM1
  have hM2b:Mp base pb ([]++[b]) w m (sto w (shO m g c) (0+3) [.int .i64 x]) (weiV W g c x) m:=by unfold weiV; rw [hss]; exact hM1b
  have hp2:=hM2.wpt
  have hT2:zdo W.groups (weiV W g c x).groups:=zdq u0 u1
  have hc2:=hp2.rd.c c c0 c1
  have hEq:((gi W.cpus c).cur != -1&&insD 3 (weiV W g c x).groups g (gi W.tasks (gi W.cpus c).cur).group)=weiE (weiV W g c x) g c:=by
   unfold weiE
   show _=(decide ((gi W.cpus c).cur≥0)&&insD 3 (weiV W g c x).groups g (tkk W (gi W.cpus c).cur).group)
   rw [show ((gi W.cpus c).cur != -1)=decide ((gi W.cpus c).cur≥0) by rw [Bool.eq_iff_iff]; simp; omega]
   rfl
  have c0':((gi W.cpus c).cur != -1)=true→0≤(gi W.cpus c).cur∧(gi W.cpus c).cur<(W.tasks.length:Int):=fun gc=>by
   have:(gi W.cpus c).cur≠-1:=by simpa using gc
   omega
  refine ⟨_,zj6 hp2 c0 c1,zpl hc2,_,zpd hc2 (j:=1) rfl,fun _=>hp2.some,_,_,_,fun _=>hp2.groups,fun _=>hp2.some,_,_,_,fun _=>hp2.tasks,fun gc=>hp2.rd.t.ix zbb (c0' gc).1 (c0' gc).2,_,fun gc=>RdT.f hp2.rd.t (c0' gc).1 (c0' gc).2 (j:=1) rfl,_,fun gc=>znt hp2.rd.g (hT2.tree hsw.w.a.tree) (by rw [hT2.usd]; exact hcu c c0 c1 (c0' gc).1),fun gc wr1 hx1 hs1 => ?_,fun gc wr3 hx3=>⟨rfl,?_⟩⟩
  ·have he:weiE (weiV W g c x) g c=true:=by rw [←hEq]; exact gc
   have hM3:=hM2b.call0 hx1
   refine Calls.mono (zgj hM3.pw c0 c1) ?_
   rintro e wv ⟨he1,hy⟩
   refine ⟨he1,hM3.kept hy hs1,fun wr2 hx2=>⟨rfl,?_⟩⟩
   unfold weiW
   rw [if_neg (show ¬(shf W g c).w=x from ne_of_beq_false g1),if_pos he]
   exact ((hM3.call hy hs1).step hx2).close
  ·have he:weiE (weiV W g c x) g c=false:=by rw [←hEq]; exact gc
   unfold weiW
   rw [if_neg (show ¬(shf W g c).w=x from ne_of_beq_false g1),if_neg (by rw [he]; decide)]
   exact hM2.nil hx3
end
end
end Go.Proofs.YtajdcjidpolloaaGreatDoor
namespace Go.Proofs.YtajdcjidpolloaaGreatDoor
open Go.RowKit
set_option linter.unusedVariables false
set_option linter.unusedSimpArgs false
set_option maxRecDepth 10000
theorem zaga {l w:Int} (h0:0≤l) (h1:l≤zd5 w):zc5 l w=l:=by
 unfold zc5
 rw [if_neg (show ¬zd5 w<l by omega)]
 split <;> omega
theorem zys {p q:Nat→Bool}:∀{n:Nat},(∀j,j<n→p j=q j)→anyB p n=anyB q n
 | 0,_=>rfl
 | n+1,h=>by simp only [anyB]; rw [zys fun j hj=>h j (by omega),h n (by omega)]
theorem zz5 {p q:Nat→Bool} {v u:Nat→Int}:∀{n:Nat},(∀j,j<n→p j=q j)→(∀j,j<n→p j=true→v j=u j)→zco p v n=zco q u n
 | 0,_,_=>rfl
 | n+1,h,hv=>by
  have ih:=zz5 (p:=p) (q:=q) (v:=v) (u:=u) (n:=n) (fun j hj=>h j (by omega)) fun j hj=>hv j (by omega)
  simp only [zco]
  rw [ih,←h n (by omega)]
  cases hp:p n with
  | false=>simp
  | true =>
   rw [hv n (by omega) hp]
   rcases zii q u n with ⟨e,_⟩ | ⟨e0,e1,e2,_⟩
   ·rw [e]; simp
   ·rw [hv _ (by omega) (by rw [h _ (by omega)]; exact e2)]
theorem zuw {gs:List Grp} (ht:zei gs):∀g:Int,zad gs g=true→∀x∈zgq gs g,zad gs x=true∧x≠0 :=
 zxj ht (fun x hx=>by rw [show zgq gs 0=[] from zdl _ _] at hx; cases hx) fun h hu hz ih x hx=>by
  rw [zgb ht hu hz] at hx
  rcases List.mem_cons.1 hx with e | e
  ·subst e; exact ⟨hu,hz⟩
  ·exact ih x e
def stnd (W:Wld) (k c:Int):Prop:=(shf W (gi W.groups k).parent c).floor≤(shf W k c).v∧(shf W k c).v - (shf W (gi W.groups k).parent c).floor≤zd5 (shf W k c).w
structure PreT (W:Wld) (x:Tsk):Prop where
 st:x.state=1∨x.state=2
 g:zad W.groups x.group=true
 n:zam x.nice≠0
 m:mOk x.mask=true
 m0:x.mask≠0
 s:tmOk x.sum=true
 u:tmOk x.used=true
 l1:0≤x.load
 l2:x.load≤8000000
 f:x.state=1→(shf W x.group x.cpu).floor≤x.v∧x.v - (shf W x.group x.cpu).floor≤zd5 (zam x.nice)
structure PreS (W:Wld) (k c:Int):Prop where
 s:tmOk (shf W k c).sum=true
 root:k=0→(shf W k c).on=false∧(shf W k c).v=0∧(shf W k c).w=10
 st:k≠0→(shf W k c).on=true→stnd W k c
structure PreC (W:Wld) (c:Int):Prop where
 b:tmOk (gi W.cpus c).busy=true
 i:tmOk (gi W.cpus c).idle=true
 c1 : -1≤(gi W.cpus c).cur
 c2:(gi W.cpus c).cur<12
 no:(gi W.cpus c).cur<0→(gi W.cpus c).ran=0
 yes:0≤(gi W.cpus c).cur→(gi W.cpus c).up=true∧1≤(gi W.cpus c).ran∧(gi W.cpus c).ran≤149
 q:0≤(gi W.cpus c).cur→(tkk W (gi W.cpus c).cur).state=1→(tkk W (gi W.cpus c).cur).cpu=c →
  (tkk W (gi W.cpus c).cur).v - (shf W (tkk W (gi W.cpus c).cur).group c).floor≤zmz (gi W.cpus c).ran (zam (tkk W (gi W.cpus c).cur).nice) ∧
  ∀x∈zgq W.groups (tkk W (gi W.cpus c).cur).group,stnd W x c∧(shf W x c).v - (shf W (gi W.groups x).parent c).floor≤zmz (gi W.cpus c).ran (shf W x c).w
structure PreA (W:Wld):Prop where
 a:WA W
 t:∀t:Int,0≤t→t<12→(tkk W t).state=0∧tkk W t=zaeo∨(tkk W t).state≠0∧PreT W (tkk W t)
 l:∀t:Int,0≤t→t<12→(tkk W t).state≠0→0≤(tkk W t).cpu∧(tkk W t).cpu<(W.cpus.length:Int)
 s:∀k c:Int,zad W.groups k=true→0≤c→c<(W.cpus.length:Int)→PreS W k c
structure Pre (W:Wld):Prop extends PreA W where
 c:∀c:Int,0≤c→c<(W.cpus.length:Int)→PreC W c
def Loc (W:Wld):Prop:=∀t:Int,0≤t→t<12→(tkk W t).state≠0→mHas (zd8 W (tkk W t).group (tkk W t).mask) (tkk W t).cpu=true
def Flo (W:Wld):Prop:=∀k c:Int,zad W.groups k=true→0≤c→c<(W.cpus.length:Int)→zd0 W k c 20=true→zb0 W k c 20≤(shf W k c).floor
theorem zxl {v f k:Int} (hv:tmOk v=true) (hf:tmOk f=true):zqm v f k=true↔f≤v∧v - f≤zd5 k:=by
 have h1:=zpa.1 hv
 have h2:=zpa.1 hf
 have hw:IntKind.i64.wrap (v - f)=v - f:=InR.wrap (k:=.i64) ⟨by show _≤v - f; omega,by show v - f≤_; omega⟩
 unfold zqm
 rw [hw]
 simp
theorem zamn {W:Wld} (wp:WldP W):Loc W:=fun t t0 t1 n=>by
 rcases wp.t t t0 t1 with h | h
 ·exact absurd h.1 n
 ·exact h.2.c
theorem zacv {W:Wld} (wp:WldP W) {k c:Int} (hu:zad W.groups k=true) (c0:0≤c) (c1:c<(W.cpus.length:Int)):ShfP W k c:=by
 obtain ⟨u0,u1,_⟩:=wp.a.u hu
 have hl:=wp.a.sl hu
 exact wp.s k c u0 u1 c0 (by omega)
theorem zamw {W:Wld} (wp:WldP W):Pre W:=by
 have hst:∀k c:Int,zad W.groups k=true→k≠0→0≤c→c<(W.cpus.length:Int)→(shf W k c).on=true→stnd W k c:=fun k c hu hz c0 c1 ho=>by
  have h1:=zacv wp hu c0 c1
  have h2:=zacv wp (wp.a.up hu hz) c0 c1
  exact (zxl h1.v h2.f).1 (h1.st hz ho)
 refine ⟨⟨wp.a,fun t t0 t1 => ?_,fun t t0 t1 n => ?_,fun k c hu c0 c1 => ?_⟩,fun c c0 c1 => ?_⟩
 ·rcases wp.t t t0 t1 with h | ⟨n,h⟩
  ·exact .inl h
  ·refine .inr ⟨n,h.st,h.g,h.n,h.m,h.m0,h.s,h.u,h.l1,h.l2,fun h1 => ?_⟩
   obtain ⟨d0,d1⟩:=z3u wp.a h.c
   exact (zxl h.v (zacv wp h.g d0 d1).f).1 (h.f h1)
 ·rcases wp.t t t0 t1 with h | ⟨_,h⟩
  ·exact absurd h.1 n
  ·exact z3u wp.a h.c
 ·have h:=zacv wp hu c0 c1
  exact ⟨h.s,h.root,fun hz ho=>hst k c hu hz c0 c1 ho⟩
 ·have h:=wp.c c c0 c1
  have hl:=wp.a.t
  refine ⟨h.b,h.i,h.c1,by have:=h.c2; omega,h.no,fun h0=>⟨(h.yes h0).1,(h.yes h0).2.1,(h.yes h0).2.2.1⟩,fun h0 h1 h2 => ?_⟩
  obtain ⟨_,_,_,_,hline,hstay⟩:=h.yes h0
  unfold zw9 at hstay
  rw [Bool.and_eq_true,decide_eq_true_eq] at hstay
  refine ⟨hstay.1,fun x hx => ?_⟩
  have hu:zad W.groups (tkk W (gi W.cpus c).cur).group=true:=by
   rcases wp.t _ h0 (by have:=h.c2; omega) with hz | ⟨_,hz⟩
   ·rw [hz.1] at h1; cases h1
   ·exact hz.g
  obtain ⟨xu,xz⟩:=zuw wp.a.tree _ hu x hx
  unfold zcs zoa at hline
  rw [Bool.and_eq_true,h2,List.all_eq_true] at hline
  have hs:=hstay.2
  unfold zp4 at hs
  rw [List.all_eq_true] at hs
  exact ⟨hst x c xu xz c0 c1 (hline.2 x hx),of_decide_eq_true (hs x hx)⟩
structure Oth (c:Int) (W W':Wld):Prop where
 n:W'.now=W.now
 t:W'.tasks=W.tasks
 g:zdo W.groups W'.groups
 len:W'.cpus.length=W.cpus.length
 b:∀i:Int,0≤i→(gi W'.groups i).band=(gi W.groups i).band
 e:∀k d:Int,0≤k→0≤d→d≠c→shf W' k d=shf W k d
 cp:∀d:Int,0≤d→d≠c→gi W'.cpus d=gi W.cpus d
theorem Oth.refl (c:Int) (W:Wld):Oth c W W:=⟨rfl,rfl,zdo.refl _,rfl,fun _ _=>rfl,fun _ _ _ _ _=>rfl,fun _ _ _=>rfl⟩
theorem Oth.trans {c:Int} {A B C:Wld} (h:Oth c A B) (k:Oth c B C):Oth c A C:=⟨k.n.trans h.n,k.t.trans h.t,h.g.trans k.g,k.len.trans h.len,fun i hi=>(k.b i hi).trans (h.b i hi),fun i d hi hd hn=>(k.e i d hi hd hn).trans (h.e i d hi hd hn),fun d hd hn=>(k.cp d hd hn).trans (h.cp d hd hn)⟩
theorem z91 {W:Wld} {g c:Int} {s:Shf} (h0:0≤g) (h1:g<(W.groups.length:Int)) (c0:0≤c) (c1:c<((gi W.groups g).shelves.length:Int)):Oth c W (setSh W g c s) :=
 ⟨rfl,rfl,zdq h0 h1,rfl,fun i hi=>z8t h0 h1 hi,fun k d hk hd hn=>by
  rw [zi0 h0 h1 c0 c1 hk hd,if_neg fun h=>hn h.2.symm],fun _ _ _=>rfl⟩
theorem zajd {W:Wld} {c:Int} (c0:0≤c) (c1:c<(W.cpus.length:Int)):Oth c W (endW W c) :=
 ⟨rfl,rfl,zdo.refl _,List.length_set,fun _ _=>rfl,fun _ _ _ _ _=>rfl,fun d d0 hn=>by
  show gi (W.cpus.set c.toNat (endC (gi W.cpus c))) d=_
  rw [zci _ _ c0 c1 d0,if_neg fun h=>hn h.symm]⟩
section
variable {c d:Int} {W W':Wld}
theorem zqz (ht:W'.tasks=W.tasks) (hT:zdo W.groups W'.groups) {g:Int} (h:∀j:Nat,j<W.groups.length→1≤j→(gi W.groups (j:Int)).used=true→(gi W.groups (j:Int)).parent=g→(shf W' (j:Int) d).on=(shf W (j:Int) d).on):zbe W' g d=zbe W g d:=by
 unfold zbe
 rw [ht,hT.len]
 congr 1
 ·refine zys fun j _ => ?_
  unfold actT
  rw [ht]
 ·refine zys fun j hj => ?_
  unfold actG
  rw [hT.u,hT.p]
  by_cases h1:1≤j
  ·cases hu:(gi W.groups (j:Int)).used with
   | false=>simp
   | true =>
    by_cases hp:(gi W.groups (j:Int)).parent=g
    ·rw [h j hj h1 hu hp]
    ·rw [show ((gi W.groups (j:Int)).parent==g)=false from beq_false_of_ne hp]; simp
  ·simp [h1]
theorem zagi (ht:W'.tasks=W.tasks) (hT:zdo W.groups W'.groups) (hl:W.groups.length=8) (h:∀k:Int,0≤k→(shf W' k d).on=(shf W k d).on) (g:Int) {j:Nat} (hj:j<20):memP W' g d j=memP W g d j:=by
 unfold memP
 split
 ·unfold actT; rw [ht]
 ·unfold actG
  rw [hT.u,hT.p,h _ (by omega)]
theorem z9r (ht:W'.tasks=W.tasks) (h:∀k:Int,0≤k→(shf W' k d).v=(shf W k d).v) (j:Nat):memV W' d j=memV W d j:=by
 unfold memV
 split
 ·unfold tkk; rw [ht]
 ·rw [h _ (by omega)]
theorem zyv (ht:W'.tasks=W.tasks) (hT:zdo W.groups W'.groups) (hl:W.groups.length=8) (h:∀k:Int,0≤k→(shf W' k d).on=(shf W k d).on) (hv:∀k:Int,0≤k→(shf W' k d).v=(shf W k d).v) (g:Int):zd0 W' g d 20=zd0 W g d 20∧zb0 W' g d 20=zb0 W g d 20:=by
 have e:zco (memP W' g d) (memV W' d) 20=zco (memP W g d) (memV W d) 20:=zz5 (fun j hj=>zagi ht hT hl h g hj) fun j _ _=>z9r ht hv j
 unfold zd0 zb0
 rw [e]
 refine ⟨rfl,?_⟩
 split
 ·rfl
 ·exact z9r ht hv _
theorem z4q (ht:W'.tasks=W.tasks) (t:Int):tkk W' t=tkk W t:=by unfold tkk; rw [ht]
theorem zrk (hT:zdo W.groups W'.groups) (g:Int):zgq W'.groups g=zgq W.groups g:=hT.path 3 g
theorem zaj8 {g:Int} (hb:(gi W'.groups g).band=(gi W.groups g).band):dryD W' g d=dryD W g d:=by unfold dryD; rw [hb]
end
theorem zaew {W:Wld} {g c:Int} {j:Nat} (hj:j<20) (h:memP W g c j=true):zd0 W g c 20=true∧zb0 W g c 20≤memV W c j:=by
 unfold zd0 zb0
 rcases zii (memP W g c) (memV W c) 20 with ⟨_,h2⟩ | ⟨h1,_,_,h4,_⟩
 ·rw [h2 j hj] at h; cases h
 ·rw [if_neg (by omega)]
  exact ⟨decide_eq_true h1,h4 j hj h⟩
theorem zaex {W:Wld} (ha:WA W) {t:Int} (t0:0≤t) (t1:t<12) (hs:(tkk W t).state=1):zd0 W (tkk W t).group (tkk W t).cpu 20=true∧zb0 W (tkk W t).group (tkk W t).cpu 20≤(tkk W t).v:=by
 have e:((t.toNat:Nat):Int)=t:=by omega
 have h:memP W (tkk W t).group (tkk W t).cpu t.toNat=true:=by
  rw [z9q (by omega)]
  unfold actT
  rw [e]
  show (((tkk W t).state==1)&&((tkk W t).group==_)&&((tkk W t).cpu==_))=true
  rw [hs]; simp
 have:=zaew (by omega) h
 rwa [z9t (by omega),e] at this
theorem zadc {W:Wld} (ha:WA W) {k c:Int} (hu:zad W.groups k=true) (hz:k≠0) (ho:(shf W k c).on=true):zd0 W (gi W.groups k).parent c 20=true∧zb0 W (gi W.groups k).parent c 20≤(shf W k c).v:=by
 obtain ⟨k0,k1,ku⟩:=zac.1 hu
 have hl:=ha.gl
 have e:((k.toNat:Nat):Int)=k:=by omega
 have h:memP W (gi W.groups k).parent c (12+k.toNat)=true:=by
  rw [zacm]
  unfold actG
  rw [e,ku,ho]
  simp
  omega
 have:=zaew (by omega) h
 rwa [z9s,e] at this
end Go.Proofs.YtajdcjidpolloaaGreatDoor
namespace Go.Proofs.YtajdcjidpolloaaGreatDoor
open Go.RowKit
set_option linter.unusedVariables false
set_option linter.unusedSimpArgs false
set_option maxRecDepth 10000
structure LC (c:Int) (W W':Wld):Prop where
 o:Oth c W W'
 cs:W'.cpus=W.cpus
 f:∀k d:Int,0≤k→0≤d→(shf W' k d).floor=(shf W k d).floor
 w:∀k d:Int,0≤k→0≤d→(shf W' k d).w=(shf W k d).w
 s:∀k d:Int,0≤k→0≤d→(shf W' k d).sum=(shf W k d).sum
 r:∀d:Int,0≤d→shf W' 0 d=shf W 0 d
 v:∀k d:Int,zad W.groups k=true→k≠0→0≤d→stnd W k d→(shf W' k d).v=(shf W k d).v
theorem LC.refl (c:Int) (W:Wld):LC c W W:=⟨Oth.refl _ _,rfl,fun _ _ _ _=>rfl,fun _ _ _ _=>rfl,fun _ _ _ _=>rfl,fun _ _=>rfl,fun _ _ _ _ _ _=>rfl⟩
theorem LC.st {c:Int} {W W':Wld} (ht:zei W.groups) (h:LC c W W') {k d:Int} (hu:zad W.groups k=true) (hz:k≠0) (d0:0≤d) (hs:stnd W k d):stnd W' k d:=by
 have hp:=(zac.1 (zgy ht hu hz).1).1
 have k0:=(zac.1 hu).1
 unfold stnd
 rw [h.o.g.p,h.f _ d hp d0,h.v k d hu hz d0 hs,h.w k d k0 d0]
 exact hs
theorem LC.trans {c:Int} {A B C:Wld} (ht:zei A.groups) (h:LC c A B) (k:LC c B C):LC c A C :=
 ⟨h.o.trans k.o,k.cs.trans h.cs,fun i d a b=>(k.f i d a b).trans (h.f i d a b),fun i d a b=>(k.w i d a b).trans (h.w i d a b),fun i d a b=>(k.s i d a b).trans (h.s i d a b),fun d a=>(k.r d a).trans (h.r d a),fun i d hu hz d0 hs=>by
  rw [k.v i d (by rw [h.o.g.usd]; exact hu) hz d0 (h.st ht hu hz d0 hs),h.v i d hu hz d0 hs]⟩
theorem Pre.lc {c:Int} {W W':Wld} (p:Pre W) (h:LC c W W') (ha:WA W') (hon:∀k d:Int,zad W.groups k=true→k≠0→0≤d→d<(W.cpus.length:Int)→(shf W' k d).on=true→stnd W' k d):Pre W':=by
 have et:∀t,tkk W' t=tkk W t:=z4q h.o.t
 refine ⟨⟨ha,fun t t0 t1 => ?_,fun t t0 t1 n => ?_,fun k d hu d0 d1 => ?_⟩,fun d d0 d1 => ?_⟩
 ·rw [et]
  rcases p.t t t0 t1 with hz | ⟨n,hx⟩
  ·exact .inl hz
  ·refine .inr ⟨n,hx.st,by rw [h.o.g.usd]; exact hx.g,hx.n,hx.m,hx.m0,hx.s,hx.u,hx.l1,hx.l2,fun h1 => ?_⟩
   rw [h.f _ _ (zac.1 hx.g).1 (p.l t t0 t1 n).1]
   exact hx.f h1
 ·rw [et] at n ⊢
  rw [h.o.len]
  exact p.l t t0 t1 n
 ·rw [h.o.g.usd] at hu
  rw [h.cs] at d1
  have hs:=p.s k d hu d0 d1
  have k0:=(zac.1 hu).1
  refine ⟨by rw [h.s k d k0 d0]; exact hs.s,fun hz => ?_,fun hz ho=>hon k d hu hz d0 d1 ho⟩
  subst hz
  rw [h.r d d0]
  exact hs.root rfl
 ·rw [h.cs] at d1
  have hc:=p.c d d0 d1
  refine ⟨by rw [h.cs]; exact hc.b,by rw [h.cs]; exact hc.i,by rw [h.cs]; exact hc.c1,by rw [h.cs]; exact hc.c2,by rw [h.cs]; exact hc.no,by rw [h.cs]; exact hc.yes,?_⟩
  rw [h.cs]
  simp only [et]
  intro h0 h1 h2
  obtain ⟨q1,q2⟩:=hc.q h0 h1 h2
  have hu:zad W.groups (tkk W (gi W.cpus d).cur).group=true:=by
   rcases p.t _ h0 hc.c2 with hz | ⟨_,hx⟩
   ·rw [hz.1] at h1; cases h1
   ·exact hx.g
  refine ⟨by rw [h.f _ d (zac.1 hu).1 d0]; exact q1,fun x hx => ?_⟩
  rw [zrk h.o.g] at hx
  obtain ⟨xu,xz⟩:=zuw p.a.tree _ hu x hx
  obtain ⟨s1,s2⟩:=q2 x hx
  refine ⟨h.st p.a.tree xu xz d0 s1,?_⟩
  rw [h.o.g.p,h.v x d xu xz d0 s1,h.f _ d (zac.1 (p.a.up xu xz)).1 d0,h.w x d (zac.1 xu).1 d0]
  exact s2
def onEq (W:Wld) (c k:Int):Prop:=(shf W k c).on=(zbe W k c && !dryD W k c)
theorem zai4 {W:Wld} (p:Pre W) {k c d:Int} (hu:zad W.groups k=true) (hd:dep 3 W.groups k=d) (d1:1≤d) (c0:0≤c) (c1:c<(W.cpus.length:Int)) :
  LC c W (setSh W k c (zez W k c))∧Pre (setSh W k c (zez W k c))∧onEq (setSh W k c (zez W k c)) c k∧∀g:Int,zad W.groups g=true→g≠k→(gi W.groups k).parent≠g→onEq W c g→onEq (setSh W k c (zez W k c)) c g:=by
 have hz:k≠0:=fun e=>by subst e; rw [zgz] at hd; omega
 obtain ⟨u0,u1,_⟩:=zac.1 hu
 have hl:=p.a.gl
 have hsl:=p.a.sl hu
 have c1':c<((gi W.groups k).shelves.length:Int):=by omega
 have hpu:=p.a.up hu hz
 have hpk:(gi W.groups k).parent≠k:=fun e=>by
  obtain ⟨_,_,_,n,e1,e2,_⟩:=zgy p.a.tree hu hz
  rw [e] at e2; omega
 have e:∀{i j:Int},0≤i→0≤j→shf (setSh W k c (zez W k c)) i j=if k=i∧c=j then zez W k c else shf W i j:=fun hi hj=>zi0 u0 u1 c0 c1' hi hj
 have ev:stnd W k c→(zez W k c).v=(shf W k c).v:=fun hs=>by
  simp only [zez]
  split
  ·rw [zaga (by have:=hs.1; omega) hs.2]; omega
  ·rfl
 have eq0:∀{i j:Int},k=i∧c=j→(zez W k c).floor=(shf W i j).floor∧(zez W k c).w=(shf W i j).w∧(zez W k c).sum=(shf W i j).sum:=fun h=>by
  obtain ⟨rfl,rfl⟩:=h; exact ⟨rfl,rfl,rfl⟩
 have hT:=zdq (W:=W) (g:=k) (c:=c) (s:=zez W k c) u0 u1
 have lc:LC c W (setSh W k c (zez W k c)):=by
  refine ⟨z91 u0 u1 c0 c1',rfl,fun i j hi hj => ?_,fun i j hi hj => ?_,fun i j hi hj => ?_,fun j hj => ?_,fun i j iu iz hj hs => ?_⟩
  ·rw [e hi hj]; split
   ·rename_i h; exact (eq0 h).1
   ·rfl
  ·rw [e hi hj]; split
   ·rename_i h; exact (eq0 h).2.1
   ·rfl
  ·rw [e hi hj]; split
   ·rename_i h; exact (eq0 h).2.2
   ·rfl
  ·rw [e (Int.le_refl 0) hj,if_neg fun h=>hz h.1]
  ·rw [e (zac.1 iu).1 hj]; split
   ·rename_i h
    obtain ⟨rfl,rfl⟩:=h
    exact ev hs
   ·rfl
 have act:∀g:Int,(gi W.groups k).parent≠g→zbe (setSh W k c (zez W k c)) g c=zbe W g c:=fun g hg=>by
  refine zqz (W:=W) (W':=setSh W k c (zez W k c)) rfl hT fun j hj _ _ hp => ?_
  rw [e (by omega) c0,if_neg]
  rintro ⟨h,_⟩
  exact hg (by rw [h]; exact hp)
 have hoe:onEq (setSh W k c (zez W k c)) c k:=by
  unfold onEq
  rw [e u0 c0,if_pos ⟨rfl,rfl⟩,act k hpk,z8z u0 u1 u0]
  rfl
 refine ⟨lc,p.lc lc (p.a.setSh u0 (by omega)) fun i j iu iz j0 j1 ho => ?_,hoe,fun g gu gk hg h => ?_⟩
 ·by_cases h:k=i∧c=j
  ·obtain ⟨rfl,rfl⟩:=h
   by_cases hs:stnd W k c
   ·exact lc.st p.a.tree hu hz c0 hs
   ·have hoff:(shf W k c).on=false:=by
     cases hb:(shf W k c).on with
     | false=>rfl
     | true=>exact absurd ((p.s k c hu c0 c1).st hz hb) hs
    rw [e u0 c0,if_pos ⟨rfl,rfl⟩] at ho
    have ho:(zbe W k c && !dryD W k c)=true:=ho
    unfold stnd
    rw [hT.p,e u0 c0,if_pos ⟨rfl,rfl⟩,lc.f _ c (zac.1 hpu).1 c0]
    simp only [zez]
    rw [if_pos ⟨ho,hoff⟩]
    have:=zdi ((shf W k c).v - (shf W (gi W.groups k).parent c).floor) (shf W k c).w
    omega
  ·rw [e (zac.1 iu).1 j0,if_neg h] at ho
   exact lc.st p.a.tree iu iz j0 ((p.s i j iu j0 j1).st iz ho)
 ·unfold onEq
  have g0:=(zac.1 gu).1
  rw [e g0 c0,if_neg fun h=>gk h.1.symm,act g hg,z8z u0 u1 g0]
  exact h
theorem zacf {W:Wld} (p:Pre W) {c d:Int} (d1:1≤d) (c0:0≤c) (c1:c<(W.cpus.length:Int)) (hI:∀g:Int,zad W.groups g=true→d<dep 3 W.groups g→onEq W c g):∀k:Nat,k≤8 →
  LC c W (zdj W c d k)∧Pre (zdj W c d k)∧∀g:Int,zad W.groups g=true→d<dep 3 W.groups g∨dep 3 W.groups g=d∧g<(k:Int)→onEq (zdj W c d k) c g
 | 0,_=>⟨LC.refl _ _,p,fun g gu h=>hI g gu (by
   rcases h with h | h
   ·exact h
   ·have:=(zac.1 gu).1
    have:=h.2
    omega)⟩
 | k+1,hk=>by
  obtain ⟨a,b,ih⟩:=zacf p d1 c0 c1 hI k (by omega)
  have hl:=b.a.gl
  have hT:=a.o.g
  simp only [zdj]
  split
  ·rename_i hc
   have hu:zad (zdj W c d k).groups (k:Int)=true:=zac.2 ⟨by omega,by omega,hc.1⟩
   obtain ⟨l1,l2,l3,l4⟩:=zai4 b hu hc.2 d1 c0 (c:=c) (by rw [a.cs]; exact c1)
   refine ⟨a.trans p.a.tree l1,l2,fun g gu h => ?_⟩
   by_cases e:g=(k:Int)
   ·subst e; exact l3
   ·have hkz:(k:Int)≠0:=fun e=>by have:=hc.2; rw [e,zgz] at this; omega
    obtain ⟨_,_,_,n,e1,e2,_⟩:=zgy b.a.tree hu hkz
    refine l4 g (by rw [hT.usd]; exact gu) e (fun hp => ?_) (ih g gu ?_)
    ·rw [hp,hT.dep] at e2
     have:=hc.2
     omega
    ·rcases h with h | h
     ·exact .inl h
     ·exact .inr ⟨h.1,by have:=h.2; omega⟩
  ·rename_i hc
   refine ⟨a,b,fun g gu h=>ih g gu ?_⟩
   rcases h with h | h
   ·exact .inl h
   ·refine .inr ⟨h.1,?_⟩
    by_cases e:g=(k:Int)
    ·subst e
     exact absurd ⟨by rw [hT.u]; exact (zac.1 gu).2.2,by rw [hT.dep]; exact h.1⟩ hc
    ·have:=h.2
     omega
theorem z9o {W:Wld} (p:Pre W) {c:Int} (c0:0≤c) (c1:c<(W.cpus.length:Int)):LC c W (za7 W c)∧Pre (za7 W c)∧∀g:Int,zad W.groups g=true→g≠0→onEq (za7 W c) c g:=by
 have key:∀j:Nat,j≤3→LC c W (zgt W c j)∧Pre (zgt W c j)∧∀g:Int,zad W.groups g=true→3 - (j:Int)<dep 3 W.groups g→onEq (zgt W c j) c g:=by
  intro j
  induction j with
  | zero=>exact fun _=>⟨LC.refl _ _,p,fun g gu h=>by have:=(zamd p.a gu).2; omega⟩
  | succ j ih =>
   intro hj
   obtain ⟨a,b,h⟩:=ih (by omega)
   have hT:=a.o.g
   obtain ⟨a2,b2,h2⟩:=zacf b (c:=c) (d:=3 - (j:Int)) (by omega) c0 (by rw [a.cs]; exact c1) (fun g gu hd=>h g (by rwa [hT.usd] at gu) (by rwa [hT.dep] at hd)) 8 (Nat.le_refl _)
   refine ⟨a.trans p.a.tree a2,b2,fun g gu hd=>h2 g (by rw [hT.usd]; exact gu) ?_⟩
   rw [hT.dep]
   have:=(zac.1 gu).2.1
   have:=p.a.gl
   by_cases e:dep 3 W.groups g=3 - (j:Int)
   ·exact .inr ⟨e,by omega⟩
   ·exact .inl (by omega)
 obtain ⟨a,b,h⟩:=key 3 (Nat.le_refl _)
 refine ⟨a,b,fun g gu gz=>h g gu ?_⟩
 obtain ⟨_,_,_,n,e1,_⟩:=zgy p.a.tree gu gz
 omega
theorem z39 {W:Wld} (p:Pre W):∀c:Nat,c≤W.cpus.length→Pre (ze3 W c)∧(ze3 W c).cpus=W.cpus
 | 0,_=>⟨p,rfl⟩
 | c+1,hc=>by
  obtain ⟨a,e⟩:=z39 p c (by omega)
  obtain ⟨l,b,_⟩:=z9o a (c:=(c:Int)) (by omega) (by rw [e]; omega)
  exact ⟨b,l.cs.trans e⟩
theorem Pre.onlyB {W W':Wld} (p:Pre W) (ho:zqn W W') (ha:WA W'):Pre W':=by
 have et:∀t,tkk W' t=tkk W t:=z4q ho.t
 have es:∀k d:Int,0≤k→shf W' k d=shf W k d:=fun k d hk=>by unfold shf; rw [ho.s k hk]
 have est:∀k d:Int,zad W.groups k=true→k≠0→(stnd W' k d↔stnd W k d):=fun k d hu hz=>by
  unfold stnd
  rw [ho.g.p,es _ _ (zac.1 (p.a.up hu hz)).1,es _ _ (zac.1 hu).1]
 refine ⟨⟨ha,fun t t0 t1 => ?_,fun t t0 t1 n => ?_,fun k d hu d0 d1 => ?_⟩,fun d d0 d1 => ?_⟩
 ·rw [et]
  rcases p.t t t0 t1 with hz | ⟨n,hx⟩
  ·exact .inl hz
  ·refine .inr ⟨n,hx.st,by rw [ho.g.usd]; exact hx.g,hx.n,hx.m,hx.m0,hx.s,hx.u,hx.l1,hx.l2,fun h1 => ?_⟩
   rw [es _ _ (zac.1 hx.g).1]
   exact hx.f h1
 ·rw [et] at n ⊢
  rw [ho.c]
  exact p.l t t0 t1 n
 ·rw [ho.g.usd] at hu
  rw [ho.c] at d1
  have hs:=p.s k d hu d0 d1
  have k0:=(zac.1 hu).1
  exact ⟨by rw [es k d k0]; exact hs.s,by rw [es k d k0]; exact hs.root,fun hz h=>(est k d hu hz).2 (hs.st hz (by rwa [es k d k0] at h))⟩
 ·rw [ho.c] at d1
  have hc:=p.c d d0 d1
  refine ⟨by rw [ho.c]; exact hc.b,by rw [ho.c]; exact hc.i,by rw [ho.c]; exact hc.c1,by rw [ho.c]; exact hc.c2,by rw [ho.c]; exact hc.no,by rw [ho.c]; exact hc.yes,?_⟩
  rw [ho.c]
  simp only [et]
  intro h0 h1 h2
  obtain ⟨q1,q2⟩:=hc.q h0 h1 h2
  have hu:zad W.groups (tkk W (gi W.cpus d).cur).group=true:=by
   rcases p.t _ h0 hc.c2 with hz | ⟨_,hx⟩
   ·rw [hz.1] at h1; cases h1
   ·exact hx.g
  refine ⟨by rw [es _ d (zac.1 hu).1]; exact q1,fun x hx => ?_⟩
  rw [zrk ho.g] at hx
  obtain ⟨xu,xz⟩:=zuw p.a.tree _ hu x hx
  obtain ⟨s1,s2⟩:=q2 x hx
  refine ⟨(est x d xu xz).2 s1,?_⟩
  rw [ho.g.p,es x d (zac.1 xu).1,es _ d (zac.1 (p.a.up xu xz)).1]
  exact s2
structure FC (c:Int) (W W':Wld):Prop where
 o:Oth c W W'
 cs:W'.cpus=W.cpus
 on:∀k d:Int,0≤k→0≤d→(shf W' k d).on=(shf W k d).on
 v:∀k d:Int,0≤k→0≤d→(shf W' k d).v=(shf W k d).v
 w:∀k d:Int,0≤k→0≤d→(shf W' k d).w=(shf W k d).w
 s:∀k d:Int,0≤k→0≤d→(shf W' k d).sum=(shf W k d).sum
 up:∀k d:Int,0≤k→0≤d→(shf W k d).floor≤(shf W' k d).floor
 fl:∀k:Int,0≤k→(shf W' k c).floor=(shf W k c).floor∨zd0 W k c 20=true∧(shf W' k c).floor=zb0 W k c 20
theorem z9a {W:Wld} (ha:WA W) {c:Int} (c0:0≤c) (c1:c<(W.cpus.length:Int)):∀k:Nat,k≤8→FC c W (zay W c k)∧WA (zay W c k)∧∀g:Int,zad W.groups g=true→g<(k:Int)→zd0 W g c 20=true→zb0 W g c 20≤(shf (zay W c k) g c).floor
 | 0,_=>⟨⟨Oth.refl _ _,rfl,fun _ _ _ _=>rfl,fun _ _ _ _=>rfl,fun _ _ _ _=>rfl,fun _ _ _ _=>rfl,fun _ _ _ _=>Int.le_refl _,fun _ _=>.inl rfl⟩,ha,fun g gu h=>by have:=(zac.1 gu).1; omega⟩
 | k+1,hk=>by
  obtain ⟨f,hA,ih⟩:=z9a ha c0 c1 k (by omega)
  have hl:=hA.gl
  have hT:=f.o.g
  have hb:=zyv f.o.t hT ha.gl (fun i hi=>f.on i c hi c0) (fun i hi=>f.v i c hi c0)
  simp only [zay]
  split
  ·rename_i hc
   have hu:zad (zay W c k).groups (k:Int)=true:=zac.2 ⟨by omega,by omega,hc.1⟩
   have hsl:=hA.sl hu
   have c1':c<((gi (zay W c k).groups (k:Int)).shelves.length:Int):=by rw [hsl,f.cs]; exact c1
   have e:∀{i j:Int},0≤i→0≤j→shf (setSh (zay W c k) (k:Int) c (zzk (zay W c k) (k:Int) c)) i j=if (k:Int)=i∧c=j then zzk (zay W c k) (k:Int) c else shf (zay W c k) i j:=fun hi hj=>zi0 (by omega) (by omega) c0 c1' hi hj
   refine ⟨⟨f.o.trans (z91 (by omega) (by omega) c0 c1'),f.cs,fun i j hi hj => ?_,fun i j hi hj => ?_,fun i j hi hj => ?_,fun i j hi hj => ?_,fun i j hi hj => ?_,fun i hi => ?_⟩,hA.setSh (by omega) (by omega),fun g gu hg hB => ?_⟩
   ·rw [e hi hj]; split
    ·rename_i h; obtain ⟨rfl,rfl⟩:=h; exact f.on _ _ hi hj
    ·exact f.on i j hi hj
   ·rw [e hi hj]; split
    ·rename_i h; obtain ⟨rfl,rfl⟩:=h; exact f.v _ _ hi hj
    ·exact f.v i j hi hj
   ·rw [e hi hj]; split
    ·rename_i h; obtain ⟨rfl,rfl⟩:=h; exact f.w _ _ hi hj
    ·exact f.w i j hi hj
   ·rw [e hi hj]; split
    ·rename_i h; obtain ⟨rfl,rfl⟩:=h; exact f.s _ _ hi hj
    ·exact f.s i j hi hj
   ·rw [e hi hj]; split
    ·rename_i h; obtain ⟨rfl,rfl⟩:=h
     have h1:=f.up (k:Int) c hi hj
     have h2:=hc.2.2
     show _≤zb0 (zay W c k) (k:Int) c 20
     omega
    ·exact f.up i j hi hj
   ·rw [e hi c0]; split
    ·rename_i h; obtain ⟨rfl,_⟩:=h
     refine .inr ⟨(hb _).1▸hc.2.1,?_⟩
     show zb0 (zay W c k) (k:Int) c 20=_
     exact (hb _).2
    ·exact f.fl i hi
   ·have g0:=(zac.1 gu).1
    rw [e g0 c0]
    split
    ·rename_i h; obtain ⟨rfl,_⟩:=h
     show _≤zb0 (zay W c k) (k:Int) c 20
     rw [(hb _).2]; exact Int.le_refl _
    ·rename_i h
     exact ih g gu (by have:g≠(k:Int):=fun e=>h ⟨e.symm,rfl⟩; omega) hB
  ·rename_i hc
   refine ⟨f,hA,fun g gu hg hB => ?_⟩
   by_cases e:g=(k:Int)
   ·subst e
    rw [hT.u,(hb _).1,(hb _).2] at hc
    by_cases h:zb0 W (k:Int) c 20>(shf (zay W c k) (k:Int) c).floor
    ·exact absurd ⟨(zac.1 gu).2.2,hB,h⟩ hc
    ·omega
   ·exact ih g gu (by omega) hB
theorem Oth.active {c d:Int} {W W':Wld} (h:Oth c W W') (d0:0≤d) (hd:d≠c) (g:Int):zbe W' g d=zbe W g d :=
 zqz h.t h.g fun j _ _ _ _=>by rw [h.e _ d (by omega) d0 hd]
theorem Oth.line {c:Int} {W W':Wld} (h:Oth c W W') (ht:zei W.groups) {t:Int} (hu:zad W.groups (tkk W t).group=true) (d0:0≤(tkk W t).cpu) (hd:(tkk W t).cpu≠c):zcs W' t=zcs W t:=by
 unfold zcs zoa
 rw [z4q h.t,zrk h.g]
 congr 1
 rw [Bool.eq_iff_iff,List.all_eq_true,List.all_eq_true]
 refine forall_congr' fun x=>forall_congr' fun hx => ?_
 rw [h.e x _ (zac.1 (zuw ht _ hu x hx).1).1 d0 hd]
structure Dn (W:Wld) (c:Int):Prop where
 on:∀k:Int,zad W.groups k=true→k≠0→onEq W c k
 cu:0≤(gi W.cpus c).cur→(tkk W (gi W.cpus c).cur).cpu=c∧zcs W (gi W.cpus c).cur=true
 fl:∀k:Int,zad W.groups k=true→zd0 W k c 20=true→zb0 W k c 20≤(shf W k c).floor
theorem Dn.oth {c d:Int} {W W':Wld} (h:Dn W d) (p:Pre W) (o:Oth c W W') (d0:0≤d) (d1:d<(W.cpus.length:Int)) (hd:d≠c):Dn W' d:=by
 refine ⟨fun k hu hz => ?_,fun h0 => ?_,fun k hu hB => ?_⟩
 ·rw [o.g.usd] at hu
  have k0:=(zac.1 hu).1
  have:=h.on k hu hz
  unfold onEq at this ⊢
  rw [o.e k d k0 d0 hd,o.active d0 hd,zaj8 (o.b k k0)]
  exact this
 ·rw [o.cp d d0 hd] at h0 ⊢
  rw [z4q o.t]
  obtain ⟨h1,h2⟩:=h.cu h0
  refine ⟨h1,?_⟩
  have hs:(tkk W (gi W.cpus d).cur).state=1:=by
   unfold zcs at h2
   rw [Bool.and_eq_true] at h2
   exact eq_of_beq h2.1
  have hu:zad W.groups (tkk W (gi W.cpus d).cur).group=true:=by
   rcases p.t _ h0 (p.c d d0 d1).c2 with hz | ⟨_,hx⟩
   ·rw [hz.1] at hs; cases hs
   ·exact hx.g
  rw [o.line p.a.tree hu (by rw [h1]; exact d0) (by rw [h1]; exact hd)]
  exact h2
 ·rw [o.g.usd] at hu
  have hb:=zyv (d:=d) o.t o.g p.a.gl (fun i hi=>by rw [o.e i d hi d0 hd]) (fun i hi=>by rw [o.e i d hi d0 hd]) k
  rw [hb.1] at hB
  rw [hb.2,o.e k d (zac.1 hu).1 d0 hd]
  exact h.fl k hu hB
theorem PreT.cp {W:Wld} {x:Tsk} (h:PreT W x) (cs:List Cpu):PreT { W with cpus:=cs } x:=⟨h.st,h.g,h.n,h.m,h.m0,h.s,h.u,h.l1,h.l2,h.f⟩
theorem PreS.cp {W:Wld} {k c:Int} (h:PreS W k c) (cs:List Cpu):PreS { W with cpus:=cs } k c:=⟨h.s,h.root,h.st⟩
theorem PreA.endW {W:Wld} (p:PreA W) {c:Int} (c0:0≤c) (c1:c<(W.cpus.length:Int)):PreA (endW W c):=by
 have hlen:(Go.Proofs.YtajdcjidpolloaaGreatDoor.endW W c).cpus.length=W.cpus.length:=List.length_set
 refine ⟨?_,fun t t0 t1 => ?_,fun t t0 t1 n => ?_,fun k d hu d0 d1 => ?_⟩
 ·refine p.a.cp List.length_set ?_
  rw [zab0 List.length_set fun j hj => ?_]
  ·exact p.a.ups
  ·rw [zci _ _ c0 c1 (by omega)]
   split
   ·rename_i e; rw [←e]; rfl
   ·rfl
 ·rcases p.t t t0 t1 with h | h
  ·exact .inl h
  ·exact .inr ⟨h.1,h.2.cp _⟩
 ·rw [hlen]; exact p.l t t0 t1 n
 ·rw [hlen] at d1; exact (p.s k d hu d0 d1).cp _
theorem zajs {W:Wld} (p:Pre W) {c:Int} (c0:0≤c) (c1:c<(W.cpus.length:Int)):Pre (zta W c)∧Oth c W (zta W c)∧Dn (zta W c) c:=by
 obtain ⟨l,p1,hon⟩:=z9o p c0 c1
 obtain ⟨f,hA,hfl⟩:=z9a p1.a c0 (c:=c) (by rw [l.cs]; exact c1) 8 (Nat.le_refl _)
 have f:FC c (za7 W c) (zbx (za7 W c) c):=f
 have hA:WA (zbx (za7 W c) c):=hA
 have hfl:∀g:Int,zad (za7 W c).groups g=true→g<((8:Nat):Int)→zd0 (za7 W c) g c 20=true→zb0 (za7 W c) g c 20≤(shf (zbx (za7 W c) c) g c).floor:=hfl
 have hon:∀g:Int,zad (za7 W c).groups g=true→g≠0→onEq (za7 W c) c g:=fun g gu gz=>hon g (by rwa [l.o.g.usd] at gu) gz
 have hgl:=p1.a.gl
 have hlc:(za7 W c).cpus.length=W.cpus.length:=by rw [l.cs]
 have hdef:zta W c=if zwm (zbx (za7 W c) c) c=true then endW (zbx (za7 W c) c) c else zbx (za7 W c) c:=rfl
 have hO:Oth c W (zbx (za7 W c) c):=l.o.trans f.o
 rw [hdef]
 clear hdef
 have c1':c<((za7 W c).cpus.length:Int):=by rw [hlc]; exact c1
 generalize za7 W c=V at p1 hon f hA hfl hgl hlc hO c1'
 generalize zbx V c=F at f hA hfl hO
 have et:∀t,tkk F t=tkk V t:=z4q f.o.t
 have hT:=f.o.g
 have best:=zyv (d:=c) f.o.t hT hgl (fun i hi=>f.on i c hi c0) (fun i hi=>f.v i c hi c0)
 have low:∀k:Int,zad V.groups k=true→∀v:Int,(zd0 V k c 20=true∧zb0 V k c 20≤v)→(shf V k c).floor≤v→(shf F k c).floor≤v:=fun k hu v hv hf=>by
  rcases f.fl k (zac.1 hu).1 with e | ⟨_,e⟩
  ·rw [e]; exact hf
  ·rw [e]; exact hv.2
 have st:∀k d:Int,zad V.groups k=true→k≠0→0≤d→(shf V k d).on=true→stnd V k d→stnd F k d:=fun k d hu hz d0 ho hs=>by
  have pu:=p1.a.up hu hz
  have k0:=(zac.1 hu).1
  have q0:=(zac.1 pu).1
  unfold stnd
  rw [hT.p,f.v k d k0 d0,f.w k d k0 d0]
  have hup:=f.up _ d q0 d0
  refine ⟨?_,by have:=hs.2; omega⟩
  by_cases hd:d=c
  ·subst hd
   exact low _ pu _ (zadc p1.a hu hz ho) hs.1
  ·rw [f.o.e _ d q0 d0 hd]; exact hs.1
 have pa:PreA F:=by
  refine ⟨hA,fun t t0 t1 => ?_,fun t t0 t1 n => ?_,fun k d hu d0 d1 => ?_⟩
  ·rw [et]
   rcases p1.t t t0 t1 with hz | ⟨n,hx⟩
   ·exact .inl hz
   ·refine .inr ⟨n,hx.st,by rw [hT.usd]; exact hx.g,hx.n,hx.m,hx.m0,hx.s,hx.u,hx.l1,hx.l2,fun h1 => ?_⟩
    obtain ⟨d0,d1⟩:=p1.l t t0 t1 n
    have g0:=(zac.1 hx.g).1
    have hup:=f.up _ _ g0 d0
    have hs:=hx.f h1
    refine ⟨?_,by omega⟩
    by_cases hd:(tkk V t).cpu=c
    ·have hb:=zaex p1.a t0 t1 h1
     rw [hd] at hb hs ⊢
     exact low _ hx.g _ hb hs.1
    ·rw [f.o.e _ _ g0 d0 hd]; exact hs.1
  ·rw [et] at n ⊢
   rw [f.cs]
   exact p1.l t t0 t1 n
  ·rw [hT.usd] at hu
   rw [f.cs] at d1
   have hs:=p1.s k d hu d0 d1
   have k0:=(zac.1 hu).1
   refine ⟨by rw [f.s k d k0 d0]; exact hs.s,fun hz => ?_,fun hz h => ?_⟩
   ·rw [f.on k d k0 d0,f.v k d k0 d0,f.w k d k0 d0]; exact hs.root hz
   ·rw [f.on k d k0 d0] at h
    exact st k d hu hz d0 h (hs.st hz h)
 have ptu:∀t:Int,0≤t→t<12→(tkk V t).state=1→zad V.groups (tkk V t).group=true:=fun t t0 t1 h=>by
  rcases p1.t t t0 t1 with hz | ⟨_,hx⟩
  ·rw [hz.1] at h; cases h
  ·exact hx.g
 have pc:∀d:Int,0≤d→d<(V.cpus.length:Int)→(d=c→zwm F c=false)→PreC F d:=fun d d0 d1 hg=>by
  have hc:=p1.c d d0 d1
  refine ⟨by rw [f.cs]; exact hc.b,by rw [f.cs]; exact hc.i,by rw [f.cs]; exact hc.c1,by rw [f.cs]; exact hc.c2,by rw [f.cs]; exact hc.no,by rw [f.cs]; exact hc.yes,?_⟩
  rw [f.cs]
  simp only [et]
  intro h0 h1 h2
  obtain ⟨q1,q2⟩:=hc.q h0 h1 h2
  have hu:=ptu _ h0 hc.c2 h1
  have hup:=f.up _ d (zac.1 hu).1 d0
  refine ⟨by omega,fun x hx => ?_⟩
  rw [zrk hT] at hx
  obtain ⟨xu,xz⟩:=zuw p1.a.tree _ hu x hx
  obtain ⟨s1,s2⟩:=q2 x hx
  have x0:=(zac.1 xu).1
  have q0:=(zac.1 (p1.a.up xu xz)).1
  have hup2:=f.up _ d q0 d0
  refine ⟨?_,by rw [hT.p,f.v x d x0 d0,f.w x d x0 d0]; omega⟩
  by_cases hd:d=c
  ·subst hd
   have hl:zcs F (gi V.cpus d).cur=true:=by
    have:=hg rfl
    unfold zwm at this
    rw [f.cs,et,decide_eq_true h0,h2] at this
    simpa using this
   unfold zcs zoa at hl
   rw [et,h2,zrk hT,Bool.and_eq_true,List.all_eq_true] at hl
   have ho:=hl.2 x hx
   rw [f.on x d x0 d0] at ho
   exact st x d xu xz d0 ho s1
  ·unfold stnd
   rw [hT.p,f.o.e x d x0 d0 hd,f.o.e _ d q0 d0 hd]
   exact s1
 have honF:∀k:Int,zad F.groups k=true→k≠0→onEq F c k:=fun k hu hz=>by
  rw [hT.usd] at hu
  have k0:=(zac.1 hu).1
  have:=hon k hu hz
  unfold onEq at this ⊢
  rw [f.on k c k0 c0,zqz f.o.t hT fun j _ _ _ _=>f.on _ c (by omega) c0,zaj8 (f.o.b k k0)]
  exact this
 have hflF:∀k:Int,zad F.groups k=true→zd0 F k c 20=true→zb0 F k c 20≤(shf F k c).floor:=fun k hu hB=>by
  rw [hT.usd] at hu
  rw [(best k).1] at hB
  rw [(best k).2]
  exact hfl k hu (by have:=(zac.1 hu).2.1; omega) hB
 split
 ·rename_i hg
  have cF:c<(F.cpus.length:Int):=by rw [f.cs]; exact c1'
  have hcp:∀d:Int,0≤d→gi (endW F c).cpus d=if c=d then endC (gi F.cpus c) else gi F.cpus d:=fun d d0=>zci _ _ c0 cF d0
  have hlen:(endW F c).cpus.length=F.cpus.length:=List.length_set
  refine ⟨⟨pa.endW c0 cF,fun d d0 d1 => ?_⟩,hO.trans (zajd c0 cF),honF,fun h0 => ?_,hflF⟩
  ·rw [hlen] at d1
   by_cases e:c=d
   ·subst e
    have hc:=p1.c c c0 c1'
    have e1:gi (endW F c).cpus c=endC (gi V.cpus c):=by rw [hcp c c0,if_pos rfl,f.cs]
    have n1:(endC (gi V.cpus c)).cur = -1:=rfl
    exact ⟨by rw [e1]; exact hc.b,by rw [e1]; exact hc.i,by rw [e1,n1]; exact Int.le_refl _,by rw [e1,n1]; decide,fun _=>by rw [e1]; rfl,fun h=>by rw [e1,n1] at h; omega,fun h=>by rw [e1,n1] at h; omega⟩
   ·have hc:=pc d d0 (by rw [←f.cs]; exact d1) fun h=>absurd h.symm e
    have e1:gi (endW F c).cpus d=gi F.cpus d:=by rw [hcp d d0,if_neg e]
    exact ⟨by rw [e1]; exact hc.b,by rw [e1]; exact hc.i,by rw [e1]; exact hc.c1,by rw [e1]; exact hc.c2,by rw [e1]; exact hc.no,by rw [e1]; exact hc.yes,by rw [e1]; exact hc.q⟩
  ·rw [hcp c c0,if_pos rfl] at h0
   have h0:(0:Int)≤-1:=h0
   omega
 ·rename_i hg
  have hg:zwm F c=false:=by simpa using hg
  refine ⟨⟨pa,fun d d0 d1=>pc d d0 (by rw [←f.cs]; exact d1) fun _=>hg⟩,hO,honF,fun h0 => ?_,hflF⟩
  unfold zwm at hg
  rw [decide_eq_true h0,Bool.true_and,Bool.or_eq_false_iff] at hg
  exact ⟨by simpa using hg.1,by simpa using hg.2⟩
theorem zacy {W:Wld} (p:Pre W):∀c:Nat,c≤W.cpus.length→Pre (zlg W c)∧(zlg W c).cpus.length=W.cpus.length∧(zlg W c).tasks=W.tasks∧zdo W.groups (zlg W c).groups∧∀d:Int,0≤d→d<(c:Int)→Dn (zlg W c) d
 | 0,_=>⟨p,rfl,rfl,zdo.refl _,fun d a b=>by omega⟩
 | c+1,hc=>by
  obtain ⟨a,e,et,eg,ih⟩:=zacy p c (by omega)
  obtain ⟨p1,o,dn⟩:=zajs a (c:=(c:Int)) (by omega) (by rw [e]; omega)
  refine ⟨p1,o.len.trans e,o.t.trans et,eg.trans o.g,fun d d0 d1 => ?_⟩
  by_cases h:d=(c:Int)
  ·subst h; exact dn
  ·exact (ih d d0 (by omega)).oth a o d0 (by rw [e]; omega) h
theorem zag7 {K:Int} {W:Wld} (sw:SW K W) (p:Pre W) (hK:0≤K):Pre (zce W)∧Fr W (zce W)∧∀d:Int,0≤d→d<(W.cpus.length:Int)→Dn (zce W) d:=by
 obtain ⟨a,e⟩:=z39 p W.cpus.length (Nat.le_refl _)
 obtain ⟨s1,_⟩:=zo0 (F:=K) (K:=K+lagB) (sw.sf.mono (Int.le_refl _) (by simp only [lagB]; omega)) (Int.le_refl _) W.cpus.length (Nat.le_refl _)
 obtain ⟨s2,b2⟩:=zpg s1 8 (Nat.le_refl _)
 have p2:=a.onlyB b2 s2.w.a
 have e2:(ze6 (ze3 W W.cpus.length) 8).cpus.length=W.cpus.length:=by rw [b2.c,e]
 obtain ⟨p3,e3,_,_,dn⟩:=zacy p2 W.cpus.length (by rw [e2]; exact Nat.le_refl _)
 exact ⟨p3,(znc sw hK).2,dn⟩
theorem zana {K:Int} {W:Wld} (sw:SW K W) (hK:K≤100000000000000000) (p:Pre W) (hl:Loc W) (dn:∀d:Int,0≤d→d<(W.cpus.length:Int)→Dn W d):WldP W∧Flo W:=by
 have tm:∀k c:Int,zad W.groups k=true→0≤c→c<(W.cpus.length:Int)→tmOk (shf W k c).floor=true∧tmOk (shf W k c).v=true:=fun k c hu c0 c1=>by
  have:=sw.s k c hu c0 c1
  exact ⟨zpa.2 (by omega),zpa.2 (by omega)⟩
 have tv:∀t:Int,0≤t→t<12→tmOk (tkk W t).v=true:=fun t t0 t1=>by
  have:=sw.tv t t0 t1
  exact zpa.2 (by omega)
 refine ⟨⟨p.a,fun t t0 t1 => ?_,fun k c k0 k1 c0 c1 => ?_,fun c c0 c1 => ?_⟩,fun k c hu c0 c1 hB=>(dn c c0 c1).fl k hu hB⟩
 ·rcases p.t t t0 t1 with hz | ⟨n,hx⟩
  ·exact .inl hz
  ·obtain ⟨d0,d1⟩:=p.l t t0 t1 n
   exact .inr ⟨n,hx.st,hx.g,hx.n,hx.m,hx.m0,tv t t0 t1,hx.s,hx.u,hx.l1,hx.l2,hl t t0 t1 n,fun h1=>(zxl (tv t t0 t1) (tm _ _ hx.g d0 d1).1).2 (hx.f h1)⟩
 ·have hgl:=p.a.gl
  have hu:zad W.groups k=true:=by
   cases hb:(gi W.groups k).used with
   | true=>exact zac.2 ⟨k0,by omega,hb⟩
   | false =>
    have:=((p.a.grp k k0 k1).1 hb).l
    omega
  have hsl:=p.a.sl hu
  have c1:c<(W.cpus.length:Int):=by omega
  have hs:=p.s k c hu c0 c1
  have ht:=tm k c hu c0 c1
  have hw:=sw.s k c hu c0 c1
  exact ⟨ht.1,ht.2,hs.s,hw.2.2.2.2.1,hw.2.2.2.2.2,hs.root,fun hz=>(dn c c0 c1).on k hu hz,fun hz ho=>(zxl ht.2 (tm _ c (p.a.up hu hz) c0 c1).1).2 (hs.st hz ho)⟩
 ·have hc:=p.c c c0 c1
  have htl:=p.a.t
  refine ⟨hc.b,hc.i,hc.c1,by have:=hc.c2; omega,hc.no,fun h0 => ?_⟩
  obtain ⟨y1,y2,y3⟩:=hc.yes h0
  obtain ⟨z1,z2⟩:=(dn c c0 c1).cu h0
  have hs:(tkk W (gi W.cpus c).cur).state=1:=by
   unfold zcs at z2
   rw [Bool.and_eq_true] at z2
   exact eq_of_beq z2.1
  obtain ⟨q1,q2⟩:=hc.q h0 hs z1
  refine ⟨y1,y2,y3,z1,z2,?_⟩
  unfold zw9 zp4
  rw [Bool.and_eq_true,List.all_eq_true]
  exact ⟨decide_eq_true q1,fun x hx=>decide_eq_true (q2 x hx).2⟩
end Go.Proofs.YtajdcjidpolloaaGreatDoor
namespace Go.Proofs.YtajdcjidpolloaaGreatDoor
open Go.RowKit
set_option linter.unusedVariables false
set_option linter.unusedSimpArgs false
set_option maxRecDepth 10000
theorem zpf {α β:Type} [Inhabited α] {f:α→β} (l:List α) (k:Int) {x:α} (h:f x=f (gi l k)) (i:Int):f (gi (l.set k.toNat x) i)=f (gi l i):=by
 unfold gi at *
 simp only [List.getD_eq_getElem?_getD,List.getElem?_set] at *
 by_cases e:k.toNat=i.toNat
 ·rw [if_pos e]
  split
  ·rw [←e]; simpa using h
  ·rename_i hl
   have:l[i.toNat]? = none:=List.getElem?_eq_none_iff.2 (by omega)
   rw [this]
 ·rw [if_neg e]
structure Sta (W W':Wld):Prop where
 g:zdo W.groups W'.groups
 m:∀i:Int,(gi W'.groups i).cpus=(gi W.groups i).cpus
 w:∀i:Int,(gi W'.groups i).weight=(gi W.groups i).weight
 len:W'.cpus.length=W.cpus.length
 u:∀i:Int,(gi W'.cpus i).up=(gi W.cpus i).up
theorem Sta.refl (W:Wld):Sta W W:=⟨zdo.refl _,fun _=>rfl,fun _=>rfl,rfl,fun _=>rfl⟩
theorem Sta.trans {A B C:Wld} (h:Sta A B) (k:Sta B C):Sta A C:=⟨h.g.trans k.g,fun i=>(k.m i).trans (h.m i),fun i=>(k.w i).trans (h.w i),k.len.trans h.len,fun i=>(k.u i).trans (h.u i)⟩
theorem zakj {W:Wld} {g:Int} {x:Grp} (u:x.used=(gi W.groups g).used) (p:x.parent=(gi W.groups g).parent) (n:x.name=(gi W.groups g).name) (m:x.cpus=(gi W.groups g).cpus) (w:x.weight=(gi W.groups g).weight):Sta W (zcn W g x) :=
 ⟨⟨List.length_set,fun i=>zpf (f:=Grp.used) _ _ u i,fun i=>zpf (f:=Grp.parent) _ _ p i,fun i=>zpf (f:=Grp.name) _ _ n i⟩,fun i=>zpf (f:=Grp.cpus) _ _ m i,fun i=>zpf (f:=Grp.weight) _ _ w i,rfl,fun _=>rfl⟩
theorem zacx (W:Wld) (g c:Int) (s:Shf):Sta W (setSh W g c s):=zakj rfl rfl rfl rfl rfl
theorem zam2 (W:Wld) (g:Int) (b:Bnd):Sta W (setBd W g b):=zakj rfl rfl rfl rfl rfl
theorem zam3 {W:Wld} {c:Int} {x:Cpu} (u:x.up=(gi W.cpus c).up):Sta W (zaeg W c x):=⟨zdo.refl _,fun _=>rfl,fun _=>rfl,List.length_set,fun i=>zpf (f:=Cpu.up) _ _ u i⟩
theorem zag9 (W:Wld) (c:Int):Sta W (endW W c):=zam3 rfl
theorem z04 (W:Wld) (c d:Int):∀k:Nat,Sta W (zdj W c d k)
 | 0=>Sta.refl _
 | k+1=>by
  simp only [zdj]
  split
  ·exact (z04 W c d k).trans (zacx _ _ _ _)
  ·exact z04 W c d k
theorem zu0 (W:Wld) (c:Int):∀j:Nat,Sta W (zgt W c j)
 | 0=>Sta.refl _
 | j+1=>(zu0 W c j).trans (z04 _ _ _ _)
theorem z4n (W:Wld):∀c:Nat,Sta W (ze3 W c)
 | 0=>Sta.refl _
 | c+1=>(z4n W c).trans (zu0 (ze3 W c) (c:Int) 3)
theorem z02 (W:Wld) (k:Int):∀c:Nat,Sta W (zd4 W k c)
 | 0=>Sta.refl _
 | c+1=>by
  simp only [zd4]
  split
  ·exact (z02 W k c).trans (zam2 _ _ _)
  ·exact z02 W k c
theorem z03 (W:Wld):∀k:Nat,Sta W (ze6 W k)
 | 0=>Sta.refl _
 | k+1=>by
  simp only [ze6]
  split
  ·exact (z03 W k).trans (z02 _ _ _)
  ·exact z03 W k
theorem zuz (W:Wld) (c:Int):∀k:Nat,Sta W (zay W c k)
 | 0=>Sta.refl _
 | k+1=>by
  simp only [zay]
  split
  ·exact (zuz W c k).trans (zacx _ _ _ _)
  ·exact zuz W c k
theorem zaha (W:Wld) (c:Int):Sta W (zta W c):=by
 have h:=(zu0 W c 3).trans (zuz (za7 W c) c 8)
 unfold zta
 split
 ·exact h.trans (zag9 _ _)
 ·exact h
theorem zaal (W:Wld):∀c:Nat,Sta W (zlg W c)
 | 0=>Sta.refl _
 | c+1=>(zaal W c).trans (zaha (zlg W c) (c:Int))
theorem zaej (W:Wld):Sta W (zce W):=((z4n W W.cpus.length).trans (z03 (ze3 W W.cpus.length) 8)).trans (zaal (zzm (ze3 W W.cpus.length)) W.cpus.length)
theorem Sta.ups {W W':Wld} (h:Sta W W'):upsD W'.cpus=upsD W.cpus:=zab0 h.len fun j _=>h.u j
theorem Sta.pin {W W':Wld} (h:Sta W W') (g u:Int):pinD W'.groups g u=pinD W.groups g u:=by
 unfold pinD
 rw [show zgq W'.groups g=zgq W.groups g from h.g.path 3 g]
 congr 1
 funext s x
 rw [h.m]
theorem Sta.wh {W W':Wld} (h:Sta W W') (g m:Int):zd8 W' g m=zd8 W g m:=by
 unfold zd8
 rw [h.ups,h.pin]
theorem Sta.loc {W W':Wld} (h:Sta W W') (ht:W'.tasks=W.tasks) (hl:Loc W):Loc W':=fun t t0 t1 n=>by
 rw [z4q ht] at n ⊢
 rw [h.wh]
 exact hl t t0 t1 n
theorem zaei {K:Int} {W:Wld} (sw:SW K W) (hK:0≤K) (hK2:K+stlB≤100000000000000000) (p:Pre W) (hl:Loc W):WldP (zce W)∧Flo (zce W):=by
 obtain ⟨p1,hf,dn⟩:=zag7 sw p hK
 exact zana (znc sw hK).1 hK2 p1 ((zaej W).loc hf.t hl) fun d d0 d1=>dn d d0 (by rw [←hf.c]; exact d1)
end Go.Proofs.YtajdcjidpolloaaGreatDoor
namespace Go.Proofs.YtajdcjidpolloaaGreatDoor
open Go.RowKit
set_option linter.unusedVariables false
set_option linter.unusedSimpArgs false
set_option maxRecDepth 10000
def fitD (W:Wld) (t b c:Int):Bool:=(zz7 W c==0)||decide (zz7 W c+zam (tkk W t).nice≤zz7 W b - zam (tkk W t).nice)
def tskP (W:Wld) (b c:Int) (t:Nat):Bool:=(((tkk W (t:Int)).cpu==b)&&zdr W (t:Int) c)&&fitD W (t:Int) b c
def zl0 (W:Wld) (b c:Int):Nat→Nat→Int
 | 0,_ => -1
 | f+1,j=>if tskP W b c j=true then (j:Int) else zl0 W b c f (j+1)
theorem z88 {W:Wld} {b c:Int} {f j:Nat} (h:tskP W b c j=true):zl0 W b c (f+1) j=(j:Int):=if_pos h
theorem z3y {W:Wld} {b c:Int} {f j:Nat} (h:tskP W b c j=false):zl0 W b c (f+1) j=zl0 W b c f (j+1):=if_neg (by rw [h]; decide)
noncomputable def plN (W:Wld) (c:Int):Nat→Nat→Int
 | 0,_ => -1
 | f+1,k=>if zd1 W c (k:Int)<0 then plN W c f (k+1) else if zl0 W (zd1 W c (k:Int)) c 12 0<0 then plN W c f (k+1) else zl0 W (zd1 W c (k:Int)) c 12 0
noncomputable def zle (W:Wld) (c:Int):Int:=plN W c (lvD (W.cpus.length:Int)).toNat 0
theorem z7x {W:Wld} {c:Int} {f k:Nat} (h:zd1 W c (k:Int)<0):plN W c (f+1) k=plN W c f (k+1):=if_pos h
theorem z7w {W:Wld} {c:Int} {f k:Nat} (h:zl0 W (zd1 W c (k:Int)) c 12 0<0):plN W c (f+1) k=plN W c f (k+1):=by
 simp only [plN]
 by_cases h0:zd1 W c (k:Int)<0
 ·rw [if_pos h0]
 ·rw [if_neg h0,if_pos h]
theorem z7y {W:Wld} {c:Int} {f k:Nat} (h0:¬zd1 W c (k:Int)<0) (h:¬zl0 W (zd1 W c (k:Int)) c 12 0<0):plN W c (f+1) k=zl0 W (zd1 W c (k:Int)) c 12 0:=by
 simp only [plN]
 rw [if_neg h0,if_neg h]
theorem zph {W:Wld} (wp:WldP W) (c:Int):0≤zz7 W c∧zz7 W c≤240:=by
 have:=zj9 (zz6 W c) W.tasks.length
 have ht:=wp.a.t
 unfold zz7
 omega
section
variable {W:Wld} {m:MW} {w:World} {bs:List Nat} {p:Option Addr}
theorem zade {W:Wld} (wp:WldP W) {c lv:Int} (h:¬zd1 W c lv<0):0≤zd1 W c lv∧zd1 W c lv<(W.cpus.length:Int):=by
 have:=zm4 W c (spD (W.cpus.length:Int) c lv) W.cpus.length
 unfold zd1 at h ⊢
 omega
theorem z78.ext {P:Program} {gf:FuncId} {lb:Array Value} {N:Nat} {vals:Nat→List Value} {I:Nat→World→Prop} {w w':World} (h:z78 P gf lb N vals I w) (hx:ExtX [] w w'):z78 P gf lb N vals I w' :=
 fun l J Jx W hW=>h l J Jx W (hx.trans hW)
theorem z2s {t b c:Int} (h:RdW bs w W m) (wp:WldP W) (t0:0≤t) (t1:t<(W.tasks.length:Int)):zab bs Tryz.prog zk0 #[.agg (encW W m).toArray,.int .i64 t,.int .i64 b,.int .i64 c] w (.bool (fitD W t b c)) :=
 z3g W.now m.cO W.cpus.length m.cC m.tO W.tasks.length m.tC m.gO W.groups.length m.gC t b c fun wr hx=>by
  have h:=(h.ext hx).less (cs:=[]) (by simp)
  have r1:=zph wp c
  have r2:=zph wp b
  have r3:0≤zam (gi W.tasks t).nice∧zam (gi W.tasks t).nice≤20:=zcp _
  exact fun _ _=>⟨_,zit h wp,h.t.ix zbb t0 t1,_,h.t.f t0 t1 (j:=3) rfl,_,zc4,fun _=>⟨by omega,by omega⟩,_,fun _=>zit h wp,fun _=>⟨by omega,by omega⟩,rfl⟩
theorem z2t {c:Int} (h:RdW bs w W m) (wp:WldP W) (c0:0≤c) (c1:c<(W.cpus.length:Int)):zab bs Tryz.prog zk1 #[.agg (encW W m).toArray,.int .i64 c] w (.int .i64 (zle W c)) :=
 z3i W.now m.cO W.cpus.length m.cC m.tO W.tasks.length m.tC m.gO W.groups.length m.gC c fun wr hx=>by
  have h:=(h.ext hx).less (cs:=[]) (by simp)
  have hlv:=zabp (W.cpus.length:Int)
  have htl:=wp.a.t
  intro _ _
  refine ze7 2 0 rfl (fun k=>(k:Int)≤lvD (W.cpus.length:Int)∧plN W c ((lvD (W.cpus.length:Int)).toNat - k) k=zle W c) ⟨hlv.1,rfl⟩ fun k ⟨hk,hI⟩=>⟨_,zk8,fun hlt => ?_,fun hge => ?_⟩
  ·have hlt:=of_decide_eq_true hlt
   have ek:(lvD (W.cpus.length:Int)).toNat - k=((lvD (W.cpus.length:Int)).toNat - (k+1))+1:=by omega
   rw [ek] at hI
   have nxt:plN W c ((lvD (W.cpus.length:Int)).toNat - (k+1)) (k+1)=zle W c→((k+1:Nat):Int)≤lvD (W.cpus.length:Int)∧plN W c ((lvD (W.cpus.length:Int)).toNat - (k+1)) (k+1)=zle W c:=fun hp=>⟨by omega,hp⟩
   refine ⟨_,zuf,_,zug h wp c0 c1,fun g=>⟨⟨by omega,by omega⟩,zai (by omega) (nxt ?_)⟩,fun g => ?_⟩
   ·rw [←hI,z7x (show zd1 W c (k:Int)<0 from of_decide_eq_true g)]
   ·have g:¬zd1 W c (k:Int)<0:=of_decide_eq_false g
    refine ze7 12 0 rfl (fun j=>j≤12∧zl0 W (zd1 W c (k:Int)) c (12 - j) j=zl0 W (zd1 W c (k:Int)) c 12 0) ⟨Nat.zero_le _,rfl⟩ fun j ⟨hj,hF⟩=>⟨fun hlt2 => ?_,fun hge2 => ?_⟩
    ·have hlt2:=of_decide_eq_true hlt2
     have hj12:j<12:=by omega
     rw [show 12 - j=(12 - (j+1))+1 by omega] at hF
     refine ⟨h.t.ix zbb (by omega) hlt2,_,h.t.f (by omega) hlt2 (j:=2) rfl,_,fun _=>zov h wp (by omega) hlt2 c0 c1,_,fun _=>z2s h wp (by omega) hlt2,fun g2 => ?_,fun g2=>⟨⟨by omega,by omega⟩,zai hj12 ⟨by omega,?_⟩⟩⟩
     ·have g2:tskP W (zd1 W c (k:Int)) c j=true:=g2
      rw [z88 g2] at hF
      rw [←hI,z7y g (by rw [←hF]; omega),←hF]
     ·have g2:tskP W (zd1 W c (k:Int)) c j=false:=g2
      rw [←hF,z3y g2]
    ·have hge2:=of_decide_eq_false hge2
     have:j=12:=by omega
     subst this
     refine ⟨⟨by omega,by omega⟩,zai (by omega) (nxt ?_)⟩
     rw [←hI,z7w (by rw [←hF]; show (-1:Int)<0; decide)]
  ·have hge:=of_decide_eq_false hge
   have:(lvD (W.cpus.length:Int)).toNat - k=0:=by omega
   rw [this] at hI
   rw [←hI]; rfl
theorem zaec (W:Wld) (c:Int) : -1≤zle W c:=by
 have hf:∀(b:Int) (f j:Nat),-1≤zl0 W b c f j:=fun b f=>by
  induction f with
  | zero=>intro j; exact Int.le_refl _
  | succ f ih =>
   intro j
   simp only [zl0]
   split
   ·omega
   ·exact ih _
 have hp:∀(f k:Nat),-1≤plN W c f k:=fun f=>by
  induction f with
  | zero=>intro k; exact Int.le_refl _
  | succ f ih =>
   intro k
   simp only [plN]
   split
   ·exact ih _
   ·split
    ·exact ih _
    ·exact hf _ _ _
 exact hp _ _
def zalk (x:Int):Value:=if x<0 then .tuple #[.int .i64 0,.bool false] else .tuple #[.int .i64 x,.bool true]
def zagw (x:Int):Int:=if x<0 then 0 else x
theorem zajf (x:Int):zalk x = .tuple #[.int .i64 (zagw x),.bool (!decide (x<0))]:=by
 unfold zalk zagw
 by_cases h:x<0
 ·rw [if_pos h,if_pos h,decide_eq_true h]; rfl
 ·rw [if_neg h,if_neg h,decide_eq_false h]; rfl
theorem zabf {b:Nat} {c a a':Int} (h:WPt bs w p W m) (wp:WldP W) (hbx:zaa bs w (some ⟨b,0,none⟩) 0 [.pointer p,.int .i64 c]) (h0:0≤a) (h1:a<(W.cpus.length:Int)) (h0':0≤a') (h1':a'<(W.cpus.length:Int)):zab bs Tryz.prog zb2 #[.int .i64 a,.int .i64 a',.pointer (some ⟨b,0,none⟩)] w (.bool (ltL W a a')) :=
 zo6 a a' (some ⟨b,0,none⟩) fun wr hx=>by
  have h:=(h.ext hx).less (cs:=[]) (by simp)
  have hb:=(hbx.ext hx).less (cs:=[]) (by simp)
  exact ⟨rfl,p,hb.get 0 _ rfl,p,a,zby,_,znu h wp h0 h1,rfl,p,hb.get 0 _ rfl,p,a',zby,_,znu h wp h0' h1',rfl⟩
theorem z52 {W:Wld} (wp:WldP W) {c s:Int} {k:Nat} {i:Nat} (hi:i<(zni W c s k).length):0≤gi (zni W c s k) (i:Int)∧gi (zni W c s k) (i:Int)<(W.cpus.length:Int):=by
 have hm:=zvd (l:=zni W c s k) (i:=(i:Int)) (by omega) (by omega)
 have:=(List.mem_filter.1 hm).2
 have:=zaj3 wp this
 exact ⟨this.1,this.2.1⟩
theorem z2m {c lv:Int} (h:WPt bs w p W m) (wp:WldP W) (c0:0≤c) (c1:c<(W.cpus.length:Int)):zab bs Tryz.prog zfu #[.agg #[.pointer p,.int .i64 c],.int .i64 lv] w (.int .i64 (zd1 W c lv)):=by
 refine zj1 fun wr0 hx0=>zq6 p c lv (R:=fun v w'=>v = .int .i64 (zd1 W c lv)∧ExtX [] wr0 w') ?_
 have h:=(h.ext hx0).less (cs:=[]) (by simp)
 intro b wb hx hb hcell _ b1 wb1 hx1 hb1 hcell1 _ wr hx2 _
 have hX:=(hx.trans hx1).trans hx2
 have hp:=h.ext hX
 have hbx:zaa [] wr (some ⟨b,0,none⟩) 0 [.pointer p,.int .i64 c]:=by
  have hc:=zan (zan hcell hx1 (by simp)) hx2 (by simp)
  exact zj4 hc (by simp) fun j v hj=>by rw [Nat.zero_add,Nat.zero_add]; exact hj
 have hb1x:zaa [] wr (some ⟨b1,0,none⟩) 0 [.int .i64 lv]:=(znh ⟨_,hcell1⟩).ext hx2
 have hbest:=z8v W c (spD (W.cpus.length:Int) c lv) 4
 rw [zah8 wp.a.c2] at hbest
 refine (zamm (gf:=zex) (lb:=#[.pointer (some ⟨b,0,none⟩),.pointer (some ⟨b1,0,none⟩)]) (bF:=.func zb2) (bA:=#[]) (bK:=#[.pointer (some ⟨b,0,none⟩)]) (xs:=zni W c (spD (W.cpus.length:Int) c lv) 4) (lt:=ltL W) (w:=wr)
  (enters_of Tryz.func209 (by kernel_rfl) rfl)
  (fun I W1 hx3 hI=>z78.ext (zado (W:=W) (m:=m) (p:=p) (c:=c) (lv:=lv) (b:=b) (b1:=b1) (I:=I) (w:=wr) wp c0 c1 hp hbx hb1x hI) hx3)
  (fun i j hi hj W1 hx3=>.inl ⟨zb2,_,rfl,(zabf (hp.ext hx3) wp (hbx.ext hx3) (z52 wp hi).1 (z52 wp hi).2 (z52 wp hj).1 (z52 wp hj).2) W1 (ExtX.refl _ _)⟩)).mono fun e w2 ⟨he,hx3⟩=>⟨_,_,he,zbc,fun g wr1 hx4=>⟨?_,(hX.trans hx3).trans hx4⟩,fun g wr2 hx4=>⟨?_,(hX.trans hx3).trans hx4⟩⟩
 ·rw [hbest] at g
  split at g
  ·have:=zm4 W c (spD (W.cpus.length:Int) c lv) W.cpus.length
   have e2:zd1 W c lv = -1:=by unfold zd1 at *; omega
   rw [e2]
  ·cases g
 ·rw [hbest] at g ⊢
  split at g
  ·cases g
  ·rename_i hn
   rw [if_neg hn]
theorem zabk {c:Int} (h:WPt bs w p W m) (wp:WldP W) (c0:0≤c) (c1:c<(W.cpus.length:Int)):zab bs Tryz.prog zh7 #[.agg #[.pointer p,.int .i64 c]] w (.tuple #[.int .i64 (zagw (zle W c)),.bool (!decide (zle W c<0))]):=by
 rw [←zajf]
 refine zwz p c fun wr hx => ?_
 have h:=(h.ext hx).less (cs:=[]) (by simp)
 have hlv:=zabp (W.cpus.length:Int)
 have htl:=wp.a.t
 refine fun _ _=>⟨_,znu h wp c0 c1,h.some,_,_,_,h.cpus,_,zk4,?_⟩
 refine ze7 2 0 rfl (fun k=>(k:Int)≤lvD (W.cpus.length:Int)∧plN W c ((lvD (W.cpus.length:Int)).toNat - k) k=zle W c) ⟨hlv.1,rfl⟩ fun k ⟨hk,hI⟩=>⟨fun hlt => ?_,fun hge => ?_⟩
 ·have hlt:=of_decide_eq_true hlt
  have ek:(lvD (W.cpus.length:Int)).toNat - k=((lvD (W.cpus.length:Int)).toNat - (k+1))+1:=by omega
  rw [ek] at hI
  have nxt:plN W c ((lvD (W.cpus.length:Int)).toNat - (k+1)) (k+1)=zle W c→((k+1:Nat):Int)≤lvD (W.cpus.length:Int)∧plN W c ((lvD (W.cpus.length:Int)).toNat - (k+1)) (k+1)=zle W c:=fun hp=>⟨by omega,hp⟩
  refine ⟨_,z2m h wp c0 c1,fun g=>⟨⟨by omega,by omega⟩,zai (by omega) (nxt ?_)⟩,fun g => ?_⟩
  ·rw [←hI,z7x (of_decide_eq_true g)]
  ·have g:¬zd1 W c (k:Int)<0:=of_decide_eq_false g
   have hbr:=zade wp g
   refine ⟨p,_,zby,_,znu h wp hbr.1 hbr.2,h.some,_,_,_,h.tasks,?_⟩
   refine ze7 12 0 rfl (fun j=>j≤12∧zl0 W (zd1 W c (k:Int)) c (12 - j) j=zl0 W (zd1 W c (k:Int)) c 12 0) ⟨Nat.zero_le _,rfl⟩ fun j ⟨hj,hF⟩=>⟨fun hlt2 => ?_,fun hge2 => ?_⟩
   ·have hlt2:=of_decide_eq_true hlt2
    have hj12:j<12:=by omega
    rw [show 12 - j=(12 - (j+1))+1 by omega] at hF
    have r1:=zph wp c
    have r2:=zph wp (zd1 W c (k:Int))
    have r3:=zcp (tkk W (j:Int)).nice
    have miss:tskP W (zd1 W c (k:Int)) c j=false→j+1≤12∧zl0 W (zd1 W c (k:Int)) c (12 - (j+1)) (j+1)=zl0 W (zd1 W c (k:Int)) c 12 0:=fun g2=>⟨by omega,by rw [←hF,z3y g2]⟩
    refine ⟨h.rd.t.ix zbb (by omega) hlt2,_,_,_,_,_,_,_,_,_,h.rd.t j (by omega) hlt2,fun _ _=>⟨_,fun _=>zos h wp (by omega) hlt2 c0 c1,fun g2=>⟨⟨by omega,by omega⟩,zai hj12 (miss ?_)⟩,fun g2=>⟨_,zjx h (by omega) hlt2,fun _=>⟨by omega,by omega⟩,fun _=>⟨by omega,by omega⟩,fun g3 => ?_,fun g3=>⟨⟨by omega,by omega⟩,zai hj12 (miss ?_)⟩⟩⟩⟩
    ·have g2:(((tkk W (j:Int)).cpu != zd1 W c (k:Int))||(!zdr W (j:Int) c))=true:=g2
     unfold tskP
     rw [bne] at g2
     revert g2
     cases ((tkk W (j:Int)).cpu==zd1 W c (k:Int)) <;> cases zdr W (j:Int) c <;> simp
    ·have g2:(((tkk W (j:Int)).cpu != zd1 W c (k:Int))||(!zdr W (j:Int) c))=false:=g2
     have hp:tskP W (zd1 W c (k:Int)) c j=true:=by
      unfold tskP
      rw [bne] at g2
      rw [show fitD W (j:Int) (zd1 W c (k:Int)) c=true from g3]
      revert g2
      cases ((tkk W (j:Int)).cpu==zd1 W c (k:Int)) <;> cases zdr W (j:Int) c <;> simp
     rw [z88 hp] at hF
     have e:zle W c=(j:Int):=by rw [←hI,z7y g (by rw [←hF]; omega),←hF]
     rw [e]
     unfold zalk
     rw [if_neg (by omega:¬(j:Int)<0)]
    ·unfold tskP
     rw [show fitD W (j:Int) (zd1 W c (k:Int)) c=false from g3,Bool.and_false]
   ·have hge2:=of_decide_eq_false hge2
    have:j=12:=by omega
    subst this
    refine ⟨⟨by omega,by omega⟩,zai (by omega) (nxt ?_)⟩
    rw [←hI,z7w (by rw [←hF]; show (-1:Int)<0; decide)]
 ·have hge:=of_decide_eq_false hge
  have:(lvD (W.cpus.length:Int)).toNat - k=0:=by omega
  rw [this] at hI
  rw [←hI]; rfl
end
end Go.Proofs.YtajdcjidpolloaaGreatDoor
namespace Go.Proofs.YtajdcjidpolloaaGreatDoor
open Go.RowKit
set_option linter.unusedVariables false
set_option linter.unusedSimpArgs false
set_option maxRecDepth 10000
def allF (W:Wld) (g:Int) (j:Nat):Int:=insS W g (j:Int)
theorem zj5 (W:Wld) (g c:Int) (h:W.tasks.length=12):0≤insS W g c∧insS W g c≤240:=by
 have:=zj9 (z34 W g c) W.tasks.length
 unfold insS
 omega
def maxP (a b:Int):Int:=if a>b then a else b
def ziz (W:Wld) (g c:Int):Int :=
 if sumF (allF W g) W.cpus.length=0 then (gi W.groups g).weight else maxP 1 (Int.tdiv ((gi W.groups g).weight*insS W g c) (sumF (allF W g) W.cpus.length))
theorem zaj7 {a b:Int} (ha:0≤a) (ha2:a≤100000) (hb:0<b):InR .i64 (Int.tdiv a b):=by
 have h1:=Int.tdiv_nonneg ha (Int.le_of_lt hb)
 have h2:Int.tdiv a b≤a:=by rw [Int.tdiv_eq_ediv_of_nonneg ha]; exact Int.ediv_le_self _ ha
 exact ⟨by omega,by omega⟩
theorem z6w {a b:Int} {w:World} {bs:List Nat}:zab bs Tryz.prog zhm #[.int .i64 a,.int .i64 b] w (.int .i64 (maxP a b)):=zvh
section
variable {W:Wld} {m:MW} {w:World} {bs:List Nat} {p:Option Addr}
theorem z4l {g c:Int} (wp:TU W) (hu:zad W.groups g=true):0≤(gi W.groups g).weight*insS W g c∧(gi W.groups g).weight*insS W g c≤4800:=by
 have hw:=(wp.a.u hu).2.2
 have hi:=zj5 W g c wp.a.t
 have w1:=hw.w1
 have w2:=hw.w2
 refine ⟨Int.mul_nonneg (by omega) hi.1,?_⟩
 have:=Int.mul_le_mul w2 hi.2 hi.1 (show (0:Int)≤20 by decide)
 omega
theorem zr7 {g:Int} (wp:TU W) (k:Nat):0≤sumF (allF W g) k∧sumF (allF W g) k≤(k:Int)*240:=zj9 (fun j=>zj5 W g (j:Int) wp.a.t) k
theorem zzv {g c:Int} (h:RdW bs w W m) (wp:TU W) (hl:LenW W) (hu:zad W.groups g=true):zab bs Tryz.prog zjf #[.agg (encW W m).toArray,.int .i64 g,.int .i64 c] w (.int .i64 (ziz W g c)) :=
 z0r W.now m.cO W.cpus.length m.cC m.tO W.tasks.length m.tC m.gO W.groups.length m.gC g c fun wr hx=>by
  have h:=(h.ext hx).less (cs:=[]) (by simp)
  have hcl:=wp.a.c2
  obtain ⟨u1,u2,_⟩:=zac.1 hu
  intro _ _
  refine zmr W.cpus.length 0 rfl (fun x k=>k≤W.cpus.length∧x=sumF (allF W g) k) ⟨Nat.zero_le _,rfl⟩ fun x k ⟨hk,hx2⟩=>⟨fun hlt => ?_,fun hge=>⟨fun g2=>⟨h.g.ix u1 u2,_,(h.g.cells g u1 u2).get 3 _ rfl,?_⟩,fun g2 => ?_⟩⟩
  ·have hlt:=of_decide_eq_true hlt
   have hr:=zr7 (g:=g) wp k
   have hi:=zj5 W g (k:Int) wp.a.t
   exact ⟨_,zn3 h wp hl hu,⟨by omega,by omega⟩,⟨by omega,by omega⟩,zap (by omega) ⟨by omega,by simp only [sumF]; rw [hx2]; rfl⟩⟩
  ·have hge:=of_decide_eq_false hge
   have:k=W.cpus.length:=by omega
   subst this
   unfold ziz
   rw [if_pos (by rw [←hx2]; simpa using g2)]
  ·have hge:=of_decide_eq_false hge
   have:k=W.cpus.length:=by omega
   subst this
   have hr:=zr7 (g:=g) wp W.cpus.length
   have hp:=z4l (c:=c) wp hu
   have hne:x≠0:=by simpa using g2
   refine ⟨h.g.ix u1 u2,_,(h.g.cells g u1 u2).get 3 _ rfl,insS W g c,zn3 h wp hl hu,⟨by omega,by omega⟩,⟨hne,zaj7 hp.1 (by omega) (by omega)⟩,_,z6w,?_⟩
   unfold ziz
   rw [if_neg (by rw [←hx2]; exact hne),hx2]
theorem zve (f:Nat→Int) (n:Nat) {k:Nat} (hk:k<n):gi ((List.range n).map f) (k:Int)=f k:=by
 rw [zd9 (by simpa using hk)]; simp
theorem zajv (f:Nat→Int) (n:Nat):sumI ((List.range n).map f) n=sumF f n:=by
 have key:∀k:Nat,k≤n→sumI ((List.range n).map f) k=sumF f k:=fun k=>by
  induction k with
  | zero=>intro _; rfl
  | succ k ih =>
   intro hk
   simp only [sumI,sumF]
   rw [ih (by omega),zve f n (by omega)]
 exact key n (Nat.le_refl _)
theorem zagy (f:Nat→Int) (k:Nat):(List.range k).map f++[f k]=(List.range (k+1)).map f:=by
 rw [List.range_succ,List.map_append]; rfl
theorem z9j {g c:Int} (h:WPt bs w p W m) (wp:TU W) (hu:zad W.groups g=true) (c0:0≤c) (c1:c<(W.cpus.length:Int)):zab bs Tryz.prog zg9 #[.agg #[.pointer p,.int .i64 c],.int .i64 g] w (.int .i64 (ziz W g c)):=by
 refine zj1 fun wr0 hx0=>zt4 p c g (R:=fun v w'=>v = .int .i64 (ziz W g c)∧ExtX [] wr0 w') ?_
 have h:=(h.ext hx0).less (cs:=[]) (by simp)
 have hcl:=wp.a.c2
 obtain ⟨u1,u2,_⟩:=zac.1 hu
 intro b hb
 refine ⟨h.some,_,_,_,h.cpus,?_⟩
 refine ⟨fun vs w1=>∃(k:Nat) (o:Option Addr) (c':Nat),vs=[.slice o ((List.range k).map (allF W g)).length c',.int .i64 (k:Int)]∧k≤W.cpus.length∧Sc wr0 [b] w1∧Ob encI 1 ty_int wr0.heap.size [b] w1 o c' ((List.range k).map (allF W g)),zcv W.cpus.length 1,
  fun wr hx _=>⟨0,none,0,rfl,Nat.zero_le _,((Sc.start wr0).call0 hx |> fun s=>⟨s.ext,by simpa using hb⟩),⟨.inl ⟨rfl,rfl,rfl⟩,by simp [zau]⟩⟩,?_⟩
 rintro o1 L1 C1 x w1 hs1 ⟨k,o',c',he,hk,s1,hO⟩
 simp only [List.cons.injEq,Value.int.injEq,Value.slice.injEq,true_and,and_true] at he
 obtain ⟨⟨rfl,rfl,rfl⟩,rfl⟩:=he
 have hp:=h.sc s1
 refine ⟨fun hlt => ?_,fun hge => ?_⟩
 ·have hlt:=of_decide_eq_true hlt
  refine ⟨p,(k:Int),zby,insS W g (k:Int),zadw hp wp,fun b1 hb1 wr1 hx1 hs2 hcell => ?_⟩
  have s2:=s1.put hx1 hb1
  have hO2:=hO.put hx1 hb1
  obtain ⟨o2,c2,w2,hrun,hk2,hO3,hx2⟩:=hO2.app1 zbt ziw (x:=allF W g k) hs2 s2.ext.size hcell (oneI _) (by simp; omega) (by decide) zax #[false,false]
  have s3:=s2.call hx2 fun x hm=>(hO2.own.lt x hm).1
  rw [zagy] at hrun hO3
  exact ⟨_,_,_,w2,hrun,hk2,⟨by omega,by omega⟩,fun wr2 hx3 _=>⟨⟨k+1,o2,c2,by simp,by omega,(s3.step hx3).sub (by simp),(hO3.step hx3).sub (by simp)⟩,zin (k:=k) rfl rfl (by omega)⟩⟩
 ·have hge:=of_decide_eq_false hge
  have:k=W.cpus.length:=by omega
  subst this
  have hr:=zr7 (g:=g) wp W.cpus.length
  have hpr:=z4l (c:=c) wp hu
  have hlen:((List.range W.cpus.length).map (allF W g)).length=W.cpus.length:=by simp
  have htot:sumI ((List.range W.cpus.length).map (allF W g)) ((List.range W.cpus.length).map (allF W g)).length=sumF (allF W g) W.cpus.length:=by rw [hlen,zajv]
  have hgi:gi ((List.range W.cpus.length).map (allF W g)) c=insS W g c:=by
   have:=zve (allF W g) W.cpus.length (k:=c.toNat) (by omega)
   rw [show ((c.toNat:Nat):Int)=c by omega] at this
   rw [this]; unfold allF
   rw [show ((c.toNat:Nat):Int)=c by omega]
  have hc':c<(((List.range W.cpus.length).map (allF W g)).length:Int):=by rw [hlen]; exact c1
  have hci:=(hO.rd zbt.len) c c0 hc'
  rw [hgi] at hci
  refine ⟨h.some,_,_,_,hp.groups,h.rd.g.ix u1 u2,_,(hp.rd.g.cells g u1 u2).get 3 _ rfl,_,zou (hO.rd zbt.len) (by rw [hlen]; omega) (fun x hm => ?_),fun g2 wr3 hx3=>⟨?_,(s1.step hx3).ext⟩,fun g2=>⟨hO.own.ix c0 hc',insS W g c,hci,⟨by omega,by omega⟩,?_,fun wr4 hx4=>⟨?_,(s1.step hx4).ext⟩⟩⟩
  ·obtain ⟨j,_,rfl⟩:=List.mem_map.1 hm
   have:=zj5 W g (j:Int) wp.a.t
   unfold allF
   omega
  ·rw [htot] at g2
   unfold ziz
   rw [if_pos (by simpa using g2)]
  ·rw [htot] at g2 ⊢
   have hne:sumF (allF W g) W.cpus.length≠0:=by simpa using g2
   exact ⟨hne,zaj7 hpr.1 (by omega) (by omega)⟩
  ·rw [htot] at g2 ⊢
   have hne:sumF (allF W g) W.cpus.length≠0:=by simpa using g2
   unfold ziz
   rw [if_neg hne]
   congr 1
   unfold maxP
   split <;> split <;> omega
end
end Go.Proofs.YtajdcjidpolloaaGreatDoor
namespace Go.Proofs.YtajdcjidpolloaaGreatDoor
open Go.RowKit
set_option linter.unusedVariables false
set_option linter.unusedSimpArgs false
set_option maxRecDepth 10000
theorem zaio {gs:List Grp} (ht:zei gs) {g:Int}:∀h:Int,zad gs h=true→g∈zgq gs h→insD 3 gs g h=true :=
 zxj ht (fun hx=>by rw [show zgq gs 0=[] from zdl _ _] at hx; cases hx) fun h hu hz ih hx=>by
  by_cases e:h=g
  ·subst e; simp [insD]
  ·rw [zzo ht hu hz e]
   rw [zgb ht hu hz] at hx
   rcases List.mem_cons.1 hx with e2 | e2
   ·exact absurd e2.symm e
   ·exact ih e2
theorem zalt (W:Wld) (g c x:Int):Sta W (weiW W g c x):=by
 unfold weiW
 split
 ·exact Sta.refl _
 ·split
  ·exact (zacx _ _ _ _).trans (zag9 _ _)
  ·exact zacx _ _ _ _
theorem Pre.wei {W:Wld} (p:Pre W) {g c x:Int} (hu:zad W.groups g=true) (hz:g≠0) (c0:0≤c) (c1:c<(W.cpus.length:Int)):Pre (weiW W g c x):=by
 obtain ⟨u0,u1,_⟩:=zac.1 hu
 have hl:=p.a.gl
 have hsl:=p.a.sl hu
 have c1':c<((gi W.groups g).shelves.length:Int):=by omega
 have e:∀{i j:Int},0≤i→0≤j→shf (weiV W g c x) i j=if g=i∧c=j then weiS W g c x else shf W i j:=fun hi hj=>zi0 u0 u1 c0 c1' hi hj
 have hT:zdo W.groups (weiV W g c x).groups:=zdq u0 u1
 have ef:∀{i j:Int},0≤i→0≤j→(shf (weiV W g c x) i j).floor=(shf W i j).floor:=fun {i j} hi hj=>by
  rw [e hi hj]; split
  ·rename_i h; obtain ⟨rfl,rfl⟩:=h; rfl
  ·rfl
 have hpu:=p.a.up hu hz
 have p0:=(zac.1 hpu).1
 have same:∀{i j:Int},zad W.groups i=true→i≠0→0≤j→¬(g=i∧c=j)→stnd W i j→stnd (weiV W g c x) i j:=fun {i j} iu iz j0 hn h=>by
  unfold stnd at h ⊢
  rw [hT.p,ef (zac.1 (p.a.up iu iz)).1 j0,e (zac.1 iu).1 j0,if_neg hn]
  exact h
 have hA:PreA (weiV W g c x):=by
  refine ⟨p.a.setSh u0 (by omega),fun t t0 t1 => ?_,fun t t0 t1 n=>p.l t t0 t1 n,fun i j iu j0 j1 => ?_⟩
  ·rcases p.t t t0 t1 with h | ⟨n,h⟩
   ·exact .inl h
   ·exact .inr ⟨n,h.st,by rw [hT.usd]; exact h.g,h.n,h.m,h.m0,h.s,h.u,h.l1,h.l2,fun h1=>by
     show (shf (weiV W g c x) (tkk W t).group (tkk W t).cpu).floor≤(tkk W t).v∧(tkk W t).v - (shf (weiV W g c x) (tkk W t).group (tkk W t).cpu).floor≤_
     rw [ef (zac.1 h.g).1 (p.l t t0 t1 n).1]; exact h.f h1⟩
  ·rw [hT.usd] at iu
   have hs:=p.s i j iu j0 j1
   have i0:=(zac.1 iu).1
   by_cases h:g=i∧c=j
   ·obtain ⟨rfl,rfl⟩:=h
    refine ⟨by rw [e i0 j0,if_pos ⟨rfl,rfl⟩]; exact hs.s,fun h0=>absurd h0 hz,fun _ ho => ?_⟩
    rw [e i0 j0,if_pos ⟨rfl,rfl⟩] at ho
    have ho:(shf W g c).on=true:=ho
    unfold stnd
    rw [hT.p,ef p0 j0,e i0 j0,if_pos ⟨rfl,rfl⟩]
    simp only [weiS]
    rw [if_pos ho]
    have:=zdi ((shf W g c).v - (shf W (gi W.groups g).parent c).floor) x
    omega
   ·refine ⟨by rw [e i0 j0,if_neg h]; exact hs.s,by rw [e i0 j0,if_neg h]; exact hs.root,fun iz ho => ?_⟩
    rw [e i0 j0,if_neg h] at ho
    exact same iu iz j0 h (hs.st iz ho)
 have hC:∀d:Int,0≤d→d<(W.cpus.length:Int)→(d=c→weiE (weiV W g c x) g c=false)→PreC (weiV W g c x) d:=fun d d0 d1 hd=>by
  have h:=p.c d d0 d1
  refine ⟨h.b,h.i,h.c1,h.c2,h.no,h.yes,fun h0 h1 h2 => ?_⟩
  obtain ⟨q1,q2⟩:=h.q h0 h1 h2
  have hcu:zad W.groups (tkk W (gi W.cpus d).cur).group=true:=by
   rcases p.t _ h0 h.c2 with hz | ⟨_,hx⟩
   ·have h1:(tkk W (gi W.cpus d).cur).state=1:=h1
    have h3:(tkk W (gi W.cpus d).cur).state=0:=hz.1
    rw [h3] at h1; cases h1
   ·exact hx.g
  refine ⟨by show (tkk W (gi W.cpus d).cur).v - (shf (weiV W g c x) (tkk W (gi W.cpus d).cur).group d).floor≤_; rw [ef (zac.1 hcu).1 d0]; exact q1,fun y hy => ?_⟩
  have hy:y∈zgq W.groups (tkk W (gi W.cpus d).cur).group:=by rw [←zrk hT]; exact hy
  obtain ⟨yu,yz⟩:=zuw p.a.tree _ hcu y hy
  have y0:=(zac.1 yu).1
  have hn:¬(g=y∧c=d):=by
   rintro ⟨rfl,rfl⟩
   have h3:=hd rfl
   unfold weiE at h3
   have h4:=zaio (hT.tree p.a.tree) (g:=g) (tkk W (gi W.cpus c).cur).group (by rw [hT.usd]; exact hcu) (by rw [zrk hT]; exact hy)
   rw [show (gi (weiV W g c x).cpus c).cur=(gi W.cpus c).cur from rfl,decide_eq_true (show (gi W.cpus c).cur≥0 from h0),Bool.true_and] at h3
   rw [show (tkk (weiV W g c x) (gi W.cpus c).cur).group=(tkk W (gi W.cpus c).cur).group from rfl,h4] at h3
   cases h3
  obtain ⟨s1,s2⟩:=q2 y hy
  refine ⟨same yu yz d0 hn s1,?_⟩
  rw [hT.p,ef (zac.1 (p.a.up yu yz)).1 d0,e y0 d0,if_neg hn]
  exact s2
 unfold weiW
 split
 ·exact p
 ·split
  ·refine ⟨hA.endW c0 c1,fun d d0 d1 => ?_⟩
   have hlen:(Go.Proofs.YtajdcjidpolloaaGreatDoor.endW (weiV W g c x) c).cpus.length=W.cpus.length:=List.length_set
   have hcp:gi (Go.Proofs.YtajdcjidpolloaaGreatDoor.endW (weiV W g c x) c).cpus d=if c=d then endC (gi W.cpus c) else gi W.cpus d:=zci _ _ c0 c1 d0
   rw [hlen] at d1
   by_cases ed:c=d
   ·subst ed
    have h:=p.c c c0 c1
    rw [if_pos rfl] at hcp
    have n1:(endC (gi W.cpus c)).cur = -1:=rfl
    exact ⟨by rw [hcp]; exact h.b,by rw [hcp]; exact h.i,by rw [hcp,n1]; exact Int.le_refl _,by rw [hcp,n1]; decide,fun _=>by rw [hcp]; rfl,fun h=>by rw [hcp,n1] at h; omega,fun h=>by rw [hcp,n1] at h; omega⟩
   ·have h:=hC d d0 d1 fun hd=>absurd hd.symm ed
    rw [if_neg ed] at hcp
    exact ⟨by rw [hcp]; exact h.b,by rw [hcp]; exact h.i,by rw [hcp]; exact h.c1,by rw [hcp]; exact h.c2,by rw [hcp]; exact h.no,by rw [hcp]; exact h.yes,by rw [hcp]; exact h.q⟩
  ·rename_i he
   exact ⟨hA,fun d d0 d1=>hC d d0 d1 fun _=>by simpa using he⟩
theorem SW.tu {K:Int} {W:Wld} (h:SW K W):TU W:=⟨h.a,fun t0 t1 hs=>h.li t0 t1 hs⟩
theorem zahc {f:Nat→Int} (h:∀j,0≤f j):∀m:Nat,0≤sumF f m
 | 0=>Int.le_refl _
 | m+1=>by
  have ih:=zahc h m
  have:=h m
  simp only [sumF]
  omega
theorem zahb {f:Nat→Int} (h:∀j,0≤f j) {k:Nat}:∀n:Nat,k<n→f k≤sumF f n
 | 0,hk=>absurd hk (Nat.not_lt_zero k)
 | n+1,hk=>by
  simp only [sumF]
  have hn:=zahc h
  by_cases e:k=n
  ·subst e; have:=hn k; omega
  ·have:=zahb h (k:=k) n (by omega)
   have:=h n
   omega
theorem zabv {W:Wld} (wp:TU W) {g c:Int} (hu:zad W.groups g=true) (c0:0≤c) (c1:c<(W.cpus.length:Int)):1≤ziz W g c∧ziz W g c≤(gi W.groups g).weight:=by
 have hg:=(wp.a.u hu).2.2
 have w1:=hg.w1
 have hi:=zj5 W g c wp.a.t
 have hall:insS W g c≤sumF (allF W g) W.cpus.length:=by
  have:=zahb (f:=allF W g) (fun j=>(zj5 W g (j:Int) wp.a.t).1) (k:=c.toNat) W.cpus.length (by omega)
  unfold allF at this
  rwa [show ((c.toNat:Nat):Int)=c by omega] at this
 unfold ziz
 split
 ·omega
 ·rename_i hn
  have hp:0<sumF (allF W g) W.cpus.length:=by
   have:=(zr7 (g:=g) wp W.cpus.length).1
   omega
  have hq:Int.tdiv ((gi W.groups g).weight*insS W g c) (sumF (allF W g) W.cpus.length)≤(gi W.groups g).weight:=by
   rw [Int.tdiv_eq_ediv_of_nonneg (Int.mul_nonneg (by omega) hi.1)]
   refine Int.ediv_le_of_le_mul hp ?_
   exact Int.mul_le_mul_of_nonneg_left hall (by omega)
  unfold maxP
  split <;> omega
theorem zacu {W:Wld} (wp:TU W) {g c:Int} (hu:zad W.groups g=true) (c0:0≤c) (c1:c<(W.cpus.length:Int)):1≤ziz W g c∧ziz W g c≤20:=by
 have h:=zabv wp hu c0 c1
 have:=(wp.a.u hu).2.2.w2
 omega
def balN (W:Wld) (c:Int):Nat→Wld
 | 0=>W
 | k+1=>if k≠0∧(gi (balN W c k).groups (k:Int)).used=true then weiW (balN W c k) (k:Int) c (ziz (balN W c k) (k:Int) c) else balN W c k
def balS (W:Wld) (c:Int):Wld:=zce (balN W c 8)
noncomputable def balP (W:Wld) (c:Int):Int:=zle (balS W c) c
noncomputable def balW (W:Wld) (c:Int):Wld:=if balP W c<0 then balS W c else zce (putW (balS W c) (balP W c) (tkk (balS W c) (balP W c)).group c)
noncomputable abbrev balB (W:Wld) (c:Int):Int:=cpuB W c true 0
structure zal5 (W V:Wld):Prop where
 sf:SF zbu (zbu+lagB) V
 fr:Fr W V
 cu:CurU V
 pre:Pre V
 sta:Sta W V
theorem z5y {W:Wld} (wp:WldP W) (hr:z79 W) {c:Int} (c0:0≤c) (c1:c<(W.cpus.length:Int)):∀k:Nat,k≤8→zal5 W (balN W c k)
 | 0,_=>⟨zank (zanj wp hr),Fr.refl _,zakw wp,zamw wp,Sta.refl _⟩
 | k+1,hk=>by
  have ih:=z5y wp hr c0 c1 k (by omega)
  simp only [balN]
  split
  ·rename_i h
   have hl:=ih.sf.w.a.gl
   have hu:zad (balN W c k).groups (k:Int)=true:=zac.2 ⟨by omega,by omega,h.2⟩
   have c1':c<((balN W c k).cpus.length:Int):=by rw [ih.fr.c]; exact c1
   have hs:=zacu ih.sf.w.tu hu c0 c1'
   obtain ⟨a,b,d⟩:=zal3 ih.sf (Int.le_refl _) ih.cu hu (by omega) c0 c1' hs.1 hs.2
   exact ⟨a,ih.fr.trans b,d,ih.pre.wei hu (by omega) c0 c1',ih.sta.trans (zalt _ _ _ _)⟩
  ·exact ih
theorem z5z {W:Wld} {c:Int} (hW:zcq W=true) (hb:balB W c=0):0≤c∧c<(W.cpus.length:Int)∧zal5 W (balN W c 8)∧WldP (balS W c)∧SW (zbu+lagB+stlB) (balS W c)∧Fr W (balS W c):=by
 obtain ⟨h1,_,_,h4⟩:=zae2 hb
 have wp:=zb9.1 hW
 obtain ⟨c0,c1⟩:=zaa6 h1
 have hB:=z5y wp (zb9.1 h4) c0 c1 8 (Nat.le_refl _)
 have hs:=znc hB.sf.w (by simp only [lagB]; decide)
 exact ⟨c0,c1,hB,(zaei hB.sf.w (by simp only [lagB]; decide) (by simp only [lagB,stlB]; decide) hB.pre (hB.sta.loc hB.fr.t (zamn wp))).1,hs.1,hB.fr.trans hs.2⟩
theorem z3z {W:Wld} {b c:Int}:∀f j:Nat,0≤zl0 W b c f j→∃i:Nat,zl0 W b c f j=(i:Int)∧j≤i∧i<j+f∧tskP W b c i=true
 | 0,j,h=>by
  have:(0:Int)≤-1:=h
  omega
 | f+1,j,h=>by
  simp only [zl0] at h ⊢
  split
  ·rename_i hp
   exact ⟨j,rfl,Nat.le_refl _,by omega,hp⟩
  ·rename_i hp
   rw [if_neg hp] at h
   obtain ⟨i,a,b',c',d⟩:=z3z f (j+1) h
   exact ⟨i,a,by omega,by omega,d⟩
theorem zagx {W:Wld} {c:Int} (h:¬zle W c<0):∃(i:Nat) (b:Int),zle W c=(i:Int)∧i<12∧tskP W b c i=true:=by
 have key:∀f k:Nat,0≤plN W c f k→∃(i:Nat) (b:Int),plN W c f k=(i:Int)∧i<12∧tskP W b c i=true:=fun f=>by
  induction f with
  | zero=>intro k h; have:(0:Int)≤-1:=h; omega
  | succ f ih =>
   intro k h
   by_cases h0:zd1 W c (k:Int)<0
   ·rw [z7x h0] at h ⊢; exact ih _ h
   ·by_cases h1:zl0 W (zd1 W c (k:Int)) c 12 0<0
    ·rw [z7w h1] at h ⊢; exact ih _ h
    ·rw [z7y h0 h1] at h ⊢
     obtain ⟨i,a,_,b,d⟩:=z3z 12 0 h
     exact ⟨i,_,a,by omega,d⟩
 exact key _ _ (by have:=zaec W c; unfold zle at *; omega)
theorem zall {W:Wld} {c:Int} (h:¬zle W c<0):0≤zle W c∧zle W c<12∧(tkk W (zle W c)).state=1:=by
 obtain ⟨i,b,e,hi,hp⟩:=zagx h
 unfold tskP at hp
 simp only [Bool.and_eq_true] at hp
 rw [e]
 exact ⟨by omega,by omega,(zy0 hp.1.2).1⟩
theorem zale {W V:Wld} (hl:LenW W) (ha:WA V) (hT:zdo W.groups V.groups):LenW V:=by
 have h1:=ha.c2
 have h2:=ha.t
 have h3:=ha.gl
 have hm:=zbh
 have hn1:=ha.n1
 have hn2:=ha.n2
 refine ⟨by omega,by omega,by omega,fun i a b => ?_⟩
 have hb:=zr8 ha a (by omega)
 have hg:=ha.grp i a (by omega)
 refine ⟨by rw [hT.n]; exact (hl.f i a (by rw [←hT.len]; exact b)).nm,?_,by omega,by omega,by omega⟩
 cases hu:(gi V.groups i).used with
 | false=>rw [(hg.1 hu).ne]; exact ⟨by decide,by decide⟩
 | true =>
  have hg:=hg.2 hu
  by_cases hq:(gi V.groups i).band.quota=0
  ·rw [(hg.none hq).2.2]; exact ⟨by decide,by decide⟩
  ·have:=hg.band hq
   exact ⟨by omega,by omega⟩
theorem zaay {W:Wld} {c:Int} (hW:zcq W=true) (hb:balB W c=0) (hp:¬balP W c<0):0≤balP W c∧balP W c<12∧(tkk (balS W c) (balP W c)).state=1∧zad (balS W c).groups (tkk (balS W c) (balP W c)).group=true∧SF (zbu+lagB+stlB) (zbu+lagB+stlB+lagB) (balS W c) ∧
  SF (zbu+lagB+stlB) (zbu+lagB+stlB+lagB) (putW (balS W c) (balP W c) (tkk (balS W c) (balP W c)).group c):=by
 obtain ⟨c0,c1,_,wp,sw,fr⟩:=z5z hW hb
 obtain ⟨p0,p1,ps⟩:=zall hp
 have sf:SF (zbu+lagB+stlB) (zbu+lagB+stlB+lagB) (balS W c):=sw.sf.mono (Int.le_refl _) (by simp only [lagB]; omega)
 have hu:=(sw.t _ p0 p1 (show (tkk (balS W c) (balP W c)).state≠0 by unfold balP; rw [ps]; decide)).1
 exact ⟨p0,p1,ps,hu,sf,(zaln sf (Int.le_refl _) p0 p1 hu c0 (by rw [fr.c]; exact c1)).2⟩
theorem zamz {W:Wld} {c:Int} (sm:SmW W) (hW:zcq W=true) (hb:balB W c=0):SmW (balW W c):=by
 obtain ⟨c0,c1,hB,wp,sw,fr⟩:=z5z hW hb
 unfold balW
 split
 ·exact zam0 sm wp.a fr.g
 ·rename_i hp
  obtain ⟨_,_,_,_,_,sf⟩:=zaay hW hb hp
  refine zam1 sm sf.w (by simp only [lagB,stlB]; decide) ?_
  have h4:=(zakg (balS W c) (balP W c) (tkk (balS W c) (balP W c)).group c).2.2.2
  rw [h4]
  exact fr.g
section
variable {base pb:Nat} {W W':Wld} {m:MW} {w:World}
set_option maxHeartbeats 1000000 in
theorem zue {c:Int} (h:RdW [] w W m) (hl:LenW W) :
  Calls Tryz.prog zhh #[.agg (encW W m).toArray,.int .i64 c] w fun e w'=>∃v,e = .returned v∧AnsW (ansD W (balB W c) (balW W c)) w v w':=by
 refine zt7 W.now m.cO W.cpus.length m.cC m.tO W.tasks.length m.tC m.gO W.groups.length m.gC c (R:=fun v w'=>AnsW (ansD W (balB W c) (balW W c)) w v w') ?_
 intro y hy y1 hy1 wr hx2 hs2
 have hm0:=zdk
 have hlc:=hl.c
 refine Calls.mono (zzu (h.ext hx2) hl) ?_
 rintro e wv (⟨hW,he,hy2⟩ | ⟨hW,m',he,hM,hy2⟩)
 ·exact ⟨_,_,_,_,_,_,_,_,_,_,_,he,za9 hy2 hs2,fun g=>by simp at g,true,fun g=>by simp at g,fun _ wr1 hx3=>AnsW.bad hW ((hx2.trans hy2).fresh hx3 fun z hm=>.inl (z71 hy hy1 z hm)),fun g=>by simp at g⟩
 have hK:=Wk.begin hy hy1 hx2 hs2 hM hy2
 have hr:=hK.rd
 have wp:=zb9.1 hW
 refine ⟨_,_,_,_,_,_,_,_,_,_,_,he,za9 hy2 hs2,fun _=>⟨by omega,by omega⟩,zy1 W c,fun _=>zar,fun g wr1 hx3 => ?_,fun g => ?_⟩
 ·have g:zy1 W c=false:=by
   cases hc:zy1 W c with
   | false=>rfl
   | true=>rw [hc] at g; split at g <;> simp at g
  have hb:balB W c=1:=by unfold balB cpuB; rw [if_pos g]
  exact AnsW.no hW (by rw [hb]; decide) (hK.step hx3) hb
 have g:zy1 W c=true:=by
  cases hc:zy1 W c with
  | true=>rfl
  | false=>rw [hc] at g; simp at g
 obtain ⟨c0,c1⟩:=zaa6 g
 refine ⟨hr.c.ix zf2 c0 c1,_,hr.c.f c0 c1 (j:=0) rfl,fun g2 wr2 hx3 => ?_,fun g2=>⟨fun g3 wr3 hx3 => ?_,fun g3 => ?_⟩⟩
 ·have g2:(gi W.cpus c).up=false:=by simpa using g2
  have hb:balB W c=6:=by unfold balB cpuB; rw [if_neg (by rw [g]; decide),if_pos (by rw [g2]; decide)]
  exact AnsW.no hW (by rw [hb]; decide) (hK.step hx3) hb
 ·have g2:(gi W.cpus c).up=true:=by simpa using g2
  have hr0:¬zs5 W=true:=fun hr=>by rw [if_pos hr] at g3; simp at g3
  have hb:balB W c=10:=by unfold balB; rw [z53 g g2 rfl,if_pos (by simpa using hr0)]
  rw [if_neg hr0]
  exact AnsW.no hW (by rw [hb]; decide) (hK.step hx3) hb
 have g2:(gi W.cpus c).up=true:=by simpa using g2
 have hr0:zs5 W=true:=Decidable.byContradiction fun hr=>by rw [if_neg hr] at g3; simp at g3
 have hb:balB W c=0:=by unfold balB; rw [z53 g g2 rfl,if_neg (by rw [hr0]; decide)]
 obtain ⟨_,_,hB8,wpS,swS,frS⟩:=z5z hW hb
 refine ⟨fun vs w1=>∃k:Nat,vs = .int .i64 (k:Int)::encW W m'∧1≤k∧k≤8∧Wk 8 [y,y1] w w1 (balN W c k) m',zcv 8 0,fun w1 hx0 _=>⟨1,rfl,by decide,by decide,hK.step hx0⟩,?_⟩
 rintro g1 l l1O l1L l1C l2O l2L l2C l3O l3L l3C wv2 hs3 ⟨k,he2,hk1,hk8,hKk⟩
 have hOk:=z5y wp (zb9.1 hr0) c0 c1 k hk8
 have e0:encW (balN W c k) m'=encW W m':=zfr hOk.fr
 have hdef:balN W c (k+1)=if k≠0∧(gi (balN W c k).groups (k:Int)).used=true then weiW (balN W c k) (k:Int) c (ziz (balN W c k) (k:Int) c) else balN W c k:=rfl
 have hgl:=hOk.sf.w.a.gl
 have hWgl:=wp.a.gl
 simp only [encW,List.cons.injEq,Value.int.injEq,Value.slice.injEq,true_and,and_true] at he2
 obtain ⟨rfl,rfl,⟨rfl,rfl,rfl⟩,⟨rfl,rfl,rfl⟩,rfl,rfl,rfl⟩:=he2
 refine ⟨fun hlt => ?_,fun hge wr10 hx10 hs10 => ?_⟩
 ·have hlt:=of_decide_eq_true hlt
  have hrk:=hKk.rd
  have hix:=hrk.g.ix (i:=(k:Int)) (by omega) (by omega)
  rw [hgl] at hix
  rw [hWgl] at hlt ⊢
  refine ⟨hix,_,zav ((hrk.g.cells (k:Int) (by omega) (by omega)).get 0 _ rfl),fun gu => ?_,fun gu=>⟨⟨by omega,by omega⟩,fun wr9 hx9 _=>⟨⟨k+1,by rw [←hWgl]; rfl,by omega,by omega,?_⟩,?_⟩⟩⟩
  ·have hu:zad (balN W c k).groups (k:Int)=true:=zac.2 ⟨by omega,by omega,gu⟩
   have c1':c<((balN W c k).cpus.length:Int):=by rw [hOk.fr.c]; exact c1
   have hsh:=zacu hOk.sf.w.tu hu c0 c1'
   have hshare:=zzv (c:=c) hrk hOk.sf.w.tu (zale hl hOk.sf.w.a hOk.fr.g) hu
   rw [e0] at hshare
   simp only [encW] at hshare
   rw [hWgl] at hshare
   refine ⟨_,hshare,fun wr7 hx7 hs7 => ?_⟩
   have hK7:=hKk.step hx7
   have hcall:=zwt hK7.own hOk.sf (Int.le_refl _) (by simp only [lagB]; decide) hOk.cu (x:=ziz (balN W c k) (k:Int) c) hu (by omega) c0 c1'
   rw [e0] at hcall
   simp only [encW] at hcall
   rw [hWgl] at hcall
   refine Calls.mono hcall ?_
   rintro e1 wv3 ⟨he1,hy3⟩
   refine ⟨_,_,_,_,_,_,_,_,_,_,he1,hK7.kept hy3 hs7,⟨by omega,by omega⟩,fun wr8 hx8 _=>⟨⟨k+1,by rw [←hWgl]; rfl,by omega,by omega,?_⟩,?_⟩⟩
   ·rw [hdef,if_pos ⟨by omega,gu⟩]
    exact (hK7.deed hy3 hs7).step hx8
   ·simp only [zcv,cntM,zcw,List.getElem?_cons_zero]; omega
  ·rw [hdef,if_neg (by rintro ⟨_,h⟩; rw [show (gi (balN W c k).groups (k:Int)).used=false from gu] at h; cases h)]
   exact hKk.step hx9
  ·simp only [zcv,cntM,zcw,List.getElem?_cons_zero]; omega
 ·have hge:=of_decide_eq_false hge
  have:k=8:=by omega
  subst this
  have hK10:=hKk.step hx10
  have hcall:=zoy hK10.own hB8.sf.w (by simp only [lagB]; decide) (by simp only [lagB]; decide) hK10.base
  rw [e0] at hcall
  refine Calls.mono hcall ?_
  rintro e3 wv5 ⟨m2,he3,hy5⟩
  have hK11:Wk 8 [y,y1] w wv5 (balS W c) m2:=hK10.deed hy5 hs10
  have hr11:=hK11.rd
  have hpull:=z2t hr11 wpS c0 (by rw [frS.c]; exact c1)
  refine ⟨_,_,_,_,_,_,_,_,_,_,he3,hK10.kept hy5 hs10,_,hpull,fun g5 => ?_,fun g5 wr14 hx14 => ?_⟩
  ·have g5:¬balP W c<0:=by have:=of_decide_eq_true g5; unfold balP; omega
   obtain ⟨p0,p1,ps,hu,sf,sfP⟩:=zaay hW hb g5
   have htl:=wpS.a.t
   refine ⟨hr11.t.ix zbb p0 (by rw [htl]; exact p1),_,hr11.t.f p0 (by rw [htl]; exact p1) (j:=1) rfl,fun wr11 hx11 hs11 => ?_⟩
   have hK12:=hK11.step hx11
   refine Calls.mono (z6v hK12.own sf (Int.le_refl _) (by simp only [lagB,stlB]; decide) (t:=balP W c) (g:=(tkk (balS W c) (balP W c)).group) (c:=c) p0 p1 (by rw [ps]; decide) hu c0 (by rw [frS.c]; exact c1)) ?_
   rintro e4 wv6 ⟨he4,hy6⟩
   refine ⟨_,_,_,_,_,_,_,_,_,_,he4,hK12.kept hy6 hs11,fun wr12 hx12 hs12 => ?_⟩
   have hK13:=(hK12.deed hy6 hs11).step hx12
   have ePut:encW (putW (balS W c) (balP W c) (tkk (balS W c) (balP W c)).group c) m2=encW (balS W c) m2:=by
    obtain ⟨q1,q2,q3,q4⟩:=zakg (balS W c) (balP W c) (tkk (balS W c) (balP W c)).group c
    simp only [encW,q1,q2,q3,q4]
   have hcall2:=zoy hK13.own sfP.w (by simp only [lagB,stlB]; decide) (by simp only [lagB,stlB]; decide) hK13.base
   rw [ePut] at hcall2
   refine Calls.mono hcall2 ?_
   rintro e5 wv7 ⟨m3,he5,hy7⟩
   refine ⟨_,_,_,_,_,_,_,_,_,_,he5,hK13.kept hy7 hs12,fun wr13 hx13 => ?_⟩
   have hE:balW W c=zce (putW (balS W c) (balP W c) (tkk (balS W c) (balP W c)).group c):=by unfold balW; rw [if_neg g5]
   rw [hE]
   exact AnsW.ok hW hb ((hK13.deed hy7 hs12).step hx13)
  ·have g5:balP W c<0:=by have:=of_decide_eq_false g5; unfold balP; omega
   have hE:balW W c=balS W c:=by unfold balW; rw [if_pos g5]
   rw [hE]
   exact AnsW.ok hW hb (hK11.step hx14)
theorem zaic {w w':World} {cap:Option Addr} {v:Value} {bs:List Nat} (h:zaa [] w cap 0 [v]) (h':zaa [] w' cap 0 [v]) (hb:∀x∈bs,w.heap.size≤x):zaa bs w' cap 0 [v]:=by
 obtain ⟨a,ha,_,hc⟩:=h.get 0 _ rfl
 obtain ⟨a',ha',_,hc'⟩:=h'.get 0 _ rfl
 rw [ha] at ha'
 cases ha'
 refine zav ⟨a,ha,fun hm => ?_,hc'⟩
 have h1:=World.block_lt_of_cell? w _ hc
 rw [zcu] at h1
 have:=hb _ hm
 omega
set_option maxHeartbeats 1000000 in
theorem z2j {cap:Option Addr} {c:Int} (h:PW base pb w W m) (hl:LenW W) (hW:zcq W=true) (hb:balB W c=0) (hcap:∀w' W' m',Mp base pb [] w m w' W' m'→zaa [] w' cap 0 [.int .i64 c]) :
  Calls Tryz.prog zds #[.pointer (pA pb),.agg #[.pointer (pA pb),.int .i64 c],.pointer cap] w fun e w2=>e = .returned (.tuple #[])∧∃m2,Done base pb [] w m w2 (balW W c) m2:=by
 refine (zq3 (pA pb) (pA pb) c cap (R:=fun v w2=>v = .tuple #[]∧∃m2,Done base pb [] w m w2 (balW W c) m2) ?_).mono fun e w' ⟨v,he,hv,h3⟩=>⟨by rw [he,hv],h3⟩
 intro b hbb
 obtain ⟨c0,c1,hB8,wpS,swS,frS⟩:=z5z hW hb
 have wp:=zb9.1 hW
 have hr0:=(zae2 hb).2.2.2
 have hM:=Mp.start h
 have hMb:Mp base pb [b] w m w W m:=hM.add hbb
 refine zd6 8 1 rfl (fun k w2=>1≤k∧k≤8∧Mp base pb [b] w m w2 (balN W c k) m) (fun w2 hx2 _=>⟨by decide,by decide,hMb.call0 hx2⟩) fun k w2 hs2 ⟨hk1,hk8,hMk⟩ => ?_
 have hOk:=z5y wp (zb9.1 hr0) c0 c1 k hk8
 have hdef:balN W c (k+1)=if k≠0∧(gi (balN W c k).groups (k:Int)).used=true then weiW (balN W c k) (k:Int) c (ziz (balN W c k) (k:Int) c) else balN W c k:=rfl
 have hgl:=hOk.sf.w.a.gl
 have hpk:=hMk.wpt
 refine ⟨fun hlt => ?_,fun hge wr4 hx4 hs4 => ?_⟩
 ·have hlt:=of_decide_eq_true hlt
  refine ⟨hpk.some,_,_,_,hpk.groups,hpk.rd.g.ix (by omega) (by omega),_,zav ((hpk.rd.g.cells (k:Int) (by omega) (by omega)).get 0 _ rfl),fun gu => ?_,fun gu=>⟨⟨by omega,by omega⟩,fun wr3 hx3 _=>zae (by omega) ⟨by omega,by omega,?_⟩⟩⟩
  ·have hu:zad (balN W c k).groups (k:Int)=true:=zac.2 ⟨by omega,by omega,gu⟩
   have c1':c<((balN W c k).cpus.length:Int):=by rw [hOk.fr.c]; exact c1
   refine ⟨_,z9j hpk hOk.sf.w.tu hu c0 c1',fun wr1 hx1 hs1 => ?_⟩
   have hM1:=hMk.step hx1
   refine Calls.mono (z6r hM1.pw hOk.sf (Int.le_refl _) (by simp only [lagB]; decide) hOk.cu (x:=ziz (balN W c k) (k:Int) c) hu (by omega) c0 c1') ?_
   rintro e wv ⟨he,hy⟩
   refine ⟨he,hM1.kept hy hs1,⟨by omega,by omega⟩,fun wr2 hx2 _=>zae (by omega) ⟨by omega,by omega,?_⟩⟩
   rw [hdef,if_pos ⟨by omega,gu⟩]
   exact (hM1.call hy hs1).step hx2
  ·rw [hdef,if_neg (by rintro ⟨_,h⟩; rw [show (gi (balN W c k).groups (k:Int)).used=false from gu] at h; cases h)]
   exact hMk.step hx3
 ·have hge:=of_decide_eq_false hge
  have:k=8:=by omega
  subst this
  have hM4:=hMk.step hx4
  refine Calls.mono (zsm hM4.pw hB8.sf.w (by simp only [lagB]; decide) (by simp only [lagB]; decide)) ?_
  rintro e1 wv3 ⟨he1,hy3⟩
  have hM5:Mp base pb [b] w m wv3 (balS W c) m:=hM4.call hy3 hs4
  have hp5:=hM5.wpt
  have htl:=wpS.a.t
  refine ⟨he1,hM4.kept hy3 hs4,_,_,zabk hp5 wpS c0 (by rw [frS.c]; exact c1),fun g5 => ?_,fun g5 wr8 hx8=>⟨rfl,m,?_⟩⟩
  ·have g5 : ¬ balP W c < 0 := by have:¬zle (balS W c) c<0:=by simpa using g5
                                  exact this
   obtain ⟨p0,p1,ps,hu,sf,sfP⟩:=zaay hW hb g5
   have eA:zagw (zle (balS W c) c)=balP W c:=by unfold zagw; rw [if_neg (show ¬zle (balS W c) c<0 from g5)]; rfl
   rw [eA]
   refine ⟨hp5.some,_,_,_,hp5.tasks,hp5.rd.t.ix zbb p0 (by rw [htl]; exact p1),_,hp5.rd.t.f p0 (by rw [htl]; exact p1) (j:=1) rfl,c,zaic (hcap _ _ _ hM) (hcap _ _ _ hM5.close) (fun x hx=>(by simpa using hx:x=b)▸hbb),fun wr5 hx5 hs5 => ?_⟩
   have hM6:=hM5.step hx5
   refine Calls.mono (zadx hM6.pw sf (Int.le_refl _) (by simp only [lagB,stlB]; decide) (t:=balP W c) (g:=(tkk (balS W c) (balP W c)).group) (c:=c) p0 p1 (by rw [ps]; decide) hu c0 (by rw [frS.c]; exact c1)) ?_
   rintro e2 wv4 ⟨he2,hy4⟩
   refine ⟨he2,hM6.kept hy4 hs5,fun wr6 hx6 hs6 => ?_⟩
   have hM7:=(hM6.call hy4 hs5).step hx6
   refine Calls.mono (zsm hM7.pw sfP.w (by simp only [lagB,stlB]; decide) (by simp only [lagB,stlB]; decide)) ?_
   rintro e3 wv5 ⟨he3,hy5⟩
   refine ⟨he3,hM7.kept hy5 hs6,fun wr7 hx7=>⟨rfl,m,?_⟩⟩
   have hE:balW W c=zce (putW (balS W c) (balP W c) (tkk (balS W c) (balP W c)).group c):=by unfold balW; rw [if_neg g5]
   rw [hE]
   exact ((hM7.call hy5 hs6).step hx7).close.done
  ·have g5 : balP W c < 0 := by have:zle (balS W c) c<0:=by simpa using g5
                                exact this
   have hE:balW W c=balS W c:=by unfold balW; rw [if_pos g5]
   rw [hE]
   exact (hM5.step hx8).close.done
theorem zm9 {c:Int} (h:RdW [] w W m) (hl:LenW W) (hg:ztf w) :
  Calls Tryz.prog ze0 #[.agg (encW W m).toArray,.int .i64 c] w fun e w'=>∃v,e = .returned v∧AnsW (ansD W (balB W c) (balW W c)) w v w':=by
 refine zt2 W.now m.cO W.cpus.length m.cC m.tO W.tasks.length m.tC m.gO W.groups.length m.gC c (R:=fun v w'=>AnsW (ansD W (balB W c) (balW W c)) w v w') ?_
 intro x hx b1 wb hxw hb1 hc1 hn1 b2 hb2
 refine ⟨c,zkj hc1 hn1 (k0:=0) rfl,fun wr hx1 hs => ?_⟩
 have hX:ExtX [] w wr:=hxw.fresh hx1 fun y hy=>.inl (zz3 hy hx)
 have hc2:=zan hc1 hx1 hn1
 refine Calls.mono (z9f (up:=true) (last:=0) (W':=balW W c) (c:=c) (h.ext hX) hl (hg.ext hX) (fun base pb w1 m1 hW hP=>.inl ⟨zha,_,rfl,(zafy (bs:=[]) w1 (ExtX.refl _ _)).mono fun e w2 ⟨he,hx⟩=>⟨.inr ⟨rfl,he⟩,hx⟩⟩)
  fun base pb w1 m1 hW hb hx3 hbs hpb hP=>.inl ⟨zds,_,rfl,z2j hP hl hW hb fun w9 W9 m9 hM9=>zkj (zaks hP (Nat.lt_of_lt_of_le (zjn hc2) hbs) hpb (zan hc2 hx3 (by simp)) hM9) (by simp) (k0:=0) rfl⟩) ?_
 rintro e wv ⟨v,he,n',m',hv,hM,hy⟩
 subst hv
 refine ⟨_,_,_,_,_,_,_,_,_,_,_,he,za9 hy hs,fun wr1 hx4=>⟨n',m',rfl,(hM.ext hx4 fun y hy hm => ?_).mono hX.size,(hX.trans hy).fresh hx4 fun y hm => ?_⟩⟩
 ·have:=(hM.lt y hy).1
  have:=hs y hm
  omega
 ·simp only [List.mem_cons,List.not_mem_nil,or_false] at hm
  rcases hm with rfl | rfl
  ·exact .inl hx
  ·exact .inl (Nat.le_trans hxw.size hb2)
end
end Go.Proofs.YtajdcjidpolloaaGreatDoor
