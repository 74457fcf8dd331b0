/- Part 17 of what the law FnYield needs: the engine, the functions' propositions, the contracts. -/
import Derived.Test.YtnclplgaicdapaaGreatDoorFnYieldPp
import Derived.Shelf.Abstract
namespace Go.Proofs.YtnclplgaicdapaaGreatDoor
open Go.RowKit
set_option linter.unusedVariables false
set_option linter.unusedSimpArgs false
set_option maxRecDepth 10000
set_option maxHeartbeats 8000000
def zuz(W:Q7)(a b:Int):Bool:=decide (HH W a>HH W b)
def Po(W:Q7)(c m:Int):Nat->Int
 | 0 => -1
 | k+1=>if ((Z8 m (k:Int)&&zlk W (k:Int) c)&&(decide (Po W c m k<0)||zuz W (k:Int) (Po W c m k)))=true then (k:Int) else Po W c m k
theorem znz{W:Q7}{c m:Int}{k:Nat}(h:((Z8 m (k:Int)&&zlk W (k:Int) c)&&(decide (Po W c m k<0)||zuz W (k:Int) (Po W c m k)))=true):Po W c m (k+1)=(k:Int):=if_pos h
theorem zjx{W:Q7}{c m:Int}{k:Nat}(h:¬((Z8 m (k:Int)&&zlk W (k:Int) c)&&(decide (Po W c m k<0)||zuz W (k:Int) (Po W c m k)))=true):Po W c m (k+1)=Po W c m k:=if_neg h
theorem zqw{p:Nat->Bool}{n:Nat}(h:p n=false):VC p (n+1)=VC p n:=by simp[VC,h]
theorem Nw(W:Q7)(c m:Int):∀k:Nat,-1<=Po W c m k/\Po W c m k<k
 | 0=>by simp[Po]
 | k+1=>by
  have:=Nw W c m k;simp only[Po]
  split <;> omega
noncomputable def Tn(W:Q7)(c lv:Int):Int:=Po W c (zvv (W.cpus.length:Int) c lv) W.cpus.length
theorem ztg{W:Q7}(wp:Xs W){b c:Int}(h:zlk W b c=true):0<=b/\b<(W.cpus.length:Int)/\b≠c:=by
 obtain⟨t,ht,hp⟩:=G2.1 h;simp only[Bool.and_eq_true,beq_iff_eq] at hp;obtain⟨h1,h2⟩:=ER hp.2;have:=wp.li (t:=(t:Int)) (by omega) (by have:=wp.a.t; omega) h1;rw[hp.1] at this h2;exact⟨this.2.1,this.2.2,h2⟩
section
variable {W:Q7}{m:MW}{w:Wo}{bs:List Nat}{p:OA}
theorem HB{s c:Int}(h:YZ bs w W m)(wp:Xs W)(c0:0<=c)(c1:c<(W.cpus.length:Int)):PX bs UF #[.agg (Qa W m).toArray,.int .i64 s,.int .i64 c] w (.int .i64 (Po W c s W.cpus.length)):=
 HS W.now m.cO W.cpus.length m.cC m.tO W.tasks.length m.tC m.gO W.groups.length m.gC s c fun wr hx=>by
  have h:=(h.ext hx).less (cs:=[]) (by simp);have h4:=wp.a.c2;have htl:=wp.a.t;intro _ _;refine Tx W.cpus.length 0 rfl (fun x k=>k<=W.cpus.length/\x=Po W c s k) ⟨Nat.zero_le _,rfl⟩ fun x k ⟨hk,hx2⟩=>⟨fun hlt=>?_,fun hge=>?_⟩
  ·subst hx2;have hlt:=Ot hlt;have hr:=Nw W c s k;refine⟨_,fun _=>ZM,_,fun _ _=>Vn h wp,_,fun _ _=>Vn h wp,fun g=>?_,fun g=>?_⟩
   ·refine⟨⟨by omega,by omega⟩,QA (by omega) ⟨by omega,?_⟩⟩;rw[zjx];intro hc;simp only[Bool.and_eq_true] at hc;have hne:=(ztg wp hc.1.2).2.2;rw[beq_eq_false_iff_ne.2 hne,hc.1.1] at g;simp only[Bool.not_true,Bool.or_self,Bool.false_or,Bool.and_eq_true,decide_eq_true_eq] at g;unfold zuz at hc;simp only[Bool.or_eq_true,decide_eq_true_eq] at hc;omega
   ·simp only[Bool.or_eq_false_iff,Bool.not_eq_false'] at g;obtain⟨⟨g1,g2⟩,g3⟩:=g
    have hb:(decide (Po W c s k<0)||zuz W (k:Int) (Po W c s k))=true:=by
     unfold zuz;simp only[Bool.or_eq_true,decide_eq_true_eq];simp only[Bool.and_eq_false_iff,decide_eq_false_iff_not] at g3;omega
    refine Tx 12 0 rfl (fun y j=>j<=12/\y=if VC (fun t=>((Q8 W (t:Int)).cpu==(k:Int))&&JV W (t:Int) c) j=true then (k:Int) else Po W c s k) ⟨Nat.zero_le _,rfl⟩ fun y j ⟨hj,hy⟩=>⟨fun hlt2=>?_,fun hge2=>?_⟩
    ·have hlt2:=Ot hlt2;have hj12:j<12:=by omega
     refine⟨h.t.ix QI (by omega) hlt2,_,h.t.f (by omega) hlt2 (j:=2) rfl,_,fun _=>MI h wp (by omega) hlt2 c0 c1,fun g4=>?_,fun g4=>?_⟩
     ·have g4:(((Q8 W (j:Int)).cpu==(k:Int))&&JV W (j:Int) c)=true:=g4;refine⟨⟨by omega,by omega⟩,QA hj12 ⟨by omega,?_⟩⟩;rw[if_pos];simp only[VC,Bool.or_eq_true];exact .inr g4
     ·have g4:(((Q8 W (j:Int)).cpu==(k:Int))&&JV W (j:Int) c)=false:=g4;refine⟨⟨by omega,by omega⟩,QA hj12 ⟨by omega,?_⟩⟩;rw[hy,zqw (p:=fun t=>((Q8 W (t:Int)).cpu==(k:Int))&&JV W (t:Int) c) g4]
    ·have hge2:=Ou hge2;have:j=12:=by omega
     subst this;refine⟨⟨by omega,by omega⟩,QA (by omega) ⟨by omega,?_⟩⟩;rw[hy];show (if zlk W (k:Int) c=true then (k:Int) else Po W c s k)=_
     cases ha:zlk W (k:Int) c with
     | true=>rw[znz (by rw[g2,ha,hb]; rfl),if_pos rfl]
     | false=>rw[zjx (by rw[ha]; simp),if_neg (by decide)]
  ·have hge:=Ou hge;have:k=W.cpus.length:=by omega
   subst this;rw[hx2]
end
theorem ze2(cs:List OY){c:Int}(c0:0<=c):∀k:Nat,k<=4->c<(k:Int)->(gi cs c).up=true->Z8 (Uc cs k) c=true
 | 0,_,h,_=>by omega
 | k+1,hk,h,hu=>by
  have hl:=L8 cs k (by omega)
  have hb:Jq k<=8:=by
   have:k=0\/k=1\/k=2\/k=3:=by omega
   rcases this with rfl | rfl | rfl | rfl <;> decide
  have key:=zf1 ⟨k,by omega⟩ ⟨(Uc cs k).toNat,by omega⟩ ⟨c.toNat,by omega⟩;rw[show ((⟨(Uc cs k).toNat,by omega⟩:Fin 8).val:Int)=Uc cs k by show (((Uc cs k).toNat:Nat):Int)=Uc cs k; omega,show ((⟨c.toNat,by omega⟩:Fin 4).val:Int)=c by show ((c.toNat:Nat):Int)=c; omega] at key;simp only[Uc]
  by_cases e:c=(k:Int)
  ·subst e;rw[if_pos hu,key hl.2];simp
  ·have ih:=ze2 cs c0 k (by omega) (by omega) hu;split
   ·rw[key hl.2,ih]; simp
   ·exact ih
theorem EL{cs:List OY}(h4:cs.length<=4){c:Int}(c0:0<=c)(c1:c<(cs.length:Int))(hu:(gi cs c).up=true):J2 cs≠0:=fun e=>by
 have h:=ze2 cs c0 cs.length h4 c1 hu;rw[show Uc cs cs.length=0 from e] at h;have hr:=ON h;have:c=0\/c=1\/c=2\/c=3:=by omega
 rcases this with rfl | rfl | rfl | rfl <;> exact absurd h (by decide)
theorem zo4{m c:Int}(c0:0<=c)(c4:c<4)(h:Z8 m c=true)(hn:∀j:Int,0<=j->j<4->j≠c->Z8 m j=false):Gl m 4=1:=by
 have h0:=hn 0 (by decide) (by decide);have h1:=hn 1 (by decide) (by decide);have h2:=hn 2 (by decide) (by decide);have h3:=hn 3 (by decide) (by decide);have i0:((0:Nat):Int)=0:=rfl;have i1:((1:Nat):Int)=1:=rfl;have i2:((2:Nat):Int)=2:=rfl;have i3:((3:Nat):Int)=3:=rfl;have:c=0\/c=1\/c=2\/c=3:=by omega
 simp only[Gl,i0,i1,i2,i3];rcases this with rfl | rfl | rfl | rfl
 ·have e1:=h1 (by decide); have e2:=h2 (by decide); have e3:=h3 (by decide); simp[h,e1,e2,e3]
 ·have e1:=h0 (by decide); have e2:=h2 (by decide); have e3:=h3 (by decide); simp[h,e1,e2,e3]
 ·have e1:=h0 (by decide); have e2:=h1 (by decide); have e3:=h3 (by decide); simp[h,e1,e2,e3]
 ·have e1:=h0 (by decide); have e2:=h1 (by decide); have e3:=h2 (by decide); simp[h,e1,e2,e3]
theorem zm7{cs:List OY}(h4:cs.length<=4){c:Int}(c0:0<=c)(c1:c<(cs.length:Int))(hu:(gi cs c).up=true)(hn:Gl (J2 cs) 4≠1):∃j:Int,0<=j/\j<(cs.length:Int)/\j≠c/\(gi cs j).up=true:=by
 refine Classical.byContradiction fun hne=>hn (zo4 c0 (by omega) (ze2 cs c0 cs.length h4 c1 hu) fun j j0 j4 hj=>?_)
 cases h:Z8 (J2 cs) j with
 | false=>rfl
 | true=>
  obtain⟨a,b⟩:=ze1 cs (c:=j) cs.length h4 h;exact absurd ⟨j,j0,a,hj,b⟩ hne
theorem SW.setCp{K:Int}{W:Q7}(h:SW K W){c:Int}(c0:0<=c)(c1:c<(W.cpus.length:Int)){x:OY}(hu:J2 (W.cpus.set c.toNat x)≠0)(h1 : -1<=x.cur)(h2:x.cur<12):SW K (setCp W c x):=by
 have hl:(W.cpus.set c.toNat x).length=W.cpus.length:=List.length_set;have hg:∀d:Int,0<=d->gi (W.cpus.set c.toNat x) d=if c=d then x else gi W.cpus d:=fun d d0=>Qw _ _ c0 c1 d0
 refine⟨h.a.cp hl hu,fun t a b n=>?_,h.tv,fun k d u a b=>?_,fun d a b=>?_⟩
 ·show _/\_/\_<(((W.cpus.set c.toNat x).length:Nat):Int);rw[hl];exact h.t t a b n
 ·have b:d<(((W.cpus.set c.toNat x).length:Nat):Int):=b;rw[hl] at b;exact h.s k d u a b
 ·have b:d<(((W.cpus.set c.toNat x).length:Nat):Int):=b;rw[hl] at b;show _<=(gi (W.cpus.set c.toNat x) d).cur/\(gi (W.cpus.set c.toNat x) d).cur<12;rw[hg _ a];split
  ·exact⟨h1,h2⟩
  ·exact h.cu d a b
noncomputable def Uu(W:Q7)(c:Int)(up:Bool)(last:Int):Int:=if YJ W c=false then 1 else if (gi W.cpus c).up≠up then 6 else if last≠0 then last else if QK W=false then 10 else 0
theorem zdi{W:Q7}{c:Int}{up:Bool}{last:Int}(h:Uu W c up last=0):YJ W c=true/\(gi W.cpus c).up=up/\last=0/\QK W=true:=by
 unfold Uu at h
 split at h
 ·cases h
 ·rename_i h1
  split at h
  ·cases h
  ·rename_i h2
   split at h
   ·rename_i h3; exact absurd h h3
   ·rename_i h3
    split at h
    ·cases h
    ·rename_i h4;exact⟨by simpa using h1,by simpa using h2,by omega,by simpa using h4⟩
theorem KQ{W:Q7}{c:Int}{up:Bool}{last:Int}(h1:YJ W c=true)(h2:(gi W.cpus c).up=up)(h3:last=0):Uu W c up last=if QK W=false then 10 else 0:=by
 unfold Uu;rw[if_neg (by rw[h1]; decide),if_neg (by simpa using h2),if_neg (by simpa using h3)]
def MM(x:OY)(b:Bool):OY:={ x with up:=b }
def zvn(W:Q7)(c:Int):Q7:=Qg (Lu (setCp W c (MM (gi W.cpus c) true)))
def Kx(W:Q7):Int:=if Gl (J2 W.cpus) 4=1 then 5 else 0
def zph(W:Q7)(c:Int):Q7:=Qg (Lu (endW (setCp W c (MM (gi W.cpus c) false)) c))
theorem zs9{W:Q7}{c:Int}(hW:Qv W=true)(hb:Uu W c false 0=0):0<=c/\c<(W.cpus.length:Int)/\SF Qp (Qp+Qk) W/\SF Qp (Qp+Qk) (setCp W c (MM (gi W.cpus c) true)):=by
 obtain⟨h1,h2,_,h4⟩:=zdi hb;have wp:=Qh.1 hW;have sw:=OT wp (Qh.1 h4);obtain⟨c0,c1⟩:=JG h1;have hcu:=sw.cu c c0 c1;have hl:(W.cpus.set c.toNat (MM (gi W.cpus c) true)).length=W.cpus.length:=List.length_set;have hc2:=wp.a.c2;exact⟨c0,c1,M3 sw,M3 (sw.setCp c0 c1 (x:=MM (gi W.cpus c) true) (EL (by omega) c0 (by omega) (by rw[Qw _ _ c0 c1 c0,if_pos rfl]; rfl)) hcu.1 hcu.2)⟩
theorem zpi{W:Q7}{c:Int}(hW:Qv W=true)(hb:Uu W c true (Kx W)=0):0<=c/\c<(W.cpus.length:Int)/\SF Qp (Qp+Qk) W/\SF Qp (Qp+Qk) (setCp W c (MM (gi W.cpus c) false)):=by
 obtain⟨h1,h2,h3,h4⟩:=zdi hb;have wp:=Qh.1 hW;have sw:=OT wp (Qh.1 h4);obtain⟨c0,c1⟩:=JG h1;have hcu:=sw.cu c c0 c1;have hl:(W.cpus.set c.toNat (MM (gi W.cpus c) false)).length=W.cpus.length:=List.length_set;have hc2:=wp.a.c2;have hn:Gl (J2 W.cpus) 4≠1:=fun e=>by unfold Kx at h3; rw[if_pos e] at h3; cases h3
 obtain⟨j,j0,j1,jc,hj⟩:=zm7 hc2 c0 c1 h2 hn;exact⟨c0,c1,M3 sw,M3 (sw.setCp c0 c1 (x:=MM (gi W.cpus c) false) (EL (by omega) j0 (by omega) (by rw[Qw _ _ c0 c1 j0,if_neg fun e=>jc e.symm]; exact hj)) hcu.1 hcu.2)⟩
theorem BK(W:Q7)(c:Int)(x:OY)(m:MW):Qa (setCp W c x) m=Qa W m:=by simp[Qa,setCp]
section
variable {W W':Q7}{m:MW}{w:Wo}
theorem zd5{c:Int}(h:YZ [] w W m)(hl:Xc W) :
  Cz Pq #[.agg (Qa W m).toArray,.int .i64 c] w fun e w'=>∃v,e=.returned v/\QG (YG W (Uu W c false 0) (zvn W c)) w v w':=by
 refine zdp W.now m.cO W.cpus.length m.cC m.tO W.tasks.length m.tC m.gO W.groups.length m.gC c (R:=fun v w'=>QG (YG W (Uu W c false 0) (zvn W c)) w v w') ?_;intro y hy y1 hy1 wr hx2 hs2;have hm9:=Zb;have hlc:=hl.c;refine Calls.mono (Z5 (h.ext hx2) hl) ?_;rintro e wv (⟨hW,he,hy2⟩ | ⟨hW,m',he,hM,hy2⟩)
 ·exact⟨_,_,_,_,_,_,_,_,_,_,_,he,Qd hy2 hs2,fun g=>by simp at g,true,fun g=>by simp at g,fun _ wr1 hx3=>QG.bad hW ((hx2.trans hy2).fresh hx3 fun z hm=>.inl (Yr hy hy1 z hm)),fun g=>by simp at g⟩
 have hK:=Wk.begin hy hy1 hx2 hs2 hM hy2;have hr:=hK.rd;have wp:=Qh.1 hW;have hm0:=Xa;refine⟨_,_,_,_,_,_,_,_,_,_,_,he,Qd hy2 hs2,fun _=>⟨by omega,by omega⟩,YJ W c,fun _=>Qj,fun g wr1 hx3=>?_,fun g=>?_⟩
 ·have g:YJ W c=false:=by
   cases hc:YJ W c with
   | false=>rfl
   | true=>rw[hc] at g; split at g <;> simp at g
  have hb:Uu W c false 0=1:=by unfold Uu; rw[if_pos g]
  exact QG.no hW (by rw[hb]; decide) (hK.step hx3) hb
 have g:YJ W c=true:=by
  cases hc:YJ W c with
  | true=>rfl
  | false=>rw[hc] at g; simp at g
 obtain⟨c0,c1⟩:=JG g;refine⟨hr.c.ix Zh c0 c1,_,hr.c.f c0 c1 (j:=0) rfl,fun g2 wr2 hx3=>?_,fun g2=>⟨fun g3 wr3 hx3=>?_,fun g3=>?_⟩⟩
 ·have hb:Uu W c false 0=6:=by unfold Uu; rw[if_neg (by rw[g]; decide),if_pos (by rw[g2]; decide)]
  exact QG.no hW (by rw[hb]; decide) (hK.step hx3) hb
 ·have hr0:¬QK W=true:=fun hr=>by rw[if_pos hr] at g3; simp at g3
  have hb:Uu W c false 0=10:=by rw[KQ g g2 rfl,if_pos (by simpa using hr0)]
  rw[if_neg hr0];exact QG.no hW (by rw[hb]; decide) (hK.step hx3) hb
 have hr0:QK W=true:=Decidable.byContradiction fun hr=>by rw[if_neg hr] at g3; simp at g3
 have hb:Uu W c false 0=0:=by rw[KQ g g2 rfl,if_neg (by rw[hr0]; decide)]
 obtain⟨_,_,_,sf⟩:=zs9 hW hb;have hset:Wk 8 [y,y1] w (sto wv m'.cO (Int.toNat c*5+0) [.bool true]) (setCp W c (MM (gi W.cpus c) true)) m':=hK.sto (hK.own.stoC c0 c1 (j:=0) (vs:=[.bool true]) (x:=MM (gi W.cpus c) true) rfl (by simp)) D4;refine⟨hr.c.ix Zh c0 c1,zhl hK.own hK.nb c0 c1 (by decide),fun wr4 hx4 hs4=>?_⟩;have e5:Qa (setCp W c (MM (gi W.cpus c) true)) m'=Qa W m':=BK _ _ _ _;have hE:zvn W c=Qg (Lu (setCp W c (MM (gi W.cpus c) true))):=rfl;rw[hE];generalize setCp W c (MM (gi W.cpus c) true)=V at hset sf e5;have hK4:=hset.step hx4;have hcall:=XR hK4.own sf (Int.le_refl _) (by simp only[Qk]; decide);rw[e5] at hcall;refine Calls.mono hcall ?_;rintro e1 wv1 ⟨he1,hy3⟩;refine⟨_,_,_,_,_,_,_,_,_,_,he1,hK4.kept hy3 hs4,fun wr5 hx5 hs5=>?_⟩;have hK5:=(hK4.deed hy3 hs4).step hx5;have hcall2:=Qq hK5.own (L3 sf (Int.le_refl _)).1.w (by simp only[Qk]; decide) (by simp only[Qk]; decide) hK5.base;rw[Hp sf (Int.le_refl _),e5] at hcall2;refine Calls.mono hcall2 ?_;rintro e2 wv2 ⟨m2,he2,hy4⟩;exact⟨_,_,_,_,_,_,_,_,_,_,he2,hK5.kept hy4 hs5,fun wr6 hx6=>QG.ok hW hb ((hK5.deed hy4 hs5).step hx6)⟩
theorem zaa{c:Int}(h:YZ [] w W m)(hl:Xc W) :
  Cz Ow #[.agg (Qa W m).toArray,.int .i64 c] w fun e w'=>∃v,e=.returned v/\QG (YG W (Uu W c true (Kx W)) (zph W c)) w v w':=by
 refine j9 W.now m.cO W.cpus.length m.cC m.tO W.tasks.length m.tC m.gO W.groups.length m.gC c (R:=fun v w'=>QG (YG W (Uu W c true (Kx W)) (zph W c)) w v w') ?_;intro y hy y1 hy1 wr hx2 hs2;have hm0:=Xa;have hlc:=hl.c;refine Calls.mono (Z5 (h.ext hx2) hl) ?_;rintro e wv (⟨hW,he,hy2⟩ | ⟨hW,m',he,hM,hy2⟩)
 ·exact⟨_,_,_,_,_,_,_,_,_,_,_,he,Qd hy2 hs2,fun g=>by simp at g,true,fun g=>by simp at g,fun _ wr1 hx3=>QG.bad hW ((hx2.trans hy2).fresh hx3 fun z hm=>.inl (Yr hy hy1 z hm)),fun g=>by simp at g⟩
 have hK:=Wk.begin hy hy1 hx2 hs2 hM hy2;have hr:=hK.rd;have wp:=Qh.1 hW;refine⟨_,_,_,_,_,_,_,_,_,_,_,he,Qd hy2 hs2,fun _=>⟨by omega,by omega⟩,YJ W c,fun _=>Qj,fun g wr1 hx3=>?_,fun g=>?_⟩
 ·have g:YJ W c=false:=by
   cases hc:YJ W c with
   | false=>rfl
   | true=>rw[hc] at g; split at g <;> simp at g
  have hb:Uu W c true (Kx W)=1:=by unfold Uu; rw[if_pos g]
  exact QG.no hW (by rw[hb]; decide) (hK.step hx3) hb
 have g:YJ W c=true:=by
  cases hc:YJ W c with
  | true=>rfl
  | false=>rw[hc] at g; simp at g
 obtain⟨c0,c1⟩:=JG g;refine⟨hr.c.ix Zh c0 c1,_,hr.c.f c0 c1 (j:=0) rfl,fun g2 wr2 hx3=>?_,fun g2=>⟨_,Mi hr wp.a.c2,_,E1,fun g3 wr3 hx3=>?_,fun g3=>⟨fun g4 wr4 hx3=>?_,fun g4=>?_⟩⟩⟩
 ·have g2:(gi W.cpus c).up=false:=by simpa using g2
  have hb:Uu W c true (Kx W)=6:=by unfold Uu; rw[if_neg (by rw[g]; decide),if_pos (by rw[g2]; decide)]
  exact QG.no hW (by rw[hb]; decide) (hK.step hx3) hb
 ·have g2:(gi W.cpus c).up=true:=by simpa using g2
  have hL:Kx W=5:=by unfold Kx; rw[if_pos (by simpa using g3)]
  have hb:Uu W c true (Kx W)=5:=by unfold Uu; rw[if_neg (by rw[g]; decide),if_neg (by rw[g2]; decide),hL,if_pos (by decide)]
  exact QG.no hW (by rw[hb]; decide) (hK.step hx3) hb
 ·have g2:(gi W.cpus c).up=true:=by simpa using g2
  have hL:Kx W=0:=by unfold Kx; rw[if_neg (by simpa using g3)]
  have hr0:¬QK W=true:=fun hr=>by rw[if_pos hr] at g4; simp at g4
  have hb:Uu W c true (Kx W)=10:=by rw[KQ g g2 hL,if_pos (by simpa using hr0)]
  rw[if_neg hr0];exact QG.no hW (by rw[hb]; decide) (hK.step hx3) hb
 have g2:(gi W.cpus c).up=true:=by simpa using g2
 have hL:Kx W=0:=by unfold Kx; rw[if_neg (by simpa using g3)]
 have hr0:QK W=true:=Decidable.byContradiction fun hr=>by rw[if_neg hr] at g4; simp at g4
 have hb:Uu W c true (Kx W)=0:=by rw[KQ g g2 hL,if_neg (by rw[hr0]; decide)]
 obtain⟨_,_,_,sf⟩:=zpi hW hb;have hset:Wk 8 [y,y1] w (sto wv m'.cO (Int.toNat c*5+0) [.bool false]) (setCp W c (MM (gi W.cpus c) false)) m':=hK.sto (hK.own.stoC c0 c1 (j:=0) (vs:=[.bool false]) (x:=MM (gi W.cpus c) false) rfl (by simp)) D4;refine⟨hr.c.ix Zh c0 c1,zhl hK.own hK.nb c0 c1 (by decide),fun wr5 hx5 hs5=>?_⟩;have e5:Qa (setCp W c (MM (gi W.cpus c) false)) m'=Qa W m':=BK _ _ _ _;have hlV:(setCp W c (MM (gi W.cpus c) false)).cpus.length=W.cpus.length:=by simp[setCp]
 have hE:zph W c=Qg (Lu (endW (setCp W c (MM (gi W.cpus c) false)) c)):=rfl;rw[hE];generalize setCp W c (MM (gi W.cpus c) false)=V at hset sf e5 hlV;have c1V:c<(V.cpus.length:Int):=by rw[hlV]; exact c1
 have hK4:=hset.step hx5;have hcall0:=Zp hK4.own c0 c1V;rw[e5] at hcall0;refine Calls.mono hcall0 ?_;rintro e0 wv0 ⟨he0,hy0⟩;refine⟨_,_,_,_,_,_,_,_,_,_,he0,hK4.kept hy0 hs5,fun wr6 hx6 hs6=>?_⟩;have sfE:=sf.endW c0 c1V;have hK6:=(hK4.deed hy0 hs5).step hx6;generalize endW V c=U at hK6 sfE;have hcall:=XR hK6.own sfE (Int.le_refl _) (by simp only[Qk]; decide);refine Calls.mono hcall ?_;rintro e1 wv1 ⟨he1,hy3⟩;refine⟨_,_,_,_,_,_,_,_,_,_,he1,hK6.kept hy3 hs6,fun wr7 hx7 hs7=>?_⟩;have hK7:=(hK6.deed hy3 hs6).step hx7;have hcall2:=Qq hK7.own (L3 sfE (Int.le_refl _)).1.w (by simp only[Qk]; decide) (by simp only[Qk]; decide) hK7.base;rw[Hp sfE (Int.le_refl _)] at hcall2;refine Calls.mono hcall2 ?_;rintro e2 wv2 ⟨m2,he2,hy4⟩;exact⟨_,_,_,_,_,_,_,_,_,_,he2,hK7.kept hy4 hs7,fun wr8 hx8=>QG.ok hW hb ((hK7.deed hy4 hs7).step hx8)⟩
end
noncomputable def Ph(W:Q7)(t:Int):Int:=if ZT W t=false then 2 else if (Q8 W t).state≠2 then 6 else if QK W=false then 10 else 0
def OX(W:Q7)(t:Int):Int:=if zgs W (Q8 W t).cpu>0 then P2 W (Qs W (Q8 W t).group (Q8 W t).mask) else (Q8 W t).cpu
def Vv(W:Q7)(t c:Int):P5:={ Py W t (Q8 W t).group c with state:=1 }
def F2(W:Q7)(t:Int):Q7:=Qg (endW (setTk W t (Vv W t (OX W t))) (OX W t))
theorem UR(W:Q7)(t:Int)(x:P5):(setTk W t x).tasks.length=W.tasks.length:=by simp[setTk]
theorem zkv{W:Q7}{t:Int}(h:(Q8 W t).state=2)(c:Int):UJ W t (Q8 W t).group c=setTk W t (Py W t (Q8 W t).group c):=by
 unfold UJ;rw[if_neg (by rw[h]; decide)]
theorem ze4{W:Q7}{t c:Int}(sf:SF Qp (Qp+Qk) W)(t0:0<=t)(t1:t<(W.tasks.length:Int))(n:(Q8 W t).state≠0)(c0:0<=c)(c1:c<(W.cpus.length:Int)):SF Qp (Qp+Qk) (setTk W t (Vv W t c)):=by
 have hl:=sf.w.a.t;have hu:=(sf.w.t t t0 (by omega) n).1;have hv:=zku sf (Int.le_refl _) (t:=t) hu c0 c1;exact sf.setTk t0 (by omega) (x:=Vv W t c) (fun _=>⟨hu,c0,c1⟩) hv.1 hv.2
theorem zle{W:Q7}{t:Int}(hW:Qv W=true)(hb:Ph W t=0):ZT W t=true/\(Q8 W t).state=2/\QK W=true/\SF Qp (Qp+Qk) W/\0<=OX W t/\OX W t<(W.cpus.length:Int):=by
 have wp:=Qh.1 hW;unfold Ph at hb
 split at hb
 ·cases hb
 ·rename_i h1
  split at hb
  ·cases hb
  ·rename_i h2
   split at hb
   ·cases hb
   ·rename_i h3;have h1:ZT W t=true:=by simpa using h1
    have h2:(Q8 W t).state=2:=by simpa using h2
    have h3:QK W=true:=by simpa using h3
    have sw:=OT wp (Qh.1 h3);obtain⟨t0,t1,n⟩:=YB h1;have hl:=wp.a.t;have hc:=sw.t t t0 (by omega) n;refine⟨h1,h2,h3,M3 sw,?_⟩;unfold OX;split
    ·have:=L1 wp.a (Q8 W t).group (Q8 W t).mask;exact⟨this.1,this.2.1⟩
    ·exact hc.2
section
variable {base pb:Nat}{W W':Q7}{m:MW}{w:Wo}
theorem B8{t:Int}(h:YZ [] w W m)(hl:Xc W) :
  Cz VU #[.agg (Qa W m).toArray,.int .i64 t] w fun e w'=>∃v,e=.returned v/\QG (YG W (Ph W t) (F2 W t)) w v w':=by
 refine FP W.now m.cO W.cpus.length m.cC m.tO W.tasks.length m.tC m.gO W.groups.length m.gC t (R:=fun v w'=>QG (YG W (Ph W t) (F2 W t)) w v w') ?_;intro y hy y1 hy1 wr hx2 hs2;refine Calls.mono (Z5 (h.ext hx2) hl) ?_;rintro e wv (⟨hW,he,hy2⟩ | ⟨hW,m',he,hM,hy2⟩)
 ·exact⟨_,_,_,_,_,_,_,_,_,_,_,he,Qd hy2 hs2,fun _ wr1 hx3=>QG.bad hW ((hx2.trans hy2).fresh hx3 fun z hm=>.inl (Yr hy hy1 z hm)),fun g=>by simp at g⟩
 have hK:=Wk.begin hy hy1 hx2 hs2 hM hy2;have hr:=hK.rd;have wp:=Qh.1 hW;refine⟨_,_,_,_,_,_,_,_,_,_,_,he,Qd hy2 hs2,fun g=>by split at g <;> simp at g,fun _=>⟨_,J5 hr hl.t,fun g wr2 hx3=>?_,fun g=>?_⟩⟩
 ·have g:ZT W t=false:=by simpa using g
  have hb:Ph W t=2:=by unfold Ph; rw[if_pos g]
  exact QG.no hW (by rw[hb]; decide) (hK.step hx3) hb
 have g:ZT W t=true:=by simpa using g
 obtain⟨t0,t1,tn⟩:=YB g;have htl:=wp.a.t;have hix:=hr.t.ix QI t0 t1;refine⟨hix,_,hr.t.f t0 t1 (j:=0) rfl,fun g2 wr3 hx3=>?_,fun g2=>⟨fun g3 wr4 hx3=>?_,fun g3=>?_⟩⟩
 ·have g2:(Q8 W t).state≠2:=by simpa[Q8] using g2
  have hb:Ph W t=6:=by unfold Ph; rw[if_neg (by rw[g]; decide),if_pos g2]
  exact QG.no hW (by rw[hb]; decide) (hK.step hx3) hb
 ·have g2:¬(Q8 W t).state≠2:=by simpa[Q8] using g2
  have hr0:¬QK W=true:=fun hr=>by rw[if_pos hr] at g3; simp at g3
  have hb:Ph W t=10:=by unfold Ph; rw[if_neg (by rw[g]; decide),if_neg g2,if_pos (by simpa using hr0)]
  rw[if_neg hr0];exact QG.no hW (by rw[hb]; decide) (hK.step hx3) hb
 have g2:¬(Q8 W t).state≠2:=by simpa[Q8] using g2
 have hr0:QK W=true:=Decidable.byContradiction fun hr=>by rw[if_neg hr] at g3; simp at g3
 have hb:Ph W t=0:=by unfold Ph; rw[if_neg (by rw[g]; decide),if_neg g2,if_neg (by rw[hr0]; decide)]
 have hs2':(Q8 W t).state=2:=by simpa using g2
 obtain⟨_,_,_,sf,_,_⟩:=zle hW hb;obtain⟨hu,c0,c1⟩:=sf.w.t t t0 (by omega) tn;refine⟨hix,_,hr.t.f t0 t1 (j:=2) rfl,_,TV hr htl,fun g4=>?_,fun g4=>?_⟩
 ·have g4:zgs W (Q8 W t).cpu>0:=Ot g4;have hC:OX W t=P2 W (Qs W (Q8 W t).group (Q8 W t).mask):=if_pos g4;obtain⟨d0,d1,_⟩:=L1 wp.a (Q8 W t).group (Q8 W t).mask;refine⟨hix,_,hr.t.f t0 t1 (j:=1) rfl,hix,_,hr.t.f t0 t1 (j:=4) rfl,_,XA hr wp.a.c2 wp.a.tree hu,_,MH hr wp.a (zoz wp),hix,_,hr.t.f t0 t1 (j:=1) rfl,fun wr5 hx5 hs5=>?_⟩;have hM4:=hK.step hx5;have hcall:=U7 hM4.own sf (Int.le_refl _) (by simp only[Qk]; decide) (t:=t) (g:=(Q8 W t).group) (c:=P2 W (Qs W (Q8 W t).group (Q8 W t).mask)) t0 (by omega) tn hu d0 d1;refine Calls.mono hcall ?_;rintro e1 wv1 ⟨he1,hy3⟩;rw[zkv hs2' (P2 W (Qs W (Q8 W t).group (Q8 W t).mask))] at hy3;have hK5:=hM4.deed hy3 hs5
  have hset:Wk 8 [y,y1] w (sto wv1 m'.tO (Int.toNat t*9+0) [.int .i64 1]) (setTk W t (Vv W t (P2 W (Qs W (Q8 W t).group (Q8 W t).mask)))) m':=by
   have:Wk 8 [y,y1] w (sto wv1 m'.tO (Int.toNat t*9+0) [.int .i64 1]) (setTk (setTk W t (Py W t (Q8 W t).group (P2 W (Qs W (Q8 W t).group (Q8 W t).mask)))) t (Vv W t (P2 W (Qs W (Q8 W t).group (Q8 W t).mask)))) m':=hK5.sto (hK5.own.stoT t0 (by rw[UR]; exact t1) (j:=0) (vs:=[.int .i64 1]) (x:=Vv W t (P2 W (Qs W (Q8 W t).group (Q8 W t).mask))) (by rw[show gi (setTk W t (Py W t (Q8 W t).group (P2 W (Qs W (Q8 W t).group (Q8 W t).mask)))).tasks t=_ from EJ t0 t1]; rfl) (by simp)) Lv
   rwa[set_set] at this
  have hixT:Ix m'.tO W.tasks.length t:=by
   have:=hK5.rd.t.ix QI t0 (by rw[UR]; exact t1)
   rwa[UR] at this
  refine⟨_,_,_,_,_,_,_,_,_,_,he1,hM4.kept hy3 hs5,hixT,ze9 hK5.own hK5.nb t0 (by rw[UR]; exact t1) (j:=0) (by decide),fun wr6 hx6 hs6=>?_⟩;have e5:Qa (setTk W t (Vv W t (P2 W (Qs W (Q8 W t).group (Q8 W t).mask)))) m'=Qa W m':=Hq _ _ _ _;have hE:F2 W t=Qg (endW (setTk W t (Vv W t (P2 W (Qs W (Q8 W t).group (Q8 W t).mask)))) (P2 W (Qs W (Q8 W t).group (Q8 W t).mask))):=by unfold F2; rw[hC]
  have sfV:=ze4 sf t0 t1 tn d0 d1;rw[hE];have hlV:(setTk W t (Vv W t (P2 W (Qs W (Q8 W t).group (Q8 W t).mask)))).cpus.length=W.cpus.length:=rfl;generalize setTk W t (Vv W t (P2 W (Qs W (Q8 W t).group (Q8 W t).mask)))=V at hset e5 sfV hlV;have hK6:=hset.step hx6;have hcall2:=Zp hK6.own d0 (by rw[hlV]; exact d1);rw[e5] at hcall2;refine Calls.mono hcall2 ?_;rintro e2 wv2 ⟨he2,hy4⟩;refine⟨_,_,_,_,_,_,_,_,_,_,he2,hK6.kept hy4 hs6,fun wr7 hx7 hs7=>?_⟩;have hK7:=(hK6.deed hy4 hs6).step hx7;have hcall3:=Qq hK7.own (sfV.endW d0 (by rw[hlV]; exact d1)).w (by simp only[Qk]; decide) (by simp only[Qk]; decide) hK7.base;refine Calls.mono hcall3 ?_;rintro e3 wv3 ⟨m2,he3,hy5⟩;exact⟨_,_,_,_,_,_,_,_,_,_,he3,hK7.kept hy5 hs7,fun wr8 hx8=>QG.ok hW hb ((hK7.deed hy5 hs7).step hx8)⟩
 ·have g4:¬zgs W (Q8 W t).cpu>0:=Ou g4;have hC:OX W t=(Q8 W t).cpu:=if_neg g4;have d0:=c0;have d1:=c1;refine⟨hix,_,hr.t.f t0 t1 (j:=1) rfl,fun wr5 hx5 hs5=>?_⟩;have hM4:=hK.step hx5;have hcall:=U7 hM4.own sf (Int.le_refl _) (by simp only[Qk]; decide) (t:=t) (g:=(Q8 W t).group) (c:=(Q8 W t).cpu) t0 (by omega) tn hu d0 d1;refine Calls.mono hcall ?_;rintro e1 wv1 ⟨he1,hy3⟩;rw[zkv hs2' ((Q8 W t).cpu)] at hy3;have hK5:=hM4.deed hy3 hs5
  have hset:Wk 8 [y,y1] w (sto wv1 m'.tO (Int.toNat t*9+0) [.int .i64 1]) (setTk W t (Vv W t ((Q8 W t).cpu))) m':=by
   have:Wk 8 [y,y1] w (sto wv1 m'.tO (Int.toNat t*9+0) [.int .i64 1]) (setTk (setTk W t (Py W t (Q8 W t).group ((Q8 W t).cpu))) t (Vv W t ((Q8 W t).cpu))) m':=hK5.sto (hK5.own.stoT t0 (by rw[UR]; exact t1) (j:=0) (vs:=[.int .i64 1]) (x:=Vv W t ((Q8 W t).cpu)) (by rw[show gi (setTk W t (Py W t (Q8 W t).group ((Q8 W t).cpu))).tasks t=_ from EJ t0 t1]; rfl) (by simp)) Lv
   rwa[set_set] at this
  have hixT:Ix m'.tO W.tasks.length t:=by
   have:=hK5.rd.t.ix QI t0 (by rw[UR]; exact t1)
   rwa[UR] at this
  refine⟨_,_,_,_,_,_,_,_,_,_,he1,hM4.kept hy3 hs5,hixT,ze9 hK5.own hK5.nb t0 (by rw[UR]; exact t1) (j:=0) (by decide),fun wr6 hx6 hs6=>?_⟩;have e5:Qa (setTk W t (Vv W t ((Q8 W t).cpu))) m'=Qa W m':=Hq _ _ _ _;have hE:F2 W t=Qg (endW (setTk W t (Vv W t ((Q8 W t).cpu))) ((Q8 W t).cpu)):=by unfold F2; rw[hC]
  have sfV:=ze4 sf t0 t1 tn d0 d1;rw[hE];have hlV:(setTk W t (Vv W t ((Q8 W t).cpu))).cpus.length=W.cpus.length:=rfl;generalize setTk W t (Vv W t ((Q8 W t).cpu))=V at hset e5 sfV hlV;have hK6:=hset.step hx6;have hcall2:=Zp hK6.own d0 (by rw[hlV]; exact d1);rw[e5] at hcall2;refine Calls.mono hcall2 ?_;rintro e2 wv2 ⟨he2,hy4⟩;refine⟨_,_,_,_,_,_,_,_,_,_,he2,hK6.kept hy4 hs6,fun wr7 hx7 hs7=>?_⟩;have hK7:=(hK6.deed hy4 hs6).step hx7;have hcall3:=Qq hK7.own (sfV.endW d0 (by rw[hlV]; exact d1)).w (by simp only[Qk]; decide) (by simp only[Qk]; decide) hK7.base;refine Calls.mono hcall3 ?_;rintro e3 wv3 ⟨m2,he3,hy5⟩;exact⟨_,_,_,_,_,_,_,_,_,_,he3,hK7.kept hy5 hs7,fun wr8 hx8=>QG.ok hW hb ((hK7.deed hy5 hs7).step hx8)⟩
end
theorem zcq{a b w:Int}(ha:0<=a)(hb:0<=b)(h:a+b<=100000000)(w1:1<=w)(w2:w<=20):Z3 (a+b) w=Z3 a w+Z3 b w:=by
 rw[TC (by omega) h w1 w2,TC ha (by omega) w1 w2,TC hb (by omega) w1 w2,Int.add_mul]
theorem zmd{l w:Int}(h0:0<=l)(h1:l<=Zq w):X3 l w=l:=by
 unfold X3;rw[if_neg (show ¬Zq w<l by omega)]
 split <;> omega
theorem PE{p q:Nat->Bool}:∀{n:Nat},(∀j,j<n->p j=q j)->VC p n=VC q n
 | 0,_=>rfl
 | n+1,h=>by simp only[VC]; rw[PE fun j hj=>h j (by omega),h n (by omega)]
theorem Pb{p q:Nat->Bool}{v u:Nat->Int}:∀{n:Nat},(∀j,j<n->p j=q j)->(∀j,j<n->p j=true->v j=u j)->QM p v n=QM q u n
 | 0,_,_=>rfl
 | n+1,h,hv=>by
  have ih:=Pb (p:=p) (q:=q) (v:=v) (u:=u) (n:=n) (fun j hj=>h j (by omega)) fun j hj=>hv j (by omega)
  simp only[QM];rw[ih,<-h n (by omega)]
  cases hp:p n with
  | false=>simp
  | true=>
   rw[hv n (by omega) hp];rcases Zf q u n with ⟨e,_⟩ | ⟨e0,e1,e2,_⟩
   ·rw[e]; simp
   ·rw[hv _ (by omega) (by rw[h _ (by omega)]; exact e2)]
theorem Yq{gs:List ZA}(ht:ZU gs):∀g:Int,Q6 gs g=true->∀x∈QX gs g,Q6 gs x=true/\x≠0:=
 OO ht (fun x hx=>by rw[show QX gs 0=[] from Zc _ _] at hx; cases hx) fun h hu hz ih x hx=>by
  rw[Yi ht hu hz] at hx;rcases List.mem_cons.1 hx with e | e
  ·subst e; exact⟨hu,hz⟩
  ·exact ih x e
def UM(W:Q7)(k c:Int):Prop:=(Qc W (gi W.groups k).parent c).floor<=(Qc W k c).v/\(Qc W k c).v-(Qc W (gi W.groups k).parent c).floor<=Zq (Qc W k c).w
structure GP (W:Q7) (x:P5):Prop where
 st:x.state=1\/x.state=2
 g:Q6 W.groups x.group=true
 n:Qe x.nice≠0
 m:O9 x.mask=true
 m0:x.mask≠0
 s:Zz x.sum=true
 u:Zz x.used=true
 l1:0<=x.load
 l2:x.load<=8000000
 f:x.state=1->(Qc W x.group x.cpu).floor<=x.v/\x.v-(Qc W x.group x.cpu).floor<=Zq (Qe x.nice)
structure zho (W:Q7) (k c:Int):Prop where
 s:Zz (Qc W k c).sum=true
 root:k=0->(Qc W k c).on=false/\(Qc W k c).v=0/\(Qc W k c).w=10
 st:k≠0->(Qc W k c).on=true->UM W k c
structure ztf (W:Q7) (c:Int):Prop where
 b:Zz (gi W.cpus c).busy=true
 i:Zz (gi W.cpus c).idle=true
 c1 : -1<=(gi W.cpus c).cur
 c2:(gi W.cpus c).cur<12
 no:(gi W.cpus c).cur<0->(gi W.cpus c).ran=0
 yes:0<=(gi W.cpus c).cur->(gi W.cpus c).up=true/\1<=(gi W.cpus c).ran/\(gi W.cpus c).ran<=149
 q:0<=(gi W.cpus c).cur->(Q8 W (gi W.cpus c).cur).state=1->(Q8 W (gi W.cpus c).cur).cpu=c->
  (Q8 W (gi W.cpus c).cur).v-(Qc W (Q8 W (gi W.cpus c).cur).group c).floor<=Z3 (gi W.cpus c).ran (Qe (Q8 W (gi W.cpus c).cur).nice)/\
  ∀x∈QX W.groups (Q8 W (gi W.cpus c).cur).group,UM W x c/\(Qc W x c).v-(Qc W (gi W.groups x).parent c).floor<=Z3 (gi W.cpus c).ran (Qc W x c).w
structure PreA (W:Q7):Prop where
 a:WA W
 t:∀t:Int,0<=t->t<12->(Q8 W t).state=0/\Q8 W t=VK\/(Q8 W t).state≠0/\GP W (Q8 W t)
 l:∀t:Int,0<=t->t<12->(Q8 W t).state≠0->0<=(Q8 W t).cpu/\(Q8 W t).cpu<(W.cpus.length:Int)
 s:∀k c:Int,Q6 W.groups k=true->0<=c->c<(W.cpus.length:Int)->zho W k c
structure Vx (W:Q7):Prop extends PreA W where
 c:∀c:Int,0<=c->c<(W.cpus.length:Int)->ztf W c
def BZ(W:Q7):Prop:=∀t:Int,0<=t->t<12->(Q8 W t).state≠0->Z8 (Qs W (Q8 W t).group (Q8 W t).mask) (Q8 W t).cpu=true
def zv1(W:Q7):Prop:=∀k c:Int,Q6 W.groups k=true->0<=c->c<(W.cpus.length:Int)->ZH W k c 20=true->Z9 W k c 20<=(Qc W k c).floor
theorem D1{v f k:Int}(hv:Zz v=true)(hf:Zz f=true):PA v f k=true↔f<=v/\v-f<=Zq k:=by
 have h1:=ZY.1 hv;have h2:=ZY.1 hf;have hw:IntKind.i64.wrap (v-f)=v-f:=Qn.wrap (k:=.i64) ⟨by show _<=v-f; omega,by show v-f<=_; omega⟩;unfold PA;rw[hw];simp
theorem U1{W:Q7}(wp:Xs W):BZ W:=fun t t0 t1 n=>by
 rcases wp.t t t0 t1 with h | h
 ·exact absurd h.1 n
 ·exact h.2.c
theorem GC{W:Q7}(wp:Xs W){k c:Int}(hu:Q6 W.groups k=true)(c0:0<=c)(c1:c<(W.cpus.length:Int)):Pm W k c:=by
 obtain⟨u0,u1,_⟩:=wp.a.u hu;have hl:=wp.a.sl hu;exact wp.s k c u0 u1 c0 (by omega)
theorem X5{W:Q7}(wp:Xs W):Vx W:=by
 have hst:∀k c:Int,Q6 W.groups k=true->k≠0->0<=c->c<(W.cpus.length:Int)->(Qc W k c).on=true->UM W k c:=fun k c hu hz c0 c1 ho=>by
  have h1:=GC wp hu c0 c1;have h2:=GC wp (wp.a.up hu hz) c0 c1;exact(D1 h1.v h2.f).1 (h1.st hz ho)
 refine⟨⟨wp.a,fun t t0 t1=>?_,fun t t0 t1 n=>?_,fun k c hu c0 c1=>?_⟩,fun c c0 c1=>?_⟩
 ·rcases wp.t t t0 t1 with h | ⟨n,h⟩
  ·exact .inl h
  ·refine .inr ⟨n,h.st,h.g,h.n,h.m,h.m0,h.s,h.u,h.l1,h.l2,fun h1=>?_⟩;obtain⟨d0,d1⟩:=Ka wp.a h.c;exact(D1 h.v (GC wp h.g d0 d1).f).1 (h.f h1)
 ·rcases wp.t t t0 t1 with h | ⟨_,h⟩
  ·exact absurd h.1 n
  ·exact Ka wp.a h.c
 ·have h:=GC wp hu c0 c1;exact⟨h.s,h.root,fun hz ho=>hst k c hu hz c0 c1 ho⟩
 ·have h:=wp.c c c0 c1;have hl:=wp.a.t;refine⟨h.b,h.i,h.c1,by have:=h.c2; omega,h.no,fun h0=>⟨(h.yes h0).1,(h.yes h0).2.1,(h.yes h0).2.2.1⟩,fun h0 h1 h2=>?_⟩;obtain⟨_,_,_,_,hline,hstay⟩:=h.yes h0;unfold OS at hstay;rw[Bool.and_eq_true,decide_eq_true_eq] at hstay;refine⟨hstay.1,fun x hx=>?_⟩
  have hu:Q6 W.groups (Q8 W (gi W.cpus c).cur).group=true:=by
   rcases wp.t _ h0 (by have:=h.c2; omega) with hz | ⟨_,hz⟩
   ·rw[hz.1] at h1; cases h1
   ·exact hz.g
  obtain⟨xu,xz⟩:=Yq wp.a.tree _ hu x hx;unfold Zy U8 at hline;rw[Bool.and_eq_true,h2,List.all_eq_true] at hline;have hs:=hstay.2;unfold VJ at hs;rw[List.all_eq_true] at hs;exact⟨hst x c xu xz c0 c1 (hline.2 x hx),Ot (hs x hx)⟩
structure Df (c:Int) (W W':Q7):Prop where
 n:W'.now=W.now
 t:W'.tasks=W.tasks
 g:QS W.groups W'.groups
 len:W'.cpus.length=W.cpus.length
 b:∀i:Int,0<=i->(gi W'.groups i).band=(gi W.groups i).band
 e:∀k d:Int,0<=k->0<=d->d≠c->Qc W' k d=Qc W k d
 cp:∀d:Int,0<=d->d≠c->gi W'.cpus d=gi W.cpus d
theorem Df.refl(c:Int)(W:Q7):Df c W W:=⟨rfl,rfl,QS.refl _,rfl,fun _ _=>rfl,fun _ _ _ _ _=>rfl,fun _ _ _=>rfl⟩
theorem Df.trans{c:Int}{A B C:Q7}(h:Df c A B)(k:Df c B C):Df c A C:=⟨k.n.trans h.n,k.t.trans h.t,h.g.trans k.g,k.len.trans h.len,fun i hi=>(k.b i hi).trans (h.b i hi),fun i d hi hd hn=>(k.e i d hi hd hn).trans (h.e i d hi hd hn),fun d hd hn=>(k.cp d hd hn).trans (h.cp d hd hn)⟩
theorem Ek{W:Q7}{g c:Int}{s:Mx}(h0:0<=g)(h1:g<(W.groups.length:Int))(c0:0<=c)(c1:c<((gi W.groups g).shelves.length:Int)):Df c W (setSh W g c s):=
 ⟨rfl,rfl,Xm h0 h1,rfl,fun i hi=>zbh h0 h1 hi,fun k d hk hd hn=>by
  rw[J8 h0 h1 c0 c1 hk hd,if_neg fun h=>hn h.2.symm],fun _ _ _=>rfl⟩
theorem zgj{W:Q7}{c:Int}(c0:0<=c)(c1:c<(W.cpus.length:Int)):Df c W (endW W c):=
 ⟨rfl,rfl,QS.refl _,List.length_set,fun _ _=>rfl,fun _ _ _ _ _=>rfl,fun d d0 hn=>by
  show gi (W.cpus.set c.toNat (Xd (gi W.cpus c))) d=_;rw[Qw _ _ c0 c1 d0,if_neg fun h=>hn h.symm]⟩
section
variable {c d:Int}{W W':Q7}
theorem Tm(ht:W'.tasks=W.tasks)(hT:QS W.groups W'.groups){g:Int}(h:∀j:Nat,j<W.groups.length->1<=j->(gi W.groups (j:Int)).used=true->(gi W.groups (j:Int)).parent=g->(Qc W' (j:Int) d).on=(Qc W (j:Int) d).on):QP W' g d=QP W g d:=by
 unfold QP;rw[ht,hT.len]
 congr 1
 ·refine PE fun j _=>?_
  unfold TH;rw[ht]
 ·refine PE fun j hj=>?_
  unfold XV;rw[hT.u,hT.p]
  by_cases h1:1<=j
  ·cases hu:(gi W.groups (j:Int)).used with
   | false=>simp
   | true=>
    by_cases hp:(gi W.groups (j:Int)).parent=g
    ·rw[h j hj h1 hu hp]
    ·rw[show ((gi W.groups (j:Int)).parent==g)=false from beq_false_of_ne hp]; simp
  ·simp[h1]
theorem zmj(ht:W'.tasks=W.tasks)(hT:QS W.groups W'.groups)(hl:W.groups.length=8)(h:∀k:Int,0<=k->(Qc W' k d).on=(Qc W k d).on)(g:Int){j:Nat}(hj:j<20):Zi W' g d j=Zi W g d j:=by
 unfold Zi;split
 ·unfold TH; rw[ht]
 ·unfold XV;rw[hT.u,hT.p,h _ (by omega)]
theorem zbv(ht:W'.tasks=W.tasks)(h:∀k:Int,0<=k->(Qc W' k d).v=(Qc W k d).v)(j:Nat):Zj W' d j=Zj W d j:=by
 unfold Zj;split
 ·unfold Q8; rw[ht]
 ·rw[h _ (by omega)]
theorem DC(ht:W'.tasks=W.tasks)(hT:QS W.groups W'.groups)(hl:W.groups.length=8)(h:∀k:Int,0<=k->(Qc W' k d).on=(Qc W k d).on)(hv:∀k:Int,0<=k->(Qc W' k d).v=(Qc W k d).v)(g:Int):ZH W' g d 20=ZH W g d 20/\Z9 W' g d 20=Z9 W g d 20:=by
 have e:QM (Zi W' g d) (Zj W' d) 20=QM (Zi W g d) (Zj W d) 20:=Pb (fun j hj=>zmj ht hT hl h g hj) fun j _ _=>zbv ht hv j
 unfold ZH Z9;rw[e];refine⟨rfl,?_⟩;split
 ·rfl
 ·exact zbv ht hv _
theorem XF(ht:W'.tasks=W.tasks)(t:Int):Q8 W' t=Q8 W t:=by unfold Q8; rw[ht]
theorem Vs(hT:QS W.groups W'.groups)(g:Int):QX W'.groups g=QX W.groups g:=hT.path 3 g
theorem zdm{g:Int}(hb:(gi W'.groups g).band=(gi W.groups g).band):UU W' g d=UU W g d:=by unfold UU; rw[hb]
end
theorem zjw{W:Q7}{g c:Int}{j:Nat}(hj:j<20)(h:Zi W g c j=true):ZH W g c 20=true/\Z9 W g c 20<=Zj W c j:=by
 unfold ZH Z9;rcases Zf (Zi W g c) (Zj W c) 20 with ⟨_,h2⟩ | ⟨h1,_,_,h4,_⟩
 ·rw[h2 j hj] at h; cases h
 ·rw[if_neg (by omega)];exact⟨decide_eq_true h1,h4 j hj h⟩
theorem zlp{W:Q7}(ha:WA W){t:Int}(t0:0<=t)(t1:t<12)(hs:(Q8 W t).state=1):ZH W (Q8 W t).group (Q8 W t).cpu 20=true/\Z9 W (Q8 W t).group (Q8 W t).cpu 20<=(Q8 W t).v:=by
 have e:((t.toNat:Nat):Int)=t:=by omega
 have h:Zi W (Q8 W t).group (Q8 W t).cpu t.toNat=true:=by
  rw[Vq (by omega)];unfold TH;rw[e];show (((Q8 W t).state==1)&&((Q8 W t).group==_)&&((Q8 W t).cpu==_))=true;rw[hs]; simp
 have:=zjw (by omega) h
 rwa[Ed (by omega),e] at this
theorem zhw{W:Q7}(ha:WA W){k c:Int}(hu:Q6 W.groups k=true)(hz:k≠0)(ho:(Qc W k c).on=true):ZH W (gi W.groups k).parent c 20=true/\Z9 W (gi W.groups k).parent c 20<=(Qc W k c).v:=by
 obtain⟨k0,k1,ku⟩:=Q5.1 hu;have hl:=ha.gl;have e:((k.toNat:Nat):Int)=k:=by omega
 have h:Zi W (gi W.groups k).parent c (12+k.toNat)=true:=by
  rw[JA];unfold XV;rw[e,ku,ho];simp;omega
 have:=zjw (by omega) h
 rwa[Ec,e] at this
structure LC (c:Int) (W W':Q7):Prop where
 o:Df c W W'
 cs:W'.cpus=W.cpus
 f:∀k d:Int,0<=k->0<=d->(Qc W' k d).floor=(Qc W k d).floor
 w:∀k d:Int,0<=k->0<=d->(Qc W' k d).w=(Qc W k d).w
 s:∀k d:Int,0<=k->0<=d->(Qc W' k d).sum=(Qc W k d).sum
 r:∀d:Int,0<=d->Qc W' 0 d=Qc W 0 d
 v:∀k d:Int,Q6 W.groups k=true->k≠0->0<=d->UM W k d->(Qc W' k d).v=(Qc W k d).v
theorem LC.refl(c:Int)(W:Q7):LC c W W:=⟨Df.refl _ _,rfl,fun _ _ _ _=>rfl,fun _ _ _ _=>rfl,fun _ _ _ _=>rfl,fun _ _=>rfl,fun _ _ _ _ _ _=>rfl⟩
theorem LC.st{c:Int}{W W':Q7}(ht:ZU W.groups)(h:LC c W W'){k d:Int}(hu:Q6 W.groups k=true)(hz:k≠0)(d0:0<=d)(hs:UM W k d):UM W' k d:=by
 have hp:=(Q5.1 (ZZ ht hu hz).1).1;have k0:=(Q5.1 hu).1;unfold UM;rw[h.o.g.p,h.f _ d hp d0,h.v k d hu hz d0 hs,h.w k d k0 d0];exact hs
theorem LC.trans{c:Int}{A B C:Q7}(ht:ZU A.groups)(h:LC c A B)(k:LC c B C):LC c A C:=
 ⟨h.o.trans k.o,k.cs.trans h.cs,fun i d a b=>(k.f i d a b).trans (h.f i d a b),fun i d a b=>(k.w i d a b).trans (h.w i d a b),fun i d a b=>(k.s i d a b).trans (h.s i d a b),fun d a=>(k.r d a).trans (h.r d a),fun i d hu hz d0 hs=>by
  rw[k.v i d (by rw[h.o.g.usd]; exact hu) hz d0 (h.st ht hu hz d0 hs),h.v i d hu hz d0 hs]⟩
theorem Vx.lc{c:Int}{W W':Q7}(p:Vx W)(h:LC c W W')(ha:WA W')(hon:∀k d:Int,Q6 W.groups k=true->k≠0->0<=d->d<(W.cpus.length:Int)->(Qc W' k d).on=true->UM W' k d):Vx W':=by
 have et:∀t,Q8 W' t=Q8 W t:=XF h.o.t;refine⟨⟨ha,fun t t0 t1=>?_,fun t t0 t1 n=>?_,fun k d hu d0 d1=>?_⟩,fun d d0 d1=>?_⟩
 ·rw[et];rcases p.t t t0 t1 with hz | ⟨n,hx⟩
  ·exact .inl hz
  ·refine .inr ⟨n,hx.st,by rw[h.o.g.usd]; exact hx.g,hx.n,hx.m,hx.m0,hx.s,hx.u,hx.l1,hx.l2,fun h1=>?_⟩;rw[h.f _ _ (Q5.1 hx.g).1 (p.l t t0 t1 n).1];exact hx.f h1
 ·rw[et] at n ⊢;rw[h.o.len];exact p.l t t0 t1 n
 ·rw[h.o.g.usd] at hu;rw[h.cs] at d1;have hs:=p.s k d hu d0 d1;have k0:=(Q5.1 hu).1;refine⟨by rw[h.s k d k0 d0]; exact hs.s,fun hz=>?_,fun hz ho=>hon k d hu hz d0 d1 ho⟩;subst hz;rw[h.r d d0];exact hs.root rfl
 ·rw[h.cs] at d1;have hc:=p.c d d0 d1;refine⟨by rw[h.cs]; exact hc.b,by rw[h.cs]; exact hc.i,by rw[h.cs]; exact hc.c1,by rw[h.cs]; exact hc.c2,by rw[h.cs]; exact hc.no,by rw[h.cs]; exact hc.yes,?_⟩;rw[h.cs];simp only[et];intro h0 h1 h2;obtain⟨q1,q2⟩:=hc.q h0 h1 h2
  have hu:Q6 W.groups (Q8 W (gi W.cpus d).cur).group=true:=by
   rcases p.t _ h0 hc.c2 with hz | ⟨_,hx⟩
   ·rw[hz.1] at h1; cases h1
   ·exact hx.g
  refine⟨by rw[h.f _ d (Q5.1 hu).1 d0]; exact q1,fun x hx=>?_⟩;rw[Vs h.o.g] at hx;obtain⟨xu,xz⟩:=Yq p.a.tree _ hu x hx;obtain⟨s1,s2⟩:=q2 x hx;refine⟨h.st p.a.tree xu xz d0 s1,?_⟩;rw[h.o.g.p,h.v x d xu xz d0 s1,h.f _ d (Q5.1 (p.a.up xu xz)).1 d0,h.w x d (Q5.1 xu).1 d0];exact s2
def UV(W:Q7)(c k:Int):Prop:=(Qc W k c).on=(QP W k c && !UU W k c)
theorem zo1{W:Q7}(p:Vx W){k c d:Int}(hu:Q6 W.groups k=true)(hd:dep 3 W.groups k=d)(d1:1<=d)(c0:0<=c)(c1:c<(W.cpus.length:Int)) :
  LC c W (setSh W k c (Yl W k c))/\Vx (setSh W k c (Yl W k c))/\UV (setSh W k c (Yl W k c)) c k/\∀g:Int,Q6 W.groups g=true->g≠k->(gi W.groups k).parent≠g->UV W c g->UV (setSh W k c (Yl W k c)) c g:=by
 have hz:k≠0:=fun e=>by subst e; rw[Y8] at hd; omega
 obtain⟨u0,u1,_⟩:=Q5.1 hu;have hl:=p.a.gl;have hsl:=p.a.sl hu;have c1':c<((gi W.groups k).shelves.length:Int):=by omega
 have hpu:=p.a.up hu hz
 have hpk:(gi W.groups k).parent≠k:=fun e=>by
  obtain⟨_,_,_,n,e1,e2,_⟩:=ZZ p.a.tree hu hz;rw[e] at e2; omega
 have e:∀{i j:Int},0<=i->0<=j->Qc (setSh W k c (Yl W k c)) i j=if k=i/\c=j then Yl W k c else Qc W i j:=fun hi hj=>J8 u0 u1 c0 c1' hi hj
 have ev:UM W k c->(Yl W k c).v=(Qc W k c).v:=fun hs=>by
  simp only[Yl];split
  ·rw[zmd (by have:=hs.1; omega) hs.2]; omega
  ·rfl
 have eq0:∀{i j:Int},k=i/\c=j->(Yl W k c).floor=(Qc W i j).floor/\(Yl W k c).w=(Qc W i j).w/\(Yl W k c).sum=(Qc W i j).sum:=fun h=>by
  obtain⟨rfl,rfl⟩:=h; exact⟨rfl,rfl,rfl⟩
 have hT:=Xm (W:=W) (g:=k) (c:=c) (s:=Yl W k c) u0 u1
 have lc:LC c W (setSh W k c (Yl W k c)):=by
  refine⟨Ek u0 u1 c0 c1',rfl,fun i j hi hj=>?_,fun i j hi hj=>?_,fun i j hi hj=>?_,fun j hj=>?_,fun i j iu iz hj hs=>?_⟩
  ·rw[e hi hj]; split
   ·rename_i h; exact(eq0 h).1
   ·rfl
  ·rw[e hi hj]; split
   ·rename_i h; exact(eq0 h).2.1
   ·rfl
  ·rw[e hi hj]; split
   ·rename_i h; exact(eq0 h).2.2
   ·rfl
  ·rw[e (Int.le_refl 0) hj,if_neg fun h=>hz h.1]
  ·rw[e (Q5.1 iu).1 hj]; split
   ·rename_i h;obtain⟨rfl,rfl⟩:=h;exact ev hs
   ·rfl
 have act:∀g:Int,(gi W.groups k).parent≠g->QP (setSh W k c (Yl W k c)) g c=QP W g c:=fun g hg=>by
  refine Tm (W:=W) (W':=setSh W k c (Yl W k c)) rfl hT fun j hj _ _ hp=>?_
  rw[e (by omega) c0,if_neg];rintro⟨h,_⟩;exact hg (by rw[h]; exact hp)
 have hoe:UV (setSh W k c (Yl W k c)) c k:=by
  unfold UV;rw[e u0 c0,if_pos ⟨rfl,rfl⟩,act k hpk,KR u0 u1 u0];rfl
 refine⟨lc,p.lc lc (p.a.setSh u0 (by omega)) fun i j iu iz j0 j1 ho=>?_,hoe,fun g gu gk hg h=>?_⟩
 ·by_cases h:k=i/\c=j
  ·obtain⟨rfl,rfl⟩:=h
   by_cases hs:UM W k c
   ·exact lc.st p.a.tree hu hz c0 hs
   ·have hoff:(Qc W k c).on=false:=by
     cases hb:(Qc W k c).on with
     | false=>rfl
     | true=>exact absurd ((p.s k c hu c0 c1).st hz hb) hs
    rw[e u0 c0,if_pos ⟨rfl,rfl⟩] at ho;have ho:(QP W k c && !UU W k c)=true:=ho;unfold UM;rw[hT.p,e u0 c0,if_pos ⟨rfl,rfl⟩,lc.f _ c (Q5.1 hpu).1 c0];simp only[Yl];rw[if_pos ⟨ho,hoff⟩];have:=ZQ ((Qc W k c).v-(Qc W (gi W.groups k).parent c).floor) (Qc W k c).w;omega
  ·rw[e (Q5.1 iu).1 j0,if_neg h] at ho;exact lc.st p.a.tree iu iz j0 ((p.s i j iu j0 j1).st iz ho)
 ·unfold UV;have g0:=(Q5.1 gu).1;rw[e g0 c0,if_neg fun h=>gk h.1.symm,act g hg,KR u0 u1 g0];exact h
theorem zgc{W:Q7}(p:Vx W){c d:Int}(d1:1<=d)(c0:0<=c)(c1:c<(W.cpus.length:Int))(hI:∀g:Int,Q6 W.groups g=true->d<dep 3 W.groups g->UV W c g):∀k:Nat,k<=8->
  LC c W (ZO W c d k)/\Vx (ZO W c d k)/\∀g:Int,Q6 W.groups g=true->d<dep 3 W.groups g\/dep 3 W.groups g=d/\g<(k:Int)->UV (ZO W c d k) c g
 | 0,_=>⟨LC.refl _ _,p,fun g gu h=>hI g gu (by
   rcases h with h | h
   ·exact h
   ·have:=(Q5.1 gu).1;have:=h.2;omega)⟩
 | k+1,hk=>by
  obtain⟨a,b,ih⟩:=zgc p d1 c0 c1 hI k (by omega);have hl:=b.a.gl;have hT:=a.o.g;simp only[ZO];split
  ·rename_i hc;have hu:Q6 (ZO W c d k).groups (k:Int)=true:=Q5.2 ⟨by omega,by omega,hc.1⟩;obtain⟨l1,l2,l3,l4⟩:=zo1 b hu hc.2 d1 c0 (c:=c) (by rw[a.cs]; exact c1);refine⟨a.trans p.a.tree l1,l2,fun g gu h=>?_⟩
   by_cases e:g=(k:Int)
   ·subst e; exact l3
   ·have hkz:(k:Int)≠0:=fun e=>by have:=hc.2; rw[e,Y8] at this; omega
    obtain⟨_,_,_,n,e1,e2,_⟩:=ZZ b.a.tree hu hkz;refine l4 g (by rw[hT.usd]; exact gu) e (fun hp=>?_) (ih g gu ?_)
    ·rw[hp,hT.dep] at e2;have:=hc.2;omega
    ·rcases h with h | h
     ·exact .inl h
     ·exact .inr ⟨h.1,by have:=h.2; omega⟩
  ·rename_i hc;refine⟨a,b,fun g gu h=>ih g gu ?_⟩;rcases h with h | h
   ·exact .inl h
   ·refine .inr ⟨h.1,?_⟩
    by_cases e:g=(k:Int)
    ·subst e;exact absurd ⟨by rw[hT.u]; exact(Q5.1 gu).2.2,by rw[hT.dep]; exact h.1⟩ hc
    ·have:=h.2;omega
theorem zbt{W:Q7}(p:Vx W){c:Int}(c0:0<=c)(c1:c<(W.cpus.length:Int)):LC c W (QN W c)/\Vx (QN W c)/\∀g:Int,Q6 W.groups g=true->g≠0->UV (QN W c) c g:=by
 have key:∀j:Nat,j<=3->LC c W (XB W c j)/\Vx (XB W c j)/\∀g:Int,Q6 W.groups g=true->3-(j:Int)<dep 3 W.groups g->UV (XB W c j) c g:=by
  intro j
  induction j with
  | zero=>exact fun _=>⟨LC.refl _ _,p,fun g gu h=>by have:=(Kb p.a gu).2; omega⟩
  | succ j ih=>
   intro hj;obtain⟨a,b,h⟩:=ih (by omega);have hT:=a.o.g;obtain⟨a2,b2,h2⟩:=zgc b (c:=c) (d:=3-(j:Int)) (by omega) c0 (by rw[a.cs]; exact c1) (fun g gu hd=>h g (by rwa[hT.usd] at gu) (by rwa[hT.dep] at hd)) 8 (Nat.le_refl _);refine⟨a.trans p.a.tree a2,b2,fun g gu hd=>h2 g (by rw[hT.usd]; exact gu) ?_⟩;rw[hT.dep];have:=(Q5.1 gu).2.1;have:=p.a.gl
   by_cases e:dep 3 W.groups g=3-(j:Int)
   ·exact .inr ⟨e,by omega⟩
   ·exact .inl (by omega)
 obtain⟨a,b,h⟩:=key 3 (Nat.le_refl _);refine⟨a,b,fun g gu gz=>h g gu ?_⟩;obtain⟨_,_,_,n,e1,_⟩:=ZZ p.a.tree gu gz;omega
theorem Ak{W:Q7}(p:Vx W):∀c:Nat,c<=W.cpus.length->Vx (YH W c)/\(YH W c).cpus=W.cpus
 | 0,_=>⟨p,rfl⟩
 | c+1,hc=>by
  obtain⟨a,e⟩:=Ak p c (by omega);obtain⟨l,b,_⟩:=zbt a (c:=(c:Int)) (by omega) (by rw[e]; omega);exact⟨b,l.cs.trans e⟩
theorem Vx.onlyB{W W':Q7}(p:Vx W)(ho:UY W W')(ha:WA W'):Vx W':=by
 have et:∀t,Q8 W' t=Q8 W t:=XF ho.t;have es:∀k d:Int,0<=k->Qc W' k d=Qc W k d:=fun k d hk=>by unfold Qc; rw[ho.s k hk]
 have est:∀k d:Int,Q6 W.groups k=true->k≠0->(UM W' k d↔UM W k d):=fun k d hu hz=>by
  unfold UM;rw[ho.g.p,es _ _ (Q5.1 (p.a.up hu hz)).1,es _ _ (Q5.1 hu).1]
 refine⟨⟨ha,fun t t0 t1=>?_,fun t t0 t1 n=>?_,fun k d hu d0 d1=>?_⟩,fun d d0 d1=>?_⟩
 ·rw[et];rcases p.t t t0 t1 with hz | ⟨n,hx⟩
  ·exact .inl hz
  ·refine .inr ⟨n,hx.st,by rw[ho.g.usd]; exact hx.g,hx.n,hx.m,hx.m0,hx.s,hx.u,hx.l1,hx.l2,fun h1=>?_⟩;rw[es _ _ (Q5.1 hx.g).1];exact hx.f h1
 ·rw[et] at n ⊢;rw[ho.c];exact p.l t t0 t1 n
 ·rw[ho.g.usd] at hu;rw[ho.c] at d1;have hs:=p.s k d hu d0 d1;have k0:=(Q5.1 hu).1;exact⟨by rw[es k d k0]; exact hs.s,by rw[es k d k0]; exact hs.root,fun hz h=>(est k d hu hz).2 (hs.st hz (by rwa[es k d k0] at h))⟩
 ·rw[ho.c] at d1;have hc:=p.c d d0 d1;refine⟨by rw[ho.c]; exact hc.b,by rw[ho.c]; exact hc.i,by rw[ho.c]; exact hc.c1,by rw[ho.c]; exact hc.c2,by rw[ho.c]; exact hc.no,by rw[ho.c]; exact hc.yes,?_⟩;rw[ho.c];simp only[et];intro h0 h1 h2;obtain⟨q1,q2⟩:=hc.q h0 h1 h2
  have hu:Q6 W.groups (Q8 W (gi W.cpus d).cur).group=true:=by
   rcases p.t _ h0 hc.c2 with hz | ⟨_,hx⟩
   ·rw[hz.1] at h1; cases h1
   ·exact hx.g
  refine⟨by rw[es _ d (Q5.1 hu).1]; exact q1,fun x hx=>?_⟩;rw[Vs ho.g] at hx;obtain⟨xu,xz⟩:=Yq p.a.tree _ hu x hx;obtain⟨s1,s2⟩:=q2 x hx;refine⟨(est x d xu xz).2 s1,?_⟩;rw[ho.g.p,es x d (Q5.1 xu).1,es _ d (Q5.1 (p.a.up xu xz)).1];exact s2
structure FC (c:Int) (W W':Q7):Prop where
 o:Df c W W'
 cs:W'.cpus=W.cpus
 on:∀k d:Int,0<=k->0<=d->(Qc W' k d).on=(Qc W k d).on
 v:∀k d:Int,0<=k->0<=d->(Qc W' k d).v=(Qc W k d).v
 w:∀k d:Int,0<=k->0<=d->(Qc W' k d).w=(Qc W k d).w
 s:∀k d:Int,0<=k->0<=d->(Qc W' k d).sum=(Qc W k d).sum
 up:∀k d:Int,0<=k->0<=d->(Qc W k d).floor<=(Qc W' k d).floor
 fl:∀k:Int,0<=k->(Qc W' k c).floor=(Qc W k c).floor\/ZH W k c 20=true/\(Qc W' k c).floor=Z9 W k c 20
theorem DQ{W:Q7}(ha:WA W){c:Int}(c0:0<=c)(c1:c<(W.cpus.length:Int)):∀k:Nat,k<=8->FC c W (QY W c k)/\WA (QY W c k)/\∀g:Int,Q6 W.groups g=true->g<(k:Int)->ZH W g c 20=true->Z9 W g c 20<=(Qc (QY W c k) g c).floor
 | 0,_=>⟨⟨Df.refl _ _,rfl,fun _ _ _ _=>rfl,fun _ _ _ _=>rfl,fun _ _ _ _=>rfl,fun _ _ _ _=>rfl,fun _ _ _ _=>Int.le_refl _,fun _ _=>.inl rfl⟩,ha,fun g gu h=>by have:=(Q5.1 gu).1; omega⟩
 | k+1,hk=>by
  obtain⟨f,hA,ih⟩:=DQ ha c0 c1 k (by omega);have hl:=hA.gl;have hT:=f.o.g;have hb:=DC f.o.t hT ha.gl (fun i hi=>f.on i c hi c0) (fun i hi=>f.v i c hi c0);simp only[QY];split
  ·rename_i hc;have hu:Q6 (QY W c k).groups (k:Int)=true:=Q5.2 ⟨by omega,by omega,hc.1⟩;have hsl:=hA.sl hu;have c1':c<((gi (QY W c k).groups (k:Int)).shelves.length:Int):=by rw[hsl,f.cs]; exact c1
   have e:∀{i j:Int},0<=i->0<=j->Qc (setSh (QY W c k) (k:Int) c (DR (QY W c k) (k:Int) c)) i j=if (k:Int)=i/\c=j then DR (QY W c k) (k:Int) c else Qc (QY W c k) i j:=fun hi hj=>J8 (by omega) (by omega) c0 c1' hi hj
   refine⟨⟨f.o.trans (Ek (by omega) (by omega) c0 c1'),f.cs,fun i j hi hj=>?_,fun i j hi hj=>?_,fun i j hi hj=>?_,fun i j hi hj=>?_,fun i j hi hj=>?_,fun i hi=>?_⟩,hA.setSh (by omega) (by omega),fun g gu hg hB=>?_⟩
   ·rw[e hi hj]; split
    ·rename_i h; obtain⟨rfl,rfl⟩:=h; exact f.on _ _ hi hj
    ·exact f.on i j hi hj
   ·rw[e hi hj]; split
    ·rename_i h; obtain⟨rfl,rfl⟩:=h; exact f.v _ _ hi hj
    ·exact f.v i j hi hj
   ·rw[e hi hj]; split
    ·rename_i h; obtain⟨rfl,rfl⟩:=h; exact f.w _ _ hi hj
    ·exact f.w i j hi hj
   ·rw[e hi hj]; split
    ·rename_i h; obtain⟨rfl,rfl⟩:=h; exact f.s _ _ hi hj
    ·exact f.s i j hi hj
   ·rw[e hi hj]; split
    ·rename_i h; obtain⟨rfl,rfl⟩:=h;have h1:=f.up (k:Int) c hi hj;have h2:=hc.2.2;show _<=Z9 (QY W c k) (k:Int) c 20;omega
    ·exact f.up i j hi hj
   ·rw[e hi c0]; split
    ·rename_i h; obtain⟨rfl,_⟩:=h;refine .inr ⟨(hb _).1▸hc.2.1,?_⟩;show Z9 (QY W c k) (k:Int) c 20=_;exact(hb _).2
    ·exact f.fl i hi
   ·have g0:=(Q5.1 gu).1;rw[e g0 c0];split
    ·rename_i h; obtain⟨rfl,_⟩:=h;show _<=Z9 (QY W c k) (k:Int) c 20;rw[(hb _).2]; exact Int.le_refl _
    ·rename_i h;exact ih g gu (by have:g≠(k:Int):=fun e=>h ⟨e.symm,rfl⟩; omega) hB
  ·rename_i hc;refine⟨f,hA,fun g gu hg hB=>?_⟩
   by_cases e:g=(k:Int)
   ·subst e;rw[hT.u,(hb _).1,(hb _).2] at hc
    by_cases h:Z9 W (k:Int) c 20>(Qc (QY W c k) (k:Int) c).floor
    ·exact absurd ⟨(Q5.1 gu).2.2,hB,h⟩ hc
    ·omega
   ·exact ih g gu (by omega) hB
theorem Df.active{c d:Int}{W W':Q7}(h:Df c W W')(d0:0<=d)(hd:d≠c)(g:Int):QP W' g d=QP W g d:=
 Tm h.t h.g fun j _ _ _ _=>by rw[h.e _ d (by omega) d0 hd]
theorem Df.line{c:Int}{W W':Q7}(h:Df c W W')(ht:ZU W.groups){t:Int}(hu:Q6 W.groups (Q8 W t).group=true)(d0:0<=(Q8 W t).cpu)(hd:(Q8 W t).cpu≠c):Zy W' t=Zy W t:=by
 unfold Zy U8;rw[XF h.t,Vs h.g]
 congr 1
 rw[Bool.eq_iff_iff,List.all_eq_true,List.all_eq_true];refine forall_congr' fun x=>forall_congr' fun hx=>?_
 rw[h.e x _ (Q5.1 (Yq ht _ hu x hx).1).1 d0 hd]
structure Dn (W:Q7) (c:Int):Prop where
 on:∀k:Int,Q6 W.groups k=true->k≠0->UV W c k
 cu:0<=(gi W.cpus c).cur->(Q8 W (gi W.cpus c).cur).cpu=c/\Zy W (gi W.cpus c).cur=true
 fl:∀k:Int,Q6 W.groups k=true->ZH W k c 20=true->Z9 W k c 20<=(Qc W k c).floor
theorem Dn.oth{c d:Int}{W W':Q7}(h:Dn W d)(p:Vx W)(o:Df c W W')(d0:0<=d)(d1:d<(W.cpus.length:Int))(hd:d≠c):Dn W' d:=by
 refine⟨fun k hu hz=>?_,fun h0=>?_,fun k hu hB=>?_⟩
 ·rw[o.g.usd] at hu;have k0:=(Q5.1 hu).1;have:=h.on k hu hz;unfold UV at this ⊢;rw[o.e k d k0 d0 hd,o.active d0 hd,zdm (o.b k k0)];exact this
 ·rw[o.cp d d0 hd] at h0 ⊢;rw[XF o.t];obtain⟨h1,h2⟩:=h.cu h0;refine⟨h1,?_⟩
  have hs:(Q8 W (gi W.cpus d).cur).state=1:=by
   unfold Zy at h2;rw[Bool.and_eq_true] at h2;exact eq_of_beq h2.1
  have hu:Q6 W.groups (Q8 W (gi W.cpus d).cur).group=true:=by
   rcases p.t _ h0 (p.c d d0 d1).c2 with hz | ⟨_,hx⟩
   ·rw[hz.1] at hs; cases hs
   ·exact hx.g
  rw[o.line p.a.tree hu (by rw[h1]; exact d0) (by rw[h1]; exact hd)];exact h2
 ·rw[o.g.usd] at hu;have hb:=DC (d:=d) o.t o.g p.a.gl (fun i hi=>by rw[o.e i d hi d0 hd]) (fun i hi=>by rw[o.e i d hi d0 hd]) k;rw[hb.1] at hB;rw[hb.2,o.e k d (Q5.1 hu).1 d0 hd];exact h.fl k hu hB
theorem GP.cp{W:Q7}{x:P5}(h:GP W x)(cs:List OY):GP { W with cpus:=cs } x:=⟨h.st,h.g,h.n,h.m,h.m0,h.s,h.u,h.l1,h.l2,h.f⟩
theorem zho.cp{W:Q7}{k c:Int}(h:zho W k c)(cs:List OY):zho { W with cpus:=cs } k c:=⟨h.s,h.root,h.st⟩
theorem PreA.endW{W:Q7}(p:PreA W){c:Int}(c0:0<=c)(c1:c<(W.cpus.length:Int)):PreA (endW W c):=by
 have hlen:(YtnclplgaicdapaaGreatDoor.endW W c).cpus.length=W.cpus.length:=List.length_set;refine⟨?_,fun t t0 t1=>?_,fun t t0 t1 n=>?_,fun k d hu d0 d1=>?_⟩
 ·refine p.a.cp List.length_set ?_;rw[ze0 List.length_set fun j hj=>?_]
  ·exact p.a.ups
  ·rw[Qw _ _ c0 c1 (by omega)];split
   ·rename_i e; rw[<-e]; rfl
   ·rfl
 ·rcases p.t t t0 t1 with h | h
  ·exact .inl h
  ·exact .inr ⟨h.1,h.2.cp _⟩
 ·rw[hlen]; exact p.l t t0 t1 n
 ·rw[hlen] at d1; exact(p.s k d hu d0 d1).cp _
theorem Vx.endW{W:Q7}(p:Vx W){c:Int}(c0:0<=c)(c1:c<(W.cpus.length:Int)):Vx (endW W c):=by
 refine⟨p.toPreA.endW c0 c1,fun d d0 d1=>?_⟩;have hlen:(YtnclplgaicdapaaGreatDoor.endW W c).cpus.length=W.cpus.length:=List.length_set;have hcp:gi (YtnclplgaicdapaaGreatDoor.endW W c).cpus d=if c=d then Xd (gi W.cpus c) else gi W.cpus d:=Qw _ _ c0 c1 d0;rw[hlen] at d1;have hc:=p.c d d0 d1
 by_cases e:c=d
 ·subst e;rw[if_pos rfl] at hcp;have n1:(Xd (gi W.cpus c)).cur = -1:=rfl;exact⟨by rw[hcp]; exact hc.b,by rw[hcp]; exact hc.i,by rw[hcp,n1]; exact Int.le_refl _,by rw[hcp,n1]; decide,fun _=>by rw[hcp]; rfl,fun h=>by rw[hcp,n1] at h; omega,fun h=>by rw[hcp,n1] at h; omega⟩
 ·rw[if_neg e] at hcp;exact⟨by rw[hcp]; exact hc.b,by rw[hcp]; exact hc.i,by rw[hcp]; exact hc.c1,by rw[hcp]; exact hc.c2,by rw[hcp]; exact hc.no,by rw[hcp]; exact hc.yes,by rw[hcp]; exact hc.q⟩
theorem zp6{W:Q7}(p:Vx W){c:Int}(c0:0<=c)(c1:c<(W.cpus.length:Int)):Vx (Vu W c)/\Df c W (Vu W c)/\Dn (Vu W c) c:=by
 obtain⟨l,p1,hon⟩:=zbt p c0 c1;obtain⟨f,hA,hfl⟩:=DQ p1.a c0 (c:=c) (by rw[l.cs]; exact c1) 8 (Nat.le_refl _);have f:FC c (QN W c) (Zo (QN W c) c):=f;have hA:WA (Zo (QN W c) c):=hA;have hfl:∀g:Int,Q6 (QN W c).groups g=true->g<((8:Nat):Int)->ZH (QN W c) g c 20=true->Z9 (QN W c) g c 20<=(Qc (Zo (QN W c) c) g c).floor:=hfl;have hon:∀g:Int,Q6 (QN W c).groups g=true->g≠0->UV (QN W c) c g:=fun g gu gz=>hon g (by rwa[l.o.g.usd] at gu) gz
 have hgl:=p1.a.gl;have hlc:(QN W c).cpus.length=W.cpus.length:=by rw[l.cs]
 have hdef:Vu W c=if MB (Zo (QN W c) c) c=true then endW (Zo (QN W c) c) c else Zo (QN W c) c:=rfl;have hO:Df c W (Zo (QN W c) c):=l.o.trans f.o;rw[hdef];clear hdef;have c1':c<((QN W c).cpus.length:Int):=by rw[hlc]; exact c1
 generalize QN W c=V at p1 hon f hA hfl hgl hlc hO c1';generalize Zo V c=F at f hA hfl hO;have et:∀t,Q8 F t=Q8 V t:=XF f.o.t;have hT:=f.o.g;have best:=DC (d:=c) f.o.t hT hgl (fun i hi=>f.on i c hi c0) (fun i hi=>f.v i c hi c0)
 have low:∀k:Int,Q6 V.groups k=true->∀v:Int,(ZH V k c 20=true/\Z9 V k c 20<=v)->(Qc V k c).floor<=v->(Qc F k c).floor<=v:=fun k hu v hv hf=>by
  rcases f.fl k (Q5.1 hu).1 with e | ⟨_,e⟩
  ·rw[e]; exact hf
  ·rw[e]; exact hv.2
 have st:∀k d:Int,Q6 V.groups k=true->k≠0->0<=d->(Qc V k d).on=true->UM V k d->UM F k d:=fun k d hu hz d0 ho hs=>by
  have pu:=p1.a.up hu hz;have k0:=(Q5.1 hu).1;have q0:=(Q5.1 pu).1;unfold UM;rw[hT.p,f.v k d k0 d0,f.w k d k0 d0];have hup:=f.up _ d q0 d0;refine⟨?_,by have:=hs.2; omega⟩
  by_cases hd:d=c
  ·subst hd;exact low _ pu _ (zhw p1.a hu hz ho) hs.1
  ·rw[f.o.e _ d q0 d0 hd]; exact hs.1
 have pa:PreA F:=by
  refine⟨hA,fun t t0 t1=>?_,fun t t0 t1 n=>?_,fun k d hu d0 d1=>?_⟩
  ·rw[et];rcases p1.t t t0 t1 with hz | ⟨n,hx⟩
   ·exact .inl hz
   ·refine .inr ⟨n,hx.st,by rw[hT.usd]; exact hx.g,hx.n,hx.m,hx.m0,hx.s,hx.u,hx.l1,hx.l2,fun h1=>?_⟩;obtain⟨d0,d1⟩:=p1.l t t0 t1 n;have g0:=(Q5.1 hx.g).1;have hup:=f.up _ _ g0 d0;have hs:=hx.f h1;refine⟨?_,by omega⟩
    by_cases hd:(Q8 V t).cpu=c
    ·have hb:=zlp p1.a t0 t1 h1;rw[hd] at hb hs ⊢;exact low _ hx.g _ hb hs.1
    ·rw[f.o.e _ _ g0 d0 hd]; exact hs.1
  ·rw[et] at n ⊢;rw[f.cs];exact p1.l t t0 t1 n
  ·rw[hT.usd] at hu;rw[f.cs] at d1;have hs:=p1.s k d hu d0 d1;have k0:=(Q5.1 hu).1;refine⟨by rw[f.s k d k0 d0]; exact hs.s,fun hz=>?_,fun hz h=>?_⟩
   ·rw[f.on k d k0 d0,f.v k d k0 d0,f.w k d k0 d0]; exact hs.root hz
   ·rw[f.on k d k0 d0] at h;exact st k d hu hz d0 h (hs.st hz h)
 have ptu:∀t:Int,0<=t->t<12->(Q8 V t).state=1->Q6 V.groups (Q8 V t).group=true:=fun t t0 t1 h=>by
  rcases p1.t t t0 t1 with hz | ⟨_,hx⟩
  ·rw[hz.1] at h; cases h
  ·exact hx.g
 have pc:∀d:Int,0<=d->d<(V.cpus.length:Int)->(d=c->MB F c=false)->ztf F d:=fun d d0 d1 hg=>by
  have hc:=p1.c d d0 d1;refine⟨by rw[f.cs]; exact hc.b,by rw[f.cs]; exact hc.i,by rw[f.cs]; exact hc.c1,by rw[f.cs]; exact hc.c2,by rw[f.cs]; exact hc.no,by rw[f.cs]; exact hc.yes,?_⟩;rw[f.cs];simp only[et];intro h0 h1 h2;obtain⟨q1,q2⟩:=hc.q h0 h1 h2;have hu:=ptu _ h0 hc.c2 h1;have hup:=f.up _ d (Q5.1 hu).1 d0;refine⟨by omega,fun x hx=>?_⟩;rw[Vs hT] at hx;obtain⟨xu,xz⟩:=Yq p1.a.tree _ hu x hx;obtain⟨s1,s2⟩:=q2 x hx;have x0:=(Q5.1 xu).1;have q0:=(Q5.1 (p1.a.up xu xz)).1;have hup2:=f.up _ d q0 d0;refine⟨?_,by rw[hT.p,f.v x d x0 d0,f.w x d x0 d0]; omega⟩
  by_cases hd:d=c
  ·subst hd
   have hl:Zy F (gi V.cpus d).cur=true:=by
    have:=hg rfl;unfold MB at this;rw[f.cs,et,decide_eq_true h0,h2] at this
    simpa using this
   unfold Zy U8 at hl;rw[et,h2,Vs hT,Bool.and_eq_true,List.all_eq_true] at hl;have ho:=hl.2 x hx;rw[f.on x d x0 d0] at ho;exact st x d xu xz d0 ho s1
  ·unfold UM;rw[hT.p,f.o.e x d x0 d0 hd,f.o.e _ d q0 d0 hd];exact s1
 have honF:∀k:Int,Q6 F.groups k=true->k≠0->UV F c k:=fun k hu hz=>by
  rw[hT.usd] at hu;have k0:=(Q5.1 hu).1;have:=hon k hu hz;unfold UV at this ⊢;rw[f.on k c k0 c0,Tm f.o.t hT fun j _ _ _ _=>f.on _ c (by omega) c0,zdm (f.o.b k k0)];exact this
 have hflF:∀k:Int,Q6 F.groups k=true->ZH F k c 20=true->Z9 F k c 20<=(Qc F k c).floor:=fun k hu hB=>by
  rw[hT.usd] at hu;rw[(best k).1] at hB;rw[(best k).2];exact hfl k hu (by have:=(Q5.1 hu).2.1; omega) hB
 split
 ·rename_i hg;have cF:c<(F.cpus.length:Int):=by rw[f.cs]; exact c1'
  have hcp:∀d:Int,0<=d->gi (endW F c).cpus d=if c=d then Xd (gi F.cpus c) else gi F.cpus d:=fun d d0=>Qw _ _ c0 cF d0
  have hlen:(endW F c).cpus.length=F.cpus.length:=List.length_set;refine⟨⟨pa.endW c0 cF,fun d d0 d1=>?_⟩,hO.trans (zgj c0 cF),honF,fun h0=>?_,hflF⟩
  ·rw[hlen] at d1
   by_cases e:c=d
   ·subst e;have hc:=p1.c c c0 c1';have e1:gi (endW F c).cpus c=Xd (gi V.cpus c):=by rw[hcp c c0,if_pos rfl,f.cs]
    have n1:(Xd (gi V.cpus c)).cur = -1:=rfl;exact⟨by rw[e1]; exact hc.b,by rw[e1]; exact hc.i,by rw[e1,n1]; exact Int.le_refl _,by rw[e1,n1]; decide,fun _=>by rw[e1]; rfl,fun h=>by rw[e1,n1] at h; omega,fun h=>by rw[e1,n1] at h; omega⟩
   ·have hc:=pc d d0 (by rw[<-f.cs]; exact d1) fun h=>absurd h.symm e
    have e1:gi (endW F c).cpus d=gi F.cpus d:=by rw[hcp d d0,if_neg e]
    exact⟨by rw[e1]; exact hc.b,by rw[e1]; exact hc.i,by rw[e1]; exact hc.c1,by rw[e1]; exact hc.c2,by rw[e1]; exact hc.no,by rw[e1]; exact hc.yes,by rw[e1]; exact hc.q⟩
  ·rw[hcp c c0,if_pos rfl] at h0;have h0:(0:Int)<=-1:=h0;omega
 ·rename_i hg;have hg:MB F c=false:=by simpa using hg
  refine⟨⟨pa,fun d d0 d1=>pc d d0 (by rw[<-f.cs]; exact d1) fun _=>hg⟩,hO,honF,fun h0=>?_,hflF⟩;unfold MB at hg;rw[decide_eq_true h0,Bool.true_and,Bool.or_eq_false_iff] at hg;exact⟨by simpa using hg.1,by simpa using hg.2⟩
theorem zg8{W:Q7}(p:Vx W):∀c:Nat,c<=W.cpus.length->Vx (JE W c)/\(JE W c).cpus.length=W.cpus.length/\(JE W c).tasks=W.tasks/\QS W.groups (JE W c).groups/\∀d:Int,0<=d->d<(c:Int)->Dn (JE W c) d
 | 0,_=>⟨p,rfl,rfl,QS.refl _,fun d a b=>by omega⟩
 | c+1,hc=>by
  obtain⟨a,e,et,eg,ih⟩:=zg8 p c (by omega);obtain⟨p1,o,dn⟩:=zp6 a (c:=(c:Int)) (by omega) (by rw[e]; omega);refine⟨p1,o.len.trans e,o.t.trans et,eg.trans o.g,fun d d0 d1=>?_⟩
  by_cases h:d=(c:Int)
  ·subst h; exact dn
  ·exact(ih d d0 (by omega)).oth a o d0 (by rw[e]; omega) h
theorem zmz{K:Int}{W:Q7}(sw:SW K W)(p:Vx W)(hK:0<=K):Vx (Qg W)/\Fr W (Qg W)/\∀d:Int,0<=d->d<(W.cpus.length:Int)->Dn (Qg W) d:=by
 obtain⟨a,e⟩:=Ak p W.cpus.length (Nat.le_refl _);obtain⟨s1,_⟩:=Od (F:=K) (K:=K+Qk) (sw.sf.mono (Int.le_refl _) (by simp only[Qk]; omega)) (Int.le_refl _) W.cpus.length (Nat.le_refl _);obtain⟨s2,b2⟩:=Tu s1 8 (Nat.le_refl _);have p2:=a.onlyB b2 s2.w.a;have e2:(YP (YH W W.cpus.length) 8).cpus.length=W.cpus.length:=by rw[b2.c,e]
 obtain⟨p3,e3,_,_,dn⟩:=zg8 p2 W.cpus.length (by rw[e2]; exact Nat.le_refl _);exact⟨p3,(Tb sw hK).2,dn⟩
theorem zus{K:Int}{W:Q7}(sw:SW K W)(hK:K<=100000000000000000)(p:Vx W)(hl:BZ W)(dn:∀d:Int,0<=d->d<(W.cpus.length:Int)->Dn W d):Xs W/\zv1 W:=by
 have tm:∀k c:Int,Q6 W.groups k=true->0<=c->c<(W.cpus.length:Int)->Zz (Qc W k c).floor=true/\Zz (Qc W k c).v=true:=fun k c hu c0 c1=>by
  have:=sw.s k c hu c0 c1;exact⟨ZY.2 (by omega),ZY.2 (by omega)⟩
 have tv:∀t:Int,0<=t->t<12->Zz (Q8 W t).v=true:=fun t t0 t1=>by
  have:=sw.tv t t0 t1;exact ZY.2 (by omega)
 refine⟨⟨p.a,fun t t0 t1=>?_,fun k c k0 k1 c0 c1=>?_,fun c c0 c1=>?_⟩,fun k c hu c0 c1 hB=>(dn c c0 c1).fl k hu hB⟩
 ·rcases p.t t t0 t1 with hz | ⟨n,hx⟩
  ·exact .inl hz
  ·obtain⟨d0,d1⟩:=p.l t t0 t1 n;exact .inr ⟨n,hx.st,hx.g,hx.n,hx.m,hx.m0,tv t t0 t1,hx.s,hx.u,hx.l1,hx.l2,hl t t0 t1 n,fun h1=>(D1 (tv t t0 t1) (tm _ _ hx.g d0 d1).1).2 (hx.f h1)⟩
 ·have hgl:=p.a.gl
  have hu:Q6 W.groups k=true:=by
   cases hb:(gi W.groups k).used with
   | true=>exact Q5.2 ⟨k0,by omega,hb⟩
   | false=>
    have:=((p.a.grp k k0 k1).1 hb).l;omega
  have hsl:=p.a.sl hu;have c1:c<(W.cpus.length:Int):=by omega
  have hs:=p.s k c hu c0 c1;have ht:=tm k c hu c0 c1;have hw:=sw.s k c hu c0 c1;exact⟨ht.1,ht.2,hs.s,hw.2.2.2.2.1,hw.2.2.2.2.2,hs.root,fun hz=>(dn c c0 c1).on k hu hz,fun hz ho=>(D1 ht.2 (tm _ c (p.a.up hu hz) c0 c1).1).2 (hs.st hz ho)⟩
 ·have hc:=p.c c c0 c1;have htl:=p.a.t;refine⟨hc.b,hc.i,hc.c1,by have:=hc.c2; omega,hc.no,fun h0=>?_⟩;obtain⟨y1,y2,y3⟩:=hc.yes h0;obtain⟨z1,z2⟩:=(dn c c0 c1).cu h0
  have hs:(Q8 W (gi W.cpus c).cur).state=1:=by
   unfold Zy at z2;rw[Bool.and_eq_true] at z2;exact eq_of_beq z2.1
  obtain⟨q1,q2⟩:=hc.q h0 hs z1;refine⟨y1,y2,y3,z1,z2,?_⟩;unfold OS VJ;rw[Bool.and_eq_true,List.all_eq_true];exact⟨decide_eq_true q1,fun x hx=>decide_eq_true (q2 x hx).2⟩
theorem Yw{α β:Type}[Inhabited α]{f:α->β}(l:List α)(k:Int){x:α}(h:f x=f (gi l k))(i:Int):f (gi (l.set k.toNat x) i)=f (gi l i):=by
 unfold gi at *;simp only[List.getD_eq_getElem?_getD,List.getElem?_set] at *
 by_cases e:k.toNat=i.toNat
 ·rw[if_pos e];split
  ·rw[<-e]; simpa using h
  ·rename_i hl;have:l[i.toNat]? = none:=List.getElem?_eq_none_iff.2 (by omega);rw[this]
 ·rw[if_neg e]
structure VA (W W':Q7):Prop where
 g:QS W.groups W'.groups
 m:∀i:Int,(gi W'.groups i).cpus=(gi W.groups i).cpus
 w:∀i:Int,(gi W'.groups i).weight=(gi W.groups i).weight
 len:W'.cpus.length=W.cpus.length
 u:∀i:Int,(gi W'.cpus i).up=(gi W.cpus i).up
theorem VA.refl(W:Q7):VA W W:=⟨QS.refl _,fun _=>rfl,fun _=>rfl,rfl,fun _=>rfl⟩
theorem VA.trans{A B C:Q7}(h:VA A B)(k:VA B C):VA A C:=⟨h.g.trans k.g,fun i=>(k.m i).trans (h.m i),fun i=>(k.w i).trans (h.w i),k.len.trans h.len,fun i=>(k.u i).trans (h.u i)⟩
theorem zjb{W:Q7}{g:Int}{x:ZA}(u:x.used=(gi W.groups g).used)(p:x.parent=(gi W.groups g).parent)(n:x.name=(gi W.groups g).name)(m:x.cpus=(gi W.groups g).cpus)(w:x.weight=(gi W.groups g).weight):VA W (setGr W g x):=
 ⟨⟨List.length_set,fun i=>Yw (f:=ZA.used) _ _ u i,fun i=>Yw (f:=ZA.parent) _ _ p i,fun i=>Yw (f:=ZA.name) _ _ n i⟩,fun i=>Yw (f:=ZA.cpus) _ _ m i,fun i=>Yw (f:=ZA.weight) _ _ w i,rfl,fun _=>rfl⟩
theorem C5(W:Q7)(g c:Int)(s:Mx):VA W (setSh W g c s):=zjb rfl rfl rfl rfl rfl
theorem zja(W:Q7)(g:Int)(b:Jb):VA W (setBd W g b):=zjb rfl rfl rfl rfl rfl
theorem zjd(W:Q7)(t:Int)(x:P5):VA W (setTk W t x):=⟨QS.refl _,fun _=>rfl,fun _=>rfl,rfl,fun _=>rfl⟩
theorem zew{W:Q7}{c:Int}{x:OY}(u:x.up=(gi W.cpus c).up):VA W (setCp W c x):=⟨QS.refl _,fun _=>rfl,fun _=>rfl,List.length_set,fun i=>Yw (f:=OY.up) _ _ u i⟩
theorem L5(W:Q7)(c:Int):VA W (endW W c):=zew rfl
theorem ED(W:Q7)(c d:Int):∀k:Nat,VA W (ZO W c d k)
 | 0=>VA.refl _
 | k+1=>by
  simp only[ZO];split
  ·exact(ED W c d k).trans (C5 _ _ _ _)
  ·exact ED W c d k
theorem GE(W:Q7)(c:Int):∀j:Nat,VA W (XB W c j)
 | 0=>VA.refl _
 | j+1=>(GE W c j).trans (ED _ _ _ _)
theorem C4(W:Q7):∀c:Nat,VA W (YH W c)
 | 0=>VA.refl _
 | c+1=>(C4 W c).trans (GE (YH W c) (c:Int) 3)
theorem EB(W:Q7)(k:Int):∀c:Nat,VA W (Yx W k c)
 | 0=>VA.refl _
 | c+1=>by
  simp only[Yx];split
  ·exact(EB W k c).trans (zja _ _ _)
  ·exact EB W k c
theorem EC(W:Q7):∀k:Nat,VA W (YP W k)
 | 0=>VA.refl _
 | k+1=>by
  simp only[YP];split
  ·exact(EC W k).trans (EB _ _ _)
  ·exact EC W k
theorem GD(W:Q7)(c:Int):∀k:Nat,VA W (QY W c k)
 | 0=>VA.refl _
 | k+1=>by
  simp only[QY];split
  ·exact(GD W c k).trans (C5 _ _ _ _)
  ·exact GD W c k
theorem zm2(W:Q7)(c:Int):VA W (Vu W c):=by
 have h:=(GE W c 3).trans (GD (QN W c) c 8);unfold Vu;split
 ·exact h.trans (L5 _ _)
 ·exact h
theorem zch(W:Q7):∀c:Nat,VA W (JE W c)
 | 0=>VA.refl _
 | c+1=>(zch W c).trans (zm2 (JE W c) (c:Int))
theorem zjc(W:Q7):VA W (Qg W):=((C4 W W.cpus.length).trans (EC (YH W W.cpus.length) 8)).trans (zch (LE (YH W W.cpus.length)) W.cpus.length)
theorem VA.ups{W W':Q7}(h:VA W W'):J2 W'.cpus=J2 W.cpus:=ze0 h.len fun j _=>h.u j
theorem VA.pin{W W':Q7}(h:VA W W')(g u:Int):UW W'.groups g u=UW W.groups g u:=by
 unfold UW;rw[show QX W'.groups g=QX W.groups g from h.g.path 3 g]
 congr 1
 funext s x
 rw[h.m]
theorem VA.wh{W W':Q7}(h:VA W W')(g m:Int):Qs W' g m=Qs W g m:=by
 unfold Qs;rw[h.ups,h.pin]
theorem VA.loc{W W':Q7}(h:VA W W')(ht:W'.tasks=W.tasks)(hl:BZ W):BZ W':=fun t t0 t1 n=>by
 rw[XF ht] at n ⊢;rw[h.wh];exact hl t t0 t1 n
theorem C2{K:Int}{W:Q7}(sw:SW K W)(hK:0<=K)(hK2:K+UL<=100000000000000000)(p:Vx W)(hl:BZ W):Xs (Qg W)/\zv1 (Qg W):=by
 obtain⟨p1,hf,dn⟩:=zmz sw p hK;exact zus (Tb sw hK).1 hK2 p1 ((zjc W).loc hf.t hl) fun d d0 d1=>dn d d0 (by rw[<-hf.c]; exact d1)
theorem zho.cong{W W':Q7}{k c:Int}(h:zho W k c)(e:Qc W' k c=Qc W k c)(ep:k≠0->(Qc W' (gi W'.groups k).parent c).floor=(Qc W (gi W.groups k).parent c).floor):zho W' k c:=
 ⟨by rw[e]; exact h.s,by rw[e]; exact h.root,fun hz ho=>by
  rw[e] at ho;have:=h.st hz ho;unfold UM at this ⊢;rw[e,ep hz]; exact this⟩
theorem Vx.setTk{W:Q7}(p:Vx W){t:Int}(t0:0<=t)(t1:t<12){x:P5}(hx:x.state=0/\x=VK\/x.state≠0/\GP W x/\0<=x.cpu/\x.cpu<(W.cpus.length:Int))(hc:∀c:Int,0<=c->c<(W.cpus.length:Int)->(gi W.cpus c).cur=t->x.state=1->x.cpu=c->x.v-(Qc W x.group c).floor<=Z3 (gi W.cpus c).ran (Qe x.nice)/\∀y∈QX W.groups x.group,UM W y c/\(Qc W y c).v-(Qc W (gi W.groups y).parent c).floor<=Z3 (gi W.cpus c).ran (Qc W y c).w):Vx (setTk W t x):=by
 have hl:=p.a.t;have e:∀i:Int,0<=i->Q8 (YtnclplgaicdapaaGreatDoor.setTk W t x) i=if t=i then x else Q8 W i:=fun i i0=>Qw _ _ t0 (by omega) i0
 refine⟨⟨p.a.tk List.length_set,fun i a b=>?_,fun i a b n=>?_,fun k c hu c0 c1=>?_⟩,fun c c0 c1=>?_⟩
 ·rw[e i a];split
  ·rcases hx with h | ⟨h1,h2,_⟩
   ·exact .inl h
   ·exact .inr ⟨h1,h2.st,h2.g,h2.n,h2.m,h2.m0,h2.s,h2.u,h2.l1,h2.l2,h2.f⟩
  ·rcases p.t i a b with h | ⟨h1,h2⟩
   ·exact .inl h
   ·exact .inr ⟨h1,h2.st,h2.g,h2.n,h2.m,h2.m0,h2.s,h2.u,h2.l1,h2.l2,h2.f⟩
 ·rw[e i a] at n ⊢;split
  ·rename_i h;rw[if_pos h] at n;rcases hx with h | ⟨_,_,h2⟩
   ·exact absurd h.1 n
   ·exact h2
  ·rename_i h;rw[if_neg h] at n;exact p.l i a b n
 ·exact(p.s k c hu c0 c1).cong rfl fun _=>rfl
 ·have h:=p.c c c0 c1;refine⟨h.b,h.i,h.c1,h.c2,h.no,h.yes,fun h0=>?_⟩;rw[e _ h0];split
  ·rename_i he;exact fun h1 h2=>hc c c0 c1 he.symm h1 h2
  ·exact h.q h0
def Gg(p:Nat->Bool):Nat->Int
 | 0 => -1
 | k+1=>if (decide (Gg p k<0)&&p k)=true then (k:Int) else Gg p k
theorem PJ(p:Nat->Bool):∀k:Nat,(Gg p k = -1/\∀j,j<k->p j=false)\/(0<=Gg p k/\Gg p k<(k:Int)/\p (Gg p k).toNat=true/\∀j:Nat,(j:Int)<Gg p k->p j=false)
 | 0=>.inl ⟨rfl,fun j hj=>absurd hj (Nat.not_lt_zero j)⟩
 | k+1=>by
  simp only[Gg];rcases PJ p k with ⟨h1,h2⟩ | ⟨h1,h2,h3,h4⟩
  ·cases hp:p k with
   | true=>
    rw[h1,if_pos (by rfl)];exact .inr ⟨by omega,by omega,by simpa using hp,fun j hj=>h2 j (by omega)⟩
   | false=>
    rw[if_neg (by simp),h1];refine .inl ⟨rfl,fun j hj=>?_⟩
    by_cases e:j=k
    ·rw[e]; exact hp
    ·exact h2 j (by omega)
  ·rw[if_neg (by rw[decide_eq_false (by omega:¬Gg p k<0)]; simp)];exact .inr ⟨h1,by omega,h3,h4⟩
theorem zj7{p:Nat->Bool}{n:Nat}(h:∀j,j<n->p j=false):Gg p n = -1:=by
 rcases PJ p n with ⟨h1,_⟩ | ⟨h1,h2,h3,_⟩
 ·exact h1
 ·rw[h _ (by omega)] at h3; cases h3
theorem zj6{p:Nat->Bool}{n:Nat}{a:Int}(a0:0<=a)(a1:a<(n:Int))(hp:p a.toNat=true)(hn:∀j:Nat,(j:Int)<a->p j=false):Gg p n=a:=by
 rcases PJ p n with ⟨_,h2⟩ | ⟨h1,h2,h3,h4⟩
 ·rw[h2 _ (by omega)] at hp; cases hp
 ·by_cases l:Gg p n<a
  ·rw[hn _ (by omega)] at h3; cases h3
  ·by_cases g:a<Gg p n
   ·rw[h4 _ (by omega)] at hp; cases hp
   ·omega
def OF(W:Q7)(j:Nat):Bool:=(Q8 W (j:Int)).state==0
def Vm(W:Q7):Int:=Gg (OF W) 12
noncomputable def Tt(W:Q7)(g n x:Int):Int:=if Qe n=0\/O9 x=false\/x=0 then 1 else if Q6 W.groups g=false then 2 else if Vm W<0 then 3 else if QK W=false then 10 else 0
def MA(W:Q7)(g x:Int):Int:=P2 W (Qs W g x)
def Kh(W:Q7)(g n x:Int):P5:=⟨1,g,MA W g x,n,x,(Qc W g (MA W g x)).floor,0,0,0⟩
def zfx(W:Q7)(g n x:Int):Q7:=Qg (endW (setTk W (Vm W) (Kh W g n x)) (MA W g x))
noncomputable def V0(W:Q7)(bar:Int)(W':Q7)(a:Int):Q7×Int×Int:=if Qv W=false then (Pi,-1,1) else if bar≠0 then (W,-1,bar) else (W',a,0)
def Tk(r:Q7×Int×Int)(w:Wo)(v:Va)(w':Wo):Prop:=∃n m',v=.tuple #[.agg (Qa r.1 m').toArray,.int .i64 r.2.1,.int .i64 r.2.2]/\Y1 n w.heap.size w' r.1 m'/\Q0 [] w w'
structure zu4 (W:Q7) (g n x:Int):Prop where
 w:Qe n≠0
 m:O9 x=true
 m0:x≠0
 u:Q6 W.groups g=true
 f0:0<=Vm W
 f1:Vm W<12
 f2:(Q8 W (Vm W)).state=0
 r:QK W=true
 sw:SW Qp W
 c0:0<=MA W g x
 c1:MA W g x<(W.cpus.length:Int)
 ch:Z8 (Qs W g x) (MA W g x)=true
 sw2:SW Qp (setTk W (Vm W) (Kh W g n x))
theorem zj5{W:Q7}{g n x:Int}(hW:Qv W=true)(hb:Tt W g n x=0):zu4 W g n x:=by
 have wp:=Qh.1 hW;unfold Tt at hb
 split at hb
 ·cases hb
 ·rename_i h1
  split at hb
  ·cases hb
  ·rename_i h2
   split at hb
   ·cases hb
   ·rename_i h3
    split at hb
    ·cases hb
    ·rename_i h4;have h4:QK W=true:=by simpa using h4
     have h2:Q6 W.groups g=true:=by simpa using h2
     have sw:=OT wp (Qh.1 h4)
     have hf:0<=Vm W/\Vm W<12/\OF W (Vm W).toNat=true:=by
      rcases PJ (OF W) 12 with ⟨a,_⟩ | ⟨a,b,c,_⟩
      ·unfold Vm at h3; omega
      ·exact⟨a,b,c⟩
     obtain⟨c0,c1,ch⟩:=L1 wp.a g x;have hs:=sw.s g _ h2 c0 c1;have e:(((Vm W).toNat:Nat):Int)=Vm W:=by omega
     refine⟨fun h=>h1 (.inl h),?_,fun h=>h1 (.inr (.inr h)),h2,hf.1,hf.2.1,?_,h4,sw,c0,c1,ch,sw.setTk hf.1 hf.2.1 (x:=Kh W g n x) (fun _=>⟨h2,c0,c1⟩) hs.1 hs.2.1⟩
     ·cases hm:O9 x with
      | true=>rfl
      | false=>exact absurd (.inr (.inl hm)) h1
     ·have:=hf.2.2;unfold OF at this;rw[e] at this;exact eq_of_beq this
section
variable {W W':Q7}{m:MW}{w:Wo}{bar a:Int}
theorem Tk.bad{w':Wo}(hW:Qv W=false)(hx:Q0 [] w w'):Tk (V0 W bar W' a) w (.tuple #[.agg (Qa Pi zqq).toArray,.int .i64 (-1),.int .i64 1]) w':=by
 rw[show V0 W bar W' a=(Pi,-1,1) from if_pos hW];exact⟨0,zqq,rfl,Y1.zero _ _,hx⟩
theorem Tk.no{n:Nat}{bs:List Nat}{w':Wo}{m':MW}(hW:Qv W=true)(hb:bar≠0)(hk:Wk n bs w w' W m'){c:Int}(hc:bar=c):Tk (V0 W bar W' a) w (.tuple #[.agg (Qa W m').toArray,.int .i64 (-1),.int .i64 c]) w':=by
 rw[show V0 W bar W' a=(W,-1,c) by unfold V0; rw[if_neg (by rw[hW]; decide),if_pos hb,hc]];exact⟨n,m',rfl,hk.fin⟩
theorem Tk.ok{n:Nat}{bs:List Nat}{w':Wo}{m':MW}(hW:Qv W=true)(hb:bar=0)(hk:Wk n bs w w' W' m'):Tk (V0 W bar W' a) w (.tuple #[.agg (Qa W' m').toArray,.int .i64 a,.int .i64 0]) w':=by
 rw[show V0 W bar W' a=(W',a,0) by unfold V0; rw[if_neg (by rw[hW]; decide),if_neg (by simpa using hb)]];exact⟨n,m',rfl,hk.fin⟩
theorem MF{g n x:Int}(h:YZ [] w W m)(hl:Xc W) :
  Cz YT #[.agg (Qa W m).toArray,.int .i64 g,.int .i64 n,.int .i64 x] w fun e w'=>∃v,e=.returned v/\Tk (V0 W (Tt W g n x) (zfx W g n x) (Vm W)) w v w':=by
 refine FM W.now m.cO W.cpus.length m.cC m.tO W.tasks.length m.tC m.gO W.groups.length m.gC g n x (R:=fun v w'=>Tk (V0 W (Tt W g n x) (zfx W g n x) (Vm W)) w v w') ?_;intro y hy y1 hy1 wr hx2 hs2;refine Calls.mono (Z5 (h.ext hx2) hl) ?_;rintro e wv (⟨hW,he,hy2⟩ | ⟨hW,m',he,hM,hy2⟩)
 ·exact⟨_,_,_,_,_,_,_,_,_,_,_,he,Qd hy2 hs2,fun _ wr1 hx3=>Tk.bad hW ((hx2.trans hy2).fresh hx3 fun z hm=>.inl (Yr hy hy1 z hm)),fun g=>by simp at g⟩
 have hK:=Wk.begin hy hy1 hx2 hs2 hM hy2;have hr:=hK.rd;have wp:=Qh.1 hW;have htl:=wp.a.t;refine⟨_,_,_,_,_,_,_,_,_,_,_,he,Qd hy2 hs2,fun g=>by split at g <;> simp at g,fun _=>⟨_,ZB,_,fun _=>YQ,fun g1 wr2 hx3=>?_,fun g1=>⟨_,YR hr.g,fun g2 wr3 hx3=>?_,fun g2=>⟨⟨by omega,by omega⟩,?_⟩⟩⟩⟩
 ·have hb:Tt W g n x=1:=by
   unfold Tt;rw[if_pos];simp only[Bool.or_eq_true,beq_iff_eq,Bool.not_eq_true'] at g1;rcases g1 with (g1 | g1) | g1
   ·exact .inl g1
   ·exact .inr (.inl g1)
   ·exact .inr (.inr g1)
  exact Tk.no hW (by rw[hb]; decide) (hK.step hx3) hb
 ·have n1:¬(Qe n=0\/O9 x=false\/x=0):=by
   simp only[Bool.or_eq_false_iff,beq_eq_false_iff_ne,Bool.not_eq_false',ne_eq] at g1;rintro (h | h | h)
   ·exact g1.1.1 h
   ·rw[g1.1.2] at h; cases h
   ·exact g1.2 h
  have hb:Tt W g n x=2:=by unfold Tt; rw[if_neg n1,if_pos (by simpa using g2)]
  exact Tk.no hW (by rw[hb]; decide) (hK.step hx3) hb
 have n1:¬(Qe n=0\/O9 x=false\/x=0):=by
  simp only[Bool.or_eq_false_iff,beq_eq_false_iff_ne,Bool.not_eq_false',ne_eq] at g1;rintro (h | h | h)
  ·exact g1.1.1 h
  ·rw[g1.1.2] at h; cases h
  ·exact g1.2 h
 have hu:Q6 W.groups g=true:=by simpa using g2
 have n2:¬Q6 W.groups g=false:=by rw[hu]; decide
 refine⟨fun vs w1=>∃a t:Int,vs=[.int .i64 a,.int .i64 t]/\-1<=t/\t<12/\(a = -1/\(∀j:Nat,t<(j:Int)->j<12->OF W j=false)\/t<a/\a<12/\OF W a.toNat=true/\∀j:Nat,t<(j:Int)->(j:Int)<a->OF W j=false)/\Q0 [y,y1] wv w1,
  fun vs _=>(Y5 1 vs+1).toNat,fun w1 hx0 _=>⟨-1,_,rfl,by omega,by omega,.inl ⟨rfl,fun j h1 h2=>by omega⟩,hx0⟩,?_⟩
 rintro av tv wv1 hs3 ⟨a,t,he2,ht0,ht1,hcond,hxw⟩;simp only[List.cons.injEq,Value.int.injEq,true_and,and_true] at he2;obtain⟨rfl,rfl⟩:=he2;have hK1:=hK.step hxw;have hr1:=hK1.rd;refine⟨fun hlt=>?_,fun hge=>?_⟩
 ·have hlt:=Ot hlt;have e:((tv.toNat:Nat):Int)=tv:=by omega
  have hst:OF W tv.toNat=((Q8 W tv).state==0):=by unfold OF; rw[e]
  refine⟨hr1.t.ix QI hlt (by omega),_,hr1.t.f hlt (by omega) (j:=0) rfl,fun g3=>⟨⟨by omega,by omega⟩,fun wr5 hx5 _=>⟨⟨tv,tv-1,rfl,by omega,by omega,.inr ⟨by omega,ht1,by rw[hst]; exact g3,fun j h1 h2=>by omega⟩,hxw.trans hx5⟩,?_⟩⟩,fun g3=>⟨⟨by omega,by omega⟩,fun wr6 hx6 _=>⟨⟨av,tv-1,rfl,by omega,by omega,?_,hxw.trans hx6⟩,?_⟩⟩⟩
  ·simp only[Y5,List.getElem?_cons_zero,List.getElem?_cons_succ]; omega
  ·have g3:OF W tv.toNat=false:=by rw[hst]; exact g3
   have one:∀j:Nat,tv-1<(j:Int)->¬tv<(j:Int)->OF W j=false:=fun j h1 h2=>by
    have:j=tv.toNat:=by omega
    rw[this]; exact g3
   rcases hcond with ⟨h1,h2⟩ | ⟨h1,h2,h3,h4⟩
   ·exact .inl ⟨h1,fun j j1 j2=>if h:tv<(j:Int) then h2 j h j2 else one j j1 h⟩
   ·exact .inr ⟨by omega,h2,h3,fun j j1 j2=>if h:tv<(j:Int) then h4 j h j2 else one j j1 h⟩
  ·simp only[Y5,List.getElem?_cons_zero,List.getElem?_cons_succ]; omega
 ·have hge:=Ou hge;have ht:tv = -1:=by omega
  subst ht
  have hfree:av=Vm W:=by
   rcases hcond with ⟨h1,h2⟩ | ⟨h1,h2,h3,h4⟩
   ·rw[h1]; exact(zj7 fun j hj=>h2 j (by omega) hj).symm
   ·exact(zj6 (by omega) h2 h3 fun j hj=>h4 j (by omega) hj).symm
  subst hfree;refine⟨fun g4 wr7 hx7=>?_,fun g4=>⟨fun g5 wr8 hx8=>?_,fun g5=>?_⟩⟩
  ·have g4:=Ot g4;have hb:Tt W g n x=3:=by unfold Tt; rw[if_neg n1,if_neg n2,if_pos g4]
   exact Tk.no hW (by rw[hb]; decide) (hK1.step hx7) hb
  ·have g4:=Ou g4;have hr0:¬QK W=true:=fun hr=>by rw[if_pos hr] at g5; simp at g5
   have hb:Tt W g n x=10:=by unfold Tt; rw[if_neg n1,if_neg n2,if_neg g4,if_pos (by simpa using hr0)]
   rw[if_neg hr0];exact Tk.no hW (by rw[hb]; decide) (hK1.step hx8) hb
  have g4:=Ou g4;have hr0:QK W=true:=Decidable.byContradiction fun hr=>by rw[if_neg hr] at g5; simp at g5
  have hb:Tt W g n x=0:=by unfold Tt; rw[if_neg n1,if_neg n2,if_neg g4,if_neg (by rw[hr0]; decide)]
  have hf:=zj5 hW hb;obtain⟨u0,u1,_⟩:=Q5.1 hu;have hsl:=wp.a.sl hu;have c0:=hf.c0;have c1:=hf.c1;have f0:=hf.f0;have f1:=hf.f1;have hset:Wk 8 [y,y1] w (sto wv1 m'.tO (Int.toNat (Vm W)*9) (YM (Kh W g n x))) (setTk W (Vm W) (Kh W g n x)) m':=hK1.sto (hK1.own.stoT f0 (by rw[htl]; exact f1) (j:=0) (vs:=YM (Kh W g n x)) (x:=Kh W g n x) (by simp[YM]) (by simp[YM])) Lv;refine⟨_,XA hr1 wp.a.c2 wp.a.tree hu,_,MH hr1 wp.a (zoz wp),hr1.g.ix u0 u1,_,_,_,hr1.g.shelf u0 u1,(hr1.g.shelves g u0 u1).ix ZD c0 (by rw[hsl]; exact c1),(Qc W g (MA W g x)).floor,ze8.f (hr1.g.shelves g u0 u1) c0 (by rw[hsl]; exact c1) (j:=0) rfl,hr1.t.ix QI f0 (by rw[htl]; exact f1),ze9 hK1.own hK1.nb f0 (by rw[htl]; exact f1) (j:=0) (k:=9) (by decide),fun wr9 hx9 hs9=>?_⟩;have e5:Qa (setTk W (Vm W) (Kh W g n x)) m'=Qa W m':=Hq _ _ _ _;have hK4:=hset.step hx9;have hcall2:=Zp hK4.own c0 (show MA W g x<((setTk W (Vm W) (Kh W g n x)).cpus.length:Int) from c1);rw[e5] at hcall2;refine Calls.mono hcall2 ?_;rintro e2 wv2 ⟨he2,hy4⟩;refine⟨_,_,_,_,_,_,_,_,_,_,he2,hK4.kept hy4 hs9,fun wr10 hx10 hs10=>?_⟩;have hK7:=(hK4.deed hy4 hs9).step hx10;have hcall3:=Qq hK7.own (hf.sw2.endW c0 c1) (by decide) (by decide) hK7.base;refine Calls.mono hcall3 ?_;rintro e3 wv3 ⟨m2,he3,hy5⟩;exact⟨_,_,_,_,_,_,_,_,_,_,he3,hK7.kept hy5 hs10,fun wr8 hx8=>Tk.ok hW hb ((hK7.deed hy5 hs10).step hx8)⟩
end
section
variable {base pb:Nat}{W W':Q7}{m:MW}{w:Wo}
end
structure XU (W:Q7):Prop where
 wp:Xs W
 fl:zv1 W
theorem Zn{K:Int}{W:Q7}(sw:SW K W)(hK:0<=K)(hK2:K+UL<=100000000000000000)(p:Vx W)(hl:BZ W):XU (Qg W):=by
 obtain⟨a,b⟩:=C2 sw hK hK2 p hl;exact⟨a,b⟩
theorem BZ.endW{W:Q7}(h:BZ W)(c:Int):BZ (endW W c):=(L5 W c).loc rfl h
theorem BZ.setTk{W:Q7}(h:BZ W)(ha:WA W){t:Int}(t0:0<=t)(t1:t<12){x:P5}(hx:x.state≠0->Z8 (Qs W x.group x.mask) x.cpu=true):BZ (setTk W t x):=fun i i0 i1 n=>by
 have hl:=ha.t;have e:Q8 (YtnclplgaicdapaaGreatDoor.setTk W t x) i=if t=i then x else Q8 W i:=Qw _ _ t0 (by omega) i0;rw[e] at n ⊢;rw[(zjd W t x).wh]
 split at n
 ·rename_i he;rw[if_pos he]; exact hx n
 ·rename_i he;rw[if_neg he]; exact h i i0 i1 n
theorem zra(W:Q7)(t c:Int)(x:P5):endW (setTk W t x) c=setTk (endW W c) t x:=rfl
theorem Th{W:Q7}(p:Vx W){t:Int}(t0:0<=t)(t1:t<12)(n:(Q8 W t).state≠0):GP W (Q8 W t):=by
 rcases p.t t t0 t1 with h | h
 ·exact absurd h.1 n
 ·exact h.2
theorem zl7{W:Q7}{t:Int}(hW:Qv W=true)(hb:V2 W t=0):XU (zdd W t):=by
 have wp:=Qh.1 hW;obtain⟨h1,h2,sw,sw2⟩:=zfg hW hb;obtain⟨t0,t1,n⟩:=YB h1;have hl:=wp.a.t;have p:=X5 wp;have h:=Th p t0 (by omega) n;have hloc:=U1 wp;refine Zn sw2 (by decide) (by decide) (p.setTk t0 (by omega) (.inr ⟨by show (2:Int)≠0; decide,⟨.inr rfl,h.g,h.n,h.m,h.m0,h.s,h.u,h.l1,h.l2,fun h=>by cases h⟩,p.l t t0 (by omega) n⟩) fun c c0 c1 _ hs _=>by cases hs) (hloc.setTk wp.a t0 (by omega) fun _=>hloc t t0 (by omega) n)
theorem zoo{W:Q7}{t:Int}(hW:Qv W=true)(hb:Tr W t=0):XU (ET W t):=by
 have wp:=Qh.1 hW;obtain⟨h1,_,sw,_,sw2⟩:=zdv hW hb;obtain⟨t0,t1,n⟩:=YB h1;have hl:=wp.a.t;have p:=X5 wp;obtain⟨c0,c1⟩:=p.l t t0 (by omega) n
 have key:Vx (QQ W t)/\BZ (QQ W t):=by
  unfold QQ;split
  ·exact⟨p.endW c0 c1,(U1 wp).endW _⟩
  ·exact⟨p,U1 wp⟩
 exact Zn sw2 (by decide) (by decide) (key.1.setTk t0 (by omega) (.inl ⟨rfl,rfl⟩) fun c c0 c1 _ hs _=>by cases hs) (key.2.setTk key.1.a t0 (by omega) fun h=>absurd rfl h)
theorem BQ{W:Q7}(p:Vx W){t c:Int}(t0:0<=t)(t1:t<12){x:P5}(n:x.state≠0)(hx:GP W x)(hc:x.cpu=c)(c0:0<=c)(c1:c<(W.cpus.length:Int)):Vx (endW (setTk W t x) c):=by
 rw[zra];have hl:(endW W c).cpus.length=W.cpus.length:=List.length_set;refine(p.endW c0 c1).setTk t0 t1 (.inr ⟨n,⟨hx.st,hx.g,hx.n,hx.m,hx.m0,hx.s,hx.u,hx.l1,hx.l2,hx.f⟩,by rw[hl,hc]; exact⟨c0,c1⟩⟩) fun d d0 d1 hcur _ hd=>?_
 rw[hc] at hd;subst hd;have e1:gi (endW W c).cpus c=Xd (gi W.cpus c):=(Qw _ _ c0 c1 c0).trans (if_pos rfl);rw[e1] at hcur;have hcur:(-1:Int)=t:=hcur;omega
theorem zua(f v w:Int):f<=f+X3 (v-f) w/\f+X3 (v-f) w-f<=Zq w:=by
 have:=ZQ (v-f) w;omega
theorem zoq{W:Q7}{t n:Int}(hW:Qv W=true)(hb:O2 W t n=0):XU (Kw W t n):=by
 have wp:=Qh.1 hW;have hq:=zko hW hb;obtain⟨t0,t1,tn⟩:=YB hq.th;have hl:=wp.a.t;have p:=X5 wp;have hw:Qe n≠0:=fun h=>by unfold O2 at hb; rw[if_pos h] at hb; cases hb
 have h:=Th p t0 (by omega) tn;obtain⟨c0,c1⟩:=p.l t t0 (by omega) tn;have hloc:=U1 wp;have hL:BZ (setTk W t (XD W t n)):=hloc.setTk wp.a t0 (by omega) fun _=>hloc t t0 (by omega) tn
 have hT:GP W (XD W t n):=⟨h.st,h.g,hw,h.m,h.m0,h.s,h.u,h.l1,h.l2,fun hs=>by
  have hs:(Q8 W t).state=1:=hs;rw[zkn hs];exact zua _ _ _⟩
 have hK:K1+UL<=100000000000000000:=by simp only[K1,Qk,UL]; decide
 have hK0:0<=K1:=by simp only[K1,Qk]; decide
 unfold Kw;split
 ·rename_i hs
  have hlv:QQ (setTk W t (XD W t n)) t=if (gi W.cpus (Q8 W t).cpu).cur=t then endW (setTk W t (XD W t n)) (Q8 W t).cpu else setTk W t (XD W t n):=by
   unfold QQ;rw[EJ t0 t1]; rfl
  have s2:=hq.s2;rw[hlv] at s2 ⊢;split
  ·rename_i hcur;rw[if_pos hcur] at s2;exact Zn s2 hK0 hK (BQ p t0 (by omega) tn hT rfl c0 c1) (hL.endW _)
  ·rename_i hcur;rw[if_neg hcur] at s2;refine Zn s2 hK0 hK (p.setTk t0 (by omega) (.inr ⟨tn,hT,c0,c1⟩) fun d d0 d1 hd _ hx=>?_) hL;have hx:(Q8 W t).cpu=d:=hx;rw[hx] at hcur;exact absurd hd hcur
 ·rename_i hs;exact Zn hq.s1 hK0 hK (p.setTk t0 (by omega) (.inr ⟨tn,hT,c0,c1⟩) fun d d0 d1 hd hx _=>absurd hx hs) hL
theorem zos{W:Q7}{t:Int}(hW:Qv W=true)(hb:Ph W t=0):XU (F2 W t):=by
 have wp:=Qh.1 hW;obtain⟨h1,h2,_,sf,c0,c1⟩:=zle hW hb;obtain⟨t0,t1,tn⟩:=YB h1;have hl:=wp.a.t;have p:=X5 wp;have h:=Th p t0 (by omega) tn;have hloc:=U1 wp
 have hT:GP W (Vv W t (OX W t)):=⟨.inl rfl,h.g,h.n,h.m,h.m0,h.s,h.u,h.l1,h.l2,fun _=>by
  have:=ZQ ((Q8 W t).v-(Qc W (Q8 W t).group (Q8 W t).cpu).floor) (Qe (Q8 W t).nice);show (Qc W (Q8 W t).group (OX W t)).floor<=(Qc W (Q8 W t).group (OX W t)).floor+E7 W t/\(Qc W (Q8 W t).group (OX W t)).floor+E7 W t-(Qc W (Q8 W t).group (OX W t)).floor<=Zq (Qe (Q8 W t).nice);unfold E7;exact⟨by omega,by omega⟩⟩
 have hwh:Z8 (Qs W (Q8 W t).group (Q8 W t).mask) (OX W t)=true:=by
  unfold OX;split
  ·exact(L1 wp.a _ _).2.2
  ·exact hloc t t0 (by omega) tn
 exact Zn ((ze4 sf t0 t1 tn c0 c1).endW c0 c1).w (by simp only[Qk]; decide) (by simp only[Qk,UL]; decide) (BQ p t0 (by omega) (show (1:Int)≠0 by decide) hT rfl c0 c1) ((hloc.setTk wp.a t0 (by omega) (x:=Vv W t (OX W t)) fun _=>hwh).endW _)
def Hd(l u:Int):Int:=if Yo l 0 8000000=true/\Yo u 0 1000000=true then l-Int.tdiv l 8+u else 0
def CX(x:P5):P5:={ x with used:=0,load:=ZX (Hd x.load (ZX x.used 1000000)) 8000000 }
def TI(W:Q7):Nat->Q7
 | 0=>W
 | t+1=>setTk (TI W t) (t:Int) (CX (Q8 (TI W t) (t:Int)))
def Kv(next p now:Int):Nat->Int
 | 0=>next
 | i+1=>if Kv next p now i<=now+((i:Int)+1) then Kv next p now i+p else Kv next p now i
structure zng (next p now v:Int):Prop where
 gt:now<v
 at':∃j:Nat,v=next+p*(j:Int)/\(j=0\/v-p<=now)
theorem Gp{next p now:Int}(hp:1<=p)(hn:now<next):∀i:Nat,zng next p (now+(i:Int)) (Kv next p now i)
 | 0=>⟨by simp only[Kv]; omega,0,by simp only[Kv]; omega,.inl rfl⟩
 | i+1=>by
  obtain⟨h1,j,h2,h3⟩:=Gp hp hn i;simp only[Kv]
  push_cast
  split
  ·refine⟨by omega,j+1,?_,.inr (by omega)⟩;rw[h2]; push_cast; rw[Int.mul_add,Int.mul_one,Int.add_assoc]
  ·exact⟨by omega,j,h2,h3.imp id fun h=>by omega⟩
theorem zrt{next p now v v':Int}(hp:1<=p)(h:zng next p now v)(h':zng next p now v'):v=v':=by
 obtain⟨h1,j,h2,h3⟩:=h;obtain⟨k1,k,k2,k3⟩:=h'
 have key:∀a b:Nat,a<b->p*(a:Int)+p<=p*(b:Int):=fun a b hab=>by
  have:p*((a:Int)+1)<=p*(b:Int):=Int.mul_le_mul_of_nonneg_left (by omega) (by omega);rw[Int.mul_add,Int.mul_one] at this;exact this
 rcases Nat.lt_trichotomy j k with h | h | h
 ·have:=key j k h; omega
 ·subst h; omega
 ·have:=key k j h; omega
def Xk(now:Int)(n:Nat)(G:ZA):ZA:=if (G.used&&(G.band.quota != 0))=true/\G.next<=now+(n:Int) then { G with next:=Kv G.next G.period now n,band:=JR G.band } else G
theorem zit{now:Int}{G:ZA}(h:G.band.quota≠0->now<G.next):Xk now 0 G=G:=by
 unfold Xk;rw[if_neg];rintro⟨h1,h2⟩;simp only[Bool.and_eq_true,bne_iff_ne,ne_eq] at h1;have:=h h1.2;simp at h2;omega
def Vr(W:Q7)(n:Nat):Nat->Q7
 | 0=>{ W with now:=W.now+(n:Int) }
 | k+1=>setGr (Vr W n k) (k:Int) (Xk W.now n (gi W.groups (k:Int)))
def ZC(W:Q7)(n:Nat):Q7:=Vr W n 8
noncomputable def ML(W:Q7)(n:Int):Int:=if Yo n 1 1000=false then 1 else if QK W=false then 10 else 0
def zcn(W:Q7)(n:Int):Q7:=Qg (TI (ZC W n.toNat) 12)
theorem KY(now:Int)(n:Nat)(G:ZA):(Xk now n G).used=G.used/\(Xk now n G).parent=G.parent/\(Xk now n G).name=G.name/\(Xk now n G).shelves=G.shelves/\(Xk now n G).weight=G.weight/\(Xk now n G).cpus=G.cpus/\(Xk now n G).sum=G.sum/\(Xk now n G).period=G.period/\(Xk now n G).band.quota=G.band.quota:=by
 unfold Xk; split <;> exact⟨rfl,rfl,rfl,rfl,rfl,rfl,rfl,rfl,rfl⟩
theorem T8(W:Q7)(n:Nat):∀k:Nat,(Vr W n k).groups.length=W.groups.length/\(Vr W n k).now=W.now+(n:Int)/\(Vr W n k).cpus=W.cpus/\(Vr W n k).tasks=W.tasks
 | 0=>⟨rfl,rfl,rfl,rfl⟩
 | k+1=>by
  obtain⟨a,b,c,d⟩:=T8 W n k;exact⟨by show (List.set _ _ _).length=_; rw[List.length_set]; exact a,b,c,d⟩
theorem M0(W:Q7)(n:Nat):∀k:Nat,k<=W.groups.length->∀i:Int,0<=i->gi (Vr W n k).groups i=if i<(k:Int) then Xk W.now n (gi W.groups i) else gi W.groups i
 | 0,_,i,i0=>by rw[if_neg (by omega)]; rfl
 | k+1,hk,i,i0=>by
  have ih:=M0 W n k (by omega) i i0;have hl:=(T8 W n k).1;show gi (setGr (Vr W n k) (k:Int) _).groups i=_;rw[Yj (by omega) (by omega) i0]
  by_cases e:(k:Int)=i
  ·subst e;rw[if_pos rfl,if_pos (by omega)]
  ·rw[if_neg e,ih]
   by_cases h:i<(k:Int)
   ·rw[if_pos h,if_pos (by omega)]
   ·rw[if_neg h,if_neg (by omega)]
theorem zj1(W:Q7):∀k:Nat,(TI W k).groups=W.groups/\(TI W k).now=W.now/\(TI W k).cpus=W.cpus/\(TI W k).tasks.length=W.tasks.length
 | 0=>⟨rfl,rfl,rfl,rfl⟩
 | k+1=>by
  obtain⟨a,b,c,d⟩:=zj1 W k;exact⟨a,b,c,by show (List.set _ _ _).length=_; rw[List.length_set]; exact d⟩
theorem zj2{K:Int}{W:Q7}(h:SW K W):∀k:Nat,k<=12->SW K (TI W k)
 | 0,_=>h
 | k+1,hk=>by
  have ih:=zj2 h k (by omega);have hv:=ih.tv (k:Int) (by omega) (by omega);exact ih.setTk (by omega) (by omega) (x:=CX (Q8 (TI W k) (k:Int))) (fun hs=>ih.t (k:Int) (by omega) (by omega) hs) hv.1 hv.2
theorem zfu{b:Jb}(h:Vz b):Vz (JR b)/\(JR b).locals.length=b.locals.length:=by
 have hd:=h.dl;refine⟨⟨h.q1,h.q2,by simp only[JR,List.length_replicate]; have:=h.l1; omega,by simp only[JR,List.length_replicate]; have:=h.l2; omega,by simp[JR],by simp only[JR]; have:=h.q1; omega,Int.le_refl _,by simp[JR],by simp only[JR]; have:=h.q1; omega,fun c c0 c1=>?_,?_⟩,by simp[JR,hd]⟩
 ·simp only[JR,List.length_replicate] at c1 ⊢;rw[TR _ _ c0 c1,TR _ _ c0 c1];have:=h.q1;exact⟨Int.le_refl _,by omega,fun h=>by cases h⟩
 ·simp only[JR,List.length_replicate];rw[EF _ _ (Nat.le_refl _)]; omega
theorem zpk{W W':Q7}{n:Nat}{k:Int}{G:ZA}(hg:zhm W k G)(hu:G.used=true)(hn:W'.now=W.now+(n:Int))(hc:W'.cpus.length=W.cpus.length):zhm W' k (Xk W.now n G):=by
 obtain⟨_,_,_,u4,u5,u6,u7,u8,u9⟩:=KY W.now n G;refine⟨by rw[u5]; exact hg.w1,by rw[u5]; exact hg.w2,by rw[u6]; exact hg.m,by rw[u6]; exact hg.m0,by rw[u7]; exact hg.s,by rw[u4,hc]; exact hg.len,fun h=>by rw[u5,u6,u9]; exact hg.root h,fun hq=>?_,fun hq=>?_⟩
 ·rw[u9] at hq
  have:Xk W.now n G=G:=by
   unfold Xk;rw[if_neg];rintro⟨h1,_⟩;simp only[Bool.and_eq_true,bne_iff_ne,ne_eq] at h1;exact h1.2 hq
  rw[this];exact hg.none hq
 ·rw[u9] at hq;obtain⟨b1,b2,b3,b4,b5,b6⟩:=hg.band hq;rw[hn,hc];unfold Xk;split
  ·obtain⟨f1,f2⟩:=zfu b1;have hj:=Gp b3 b5 n;refine⟨f1,by show (JR G.band).locals.length=_; rw[f2]; exact b2,b3,b4,hj.gt,?_⟩;obtain⟨h1,j,h2,h3⟩:=hj;show Kv G.next G.period W.now n-(W.now+(n:Int))<=G.period;rcases h3 with rfl | h3
   ·simp at h2; omega
   ·omega
  ·rename_i hcnd;have hlt:W.now+(n:Int)<G.next:=Int.not_le.1 fun hle=>hcnd ⟨by rw[hu]; simpa using hq,hle⟩
   exact⟨b1,b2,b3,b4,hlt,by omega⟩
theorem Gx(W:Q7)(n:Nat):∀k:Nat,k<=W.groups.length->QS W.groups (Vr W n k).groups
 | 0,_=>QS.refl _
 | k+1,hk=>by
  have ih:=Gx W n k (by omega);have hl:=(T8 W n k).1;have e:=M0 W n k (by omega) (k:Int) (by omega);rw[if_neg (by omega)] at e;obtain⟨u1,u2,u3,_⟩:=KY W.now n (gi W.groups (k:Int));exact ih.trans (Ja (W:=Vr W n k) (g:=(k:Int)) (x:=Xk W.now n (gi W.groups (k:Int))) (by omega) (by omega) (by rw[u1,e]) (by rw[u2,e]) (by rw[u3,e]))
theorem zpl{K:Int}{W:Q7}{n:Nat}(h:SW K W)(h1:W.now+(n:Int)<=100000000000000000):SW K (ZC W n):=by
 have hl:=h.a.gl;have hT:=Gx W n 8 (by omega);obtain⟨l1,l2,l3,l4⟩:=T8 W n 8
 have e:∀i:Int,0<=i->i<8->gi (ZC W n).groups i=Xk W.now n (gi W.groups i):=fun i a b=>by
  have:=M0 W n 8 (by omega) i a
  rwa[if_pos (show i<((8:Nat):Int) by omega)] at this
 have n1:=h.a.n1;have et:∀t:Int,Q8 (ZC W n) t=Q8 W t:=fun t=>by unfold Q8; rw[show (ZC W n).tasks=W.tasks from l4]
 have ec:(ZC W n).cpus=W.cpus:=l3;have hT:QS W.groups (ZC W n).groups:=hT;refine⟨⟨by rw[show (ZC W n).now=_ from l2]; omega,by rw[show (ZC W n).now=_ from l2]; exact h1,by rw[ec]; exact h.a.c1,by rw[ec]; exact h.a.c2,by rw[show (ZC W n).tasks=W.tasks from l4]; exact h.a.t,hT.tree h.a.tree,by rw[ec]; exact h.a.ups,fun k a b=>?_⟩,fun t a b hs=>?_,fun t a b=>?_,fun k c u a b=>?_,fun c a b=>?_⟩
 ·have hg:=h.a.grp k a b;obtain⟨u1,u2,u3,u4,u5,u6,u7,u8,u9⟩:=KY W.now n (gi W.groups k);unfold Pl;rw[e k a b];refine⟨fun hu=>?_,fun hu=>?_⟩
  ·rw[u1] at hu
   have:Xk W.now n (gi W.groups k)=gi W.groups k:=by
    unfold Xk;rw[if_neg];rintro⟨h1,_⟩;rw[hu] at h1;cases h1
   rw[this];exact hg.1 hu
  ·rw[u1] at hu;exact zpk (hg.2 hu) hu l2 (by rw[ec])
 ·rw[et] at hs ⊢;rw[hT.usd,ec];exact h.t t a b hs
 ·rw[et]; exact h.tv t a b
 ·rw[hT.usd] at u;rw[ec] at b;have hk:=Q5.1 u
  have:Qc (ZC W n) k c=Qc W k c:=by
   unfold Qc;rw[e k hk.1 (by omega),(KY W.now n (gi W.groups k)).2.2.2.1]
  rw[this];exact h.s k c u a b
 ·rw[ec] at b ⊢;exact h.cu c a b
theorem zun{W:Q7}(ha:WA W):ZC W 0=W:=by
 have hl:=ha.gl;obtain⟨l1,l2,l3,l4⟩:=T8 W 0 8
 have hg:(ZC W 0).groups=W.groups:=zia l1 fun k hk=>by
  have hk8:k<8:=by have:(ZC W 0).groups.length=W.groups.length:=l1; omega
  have:=M0 W 0 8 (by omega) (k:Int) (by omega);rw[if_pos (by omega)] at this;refine this.trans (zit fun hq=>?_);have hgp:=ha.grp (k:Int) (by omega) (by omega)
  cases hu:(gi W.groups (k:Int)).used with
  | true=>exact((hgp.2 hu).band hq).2.2.2.2.1
  | false=>
   have:=(hgp.1 hu).b;exact absurd (by unfold T7 at this; simp only[Bool.and_eq_true,beq_iff_eq] at this; exact this.1.1.1.1) hq
 have h2:(ZC W 0).now=W.now:=by rw[show (ZC W 0).now=_ from l2]; simp
 have h3:(ZC W 0).cpus=W.cpus:=l3;have h4:(ZC W 0).tasks=W.tasks:=l4;generalize ZC W 0=V at hg h2 h3 h4;cases V;cases W;simp only at hg h2 h3 h4;subst hg; subst h2; subst h3; subst h4;rfl
theorem zla{W:Q7}{n:Int}(hW:Qv W=true)(hb:ML W n=0):Yo n 1 1000=true/\QK W=true/\SW Qp W/\W.now<=Qp/\SW Qp (ZC W n.toNat)/\SW Qp (TI (ZC W n.toNat) 12):=by
 have wp:=Qh.1 hW;unfold ML at hb
 split at hb
 ·cases hb
 ·rename_i h1
  split at hb
  ·cases hb
  ·rename_i h3;have h1:Yo n 1 1000=true:=by simpa using h1
   have h3:QK W=true:=by simpa using h3
   have hr:=Qh.1 h3;have sw:=OT wp hr;have hn:=hr.n;have hi:=Qo.1 h1;have hh:Qp=50000000000000000:=rfl;have s1:=zpl (n:=n.toNat) sw (by omega);exact⟨h1,h3,sw,hn,s1,zj2 s1 12 (Nat.le_refl _)⟩
section
variable {W W':Q7}{m:MW}{w:Wo}{bar:Int}
theorem zq1{l u:Int}(h1:Yo l 0 8000000=true)(h2:Yo u 0 1000000=true):0<=Int.tdiv l 8/\Int.tdiv l 8<=l:=by
 have:=Qo.1 h1;rw[Int.tdiv_eq_ediv_of_nonneg this.1];omega
theorem DZ{bs:List Nat}{l u:Int}:PX bs Vb #[.int .i64 l,.int .i64 u] w (.int .i64 (Hd l u)):=
 Eo l u fun wr hx=>⟨_,Qj,_,fun _=>Qj,fun g=>(by
  unfold Hd;rw[if_neg];rintro⟨h1,h2⟩;rw[h1,h2] at g
  cases g),fun g=>by
  have h1:Yo l 0 8000000=true:=by cases h:Yo l 0 8000000 <;> simp_all
  have h2:Yo u 0 1000000=true:=by cases h:Yo u 0 1000000 <;> simp_all
  have hb:=zq1 h1 h2;have i1:=Qo.1 h1;have i2:=Qo.1 h2;refine⟨⟨by decide,by omega,by omega⟩,⟨by omega,by omega⟩,⟨by omega,by omega⟩,?_⟩;unfold Hd;rw[if_pos ⟨h1,h2⟩]⟩
theorem zi7{W:Q7}{k:Int}(h0:0<=k)(h1:k<(W.groups.length:Int)):setGr W k (gi W.groups k)=W:=by
 unfold setGr;rw[zg2 h0 h1]
theorem B9{n:Int}(h:YZ [] w W m)(hl:Xc W) :
  Cz VV #[.agg (Qa W m).toArray,.int .i64 n] w fun e w'=>∃v,e=.returned v/\QG (YG W (ML W n) (zcn W n)) w v w':=by
 refine FQ W.now m.cO W.cpus.length m.cC m.tO W.tasks.length m.tC m.gO W.groups.length m.gC n (R:=fun v w'=>QG (YG W (ML W n) (zcn W n)) w v w') ?_;intro x hx x1 hx1 wr hx2 hs2;refine Calls.mono (Z5 (h.ext hx2) hl) ?_;rintro e wv (⟨hW,he,hy⟩ | ⟨hW,m',he,hM,hy⟩)
 ·exact⟨_,_,_,_,_,_,_,_,_,_,_,he,Qd hy hs2,false,fun g=>by simp at g,fun _ wr1 hx3=>QG.bad hW ((hx2.trans hy).fresh hx3 fun y hm=>.inl (Yr hx hx1 y hm)),fun g=>by simp at g⟩
 have hK:=Wk.begin hx hx1 hx2 hs2 hM hy;have hc1:((if QK W=true then 0 else 10:Int)==1)=false:=by split <;> rfl
 refine⟨_,_,_,_,_,_,_,_,_,_,_,he,Qd hy hs2,_,fun _=>Qj,fun g wr1 hx3=>?_,fun g=>⟨fun g3 wr2 hx3=>?_,fun g3=>?_⟩⟩
 ·rw[hc1] at g;have g:Yo n 1 1000=false:=by simpa using g
  have hb:ML W n=1:=by unfold ML; rw[if_pos g]
  exact QG.no hW (by rw[hb]; decide) (hK.step hx3) hb
 ·rw[hc1] at g;have g:Yo n 1 1000=true:=by simpa using g
  have hr0:¬QK W=true:=fun hr=>by rw[if_pos hr] at g3; simp at g3
  have hb:ML W n=10:=by unfold ML; rw[if_neg (by rw[g]; decide),if_pos (by simpa using hr0)]
  rw[if_neg hr0];exact QG.no hW (by rw[hb]; decide) (hK.step hx3) hb
 rw[hc1] at g;have g:Yo n 1 1000=true:=by simpa using g
 have hr0:QK W=true:=Decidable.byContradiction fun hr=>by rw[if_neg hr] at g3; simp at g3
 have hb:ML W n=0:=by unfold ML; rw[if_neg (by rw[g]; decide),if_neg (by rw[hr0]; decide)]
 obtain⟨_,_,sw,hnow,sp,sd⟩:=zla hW hb;have hn:=Qo.1 g;obtain⟨N,rfl⟩:=Int.eq_ofNat_of_zero_le (show 0<=n by omega);have hE:zcn W (N:Int)=Qg (TI (ZC W N) 12):=by unfold zcn; rw[Int.toNat_natCast]
 rw[Int.toNat_natCast] at sp sd;rw[hE];have hgl:=sw.a.gl;have htl:=sw.a.t;have hn1:=sw.a.n1;have hh:Qp=50000000000000000:=rfl;refine⟨⟨by omega,by omega⟩,?_⟩;refine OM W.groups.length 0 rfl (fun k w2=>k<=8/\∃m2,Wk 8 [x,x1] w w2 (Vr W N k) m2/\m2={ m' with ms:=m2.ms }) (fun w2 hx3 _=>⟨by decide,m',(show Wk 8 [x,x1] w wv (Vr W N 0) m' from ⟨hK.s,⟨⟨hK.own.c,hK.own.t,hK.own.g,hK.own.len⟩,hK.nb⟩⟩).step hx3,rfl⟩) fun k w2 hs3 ⟨hk8,m2,hK2,hd2⟩=>?_
 obtain⟨l1,l2,l3,l4⟩:=T8 W N k;have eG:=M0 W N k (by omega) (k:Int) (by omega);rw[if_neg (by omega)] at eG;have hdef:Vr W N (k+1)=setGr (Vr W N k) (k:Int) (Xk W.now N (gi W.groups (k:Int))):=rfl;have hend:k=8->ZC W N=Vr W N k:=fun e=>by rw[e]; rfl
 have hself:(k:Int)<(W.groups.length:Int)->setGr (Vr W N k) (k:Int) (gi W.groups (k:Int))=Vr W N k:=fun hlt=>by
  have:=zi7 (W:=Vr W N k) (k:=(k:Int)) (by omega) (by omega)
  rwa[eG] at this
 have emg:m2.gO=m'.gO:=by rw[hd2]
 have emc:m2.gC=m'.gC:=by rw[hd2]
 refine⟨fun hlt=>?_,fun hge=>?_⟩
 ·have hlt:=Ot hlt;generalize Vr W N k=V at hK2 l1 l2 l3 l4 eG hdef hend hself;have hr:=hK2.rd;have hltV:(k:Int)<(V.groups.length:Int):=by omega
  have hix:Ix m'.gO W.groups.length (k:Int):=by have:=hr.g.ix (i:=(k:Int)) (by omega) hltV; rwa[l1,emg] at this
  have hcs:=hr.g.cells (k:Int) (by omega) hltV;rw[eG,emg] at hcs;refine⟨hix,_,_,_,_,_,_,_,_,_,_,_,_,_,_,_,_,_,_,_,_,hcs,fun b2 hb2=>⟨fun g4=>⟨⟨by omega,by omega⟩,fun w3 hx3 _=>Z0 (by omega) ⟨by omega,m2,?_,hd2⟩⟩,fun g4 wr5 hx5 hs5=>?_⟩⟩
  ·have:Xk W.now N (gi W.groups (k:Int))=gi W.groups (k:Int):=by
    unfold Xk;rw[if_neg];rintro⟨a,b⟩;simp only[Bool.or_eq_true,Bool.not_eq_true',beq_iff_eq,decide_eq_true_eq] at g4;simp only[Bool.and_eq_true,bne_iff_ne,ne_eq] at a;rcases g4 with (h1 | h1) | h1
    ·rw[a.1] at h1; cases h1
    ·exact a.2 h1
    ·omega
   rw[hdef,this,hself hlt];exact hK2.step hx3
  ·simp only[Bool.or_eq_false_iff,Bool.not_eq_false',beq_eq_false_iff_ne,ne_eq,decide_eq_false_iff_not] at g4;obtain⟨⟨hu,hq⟩,hdue⟩:=g4;have hgu:=(sw.a.grp (k:Int) (by omega) (by omega)).2 hu;obtain⟨hbd,hbl,hp1,hp2,hnx,hnp⟩:=hgu.band hq
   have hP:Xk W.now N (gi W.groups (k:Int))={ gi W.groups (k:Int) with next:=Kv (gi W.groups (k:Int)).next (gi W.groups (k:Int)).period W.now N,band:=JR (gi W.groups (k:Int)).band }:=by
    unfold Xk;rw[if_pos ⟨by rw[hu]; simpa using hq,by omega⟩]
   have hJ:=Gp hp1 hnx N;have hK3:=(hK2.add hb2).step (hx5.mono fun y hy=>List.mem_append_left _ hy);have hr5:=hK3.o.rd0;have hLo:=hr5.g.locals (k:Int) (by omega) hltV;have hDo:=hr5.g.dry (k:Int) (by omega) hltV;rw[eG] at hLo hDo;refine Calls.mono (J4 (op:=⟨4,0,0⟩) hbd hLo hDo) ?_;rintro e wv2 ⟨pb,he,hO,hy2⟩;have hbdE:YC (gi W.groups (k:Int)).band ⟨4,0,0⟩=(JR (gi W.groups (k:Int)).band,0):=by unfold YC; rw[if_pos rfl]
   rw[hbdE] at he hO
   dsimp only at he hO
   refine⟨_,_,_,_,_,_,_,_,_,_,he,Qd hy2 hs5,fun b3 hb3=>?_⟩;have hK4:=(hK3.call0 hy2).add hb3
   have hOb:∀y∈Zt pb,y∉QB 8 m2/\y∉[x,x1]++[b2]++[b3]:=fun y hy=>by
    have:=hO.lt y hy;refine⟨fun hm=>by have:=(hK3.own.lt y hm).2; omega,fun hm=>?_⟩;rcases List.mem_append.1 hm with h1 | h1
    ·have:=hs5 y h1; omega
    ·have:y=b3:=by simpa using h1
     omega
   have hO4:QR w.heap.size wv2 (JR (gi W.groups (k:Int)).band) pb:=hO.mono hK3.base;refine⟨fun vs w'=>∃v:Int,vs=Yc { gi W.groups (k:Int) with next:=v,band:=JR (gi W.groups (k:Int)).band } (VH (m2.ms k) pb)/\(∃j:Nat,v=(gi W.groups (k:Int)).next+(gi W.groups (k:Int)).period*(j:Int)/\(j=0\/v-(gi W.groups (k:Int)).period<=W.now+(N:Int)))/\0<=v/\Wk 8 ([x,x1]++[b2]++[b3]) w w' V m2/\QR w.heap.size w' (JR (gi W.groups (k:Int)).band) pb,fun vs _=>(W.now+(N:Int)+1-Y5 6 vs).toNat,fun wr7 hx7 hs7=>⟨(gi W.groups (k:Int)).next,by simp[Yc,VH],⟨0,by simp,.inl rfl⟩,by omega,hK4.step (hx7.mono fun y hy=>List.mem_append_left _ hy),hO4.ext hx7 fun y hy hm=>(hOb y hy).2 (List.mem_append_left _ hm)⟩,?_⟩;rintro l0 a1 a2 a3 a4 a5 a6 a7 a8 a9 a10 a11O a11L a11C a12O a12L a12C a13O a13L a13C wv4 hs4 ⟨v,hv,hj,hv0,hK5,hO5⟩;simp only[Yc,QT,List.cons_append,List.nil_append,List.cons.injEq,Value.bool.injEq,Value.int.injEq,Value.string.injEq,Value.slice.injEq,true_and,and_true] at hv;obtain⟨rfl,rfl,rfl,rfl,rfl,rfl,rfl,rfl,rfl,rfl,rfl,⟨rfl,rfl,rfl⟩,⟨rfl,rfl,rfl⟩,rfl,rfl,rfl⟩:=hv;refine⟨fun hle=>?_,fun hgt=>?_⟩
   ·have hle:=Ot hle;refine⟨⟨by omega,by omega⟩,fun wr8 hx8 hs8=>⟨⟨a6+(gi W.groups (k:Int)).period,rfl,?_,by omega,hK5.step hx8,hO5.ext hx8 fun y hy=>(hOb y hy).2⟩,?_⟩⟩
    ·obtain⟨j,h1,_⟩:=hj;exact⟨j+1,by rw[h1]; push_cast; rw[Int.mul_add,Int.mul_one,Int.add_assoc],.inr (by omega)⟩
    ·show (_-(a6+(gi W.groups (k:Int)).period)).toNat<(_-a6).toNat;omega
   ·have hgt:=Ou hgt;have hv6:a6=Kv (gi W.groups (k:Int)).next (gi W.groups (k:Int)).period W.now N:=zrt hp1 ⟨by omega,hj⟩ hJ;have hwr:=zbc hK5.own hK5.nb (i:=(k:Int)) (by omega) (by omega) (j:=0) (k:=14) (by decide);rw[emg] at hwr;refine⟨hix,hwr,⟨by omega,by omega⟩,fun wr9 hx9 hs9=>Z0 (by omega) ⟨by omega,Oc m2 k (VH (m2.ms k) pb),?_,by rw[hd2]; rfl⟩⟩;rw[hdef];have hK6:=hK5.gr (g:=(k:Int)) (by omega) (by omega) (G:=Xk W.now N (gi W.groups (k:Int))) (p:=pb) (j:=0) (vs:=Yc (Xk W.now N (gi W.groups (k:Int))) (VH (m2.ms k) pb)) (by rw[hP]; exact hO5) hOb (by rw[eG]; exact(KY _ _ _).2.2.2.1) (by simp[Yc]) (by simp[Yc]);refine(hK6.step (w':=wr9) ?_).sub fun y hy=>List.mem_append_left _ (List.mem_append_left _ hy)
    rw[hP,<-hv6,emg];exact hx9
 ·have hge:=Ou hge;rw[<-hend (by omega)] at hK2 l1 l2 l3 l4;have emt:m2.tO=m'.tO:=by rw[hd2]
  refine OM W.tasks.length 0 rfl (fun t w2=>t<=12/\Wk 8 [x,x1] w w2 (TI (ZC W N) t) m2) (fun w2 hx3 _=>⟨by decide,hK2.step hx3⟩) fun t w2 hs4 ⟨ht12,hK3⟩=>?_
  obtain⟨q1,q2,q3,q4⟩:=zj1 (ZC W N) t;have hdef2:TI (ZC W N) (t+1)=setTk (TI (ZC W N) t) (t:Int) (CX (Q8 (TI (ZC W N) t) (t:Int))):=rfl;have hend2:t=12->TI (ZC W N) 12=TI (ZC W N) t:=fun e=>by rw[e]
  generalize hU:TI (ZC W N) t=U at hK3 q1 q2 q3 q4 hdef2 hend2;have hr:=hK3.rd;refine⟨fun hlt=>?_,fun hge2 wr12 hx12 hs12=>?_⟩
  ·have hlt:=Ot hlt;have t1:(t:Int)<(U.tasks.length:Int):=by rw[q4,l4]; exact hlt
   have hix:Ix m'.tO W.tasks.length (t:Int):=by have:=hr.t.ix QI (i:=(t:Int)) (by omega) t1; rwa[q4,l4,emt] at this
   have hcs:=hr.t (t:Int) (by omega) t1;rw[emt] at hcs;have hwr:=ze9 hK3.own hK3.nb (i:=(t:Int)) (by omega) t1 (j:=0) (k:=9) (by decide);rw[emt] at hwr;refine⟨hix,_,_,_,_,_,_,_,_,_,hcs,fun b4 hb4=>⟨_,XS,_,DZ,_,XS,hix,hwr,⟨by omega,by omega⟩,fun wr11 hx11 hs11=>Z0 (by omega) ⟨by omega,?_⟩⟩⟩;rw[hdef2];have hset:=hK3.own.stoT (i:=(t:Int)) (by omega) t1 (j:=0) (vs:=YM (CX (Q8 U (t:Int)))) (x:=CX (Q8 U (t:Int))) (by simp[YM]) (by simp[YM]);have hK4:=hK3.sto hset Lv;rw[emt] at hK4;exact hK4.step hx11
  ·have hge2:=Ou hge2;rw[hend2 (by omega)] at sd ⊢;have hK4:=hK3.step hx12;have hcall:=Qq hK4.own sd (by decide) (by decide) hK4.base
   have e5:Qa U m2=[.int .i64 (W.now+(N:Int)),.slice m'.cO W.cpus.length m'.cC,.slice m'.tO W.tasks.length m'.tC,.slice m'.gO W.groups.length m'.gC]:=by
    unfold Qa;rw[q2,q3,q4,q1,l1,l2,l3,l4,hd2]
   rw[e5] at hcall;refine Calls.mono hcall ?_;rintro e2 wv2 ⟨m3,he2,hy2⟩;exact⟨_,_,_,_,_,_,_,_,_,_,he2,hK4.kept hy2 hs12,fun wr13 hx13=>QG.ok hW hb ((hK4.deed hy2 hs12).step hx13)⟩
structure Mn (base pb:Nat) (w0:Wo) (m0:MW) (w:Wo) (W:Q7) (m:MW):Prop where
 own:Y1 8 base w W m
 pt:w.heap[pb]? = some (.cells (Qa W m).toArray Q3 (0,0))
 pn:pb∉QB 8 m
 ext:Q0 (pb::QB 8 m0) w0 w
 sub:∀x∈QB 8 m,x∈QB 8 m0\/w0.heap.size<=x
section
variable {base pb:Nat}{w0 w':Wo}{m0 m':MW}
theorem Mn.start(h:PW base pb w W m):Mn base pb w m w W m:=⟨h.own,h.pt,h.pn,Q0.refl _ _,fun _ hx=>.inl hx⟩
end
end
theorem Vx.same{W W':Q7}(p:Vx W)(ha:WA W')(ht:W'.tasks=W.tasks)(hc:W'.cpus=W.cpus)(hT:QS W.groups W'.groups)(hs:∀k c:Int,Qc W' k c=Qc W k c):Vx W':=by
 have est:∀k c:Int,UM W' k c↔UM W k c:=fun k c=>by
  unfold UM;rw[hT.p,hs,hs]
 refine⟨⟨ha,fun t t0 t1=>?_,fun t t0 t1 n=>by rw[XF ht] at n ⊢; rw[hc]; exact p.l t t0 t1 n,fun k c hk c0 c1=>?_⟩,fun c c0 c1=>?_⟩
 ·rw[XF ht];rcases p.t t t0 t1 with h | ⟨h1,h2⟩
  ·exact .inl h
  ·exact .inr ⟨h1,h2.st,by rw[hT.usd]; exact h2.g,h2.n,h2.m,h2.m0,h2.s,h2.u,h2.l1,h2.l2,fun h=>by rw[hs]; exact h2.f h⟩
 ·rw[hT.usd] at hk;rw[hc] at c1;exact(p.s k c hk c0 c1).cong (hs _ _) fun _=>by rw[hT.p,hs]
 ·rw[hc] at c1;have h:=p.c c c0 c1;refine⟨by rw[hc]; exact h.b,by rw[hc]; exact h.i,by rw[hc]; exact h.c1,by rw[hc]; exact h.c2,by rw[hc]; exact h.no,by rw[hc]; exact h.yes,fun h0 h1 h2=>?_⟩;rw[hc,XF ht] at *;obtain⟨q1,q2⟩:=h.q h0 h1 h2;refine⟨by rw[hs]; exact q1,fun y hy=>?_⟩;rw[Vs hT] at hy;rw[est,hT.p,hs,hs];exact q2 y hy
theorem zsw{W W':Q7}(hT:QS W.groups W'.groups)(hm:∀i:Int,(gi W'.groups i).cpus=(gi W.groups i).cpus)(hu:J2 W'.cpus=J2 W.cpus)(g m:Int):Qs W' g m=Qs W g m:=by
 unfold Qs
 have hp:UW W'.groups g (J2 W.cpus)=UW W.groups g (J2 W.cpus):=by
  unfold UW;rw[show QX W'.groups g=QX W.groups g from hT.path 3 g]
  congr 1
  funext s x
  rw[hm]
 rw[hu,hp]
theorem BZ.same{W W':Q7}(h:BZ W)(ht:W'.tasks=W.tasks)(hT:QS W.groups W'.groups)(hm:∀i:Int,(gi W'.groups i).cpus=(gi W.groups i).cpus)(hu:J2 W'.cpus=J2 W.cpus):BZ W':=fun t t0 t1 n=>by
 rw[XF ht] at n ⊢;rw[zsw hT hm hu];exact h t t0 t1 n
theorem zi9{W:Q7}{g:Int}{x:ZA}(s:x.shelves=(gi W.groups g).shelves)(k c:Int):Qc (setGr W g x) k c=Qc W k c:=by
 unfold Qc;rw[show (gi (setGr W g x).groups k).shelves=(gi W.groups k).shelves from Yw (f:=ZA.shelves) _ _ s k]
theorem zrm{W:Q7}{g q p:Int}(hW:Qv W=true)(hb:zga W g q p=0):XU (zr5 W g q p):=by
 have wp:=Qh.1 hW;obtain⟨hu,hz,_,_,sw,sw2⟩:=zo0 hW hb;obtain⟨u0,u1,_⟩:=Q5.1 hu;have h:=zd8 (W:=W) (g:=g) (q:=q) (p:=p);have hT:=Ja (W:=W) (x:=Pw W g q p) u0 u1 h.1 h.2.1 h.2.2.1;exact Zn sw2 (by decide) (by decide) ((X5 wp).same sw2.a rfl rfl hT (zi9 h.2.2.2.1)) ((U1 wp).same rfl hT (fun i=>Yw (f:=ZA.cpus) _ _ h.2.2.2.2.2.1 i) rfl)
theorem zor{W:Q7}{n:Int}(hW:Qv W=true)(hb:ML W n=0):XU (zcn W n):=by
 have wp:=Qh.1 hW;obtain⟨_,_,sw,_,sp,sd⟩:=zla hW hb;have hgl:=wp.a.gl;obtain⟨l1,l2,l3,l4⟩:=T8 W n.toNat 8;have hT:QS W.groups (ZC W n.toNat).groups:=Gx W n.toNat 8 (by omega)
 have key:∀i:Int,(gi (ZC W n.toNat).groups i).shelves=(gi W.groups i).shelves/\(gi (ZC W n.toNat).groups i).cpus=(gi W.groups i).cpus:=fun i=>by
  have hu:=KY W.now n.toNat (gi W.groups ((i.toNat:Nat):Int));have e:=M0 W n.toNat 8 (by omega) ((i.toNat:Nat):Int) (by omega);rw[NV (ZC W n.toNat).groups i,NV W.groups i];unfold ZC;rw[e];split
  ·exact⟨hu.2.2.2.1,hu.2.2.2.2.2.1⟩
  ·exact⟨rfl,rfl⟩
 have p1:Vx (ZC W n.toNat):=(X5 wp).same sp.a l4 l3 hT fun k c=>by unfold Qc; rw[(key k).1]
 have q1:BZ (ZC W n.toNat):=(U1 wp).same l4 hT (fun i=>(key i).2) (by rw[show (ZC W n.toNat).cpus=W.cpus from l3])
 have all:∀k:Nat,k<=12->Vx (TI (ZC W n.toNat) k)/\BZ (TI (ZC W n.toNat) k):=by
  intro k
  induction k with
  | zero=>exact fun _=>⟨p1,q1⟩
  | succ k ih=>
   intro hk;obtain⟨a,b⟩:=ih (by omega);show Vx (setTk (TI (ZC W n.toNat) k) (k:Int) (CX (Q8 (TI (ZC W n.toNat) k) (k:Int))))/\BZ (setTk (TI (ZC W n.toNat) k) (k:Int) (CX (Q8 (TI (ZC W n.toNat) k) (k:Int))));generalize TI (ZC W n.toNat) k=V at a b
   by_cases hs:(Q8 V (k:Int)).state=0
   ·have hz:Q8 V (k:Int)=VK:=by
     rcases a.t (k:Int) (by omega) (by omega) with h | h
     ·exact h.2
     ·exact absurd hs h.1
    rw[hz];have hd:CX VK=VK:=by decide
    rw[hd];exact⟨a.setTk (by omega) (by omega) (.inl ⟨rfl,rfl⟩) fun c _ _ _ h _=>(by cases h),b.setTk a.a (by omega) (by omega) fun h=>absurd rfl h⟩
   ·have h:=Th a (t:=(k:Int)) (by omega) (by omega) hs;have hlo:=a.l (k:Int) (by omega) (by omega) hs
    have hld:0<=(CX (Q8 V (k:Int))).load/\(CX (Q8 V (k:Int))).load<=8000000:=by
     have h1:=h.l1;have h2:=h.l2;have h3:=ZY.1 h.u
     have ht:0<=Int.tdiv (Q8 V (k:Int)).load 8/\Int.tdiv (Q8 V (k:Int)).load 8<=(Q8 V (k:Int)).load:=by
      rw[Int.tdiv_eq_ediv_of_nonneg h1];omega
     show 0<=ZX (Hd (Q8 V (k:Int)).load (ZX (Q8 V (k:Int)).used 1000000)) 8000000/\ZX (Hd (Q8 V (k:Int)).load (ZX (Q8 V (k:Int)).used 1000000)) 8000000<=8000000;have hm:0<=ZX (Q8 V (k:Int)).used 1000000:=by unfold ZX; split <;> omega
     have hbt:0<=Hd (Q8 V (k:Int)).load (ZX (Q8 V (k:Int)).used 1000000):=by unfold Hd; split <;> omega
     generalize Hd (Q8 V (k:Int)).load (ZX (Q8 V (k:Int)).used 1000000)=y at hbt;unfold ZX
     split <;> omega
    refine⟨a.setTk (by omega) (by omega) (.inr ⟨hs,⟨h.st,h.g,h.n,h.m,h.m0,h.s,by show Zz 0=true; decide,hld.1,hld.2,h.f⟩,hlo⟩) fun c c0 c1 hcur h1 h2=>?_,b.setTk a.a (by omega) (by omega) fun _=>b (k:Int) (by omega) (by omega) hs⟩;have hc:=(a.c c c0 c1).q (by rw[hcur]; omega);rw[hcur] at hc;exact hc h1 h2
 obtain⟨p2,q2⟩:=all 12 (Nat.le_refl _);exact Zn sd (by decide) (by decide) p2 q2
theorem AS{W:Q7}(p:Vx W){t g c:Int}(t0:0<=t)(t1:t<12)(n:(Q8 W t).state≠0)(hg:Q6 W.groups g=true)(c0:0<=c)(c1:c<(W.cpus.length:Int)):Vx (UJ W t g c):=by
 have h:=Th p t0 t1 n
 have hT:GP W (Py W t g c):=⟨h.st,hg,h.n,h.m,h.m0,h.s,h.u,h.l1,h.l2,fun _=>by
  have:=ZQ ((Q8 W t).v-(Qc W (Q8 W t).group (Q8 W t).cpu).floor) (Qe (Q8 W t).nice);show (Qc W g c).floor<=(Qc W g c).floor+E7 W t/\(Qc W g c).floor+E7 W t-(Qc W g c).floor<=Zq (Qe (Q8 W t).nice);unfold E7;exact⟨by omega,by omega⟩⟩
 unfold UJ;split
 ·exact BQ p t0 t1 n hT rfl c0 c1
 ·rename_i hs;exact p.setTk t0 t1 (.inr ⟨n,hT,c0,c1⟩) fun d _ _ _ h _=>absurd h hs
theorem BU(W:Q7)(t g c:Int):VA W (UJ W t g c):=by
 unfold UJ;split
 ·exact(zjd _ _ _).trans (L5 _ _)
 ·exact zjd _ _ _
theorem zi1{W:Q7}(hl:W.tasks.length=12){t g c:Int}(t0:0<=t)(t1:t<12){i:Int}(i0:0<=i):Q8 (UJ W t g c) i=if t=i then Py W t g c else Q8 W i:=by
 have e:Q8 (setTk W t (Py W t g c)) i=if t=i then Py W t g c else Q8 W i:=Qw _ _ t0 (by omega) i0;unfold UJ;split
 ·exact e
 ·exact e
theorem zkw{W:Q7}(p:Vx W):∀k:Nat,k<=12->Vx (JD W k)/\VA W (JD W k)/\(∀t:Int,0<=t->t<(k:Int)->(Q8 (JD W k) t).state≠0->Z8 (Qs (JD W k) (Q8 (JD W k) t).group (Q8 (JD W k) t).mask) (Q8 (JD W k) t).cpu=true)
 | 0,_=>⟨p,VA.refl _,fun t a b=>by omega⟩
 | k+1,hk=>by
  obtain⟨a,b,d⟩:=zkw p k (by omega);simp only[JD];generalize JD W k=V at a b d;have hl:=a.a.t;split
  ·rename_i hm;unfold Kt at hm;simp only[Bool.and_eq_true,bne_iff_ne,ne_eq] at hm;have h:=Th a (t:=(k:Int)) (by omega) (by omega) hm.1;have hf:=Lc a.a (Q8 V (k:Int)).group (Q8 V (k:Int)).mask;have hw:=KM a.a (Q8 V (k:Int)).group (Q8 V (k:Int)).mask;refine⟨AS a (by omega) (by omega) hm.1 h.g hf.1 hf.2,b.trans (BU _ _ _ _),fun t t0 t1 n=>?_⟩;rw[(BU V _ _ _).wh];rw[zi1 hl (by omega) (by omega) t0] at n ⊢
   split at n
   ·rename_i he;rw[if_pos he];exact HI hw.1 hw.2
   ·rename_i he;rw[if_neg he];exact d t t0 (by omega) n
  ·rename_i hm;refine⟨a,b,fun t t0 t1 n=>?_⟩
   by_cases he:t=(k:Int)
   ·subst he;have hm:Kt V (k:Int)=false:=by simpa using hm
    unfold Kt at hm;rw[show ((Q8 V (k:Int)).state != 0)=true by simpa using n,Bool.true_and] at hm
    simpa using hm
   ·exact d t t0 (by omega) n
theorem BT{W:Q7}(sf:SF Qp (Qp+Qk) W)(p:Vx W):XU (Qg (Lu W)):=by
 obtain⟨a,b,d⟩:=zkw p 12 (Nat.le_refl _);exact Zn (L3 sf (Int.le_refl _)).1.w (by simp only[Qk]; decide) (by simp only[Qk,UL]; decide) a d
theorem zrq{W:Q7}{t x:Int}(hW:Qv W=true)(hb:Gz W t x=0):XU (zpq W t x):=by
 have wp:=Qh.1 hW;obtain⟨h1,_,sf⟩:=zpr hW hb;obtain⟨t0,t1,tn⟩:=YB h1;have hl:=wp.a.t;have p:=X5 wp;have h:=Th p t0 (by omega) tn
 have hx:O9 x=true/\x≠0:=by
  unfold Gz at hb
  split at hb
  ·cases hb
  ·rename_i hn;exact⟨by cases hm:O9 x with | true=>rfl | false=>exact absurd (.inl hm) hn,fun e=>hn (.inr e)⟩
 refine BT sf (p.setTk t0 (by omega) (.inr ⟨tn,⟨h.st,h.g,h.n,hx.1,hx.2,h.s,h.u,h.l1,h.l2,h.f⟩,p.l t t0 (by omega) tn⟩) fun c c0 c1 hcur h1 h2=>?_);have hc:=(p.c c c0 c1).q (by rw[hcur]; omega);rw[hcur] at hc;exact hc h1 h2
theorem zrl{W:Q7}{g x:Int}(hW:Qv W=true)(hb:zf0 W g x=0):XU (zoj W g x):=by
 have wp:=Qh.1 hW;obtain⟨hu,_,_,sf,hT⟩:=zok hW hb;exact BT sf ((X5 wp).same sf.w.a rfl rfl hT (zi9 rfl))
theorem GP.gr{W W':Q7}{x:P5}(h:GP W x)(e:W'.groups=W.groups):GP W' x:=
 ⟨h.st,by rw[e]; exact h.g,h.n,h.m,h.m0,h.s,h.u,h.l1,h.l2,fun hs=>by unfold Qc; rw[e]; exact h.f hs⟩
theorem zt2{W:Q7}{c:Int}(hW:Qv W=true)(hb:Uu W c false 0=0):XU (zvn W c):=by
 have wp:=Qh.1 hW;obtain⟨c0,c1,_,sf⟩:=zs9 hW hb;have p:=X5 wp;refine BT sf ⟨⟨sf.w.a,fun t t0 t1=>(p.t t t0 t1).imp id fun h=>⟨h.1,h.2.gr rfl⟩,fun t t0 t1 n=>?_,fun k d hk d0 d1=>?_⟩,fun d d0 d1=>?_⟩
 ·have:=p.l t t0 t1 n;show _/\_<(((W.cpus.set c.toNat _).length:Nat):Int);rw[List.length_set]; exact this
 ·have d1:d<(((W.cpus.set c.toNat (MM (gi W.cpus c) true)).length:Nat):Int):=d1;rw[List.length_set] at d1;exact(p.s k d hk d0 d1).cong rfl fun _=>rfl
 ·have d1:d<(((W.cpus.set c.toNat (MM (gi W.cpus c) true)).length:Nat):Int):=d1;rw[List.length_set] at d1;have h:=p.c d d0 d1;have e:gi (setCp W c (MM (gi W.cpus c) true)).cpus d=if c=d then MM (gi W.cpus c) true else gi W.cpus d:=Qw _ _ c0 c1 d0
  have eb:(gi (setCp W c (MM (gi W.cpus c) true)).cpus d).cur=(gi W.cpus d).cur/\(gi (setCp W c (MM (gi W.cpus c) true)).cpus d).ran=(gi W.cpus d).ran/\(gi (setCp W c (MM (gi W.cpus c) true)).cpus d).busy=(gi W.cpus d).busy/\(gi (setCp W c (MM (gi W.cpus c) true)).cpus d).idle=(gi W.cpus d).idle/\((gi W.cpus d).up=true->(gi (setCp W c (MM (gi W.cpus c) true)).cpus d).up=true):=by
   rw[e];split
   ·rename_i he; subst he; exact⟨rfl,rfl,rfl,rfl,fun _=>rfl⟩
   ·exact⟨rfl,rfl,rfl,rfl,id⟩
  obtain⟨e1,e2,e3,e4,e5⟩:=eb;refine⟨by rw[e3]; exact h.b,by rw[e4]; exact h.i,by rw[e1]; exact h.c1,by rw[e1]; exact h.c2,by rw[e1,e2]; exact h.no,fun h0=>?_,?_⟩
  ·rw[e1] at h0;have:=h.yes h0;exact⟨e5 this.1,by rw[e2]; exact this.2⟩
  ·rw[e1,e2]; exact h.q
theorem zrp{W:Q7}{c:Int}(hW:Qv W=true)(hb:Uu W c true (Kx W)=0):XU (zph W c):=by
 have wp:=Qh.1 hW;obtain⟨c0,c1,_,sf⟩:=zpi hW hb;have p:=X5 wp;have hl:(setCp W c (MM (gi W.cpus c) false)).cpus.length=W.cpus.length:=List.length_set;have sfE:=sf.endW c0 (by rw[hl]; exact c1)
 have hcs:endW (setCp W c (MM (gi W.cpus c) false)) c=setCp W c (Xd (MM (gi W.cpus c) false)):=by
  have e:gi (setCp W c (MM (gi W.cpus c) false)).cpus c=MM (gi W.cpus c) false:=(Qw _ _ c0 c1 c0).trans (if_pos rfl);unfold endW;rw[e];simp[setCp,List.set_set]
 show XU (Qg (Lu (endW (setCp W c (MM (gi W.cpus c) false)) c)));rw[hcs] at sfE ⊢;refine BT sfE ⟨⟨sfE.w.a,fun t t0 t1=>(p.t t t0 t1).imp id fun h=>⟨h.1,h.2.gr rfl⟩,fun t t0 t1 n=>?_,fun k d hk d0 d1=>?_⟩,fun d d0 d1=>?_⟩
 ·have:=p.l t t0 t1 n;show _/\_<(((W.cpus.set c.toNat _).length:Nat):Int);rw[List.length_set]; exact this
 ·have d1:d<(((W.cpus.set c.toNat (Xd (MM (gi W.cpus c) false))).length:Nat):Int):=d1;rw[List.length_set] at d1;exact(p.s k d hk d0 d1).cong rfl fun _=>rfl
 ·have d1:d<(((W.cpus.set c.toNat (Xd (MM (gi W.cpus c) false))).length:Nat):Int):=d1;rw[List.length_set] at d1;have h:=p.c d d0 d1;have e:gi (setCp W c (Xd (MM (gi W.cpus c) false))).cpus d=if c=d then Xd (MM (gi W.cpus c) false) else gi W.cpus d:=Qw _ _ c0 c1 d0
  by_cases he:c=d
  ·subst he;have e:=e.trans (if_pos rfl);refine⟨by rw[e]; exact h.b,by rw[e]; exact h.i,by rw[e]; show (-1:Int)<=-1; decide,by rw[e]; show (-1:Int)<12; decide,fun _=>by rw[e]; rfl,fun h0=>?_,fun h0=>?_⟩
   ·rw[e] at h0;have h0:(0:Int)<=-1:=h0;omega
   ·rw[e] at h0;have h0:(0:Int)<=-1:=h0;omega
  ·have e:=e.trans (if_neg he);exact⟨by rw[e]; exact h.b,by rw[e]; exact h.i,by rw[e]; exact h.c1,by rw[e]; exact h.c2,by rw[e]; exact h.no,by rw[e]; exact h.yes,by rw[e]; exact h.q⟩
def Cc(W:Q7)(g c x:Int):Mx:={ Qc W g c with v:=if (Qc W g c).on=true then (Qc W (gi W.groups g).parent c).floor+X3 ((Qc W g c).v-(Qc W (gi W.groups g).parent c).floor) x else (Qc W g c).v,w:=x }
def ze5(W:Q7)(g c:Int):Bool:=decide ((gi W.cpus c).cur>=0)&&VF 3 W.groups g (Q8 W (gi W.cpus c).cur).group
def Jt(W:Q7)(g c x:Int):Q7:=setSh W g c (Cc W g c x)
def Mt(W:Q7)(g c x:Int):Q7:=if (Qc W g c).w=x then W else if ze5 (Jt W g c x) g c=true then endW (Jt W g c x) c else Jt W g c x
def LQ(W:Q7):Prop:=∀c:Int,0<=c->c<(W.cpus.length:Int)->(gi W.cpus c).cur>=0->Q6 W.groups (Q8 W (gi W.cpus c).cur).group=true
theorem zj0{W:Q7}(wp:Xs W):LQ W:=fun c c0 c1 h=>by
 have hc:=wp.c c c0 c1;have hy:=hc.yes h;have hl:=hy.2.2.2.2.1;have c2:=hc.c2;have ht:=wp.a.t;unfold Zy at hl;simp only[Bool.and_eq_true,beq_iff_eq] at hl;rcases wp.t (gi W.cpus c).cur h (by omega) with h1 | h1
 ·rw[h1.1] at hl; exact absurd hl.1 (by decide)
 ·exact h1.2.g
theorem LQ.setSh{W:Q7}(h:LQ W){g c:Int}{s:Mx}(u0:0<=g)(u1:g<(W.groups.length:Int)):LQ (setSh W g c s):=fun d d0 d1 hc=>by
 rw[(Xm u0 u1).usd];exact h d d0 d1 hc
theorem LQ.endW{W:Q7}(h:LQ W){c:Int}(c0:0<=c)(c1:c<(W.cpus.length:Int)):LQ (endW W c):=fun d d0 d1 hc=>by
 have d1:d<(((W.cpus.set c.toNat (Xd (gi W.cpus c))).length:Nat):Int):=d1;rw[List.length_set] at d1;have hg:gi (YtnclplgaicdapaaGreatDoor.endW W c).cpus d=if c=d then Xd (gi W.cpus c) else gi W.cpus d:=Qw _ _ c0 c1 d0;rw[hg] at hc ⊢
 split at hc
 ·exact absurd hc (by show ¬(-1:Int)>=0; decide)
 ·rename_i hn;rw[if_neg hn];exact h d d0 d1 hc
theorem zsv{F K:Int}{W:Q7}(h:SF F K W)(hk:F+Qk<=K){g c x:Int}(hu:Q6 W.groups g=true)(hz:g≠0)(c0:0<=c)(c1:c<(W.cpus.length:Int))(x1:1<=x)(x2:x<=20):SF F K (Jt W g c x):=by
 have hp:=h.w.a.up hu hz;have s1:=h.w.s g c hu c0 c1;have s2:=h.w.s _ c hp c0 c1;have f1:=h.f g c hu c0 c1;have f2:=h.f _ c hp c0 c1;have lc:=ZQ ((Qc W g c).v-(Qc W (gi W.groups g).parent c).floor) x;have lm:=ZN x;refine h.setSh hu c0 c1 s1.1 f1 (by show (Qc W g c).floor<=K; omega) ?_ ?_ x1 x2
 ·simp only[Cc]; split <;> omega
 ·simp only[Cc]; simp only[Qk] at hk; split <;> omega
theorem zlf{F K:Int}{W:Q7}(h:SF F K W)(hk:F+Qk<=K)(hc:LQ W){g c x:Int}(hu:Q6 W.groups g=true)(hz:g≠0)(c0:0<=c)(c1:c<(W.cpus.length:Int))(x1:1<=x)(x2:x<=20):SF F K (Mt W g c x)/\Fr W (Mt W g c x)/\LQ (Mt W g c x):=by
 obtain⟨u0,u1,_⟩:=Q5.1 hu;have hv:=zsv h hk hu hz c0 c1 x1 x2;have hf:Fr W (Jt W g c x):=(PZ u0 u1).fr;have hc2:LQ (Jt W g c x):=hc.setSh u0 u1;unfold Mt;split
 ·exact⟨h,Fr.refl _,hc⟩
 ·split
  ·exact⟨hv.endW c0 c1,hf.trans (NU _ _),hc2.endW c0 c1⟩
  ·exact⟨hv,hf,hc2⟩
def KL(W:Q7)(g x:Int):Nat->Q7
 | 0=>W
 | c+1=>Mt (KL W g x c) g (c:Int) x
theorem ze6{F K:Int}{W:Q7}(h:SF F K W)(hk:F+Qk<=K)(hc:LQ W){g x:Int}(hu:Q6 W.groups g=true)(hz:g≠0)(x1:1<=x)(x2:x<=20):∀c:Nat,c<=W.cpus.length->SF F K (KL W g x c)/\Fr W (KL W g x c)/\LQ (KL W g x c)
 | 0,_=>⟨h,Fr.refl _,hc⟩
 | c+1,hn=>by
  obtain⟨a,b,d⟩:=ze6 h hk hc hu hz x1 x2 c (by omega);obtain⟨a2,b2,d2⟩:=zlf a hk d (g:=g) (c:=(c:Int)) (x:=x) (by rw[b.g.usd]; exact hu) hz (by omega) (by rw[b.c]; omega) x1 x2;exact⟨a2,b.trans b2,d2⟩
def M6(W:Q7)(g x:Int):ZA:={ gi W.groups g with weight:=x }
noncomputable def zhi(W:Q7)(g x:Int):Int:=Pr W g (Yo x 1 20)
def zqj(W:Q7)(g x:Int):Q7:=Qg (KL (setGr W g (M6 W g x)) g x W.cpus.length)
theorem zqk{W:Q7}{g x:Int}(hW:Qv W=true)(hb:zhi W g x=0):Yo x 1 20=true/\g≠0/\Q6 W.groups g=true/\QK W=true/\SF Qp (Qp+Qk) W/\SF Qp (Qp+Qk) (setGr W g (M6 W g x))/\LQ (setGr W g (M6 W g x))/\QS W.groups (setGr W g (M6 W g x)).groups:=by
 obtain⟨h1,h2,h3,h4⟩:=zd2 hb;have wp:=Qh.1 hW;have sw:=OT wp (Qh.1 h4);obtain⟨u0,u1,hg⟩:=wp.a.u h3;have hx:=Qo.1 h1;have hl:=wp.a.gl;have s1:=sw.setGr (x:=M6 W g x) h3 rfl rfl rfl rfl ⟨hx.1,hx.2,hg.m,hg.m0,hg.s,hg.len,fun h=>absurd h h2,hg.none,hg.band⟩;have hT:QS W.groups (setGr W g (M6 W g x)).groups:=Ja u0 (by omega) rfl rfl rfl;refine⟨h1,h2,h3,h4,sw.sf.mono (Int.le_refl _) (by simp only[Qk]; decide),s1.sf.mono (Int.le_refl _) (by simp only[Qk]; decide),fun d d0 d1 hc=>?_,hT⟩;rw[hT.usd];exact zj0 wp d d0 d1 hc
theorem zqg{gs:List ZA}(ht:ZU gs){g h:Int}(u1:Q6 gs g=true)(u2:Q6 gs h=true):TZ gs g h=VF 3 gs g h:=by
 unfold TZ;rw[u1,u2,show Pf gs=true from @decide_eq_true _ (Classical.propDecidable _) ht];rfl
section
variable {base:Nat}{W W':Q7}{m:MW}{w:Wo}{bar:Int}
theorem PP{F K:Int}(h:Y1 8 base w W m)(hsw:SF F K W)(hk:F+Qk<=K)(hK:K<=1000000000000000000)(hcu:LQ W){g c x:Int}(hu:Q6 W.groups g=true)(hz:g≠0)(c0:0<=c)(c1:c<(W.cpus.length:Int)) :
  Cz Jk #[.agg (Qa W m).toArray,.int .i64 g,.int .i64 c,.int .i64 x] w fun e w'=>e=.returned (.agg (Qa W m).toArray)/\Mv 8 base [] w m w' (Mt W g c x) m:=by
 refine(DK W.now m.cO W.cpus.length m.cC m.tO W.tasks.length m.tC m.gO W.groups.length m.gC g c x (R:=fun v w'=>v=.agg (Qa W m).toArray/\Mv 8 base [] w m w' (Mt W g c x) m) ?_).mono fun e w' ⟨v,he,hv,h3⟩=>⟨by rw[he,hv],h3⟩
 intro y hy y1 hy1;obtain⟨u0,u1,_⟩:=Q5.1 hu;have hgl:=hsw.w.a.gl;have htl:=hsw.w.a.t;have hsl:=hsw.w.a.sl hu;have hp:=hsw.w.a.up hu hz;obtain⟨p0,p1,_⟩:=Q5.1 hp;have hpl:=hsw.w.a.sl hp;have s1:=hsw.w.s g c hu c0 c1;have s2:=hsw.w.s _ c hp c0 c1;have lc:=ZQ ((Qc W g c).v-(Qc W (gi W.groups g).parent c).floor) x;have lm:=ZN x;have hM:=Mv.two h hy hy1;have hr:=(Mv.start h).rd;have hix:=hr.g.ix (i:=g) u0 u1;have hixS:=(hr.g.shelves g u0 u1).ix ZD c0 (by omega);have hcx:=hr.c.ix Zh c0 c1;have hwr:=ztc h (by simp) (i:=g) (bs:=[]) u0 (by omega) c0 (by omega) (j:=0) (k:=5) (by decide);have hcr:=hsw.w.cu c c0 c1;have cur1:decide ((gi W.cpus c).cur>=0)=true->(gi W.cpus c).cur<(W.tasks.length:Int):=fun _=>by omega
 have hT:QS W.groups (Jt W g c x).groups:=Xm u0 u1
 have hE:(decide ((gi W.cpus c).cur>=0)&&TZ (Jt W g c x).groups g (gi W.tasks (gi W.cpus c).cur).group)=ze5 (Jt W g c x) g c:=by
  unfold ze5;show _=(decide ((gi W.cpus c).cur>=0)&&VF 3 (Jt W g c x).groups g (Q8 W (gi W.cpus c).cur).group)
  by_cases hc:(gi W.cpus c).cur>=0
  ·rw[zqg (hT.tree hsw.w.a.tree) (by rw[hT.usd]; exact hu) (by rw[hT.usd]; exact hcu c c0 c1 hc)]; rfl
  ·rw[decide_eq_false hc]; rfl
 have hlen:(Jt W g c x).groups.length=W.groups.length:=hT.len;have hfr:Fr W (Jt W g c x):=(PZ u0 u1).fr;have eW:Qa (Jt W g c x) m=Qa W m:=O4 hfr;have eE:Qa (endW (Jt W g c x) c) m=Qa W m:=O4 (hfr.trans (NU _ _));refine⟨hix,_,_,_,hr.g.shelf u0 u1,hixS,_,_,_,_,_,(hr.g.shelves g u0 u1) c c0 (by omega),fun b2 hb2=>⟨fun g1 wr hx=>⟨rfl,?_⟩,fun g1=>⟨fun g2=>?_,fun g2=>?_⟩⟩⟩
 ·have g1:(Qc W g c).w=x:=eq_of_beq g1;unfold Mt;rw[if_pos g1];exact(Mv.start h).call0 hx
 ·have hss:Cc W g c x=⟨(Qc W g c).floor,(Qc W g c).on,(Qc W (gi W.groups g).parent c).floor+X3 ((Qc W g c).v-(Qc W (gi W.groups g).parent c).floor) x,x,(Qc W g c).sum⟩:=by
   unfold Cc;rw[if_pos (show (Qc W g c).on=true from g2)]
  have hset:=Aj hsw h hk hu rfl c0 c1 (Cc W g c x);rw[hss] at hset;have hM2:=((hM.add hb2).deed hset (BE (by omega)));have hV:setSh W g c ⟨(Qc W g c).floor,(Qc W g c).on,(Qc W (gi W.groups g).parent c).floor+X3 ((Qc W g c).v-(Qc W (gi W.groups g).parent c).floor) x,x,(Qc W g c).sum⟩=Jt W g c x:=by unfold Jt; rw[hss]
  rw[hV] at hM2;have hr2:=hM2.rd;have hM2':=hM2.close;have hr0:=hM2'.rd;refine⟨hix,_,hr.g.parent u0 u1,hr.g.ix p0 p1,_,_,_,hr.g.shelf p0 p1,(hr.g.shelves _ p0 p1).ix ZD c0 (by omega),_,ze8.f (hr.g.shelves _ p0 p1) c0 (by omega) (j:=0) rfl,⟨by show _<=(Qc W g c).v-(Qc W (gi W.groups g).parent c).floor; omega,by show (Qc W g c).v-(Qc W (gi W.groups g).parent c).floor<=_; omega⟩,_,Pv,⟨by show _<=(Qc W (gi W.groups g).parent c).floor+X3 ((Qc W g c).v-(Qc W (gi W.groups g).parent c).floor) x; omega,by show (Qc W (gi W.groups g).parent c).floor+X3 ((Qc W g c).v-(Qc W (gi W.groups g).parent c).floor) x<=_; omega⟩,hix,_,_,_,hr.g.shelf u0 u1,hixS,hwr,hcx,(gi W.cpus c).cur,?_⟩;refine⟨zu8.f hr0.c c0 c1 (j:=1) rfl,fun gc=>hr0.t.ix QI (Ot gc) (cur1 gc),_,fun gc=>zqo.f hr0.t (Ot gc) (cur1 gc) (j:=1) rfl,_,fun gc=>by rw[<-hlen]; exact T5 hr0.g (by have:=Zb; omega),fun gc wr1 hx3 hs3=>?_,fun gc wr3 hx3=>?_⟩
  ·have he:ze5 (Jt W g c x) g c=true:=by rw[<-hE]; exact gc
   have hM3:=hM2.step (hx3.of_nil);have hcall:=Zp hM3.own c0 c1;rw[eW,eE] at hcall;refine Calls.mono hcall ?_;rintro e wv ⟨he1,hy2⟩;refine⟨_,_,_,_,_,_,_,_,_,_,he1,hM3.kept hy2 hs3,fun wr2 hx4=>⟨rfl,?_⟩⟩;unfold Mt;rw[if_neg (show ¬(Qc W g c).w=x from ne_of_beq_false g1),if_pos he];exact((hM3.call hy2 hs3).step hx4).close
  ·have he:ze5 (Jt W g c x) g c=false:=by rw[<-hE]; exact gc
   refine⟨rfl,?_⟩;unfold Mt;rw[if_neg (show ¬(Qc W g c).w=x from ne_of_beq_false g1),if_neg (by rw[he]; decide)];exact(hM2.step hx3.of_nil).close
 ·have hss:Cc W g c x=⟨(Qc W g c).floor,(Qc W g c).on,(Qc W g c).v,x,(Qc W g c).sum⟩:=by
   unfold Cc;rw[if_neg (by rw[show (Qc W g c).on=false from g2]; decide)]
  have hset:=Aj hsw h hk hu rfl c0 c1 (Cc W g c x);rw[hss] at hset;have hM2:=((hM.add hb2).deed hset (BE (by omega)));have hV:setSh W g c ⟨(Qc W g c).floor,(Qc W g c).on,(Qc W g c).v,x,(Qc W g c).sum⟩=Jt W g c x:=by unfold Jt; rw[hss]
  rw[hV] at hM2;have hr2:=hM2.rd;have hM2':=hM2.close;have hr0:=hM2'.rd;refine⟨hix,_,_,_,hr.g.shelf u0 u1,hixS,hwr,hcx,(gi W.cpus c).cur,?_⟩;refine⟨zu8.f hr0.c c0 c1 (j:=1) rfl,fun gc=>hr0.t.ix QI (Ot gc) (cur1 gc),_,fun gc=>zqo.f hr0.t (Ot gc) (cur1 gc) (j:=1) rfl,_,fun gc=>by rw[<-hlen]; exact T5 hr0.g (by have:=Zb; omega),fun gc wr1 hx3 hs3=>?_,fun gc wr3 hx3=>?_⟩
  ·have he:ze5 (Jt W g c x) g c=true:=by rw[<-hE]; exact gc
   have hM3:=hM2.step (hx3.of_nil);have hcall:=Zp hM3.own c0 c1;rw[eW,eE] at hcall;refine Calls.mono hcall ?_;rintro e wv ⟨he1,hy2⟩;refine⟨_,_,_,_,_,_,_,_,_,_,he1,hM3.kept hy2 hs3,fun wr2 hx4=>⟨rfl,?_⟩⟩;unfold Mt;rw[if_neg (show ¬(Qc W g c).w=x from ne_of_beq_false g1),if_pos he];exact((hM3.call hy2 hs3).step hx4).close
  ·have he:ze5 (Jt W g c x) g c=false:=by rw[<-hE]; exact gc
   refine⟨rfl,?_⟩;unfold Mt;rw[if_neg (show ¬(Qc W g c).w=x from ne_of_beq_false g1),if_neg (by rw[he]; decide)];exact(hM2.step hx3.of_nil).close
theorem HA{g x:Int}(h:YZ [] w W m)(hl:Xc W) :
  Cz UE #[.agg (Qa W m).toArray,.int .i64 g,.int .i64 x] w fun e w'=>∃v,e=.returned v/\QG (YG W (zhi W g x) (zqj W g x)) w v w':=by
 refine Hh W.now m.cO W.cpus.length m.cC m.tO W.tasks.length m.tC m.gO W.groups.length m.gC g x (R:=fun v w'=>QG (YG W (zhi W g x) (zqj W g x)) w v w') ?_;intro y hy y1 hy1;refine⟨_,J1,fun wr hx2 hs2=>?_⟩;refine Calls.mono (Um (g:=g) (ok:=Yo x 1 20) (h.ext hx2) hl) ?_;rintro e wv (⟨hW,he,hy2⟩ | ⟨hW,m',he,hM,hy2⟩)
 ·exact⟨_,_,_,_,_,_,_,_,_,_,_,he,Qd hy2 hs2,fun _ wr1 hx3=>QG.bad hW ((hx2.trans hy2).fresh hx3 fun z hm=>.inl (Yr hy hy1 z hm)),fun g=>by simp at g⟩
 have hK:=Wk.begin hy hy1 hx2 hs2 hM hy2;refine⟨_,_,_,_,_,_,_,_,_,_,_,he,Qd hy2 hs2,fun g1 wr1 hx3=>QG.no hW (by simpa[zhi] using g1) (hK.step hx3) rfl,fun g1=>?_⟩;have hb:zhi W g x=0:=by simpa[zhi] using g1
 have hr:=hK.rd;obtain⟨hix1,hz,hu,hroom,_,sf,hcu,hT⟩:=zqk hW hb;have hxr:=Qo.1 hix1;obtain⟨u0,u1,_⟩:=Q5.1 hu;have hgl:W.groups.length=8:=by have:=sf.w.a.gl; rwa[hT.len] at this
 have hix:=hr.g.ix (i:=g) u0 u1;have hset:Wk 8 [y,y1] w (sto wv m'.gO (Int.toNat g*14+3) [.int .i64 x]) (setGr W g (M6 W g x)) m':=hK.sto (hK.own.stoG0 u0 (by omega) (g:=M6 W g x) rfl rfl rfl (j:=3) (vs:=[.int .i64 x]) rfl (by simp)) EE;have hwr:=zbc hK.own hK.nb (i:=g) u0 (by omega) (j:=3) (k:=1) (by decide);have e0:Qa (setGr W g (M6 W g x)) m'=Qa W m':=by simp[Qa,setGr]
 have huV:Q6 (setGr W g (M6 W g x)).groups g=true:=by rw[hT.usd]; exact hu
 have hcl:(setGr W g (M6 W g x)).cpus.length=W.cpus.length:=rfl;have hE:zqj W g x=Qg (KL (setGr W g (M6 W g x)) g x W.cpus.length):=rfl;rw[hE];have hc4:=sf.w.a.c2;generalize setGr W g (M6 W g x)=V at hset sf hcu hT e0 huV hcl hc4;refine⟨hix,hwr,fun vs w1=>∃(k:Nat),vs=.int .i64 (k:Int)::Qa W m'/\k<=W.cpus.length/\Wk 8 [y,y1] w w1 (KL V g x k) m',Zu W.cpus.length 0,fun w1 hx0 _=>⟨0,rfl,Nat.zero_le _,hset.step hx0⟩,?_⟩;rintro c1 l l1O l1L l1C l2O l2L l2C l3O l3L l3C wv2 hs3 ⟨k,he2,hk,hK2⟩;obtain⟨hS,hf,hc2⟩:=ze6 sf (Int.le_refl _) hcu huV hz hxr.1 hxr.2 k (by omega);have hdef:KL V g x (k+1)=Mt (KL V g x k) g (k:Int) x:=rfl;have hend:k=W.cpus.length->KL V g x W.cpus.length=KL V g x k:=fun e=>by rw[e]
 have eU:Qa (KL V g x k) m'=Qa W m':=(O4 hf).trans e0;have hcU:=hf.c;have huU:Q6 (KL V g x k).groups g=true:=by rw[hf.g.usd]; exact huV
 simp only[Qa,List.cons.injEq,Value.int.injEq,Value.slice.injEq,true_and,and_true] at he2;obtain⟨rfl,rfl,⟨rfl,rfl,rfl⟩,⟨rfl,rfl,rfl⟩,rfl,rfl,rfl⟩:=he2;generalize KL V g x k=U at hK2 hS hf hc2 hdef hend eU hcU huU;refine⟨fun hlt wr3 hx3 hs4=>?_,fun hge wr5 hx5 hs5=>?_⟩
 ·have hlt:=Ot hlt;have hK3:=hK2.step hx3;have hcall:=PP hK3.own hS (Int.le_refl _) (by simp only[Qk]; decide) hc2 (g:=g) (c:=(k:Int)) (x:=x) huU hz (by omega) (by omega);rw[eU] at hcall;refine Calls.mono hcall ?_;rintro e wv3 ⟨he3,hy3⟩;refine⟨_,_,_,_,_,_,_,_,_,_,he3,hK3.kept hy3 hs4,⟨by omega,by omega⟩,fun wr4 hx4 _=>⟨⟨k+1,rfl,by omega,?_⟩,?_⟩⟩
  ·rw[hdef];exact(hK3.deed hy3 hs4).step hx4
  ·simp only[Zu,XK,Y5,List.getElem?_cons_zero]; omega
 ·have hge:=Ou hge;rw[hend (by omega)];have hK5:=hK2.step hx5;have hcall:=Qq hK5.own hS.w (by simp only[Qk]; decide) (by simp only[Qk]; decide) hK5.base;rw[eU] at hcall;refine Calls.mono hcall ?_;rintro e2 wv2 ⟨m2,he2,hy2⟩;exact⟨_,_,_,_,_,_,_,_,_,_,he2,hK5.kept hy2 hs5,fun wr4 hx5=>QG.ok hW hb ((hK5.deed hy2 hs5).step hx5)⟩
section
variable {pb:Nat}
end
end
end Go.Proofs.YtnclplgaicdapaaGreatDoor
