/- Part 18 of what the law FnPull needs: the engine, the functions' propositions, the contracts. -/
import Derived.Test.YtclpmgfpjeaibaaGreatFnPullPq
namespace Go.Proofs.YtclpmgfpjeaibaaGreat
open Go.RowKit
set_option linter.unusedVariables false
set_option linter.unusedSimpArgs false
set_option maxRecDepth 10000
set_option maxHeartbeats 8000000
theorem zlh{c:OA}{L C:Nat}{w:Wo}(h:Dg c L w)(hC:L<=C) :
  Cz Jn #[.slice c L C] w fun e w'=>∃b c' L',e=.returned (.pointer (some ⟨b,0,none⟩))/\w.heap.size<=b/\JI b c' L' 0 w'/\Q0 [] w w'/\∀a',c'=some a'->L'=0\/(0<L/\∃a,c=some a/\a'.block=a.block):=by
 refine(CA c L C (R:=fun v w'=>∃b c' L',v=.pointer (some ⟨b,0,none⟩)/\w.heap.size<=b/\JI b c' L' 0 w'/\Q0 [] w w'/\∀a',c'=some a'->L'=0\/(0<L/\∃a,c=some a/\a'.block=a.block)) ?_).mono fun e w' ⟨v,he,b,c',L',hv,h1,h2,h3⟩=>⟨b,c',L',by rw[he,hv],h1,h2,h3⟩
 refine⟨fun hlt=>⟨⟨by omega,by omega,by have:=Ot hlt; omega⟩,fun b wb hx hb hh _ wr hy=>⟨b,if C=Int.toNat 0 then c else c.map (·.add (Int.toNat 0*1)),Int.toNat 2000-Int.toNat 0,rfl,hb,?_,hx.trans hy,fun a' ha'=>?_⟩⟩,fun hlt b wb hx hb hh _ wr hy=>⟨b,c,L,rfl,hb,?_,hx.trans hy,fun a' ha'=>?_⟩⟩
 ·refine JI.ext0 ⟨⟨_,0,hh,by omega,by omega⟩,fun i hi=>?_⟩ hy;have hlt:=Ot hlt;obtain⟨a,x,ha,h1,h2,h3⟩:=h.ext hx i (by have:i<2000-0:=hi; omega);obtain⟨a0,x0,ha0,_,_,h30⟩:=h i (by have:i<2000-0:=hi; omega);have hlt2:=World.block_lt_of_cell? w _ h30;rw[Zq] at hlt2;rw[ha] at ha0; cases ha0;rw[if_neg (show ¬C=Int.toNat 0 from fun e=>by have:C=0:=e; omega),ha];refine⟨a.add 0,x,rfl,by rw[Zq]; omega,h1,h2,?_⟩;rw[UA,Nat.zero_add]; exact h3
 ·have hlt:=Ot hlt;refine .inr ⟨by omega,?_⟩;rw[if_neg (show ¬C=Int.toNat 0 from fun e=>by have:C=0:=e; omega)] at ha'
  cases c with
  | none=>cases ha'
  | some a=>
   simp only[Option.map_some,Option.some.injEq] at ha';exact⟨a,rfl,by rw[<-ha',Zq]⟩
 ·refine JI.ext0 ⟨⟨_,0,hh,by omega,by omega⟩,fun i hi=>?_⟩ hy;obtain⟨a,x,ha,h1,h2,h3⟩:=h.ext hx i hi;obtain⟨a0,x0,ha0,_,_,h30⟩:=h i hi;have hlt2:=World.block_lt_of_cell? w _ h30;rw[Zq] at hlt2;rw[ha] at ha0; cases ha0;exact⟨a,x,ha,by omega,h1,h2,h3⟩
 ·rcases Nat.eq_zero_or_pos L with h0 | h0
  ·exact .inl h0
  ·exact .inr ⟨h0,a',ha',rfl⟩
structure Dr (rb:Nat) (c:OA) (L N n:Nat) (bs:List Nat) (w0 w:Wo):Prop where
 r:RS rb c L (N+n) bs w
 ext:Q0 [rb] w0 w
 new:∀x∈bs,w0.heap.size<=x
section
variable {rb b b2:Nat}{c:OA}{L N n k:Nat}{bs cs:List Nat}{w0 w w':Wo}
theorem Dr.start(h:JI rb c L N w):Dr rb c L N 0 [] w w:=⟨⟨h,by simp,fun _ _=>.inl (by simp)⟩,Q0.refl _ _,by simp⟩
theorem Dr.step(h:Dr rb c L N n bs w0 w)(hx:Q0 bs w w'):Dr rb c L N n bs w0 w':=⟨h.r.step hx,h.ext.fresh hx fun x hm=>.inl (h.new x hm),h.new⟩
theorem Dr.add(h:Dr rb c L N n bs w0 w)(hb:w.heap.size<=b):Dr rb c L N n (bs++[b]) w0 w:=⟨h.r.add hb,h.ext,fun x hm=>by
 rcases List.mem_append.1 hm with hm | hm
 ·exact h.new x hm
 ·have:x=b:=by simpa using hm
  have:=h.ext.size;omega⟩
theorem Dr.put(h:Dr rb c L N n bs w0 w)(hx:Q0 bs w w')(hb:w.heap.size<=b):Dr rb c L N n (bs++[b]) w0 w':=(h.add hb).step (hx.mono fun _ hm=>List.mem_append_left _ hm)
theorem Dr.put2(h:Dr rb c L N n bs w0 w)(hx:Q0 bs w w')(hb:w.heap.size<=b)(hb2:w.heap.size<=b2):Dr rb c L N n (bs++[b]++[b2]) w0 w':=((h.add hb).add hb2).step (hx.mono fun _ hm=>List.mem_append_left _ (List.mem_append_left _ hm))
theorem Dr.more{m:Nat}(h:Dr rb c L N n bs w0 w)(hm:n<=m):Dr rb c L N m bs w0 w:=⟨h.r.mono (by omega),h.ext,h.new⟩
theorem Dr.sub(h:Dr rb c L N n bs w0 w)(hs:∀x∈cs,x∈bs):Dr rb c L N n cs w0 w:=⟨h.r.sub hs,h.ext,fun x hm=>h.new x (hs x hm)⟩
theorem Dr.fin{m:Nat}(h:Dr rb c L N n bs w0 w)(hm:n<=m):JI rb c L (N+m) w/\Q0 [rb] w0 w:=⟨(h.more hm).r.rd,h.ext⟩
theorem Dr.call{f:FuncId}{args:Array Va}{Q:Int->Prop}(h:Dr rb c L N n bs w0 w)(hs:∀x∈bs,x<w.heap.size)(hc:Cz f args w fun e w'=>∃v,e=.returned (.int .i64 v)/\Q v/\JI rb c L (N+n+k) w'/\Q0 [rb] w w') :
  Cz f args w fun e w'=>∃v,e=.returned (.int .i64 v)/\Q9 bs w w'/\Q v/\Dr rb c L N (n+k) bs w0 w':=
 hc.mono fun e w' ⟨v,he,hq,hr,hx⟩=>⟨v,he,PA h.r hx hs,hq,⟨h.r.upd (by rw[<-Nat.add_assoc]; exact hr),h.ext.trans hx,h.new⟩⟩
theorem Dr.pick(h:Dr rb c L N n bs w0 w)(hN:N+n<=1000000000000)(hs:∀x∈bs,x<w.heap.size){q:Int} :
  Cz Q1 #[.pointer (some ⟨rb,0,none⟩),.int .i64 q] w fun e w'=>∃v,e=.returned (.int .i64 v)/\Q9 bs w w'/\Di q v/\Dr rb c L N (n+1) bs w0 w':=h.call hs (Mp h.r.rd hN)
theorem Dr.weight(h:Dr rb c L N n bs w0 w)(hN:N+n<=900000000000)(hs:∀x∈bs,x<w.heap.size) :
  Cz Zw #[.pointer (some ⟨rb,0,none⟩)] w fun e w'=>∃v,e=.returned (.int .i64 v)/\Q9 bs w w'/\zxt v/\Dr rb c L N (n+2) bs w0 w':=h.call hs (zjh h.r.rd hN)
end
def zzd:Va->Bool
 | .int .i64 _=>true
 | _=>false
def zzf:Va->Bool
 | .string _=>true
 | _=>false
theorem zvy{v:Int}{k:Nat}{ls:List Va}{P:Int->Prop}(ha:ls.all zzd=true)(hl:ls.length=k)(h0:0<=v)(h1:v<(k:Int))(h:∀x,P x):∃x:Int,(0<=v/\ls[Int.toNat v+0]? = some (.int .i64 x))/\P x:=by
 have hlt:Int.toNat v+0<ls.length:=by omega
 have:=List.all_eq_true.1 ha _ (List.getElem_mem hlt);have e:=List.getElem?_eq_getElem hlt;generalize ls[Int.toNat v+0]=y at this e;unfold zzd at this
 split at this
 ·exact⟨_,⟨h0,e⟩,h _⟩
 ·cases this
theorem zzc{v:Int}{k:Nat}{ls:List Va}{P:ByteArray->Prop}(ha:ls.all zzf=true)(hl:ls.length=k)(h0:0<=v)(h1:v<(k:Int))(h:∀x,P x):∃x:ByteArray,(0<=v/\ls[Int.toNat v+0]? = some (.string x))/\P x:=by
 have hlt:Int.toNat v+0<ls.length:=by omega
 have:=List.all_eq_true.1 ha _ (List.getElem_mem hlt);have e:=List.getElem?_eq_getElem hlt;generalize ls[Int.toNat v+0]=y at this e;unfold zzf at this
 split at this
 ·exact⟨_,⟨h0,e⟩,h _⟩
 ·cases this
theorem zv2(x:Int):Qj .i64 (10-Y2 (zhb x 1) 20):=by
 have:1<=Y2 (zhb x 1) 20/\Y2 (zhb x 1) 20<=20:=by
  have h:1<=zhb x 1:=by unfold zhb; split <;> omega
  unfold Y2
  split <;> omega
 exact⟨by omega,by omega⟩
section
variable {rb:Nat}{c:OA}{L N n:Nat}{bs:List Nat}{w0 w:Wo}
def zoj(_:Int):Prop:=True
theorem zwz(h:JI rb c L N w)(hN:N<=900000000000) :
  Cz Yq #[.pointer (some ⟨rb,0,none⟩)] w fun e w'=>∃v,e=.returned (.int .i64 v)/\zoj v/\JI rb c L (N+2) w'/\Q0 [rb] w w':=by
 refine(DW (some ⟨rb,0,none⟩) (R:=fun v w'=>∃x,v=.int .i64 x/\JI rb c L (N+2) w'/\Q0 [rb] w w') ?_).mono fun e w' ⟨v,he,x,hv,h1⟩=>⟨x,by rw[he,hv],trivial,h1⟩
 have h0:=Dr.start h;intro wr hx hs;refine(Dr.pick (h0.step hx) (by omega) hs).mono ?_;rintro e w2 ⟨v,he,hk,_,h1⟩;refine⟨_,he,hk,fun _ b hb wr1 hx1 hs1=>?_,fun _ b hb wr1 hx1 hs1=>?_⟩
 all_goals
  refine(Dr.pick (h1.put hx1 hb) (by omega) hs1).mono ?_;rintro e w3 ⟨u,he3,hk3,⟨u0,_,u2⟩,h2⟩;have u2:=u2 (by decide);refine⟨_,he3,hk3,⟨by omega,by omega⟩,zvy (by decide) rfl (by omega) (by omega) fun x wr2 hx2=>⟨x,rfl,(h2.step hx2).fin (by omega)⟩⟩
theorem zum(h:JI rb c L N w)(hN:N<=900000000000) :
  Cz ZJ #[.pointer (some ⟨rb,0,none⟩)] w fun e w'=>∃v,e=.returned (.int .i64 v)/\zoj v/\JI rb c L (N+2) w'/\Q0 [rb] w w':=by
 refine(HH (some ⟨rb,0,none⟩) (R:=fun v w'=>∃x,v=.int .i64 x/\JI rb c L (N+2) w'/\Q0 [rb] w w') ?_).mono fun e w' ⟨v,he,x,hv,h1⟩=>⟨x,by rw[he,hv],trivial,h1⟩
 have h0:=Dr.start h;intro wr hx hs;refine(Dr.pick (h0.step hx) (by omega) hs).mono ?_;rintro e w2 ⟨v,he,hk,_,h1⟩;refine⟨_,he,hk,fun _ b hb wr1 hx1 hs1=>?_,fun _ b hb wr1 hx1 hs1=>?_⟩
 all_goals
  refine(Dr.pick (h1.put hx1 hb) (by omega) hs1).mono ?_;rintro e w3 ⟨u,he3,hk3,⟨u0,_,u2⟩,h2⟩;have u2:=u2 (by decide);refine⟨_,he3,hk3,⟨by omega,by omega⟩,zvy (by decide) rfl (by omega) (by omega) fun x wr2 hx2=>⟨x,rfl,(h2.step hx2).fin (by omega)⟩⟩
theorem zw1(h:JI rb c L N w)(hN:N<=900000000000) :
  Cz Vi #[.pointer (some ⟨rb,0,none⟩)] w fun e w'=>∃v,e=.returned (.int .i64 v)/\zoj v/\JI rb c L (N+2) w'/\Q0 [rb] w w':=by
 refine(DZ (some ⟨rb,0,none⟩) (R:=fun v w'=>∃x,v=.int .i64 x/\JI rb c L (N+2) w'/\Q0 [rb] w w') ?_).mono fun e w' ⟨v,he,x,hv,h1⟩=>⟨x,by rw[he,hv],trivial,h1⟩
 have h0:=Dr.start h;intro wr hx hs;refine(Dr.pick (h0.step hx) (by omega) hs).mono ?_;rintro e w2 ⟨v,he,hk,_,h1⟩;refine⟨_,he,hk,fun _ b hb wr1 hx1 hs1=>?_,fun _ wr1 hx1 hs1=>?_⟩
 ·refine(Dr.pick (h1.put hx1 hb) (by omega) hs1).mono ?_;rintro e w3 ⟨u,he3,hk3,⟨u0,_,u2⟩,h2⟩;have u2:=u2 (by decide);refine⟨_,he3,hk3,⟨by omega,by omega⟩,zvy (by decide) rfl (by omega) (by omega) fun x wr2 hx2=>⟨x,rfl,(h2.step hx2).fin (by omega)⟩⟩
 ·refine(Dr.pick (h1.step hx1) (by omega) hs1).mono ?_;rintro e w3 ⟨u,he3,hk3,_,h2⟩;exact⟨_,he3,hk3,fun wr2 hx2=>⟨u,rfl,(h2.step hx2).fin (by omega)⟩⟩
theorem zye(h:JI rb c L N w)(hN:N<=900000000000) :
  Cz VX #[.pointer (some ⟨rb,0,none⟩)] w fun e w'=>∃v,e=.returned (.int .i64 v)/\zoj v/\JI rb c L (N+2) w'/\Q0 [rb] w w':=by
 refine(Ft (some ⟨rb,0,none⟩) (R:=fun v w'=>∃x,v=.int .i64 x/\JI rb c L (N+2) w'/\Q0 [rb] w w') ?_).mono fun e w' ⟨v,he,x,hv,h1⟩=>⟨x,by rw[he,hv],trivial,h1⟩
 have h0:=Dr.start h;intro wr hx hs;refine(Dr.pick (h0.step hx) (by omega) hs).mono ?_;rintro e w2 ⟨v,he,hk,⟨v0,_,v2⟩,h1⟩;have v2:=v2 (by decide);refine⟨_,he,hk,fun wr1 hx1 hs1=>?_⟩;refine(Dr.pick (h1.step hx1) (by omega) hs1).mono ?_;rintro e w3 ⟨u,he3,hk3,⟨u0,_,u2⟩,h2⟩;have u2:=u2 (by decide)
 have hd:0<=Int.tdiv u 19/\Int.tdiv u 19<=1:=by
  rw[Int.tdiv_eq_ediv_of_nonneg u0];omega
 exact⟨_,he3,hk3,⟨by decide,⟨by omega,by omega⟩⟩,⟨by omega,by omega⟩,fun wr2 hx2=>⟨_,rfl,(h2.step hx2).fin (by omega)⟩⟩
theorem Dr.mask(h:Dr rb c L N n bs w0 w)(hN:N+n<=900000000000)(hs:∀x∈bs,x<w.heap.size) :
  Cz Yq #[.pointer (some ⟨rb,0,none⟩)] w fun e w'=>∃v,e=.returned (.int .i64 v)/\Q9 bs w w'/\zoj v/\Dr rb c L N (n+2) bs w0 w':=h.call hs (zwz h.r.rd hN)
theorem Dr.units(h:Dr rb c L N n bs w0 w)(hN:N+n<=900000000000)(hs:∀x∈bs,x<w.heap.size) :
  Cz ZJ #[.pointer (some ⟨rb,0,none⟩)] w fun e w'=>∃v,e=.returned (.int .i64 v)/\Q9 bs w w'/\zoj v/\Dr rb c L N (n+2) bs w0 w':=h.call hs (zum h.r.rd hN)
end
theorem J5.w{W:Q8}(iv:J5 W):Qv W=true:=Qh.2 iv.wp
theorem J5.len{W:Q8}(iv:J5 W):X5 W:=zg8 iv.wp.a
theorem zt9{W W':Q8}{bar:Int}(iv:J5 W)(hb:bar=0->J5 W'):J5 (Xc W bar W').1:=by
 unfold Xc;rw[if_neg (by rw[iv.w]; decide)];split
 ·exact iv
 ·rename_i e;exact hb (by simpa using e)
theorem zre{W W':Q8}{bar a:Int}(iv:J5 W)(hb:bar=0->J5 W'):J5 (O7 W bar W' a).1:=by
 unfold O7;rw[if_neg (by rw[iv.w]; decide)];split
 ·exact iv
 ·rename_i e;exact hb (by simpa using e)
section
variable {f:FuncId}{args:Array Va}{W W':Q8}{bar a:Int}{m:MW}{w:Wo}
theorem Uq(iv:J5 W)(hc:Cz f args w fun e w'=>∃v,e=.returned v/\QE (Xc W bar W') w v w')(hb:bar=0->J5 W') :
  Cz f args w fun e w'=>∃(V:Q8) (m':MW) (d:Int),e=.returned (.tuple #[.agg (Qa V m').toArray,.int .i64 d])/\J5 V/\Yu 8 w.heap.size w' V m'/\Q0 [] w w':=
 hc.mono fun e w' ⟨v,he,n,m',hv,hM,hx⟩=>by
  have hi:=zt9 iv hb;have hn:n=8:=hM.len.symm.trans hi.wp.a.gl;subst hn;exact⟨_,m',_,by rw[he,hv],hi,hM,hx⟩
theorem As(iv:J5 W)(hc:Cz f args w fun e w'=>∃v,e=.returned v/\Om (O7 W bar W' a) w v w')(hb:bar=0->J5 W') :
  Cz f args w fun e w'=>∃(V:Q8) (m':MW) (q d:Int),e=.returned (.tuple #[.agg (Qa V m').toArray,.int .i64 q,.int .i64 d])/\J5 V/\Yu 8 w.heap.size w' V m'/\Q0 [] w w':=
 hc.mono fun e w' ⟨v,he,n,m',hv,hM,hx⟩=>by
  have hi:=zre (a:=a) iv hb;have hn:n=8:=hM.len.symm.trans hi.wp.a.gl;subst hn;exact⟨_,m',_,_,by rw[he,hv],hi,hM,hx⟩
def zy0(w:Wo)(v:Va)(w':Wo):Prop:=∃(V:Q8) (m':MW) (d:Int),v=.tuple #[.agg (Qa V m').toArray,.int .i64 d]/\J5 V/\Yu 8 w.heap.size w' V m'/\Q0 [] w w'
theorem J8{bs:List Nat}{w0 w2 w3:Wo}{d:Int}(s:Sc w0 bs w)(hs:∀x∈bs,x<w.heap.size)(hi:J5 W'){m':MW}(hM:Yu 8 w.heap.size w2 W' m')(hy:Q0 [] w w2)(hx:Q0 bs w2 w3):zy0 w0 (.tuple #[.agg (Qa W' m').toArray,.int .i64 d]) w3:=
 ⟨W',m',d,rfl,hi,(((OW.of hM hs).step hx).own).mono s.ext.size,((s.call0 hy).step hx).ext⟩
theorem zwt{c:Int}(iv:J5 W)(h:zby W c=0):J5 (endW W c):=by
 obtain⟨c0,c1⟩:=J7 (zxr h).1;exact zo7 iv c0 c1
theorem zo9{k a n q:Int}{s:ByteArray}(h:Xt [] w W m)(iv:J5 W) :
  Cz UO #[.agg (Qa W m).toArray,.agg #[.int .i64 k,.int .i64 a,.int .i64 n,.int .i64 q,.string s]] w fun e w'=>∃v,e=.returned v/\zy0 w v w':=by
 refine Cx W.now m.cO W.cpus.length m.cC m.tO W.tasks.length m.tC m.gO W.groups.length m.gC k a n q s (R:=fun v w'=>zy0 w v w') ?_;intro b hb b1 hb1 b2 hb2;have hl:=iv.len;have hW:=iv.w;have s0:Sc w ([b]++[b1]++[b2]) w:=(((Sc.start w).add hb).add hb1).add hb2;have hS:∀{wr:Wo},Q0 [] w wr->Sc w [b,b1,b2] wr:=fun hx=>s0.call0 hx
 refine⟨fun _ wr hx hs=>?_,fun _=>⟨fun _ wr hx hs=>?_,fun _=>⟨fun _ wr hx hs=>?_,fun _=>⟨fun _ wr hx hs=>?_,fun _=>⟨fun _ wr hx hs=>?_,fun _=>⟨fun _ wr hx hs=>?_,fun _=>⟨fun _ wr hx hs=>?_,fun _=>⟨fun _ wr hx hs=>?_,fun _=>⟨fun _ wr hx hs=>?_,fun _=>⟨fun _ wr hx hs=>?_,fun _=>⟨fun _ wr hx hs=>?_,fun _=>⟨fun _ wr hx hs=>?_,fun _=>⟨fun _ wr hx hs=>?_,fun _=>⟨fun _ wr hx hs=>?_,fun _=>⟨fun _ wr hx hs=>?_,fun _=>⟨fun _ wr hx hs=>?_,fun _=>⟨fun _ wr hx hs=>?_,fun _=>⟨fun _ wr hx hs=>?_,fun _=>⟨_,YJ h hl.c hl.t hl.g hl.f,fun g=>?_,fun _ wr hx hs=>?_⟩⟩⟩⟩⟩⟩⟩⟩⟩⟩⟩⟩⟩⟩⟩⟩⟩⟩⟩
 case refine_19=>rw[hW] at g; cases g
 case refine_20=>
  refine(OZ (h.ext hx) iv.wp.a).mono ?_;rintro e wv ⟨m',he,hM,hy⟩;exact⟨_,_,_,_,_,_,_,_,_,_,he,Qe hy hs,fun wr2 hx2=>J8 (hS hx) hs iv hM hy hx2⟩
 case refine_3=>
  refine(As iv (OF (h.ext hx) hl) (k7 hW)).mono ?_;rintro e wv ⟨V,m',q1,d,he,hi,hM,hy⟩;exact⟨_,_,_,_,_,_,_,_,_,_,_,_,he,Qe hy hs,fun wr2 hx2=>J8 (hS hx) hs hi hM hy hx2⟩
 case refine_10=>
  refine(As iv (MK (h.ext hx) hl) fun hb=>zrg iv (zlo hb).1).mono ?_;rintro e wv ⟨V,m',q1,d,he,hi,hM,hy⟩;exact⟨_,_,_,_,_,_,_,_,_,_,_,_,he,Qe hy hs,fun wr2 hx2=>J8 (hS hx) hs hi hM hy hx2⟩
 case refine_1=>exact(Uq iv (Kv (h.ext hx) hl) (zuh iv)).mono fun e wv ⟨V,m',d,he,hi,hM,hy⟩=>⟨_,_,_,_,_,_,_,_,_,_,_,he,Qe hy hs,fun wr2 hx2=>J8 (hS hx) hs hi hM hy hx2⟩
 case refine_2=>exact(Uq iv (Eb (h.ext hx) hl) (zwt iv)).mono fun e wv ⟨V,m',d,he,hi,hM,hy⟩=>⟨_,_,_,_,_,_,_,_,_,_,_,he,Qe hy hs,fun wr2 hx2=>J8 (hS hx) hs hi hM hy hx2⟩
 case refine_4=>exact(Uq iv (FM (h.ext hx) hl) (zo6 hW)).mono fun e wv ⟨V,m',d,he,hi,hM,hy⟩=>⟨_,_,_,_,_,_,_,_,_,_,_,he,Qe hy hs,fun wr2 hx2=>J8 (hS hx) hs hi hM hy hx2⟩
 case refine_5=>exact(Uq iv (NU (h.ext hx) hl) (zrj hW)).mono fun e wv ⟨V,m',d,he,hi,hM,hy⟩=>⟨_,_,_,_,_,_,_,_,_,_,_,he,Qe hy hs,fun wr2 hx2=>J8 (hS hx) hs hi hM hy hx2⟩
 case refine_6=>exact(Uq iv (NR (h.ext hx) hl) (zrf hW)).mono fun e wv ⟨V,m',d,he,hi,hM,hy⟩=>⟨_,_,_,_,_,_,_,_,_,_,_,he,Qe hy hs,fun wr2 hx2=>J8 (hS hx) hs hi hM hy hx2⟩
 case refine_7=>exact(Uq iv (NT (h.ext hx) hl) (zrh hW)).mono fun e wv ⟨V,m',d,he,hi,hM,hy⟩=>⟨_,_,_,_,_,_,_,_,_,_,_,he,Qe hy hs,fun wr2 hx2=>J8 (hS hx) hs hi hM hy hx2⟩
 case refine_8=>exact(Uq iv (Lu (h.ext hx) hl) (znf hW)).mono fun e wv ⟨V,m',d,he,hi,hM,hy⟩=>⟨_,_,_,_,_,_,_,_,_,_,_,he,Qe hy hs,fun wr2 hx2=>J8 (hS hx) hs hi hM hy hx2⟩
 case refine_9=>exact(Uq iv (NS (h.ext hx) hl) (zue iv)).mono fun e wv ⟨V,m',d,he,hi,hM,hy⟩=>⟨_,_,_,_,_,_,_,_,_,_,_,he,Qe hy hs,fun wr2 hx2=>J8 (hS hx) hs hi hM hy hx2⟩
 case refine_11=>exact(Uq iv (FK (h.ext hx) hl) fun hb=>zub iv (zwj hb).1).mono fun e wv ⟨V,m',d,he,hi,hM,hy⟩=>⟨_,_,_,_,_,_,_,_,_,_,_,he,Qe hy hs,fun wr2 hx2=>J8 (hS hx) hs hi hM hy hx2⟩
 case refine_12=>exact(Uq iv (Ea (h.ext hx) hl) (zui hW)).mono fun e wv ⟨V,m',d,he,hi,hM,hy⟩=>⟨_,_,_,_,_,_,_,_,_,_,_,he,Qe hy hs,fun wr2 hx2=>J8 (hS hx) hs hi hM hy hx2⟩
 case refine_13=>exact(Uq iv (NQ (h.ext hx) hl) (zuc hW)).mono fun e wv ⟨V,m',d,he,hi,hM,hy⟩=>⟨_,_,_,_,_,_,_,_,_,_,_,he,Qe hy hs,fun wr2 hx2=>J8 (hS hx) hs hi hM hy hx2⟩
 case refine_14=>exact(Uq iv (E9 (h.ext hx) hl) (zud hW)).mono fun e wv ⟨V,m',d,he,hi,hM,hy⟩=>⟨_,_,_,_,_,_,_,_,_,_,_,he,Qe hy hs,fun wr2 hx2=>J8 (hS hx) hs hi hM hy hx2⟩
 case refine_15=>exact(Uq iv (NV (h.ext hx) hl) (zri hW)).mono fun e wv ⟨V,m',d,he,hi,hM,hy⟩=>⟨_,_,_,_,_,_,_,_,_,_,_,he,Qe hy hs,fun wr2 hx2=>J8 (hS hx) hs hi hM hy hx2⟩
 case refine_16=>exact(Uq iv (E7 (h.ext hx) hl) (zua hW)).mono fun e wv ⟨V,m',d,he,hi,hM,hy⟩=>⟨_,_,_,_,_,_,_,_,_,_,_,he,Qe hy hs,fun wr2 hx2=>J8 (hS hx) hs hi hM hy hx2⟩
 case refine_17=>exact(Uq iv (zde (h.ext hx) hl) (zug hW)).mono fun e wv ⟨V,m',d,he,hi,hM,hy⟩=>⟨_,_,_,_,_,_,_,_,_,_,_,he,Qe hy hs,fun wr2 hx2=>J8 (hS hx) hs hi hM hy hx2⟩
 case refine_18=>exact(Uq iv (zg5 (h.ext hx) hl) (zws hW)).mono fun e wv ⟨V,m',d,he,hi,hM,hy⟩=>⟨_,_,_,_,_,_,_,_,_,_,_,he,Qe hy hs,fun wr2 hx2=>J8 (hS hx) hs hi hM hy hx2⟩
end
theorem zwx{rb:Nat}{c:OA}{L N:Nat}{w:Wo}{W:Q8}{m:MW}(h:JI rb c L N w)(hN:N<=800000000000) :
  Cz Jc #[.pointer (some ⟨rb,0,none⟩),.agg (Qa W m).toArray] w fun e w'=>∃(k a n q:Int) (s:ByteArray),e=.returned (.agg #[.int .i64 k,.int .i64 a,.int .i64 n,.int .i64 q,.string s])/\JI rb c L (N+20) w'/\Q0 [rb] w w':=by
 refine(DV (some ⟨rb,0,none⟩) W.now m.cO W.cpus.length m.cC m.tO W.tasks.length m.tC m.gO W.groups.length m.gC (R:=fun v w'=>∃(k a n q:Int) (s:ByteArray),v=.agg #[.int .i64 k,.int .i64 a,.int .i64 n,.int .i64 q,.string s]/\JI rb c L (N+20) w'/\Q0 [rb] w w') ?_).mono fun e w' ⟨v,he,k,a,n,q,s,hv,h1⟩=>⟨k,a,n,q,s,by rw[he,hv],h1⟩
 intro b hb b1 hb1;refine⟨_,T2,fun wr hx hs=>?_⟩;refine(Dr.pick ((Dr.start h).put2 hx hb hb1) (by omega) hs).mono ?_;rintro e w1 ⟨v1,he,hk,_,h1⟩;refine⟨_,he,hk,fun wr hx hs=>?_⟩;refine(Dr.pick (h1.step hx) (by omega) hs).mono ?_;rintro e w2 ⟨v2,he,hk,_,h2⟩;refine⟨_,he,hk,fun vs bs w2=>bs=[]/\(∃x:Int,vs=[.int .i64 x])/\Dr rb c L N 4 [b,b1] w w2,fun wr hx hs=>?_,?_⟩
 ·refine(Dr.pick (h2.step hx) (by omega) hs).mono ?_;rintro e w3 ⟨v3,he,hk,_,h3⟩;refine⟨_,he,hk,fun _ wr hx hs=>?_,fun _ wr hx hs=>⟨rfl,⟨_,rfl⟩,(h3.step hx).more (by decide)⟩⟩;refine(Dr.pick (h3.step hx) (by omega) hs).mono ?_;rintro e w4 ⟨v4,he,hk,_,h4⟩;exact⟨_,he,hk,fun wr hx _=>⟨rfl,⟨_,rfl⟩,(h4.step hx).more (by decide)⟩⟩
 clear h1 h2;rintro t wv4 hs4 ⟨-,-,h4⟩ wr hx hs;refine(Dr.pick (h4.step hx) (by omega) hs).mono ?_;rintro e w5 ⟨v5,he,hk,⟨p50,_,p52⟩,h5⟩;have p52:=p52 (by decide);refine⟨_,he,hk,fun wr hx hs=>?_⟩;refine(Dr.pick (h5.step hx) (by omega) hs).mono ?_;rintro e w6 ⟨v6,he,hk,_,h6⟩;clear h4 h5;refine⟨_,he,hk,fun _=>?_,fun _ wr hx hs=>?_⟩
 rotate_left
 ·refine(Dr.pick (h6.step hx) (by omega) hs).mono ?_;rintro e w7 ⟨v7,he,hk,_,h7⟩;clear h6;refine⟨_,he,hk,?_⟩;clear he hk hx hs hs4
  repeat' first
   | exact rfl
   | exact zv2 _
   | (refine⟨_,T2,?_⟩)
   | (refine⟨_,Je,?_⟩)
   | (refine⟨fun _ bs w2=>bs=[]/\Dr rb c L N 7 [b,b1] w w2,?_,?_⟩)
   | (refine And.intro ?_ ?_)
   | (refine zvy (by decide) rfl (by omega) (by omega) fun x=>?_)
   | (refine zzc (by decide) rfl (by omega) (by omega) fun x=>?_)
   | (intro (x:Bool) (wv:Wo) hs hm; obtain⟨_,hD⟩:=hm)
   | (intro (b:Nat) hb)
   | (intro (wr:Wo) hx hs; refine(Dr.pick (Dr.step (by assumption) hx) ?_ hs).mono ?_; rotate_left; rintro e w2 ⟨v,he,hk,⟨hp0,_,hp2⟩,hC⟩; have hp2:=hp2 (by decide); refine⟨_,he,hk,?_⟩)
   | (intro (wr:Wo) hx hs; refine(Dr.pick (Dr.put (by assumption) hx (by assumption)) ?_ hs).mono ?_; rotate_left; rintro e w2 ⟨v,he,hk,⟨hp0,_,hp2⟩,hC⟩; have hp2:=hp2 (by decide); refine⟨_,he,hk,?_⟩)
   | (intro (wr:Wo) hx hs; refine(Dr.pick (Dr.put2 (by assumption) hx (by assumption) (by assumption)) ?_ hs).mono ?_; rotate_left; rintro e w2 ⟨v,he,hk,⟨hp0,_,hp2⟩,hC⟩; have hp2:=hp2 (by decide); refine⟨_,he,hk,?_⟩)
   | (intro (wr:Wo) hx hs; refine(Dr.weight (Dr.step (by assumption) hx) ?_ hs).mono ?_; rotate_left; rintro e w2 ⟨v,he,hk,⟨hp0,hp2⟩,hC⟩; refine⟨_,he,hk,?_⟩)
   | (intro (wr:Wo) hx hs; refine(Dr.mask (Dr.step (by assumption) hx) ?_ hs).mono ?_; rotate_left; rintro e w2 ⟨v,he,hk,_,hC⟩; refine⟨_,he,hk,?_⟩)
   | (intro (wr:Wo) hx hs; refine(Dr.units (Dr.step (by assumption) hx) ?_ hs).mono ?_; rotate_left; rintro e w2 ⟨v,he,hk,_,hC⟩; refine⟨_,he,hk,?_⟩)
   | (intro (wr:Wo) hx hs; exact⟨rfl,Dr.step (by assumption) hx⟩)
   | (intro (wr:Wo) hx; exact⟨_,_,_,_,_,rfl,(Dr.step (by assumption) hx).fin (by decide)⟩)
   | (intro (hh:_=true))
   | (intro (hh:_=false))
   | omega
   | decide
 ·repeat' first
   | exact rfl
   | (refine And.intro ?_ ?_)
   | (refine zvy (by decide) rfl (by omega) (by omega) fun x=>?_)
   | (intro (b:Nat) hb)
   | (intro (wr:Wo) hx hs; refine(Dr.pick (Dr.step (by assumption) hx) ?_ hs).mono ?_; rotate_left; rintro e w2 ⟨v,he,hk,⟨hp0,_,hp2⟩,hC⟩; have hp2:=hp2 (by decide); refine⟨_,he,hk,?_⟩)
   | (intro (wr:Wo) hx hs; refine(Dr.pick (Dr.put (by assumption) hx (by assumption)) ?_ hs).mono ?_; rotate_left; rintro e w2 ⟨v,he,hk,⟨hp0,_,hp2⟩,hC⟩; have hp2:=hp2 (by decide); refine⟨_,he,hk,?_⟩)
   | (intro (wr:Wo) hx; exact⟨_,_,_,_,_,rfl,(Dr.step (by assumption) hx).fin (by decide)⟩)
   | omega
def zze(lo hi:Int):Va->Bool
 | .int .i64 x=>decide (lo<=x)&&decide (x<=hi)
 | _=>false
theorem zzl{lo hi v:Int}{k:Nat}{ls:List Va}{P:Int->Prop}(ha:ls.all (zze lo hi)=true)(hl:ls.length=k)(h0:0<=v)(h1:v<(k:Int))(h:∀x,lo<=x->x<=hi->P x):∃x:Int,(0<=v/\ls[Int.toNat v+0]? = some (.int .i64 x))/\P x:=by
 have hlt:Int.toNat v+0<ls.length:=by omega
 have:=List.all_eq_true.1 ha _ (List.getElem_mem hlt);have e:=List.getElem?_eq_getElem hlt;generalize ls[Int.toNat v+0]=y at this e;unfold zze at this
 split at this
 ·rw[Bool.and_eq_true,decide_eq_true_eq,decide_eq_true_eq] at this;exact⟨_,⟨h0,e⟩,h _ this.1 this.2⟩
 ·cases this
structure XN (rb:Nat) (c:OA) (L N n:Nat) (bs:List Nat) (w0 w:Wo) (W:Q8) (m:MW):Prop where
 iv:J5 W
 d:Dr rb c L N n bs w0 w
 o:OW 8 w0.heap.size (rb::bs) w W m
section
variable {rb b b2:Nat}{c:OA}{L N n k:Nat}{bs cs:List Nat}{w0 w w':Wo}{W W':Q8}{m m':MW}
theorem XN.step(h:XN rb c L N n bs w0 w W m)(hx:Q0 bs w w'):XN rb c L N n bs w0 w' W m:=⟨h.iv,h.d.step hx,h.o.step (hx.mono fun _ hm=>List.mem_cons_of_mem _ hm)⟩
theorem XN.put(h:XN rb c L N n bs w0 w W m)(hx:Q0 bs w w')(hb:w.heap.size<=b):XN rb c L N n (bs++[b]) w0 w' W m:=⟨h.iv,h.d.put hx hb,h.o.put (hx.mono fun _ hm=>List.mem_cons_of_mem _ hm) hb⟩
theorem XN.put2(h:XN rb c L N n bs w0 w W m)(hx:Q0 bs w w')(hb:w.heap.size<=b)(hb2:w.heap.size<=b2):XN rb c L N n (bs++[b]++[b2]) w0 w' W m:=⟨h.iv,h.d.put2 hx hb hb2,h.o.put2 (hx.mono fun _ hm=>List.mem_cons_of_mem _ hm) hb hb2⟩
theorem XN.sub(h:XN rb c L N n bs w0 w W m)(hs:∀x∈cs,x∈bs):XN rb c L N n cs w0 w W m:=⟨h.iv,h.d.sub hs,h.o.sub fun x hx=>by
 rcases List.mem_cons.1 hx with h1 | h1
 ·rw[h1]; exact List.mem_cons_self
 ·exact List.mem_cons_of_mem _ (hs x h1)⟩
theorem XN.more{q:Nat}(h:XN rb c L N n bs w0 w W m)(hm:n<=q):XN rb c L N q bs w0 w W m:=⟨h.iv,h.d.more hm,h.o⟩
theorem XN.rd(h:XN rb c L N n bs w0 w W m):Xt [] w W m:=h.o.rd0
theorem XN.drawn(h:XN rb c L N n bs w0 w W m)(hr:JI rb c L (N+n+k) w')(hx:Q0 [rb] w w'):XN rb c L N (n+k) bs w0 w' W m:=
 ⟨h.iv,⟨h.d.r.upd (by rw[<-Nat.add_assoc]; exact hr),h.d.ext.trans hx,h.d.new⟩,h.o.step (hx.mono fun x hm=>by
  have:x=rb:=by simpa using hm
  subst this; exact List.mem_cons_self)⟩
theorem XN.call{f:FuncId}{args:Array Va}{Q:Int->Prop}(h:XN rb c L N n bs w0 w W m)(hs:∀x∈bs,x<w.heap.size)(hc:Cz f args w fun e w'=>∃v,e=.returned (.int .i64 v)/\Q v/\JI rb c L (N+n+k) w'/\Q0 [rb] w w') :
  Cz f args w fun e w'=>∃v,e=.returned (.int .i64 v)/\Q9 bs w w'/\Q v/\XN rb c L N (n+k) bs w0 w' W m:=
 hc.mono fun e w' ⟨v,he,hq,hr,hx⟩=>⟨v,he,PA h.d.r hx hs,hq,h.drawn hr hx⟩
theorem XN.pick(h:XN rb c L N n bs w0 w W m)(hN:N+n<=1000000000000)(hs:∀x∈bs,x<w.heap.size){q:Int} :
  Cz Q1 #[.pointer (some ⟨rb,0,none⟩),.int .i64 q] w fun e w'=>∃v,e=.returned (.int .i64 v)/\Q9 bs w w'/\Di q v/\XN rb c L N (n+1) bs w0 w' W m:=h.call hs (Mp h.d.r.rd hN)
theorem XN.weight(h:XN rb c L N n bs w0 w W m)(hN:N+n<=900000000000)(hs:∀x∈bs,x<w.heap.size) :
  Cz Zw #[.pointer (some ⟨rb,0,none⟩)] w fun e w'=>∃v,e=.returned (.int .i64 v)/\Q9 bs w w'/\zxt v/\XN rb c L N (n+2) bs w0 w' W m:=h.call hs (zjh h.d.r.rd hN)
theorem XN.item(h:XN rb c L N n bs w0 w W m)(hN:N+n<=800000000000)(hs:∀x∈bs,x<w.heap.size){V:Q8}{p:MW} :
  Cz Jc #[.pointer (some ⟨rb,0,none⟩),.agg (Qa V p).toArray] w fun e w'=>∃(k a q r:Int) (s:ByteArray),e=.returned (.agg #[.int .i64 k,.int .i64 a,.int .i64 q,.int .i64 r,.string s])/\Q9 bs w w'/\XN rb c L N (n+20) bs w0 w' W m:=
 (zwx h.d.r.rd hN).mono fun e w' ⟨k,a,q,r,s,he,hr,hx⟩=>⟨k,a,q,r,s,he,PA h.d.r hx hs,h.drawn hr hx⟩
theorem XN.bsl(h:XN rb c L N n bs w0 w W m)(hs:∀x∈bs,x<w.heap.size):∀x∈rb::bs,x<w.heap.size:=fun x hm=>by
 rcases List.mem_cons.1 hm with h1 | h1
 ·rw[h1]; exact h.d.r.rd.lt
 ·exact hs x h1
theorem XN.deed(h:XN rb c L N n bs w0 w W m)(hs:∀x∈bs,x<w.heap.size)(hi:J5 W')(hM:Yu 8 w.heap.size w' W' m')(hx:Q0 [] w w'):XN rb c L N n bs w0 w' W' m':=
 ⟨hi,⟨h.d.r.call0 hx,h.d.ext.trans hx.of_nil,h.d.new⟩,(OW.of hM (h.bsl hs)).mono h.d.ext.size⟩
theorem XN.mak{p:Int}{name:ByteArray}(h:XN rb c L N n bs w0 w W m)(hs:∀x∈bs,x<w.heap.size) :
  Cz Qx #[.agg (Qa W m).toArray,.int .i64 p,.string name] w fun e w'=>∃(W':Q8) (m':MW) (a d:Int),e=.returned (.tuple #[.agg (Qa W' m').toArray,.int .i64 a,.int .i64 d])/\Q9 bs w w'/\XN rb c L N n bs w0 w' W' m':=
 (As h.iv (MK h.rd h.iv.len) fun hb=>zrg h.iv (zlo hb).1).mono fun e w' ⟨V,m',a,d,he,hi,hM,hx⟩=>⟨V,m',a,d,he,Qe hx hs,h.deed hs hi hM hx⟩
theorem XN.fork{g q x:Int}(h:XN rb c L N n bs w0 w W m)(hs:∀x∈bs,x<w.heap.size) :
  Cz Yo #[.agg (Qa W m).toArray,.int .i64 g,.int .i64 q,.int .i64 x] w fun e w'=>∃(W':Q8) (m':MW) (a d:Int),e=.returned (.tuple #[.agg (Qa W' m').toArray,.int .i64 a,.int .i64 d])/\Q9 bs w w'/\XN rb c L N n bs w0 w' W' m':=
 (As h.iv (OF h.rd h.iv.len) (k7 h.iv.w)).mono fun e w' ⟨V,m',a,d,he,hi,hM,hx⟩=>⟨V,m',a,d,he,Qe hx hs,h.deed hs hi hM hx⟩
theorem XN.do{k a q r:Int}{s:ByteArray}(h:XN rb c L N n bs w0 w W m)(hs:∀x∈bs,x<w.heap.size) :
  Cz UO #[.agg (Qa W m).toArray,.agg #[.int .i64 k,.int .i64 a,.int .i64 q,.int .i64 r,.string s]] w fun e w'=>∃(W':Q8) (m':MW) (d:Int),e=.returned (.tuple #[.agg (Qa W' m').toArray,.int .i64 d])/\Q9 bs w w'/\XN rb c L N n bs w0 w' W' m':=
 (zo9 h.rd h.iv).mono fun e w' ⟨v,he,V,m',d,hv,hi,hM,hx⟩=>⟨V,m',d,by rw[he,hv],Qe hx hs,h.deed hs hi hM hx⟩
theorem XN.fin{q:Nat}(h:XN rb c L N n bs w0 w W m)(hq:n<=q):J5 W/\Yu 8 w0.heap.size w W m/\JI rb c L (N+q) w/\Q0 [rb] w0 w/\∀x∈QL 8 m,x≠rb:=⟨h.iv,h.o.own,(h.d.fin hq).1,h.d.ext,fun x hx e=>h.o.nb x hx (by rw[e]; exact List.mem_cons_self)⟩
end
theorem zw0{rb:Nat}{c:OA}{L N:Nat}{w:Wo}{items:Int}(h:JI rb c L N w)(hN:N<=700000000000)(hi:items<=27) :
  Cz Vh #[.pointer (some ⟨rb,0,none⟩),.int .i64 items] w fun e w'=>∃(W:Q8) (m:MW),e=.returned (.agg (Qa W m).toArray)/\J5 W/\Yu 8 w.heap.size w' W m/\JI rb c L (N+1000) w'/\Q0 [rb] w w'/\∀x∈QL 8 m,x≠rb:=by
 refine(DY (some ⟨rb,0,none⟩) items (R:=fun v w'=>∃(W:Q8) (m:MW),v=.agg (Qa W m).toArray/\J5 W/\Yu 8 w.heap.size w' W m/\JI rb c L (N+1000) w'/\Q0 [rb] w w'/\∀x∈QL 8 m,x≠rb) ?_).mono fun e w' ⟨v,he,W,m,hv,h3⟩=>⟨W,m,by rw[he,hv],h3⟩
 intro b hb b1 hb1 wr hx hs;refine(Dr.pick ((Dr.start h).put2 hx hb hb1) (by omega) hs).mono ?_;rintro e w1 ⟨v,he,hk,⟨p0,_,p2⟩,h1⟩;have p2:=p2 (by decide);refine⟨_,he,hk,⟨by omega,by omega⟩,zzl (lo:=1) (hi:=4) (by decide) rfl (by omega) (by omega) fun x x1 x4 wr hx hs=>?_⟩;obtain⟨q,rfl⟩:∃q:Nat,x=(q:Int):=⟨x.toNat,by omega⟩;have h2:=h1.step hx;refine(NW (n:=q) (by omega) (by omega)).mono ?_;rintro e2 w2 ⟨m,he2,hM,hx5⟩
 have hb2:∀x∈rb::[b,b1],x<wr.heap.size:=fun x hm=>by
  rcases List.mem_cons.1 hm with h1 | h1
  ·rw[h1]; exact h2.r.rd.lt
  ·exact hs x h1
 have hK:XN rb c L N 1 [b,b1] w w2 (JZ q) m:=⟨zuf (by omega) (by omega),⟨h2.r.call0 hx5,h2.ext.trans hx5.of_nil,h2.new⟩,(OW.of hM hb2).mono h2.ext.size⟩;refine⟨_,_,_,_,_,_,_,_,_,_,_,he2,Qe hx5 hs,fun b2 hb2 wr hx hs=>?_⟩;refine((hK.put hx hb2).pick (by omega) hs).mono ?_;rintro e3 w3 ⟨v1,he3,hk3,⟨p10,_,p12⟩,hK1⟩;have p12:=p12 (by decide);refine⟨_,he3,hk3,?_⟩;refine⟨fun vs w2=>∃(k n:Nat) (W:Q8) (m:MW),vs=.int .i64 (k:Int)::Qa W m/\(k:Int)<=v1/\n<=2+2*k/\XN rb c L N n [b,b1,b2] w w2 W m,Zu v1.toNat 0,fun wr hx _=>⟨0,2,JZ q,m,rfl,p10,by omega,hK1.step hx⟩,?_⟩;clear hK1 hk3 he3 hs hx hM hK he2 hx5 h1 h2 he hk;rintro i1 l l1O l1L l1C l2O l2L l2C l3O l3L l3C wv hs ⟨k,n,W,m,he,hk,hn,hK⟩;simp only[Qa,List.cons.injEq,Value.int.injEq,Value.slice.injEq,true_and,and_true] at he;obtain⟨rfl,rfl,⟨rfl,rfl,rfl⟩,⟨rfl,rfl,rfl⟩,rfl,rfl,rfl⟩:=he;refine⟨fun hlt=>?_,fun hge wr hx hs=>?_⟩
 ·have hlt:=Ot hlt
  repeat' first
   | exact rfl
   | (refine And.intro ?_ ?_)
   | (refine zvy (by decide) rfl (by omega) (by omega) fun x=>?_)
   | (refine zzc (by decide) rfl (by omega) (by omega) fun x=>?_)
   | (intro (b:Nat) hb)
   | (intro (wr:Wo) hx hs; refine(XN.pick (XN.step (by assumption) hx) ?_ hs).mono ?_; rotate_left; rintro e w2 ⟨v,he,hk,⟨hp0,_,hp2⟩,hC⟩; have hp2:=hp2 (by decide); refine⟨_,he,hk,?_⟩)
   | (intro (wr:Wo) hx hs; refine(XN.pick (XN.put (by assumption) hx (by assumption)) ?_ hs).mono ?_; rotate_left; rintro e w2 ⟨v,he,hk,⟨hp0,_,hp2⟩,hC⟩; have hp2:=hp2 (by decide); refine⟨_,he,hk,?_⟩)
   | (intro (wr:Wo) hx hs; refine(XN.pick (XN.put2 (by assumption) hx (by assumption) (by assumption)) ?_ hs).mono ?_; rotate_left; rintro e w2 ⟨v,he,hk,⟨hp0,_,hp2⟩,hC⟩; have hp2:=hp2 (by decide); refine⟨_,he,hk,?_⟩)
   | (intro (wr:Wo) hx hs; refine(XN.mak (XN.step (by assumption) hx) hs).mono ?_; rintro e w2 ⟨W',m',a,d,he,hk,hC⟩; refine⟨_,_,_,_,_,_,_,_,_,_,_,_,he,hk,⟨by omega,by omega⟩,fun wr hx _=>⟨⟨k+1,n+2,W',m',by simp[Qa],by omega,by omega,((hC.step hx).more (by omega)).sub (by simp)⟩,QS (k:=k) rfl rfl (by omega)⟩⟩)
   | (intro (wr:Wo) hx hs; refine(XN.mak (XN.put (by assumption) hx (by assumption)) hs).mono ?_; rintro e w2 ⟨W',m',a,d,he,hk,hC⟩; refine⟨_,_,_,_,_,_,_,_,_,_,_,_,he,hk,⟨by omega,by omega⟩,fun wr hx _=>⟨⟨k+1,n+2,W',m',by simp[Qa],by omega,by omega,((hC.step hx).more (by omega)).sub (by simp)⟩,QS (k:=k) rfl rfl (by omega)⟩⟩)
   | (intro (wr:Wo) hx hs; refine(XN.mak (XN.put2 (by assumption) hx (by assumption) (by assumption)) hs).mono ?_; rintro e w2 ⟨W',m',a,d,he,hk,hC⟩; refine⟨_,_,_,_,_,_,_,_,_,_,_,_,he,hk,⟨by omega,by omega⟩,fun wr hx _=>⟨⟨k+1,n+2,W',m',by simp[Qa],by omega,by omega,((hC.step hx).more (by omega)).sub (by simp)⟩,QS (k:=k) rfl rfl (by omega)⟩⟩)
   | omega
 refine((hK.step hx).pick (by omega) hs).mono ?_;rintro e4 w4 ⟨v3,he4,hk4,⟨p30,_,p32⟩,hC6⟩;have p32:=p32 (by decide);refine⟨_,he4,hk4,⟨by omega,by omega⟩,?_⟩;refine⟨fun vs w2=>∃(k n:Nat) (W:Q8) (m:MW),vs=.int .i64 (k:Int)::Qa W m/\(k:Int)<=1+v3/\n<=20+3*k/\XN rb c L N n [b,b1,b2] w w2 W m,Zu (1+v3).toNat 0,fun wr8 hx8 _=>⟨0,n+1,W,m,rfl,by omega,by omega,hC6.step hx8⟩,?_⟩;clear hK hC6 hk4 he4 hs hx hge hk hn;clear W m n k;rintro i3 l4 l5O l5L l5C l6O l6L l6C l7O l7L l7C wv hs ⟨k,n,W,m,he,hk,hn,hK⟩;simp only[Qa,List.cons.injEq,Value.int.injEq,Value.slice.injEq,true_and,and_true] at he;obtain⟨rfl,rfl,⟨rfl,rfl,rfl⟩,⟨rfl,rfl,rfl⟩,rfl,rfl,rfl⟩:=he;refine⟨fun hlt wr hx hs=>?_,fun hge=>?_⟩
 ·have hlt:=Ot hlt;refine((hK.step hx).pick (by omega) hs).mono ?_;rintro e5 w5 ⟨v5,he5,hk5,_,hC5⟩;refine⟨_,he5,hk5,rfl,fun wr hx hs=>?_⟩;refine((hC5.step hx).weight (by omega) hs).mono ?_;rintro e6 w6 ⟨v6,he6,hk6,_,hC6⟩;refine⟨_,he6,hk6,rfl,_,T2,_,Je,zv2 _,fun wr hx hs=>?_⟩;refine((hC6.step hx).fork hs).mono ?_;rintro e7 w7 ⟨W7,m7,a,d,he7,hk7,hC7⟩;exact⟨_,_,_,_,_,_,_,_,_,_,_,_,he7,hk7,⟨by omega,by omega⟩,fun wr hx _=>⟨⟨k+1,n+1+2,W7,m7,by simp[Qa],by omega,by omega,hC7.step hx⟩,QS (k:=k) rfl rfl (by omega)⟩⟩
 ·have hge:=Ou hge;refine⟨fun vs w2=>∃(k n:Nat) (W:Q8) (m:MW),vs=.int .i64 (k:Int)::Qa W m/\k<=27/\n<=50+20*k/\XN rb c L N n [b,b1,b2] w w2 W m,Zu 27 0,fun wr8 hx8 _=>⟨0,n,W,m,rfl,by omega,by omega,hK.step hx8⟩,?_⟩;clear hK hs;rintro i5 l8 l9O l9L l9C l10O l10L l10C l11O l11L l11C wv hs ⟨k,n,W,m,he,hk,hn,hK⟩;simp only[Qa,List.cons.injEq,Value.int.injEq,Value.slice.injEq,true_and,and_true] at he;obtain⟨rfl,rfl,⟨rfl,rfl,rfl⟩,⟨rfl,rfl,rfl⟩,rfl,rfl,rfl⟩:=he;refine⟨fun hlt wr hx hs=>?_,fun hge wr hx=>⟨W,m,rfl,(hK.step hx).fin (by omega)⟩⟩;have hlt:=Ot hlt;refine((hK.step hx).item (by omega) hs (V:=W) (p:=m)).mono ?_;rintro e5 w5 ⟨k5,a5,q5,r5,s5,he5,hk5,hC5⟩;refine⟨_,_,_,_,_,he5,hk5,rfl,fun wr hx hs=>?_⟩;refine((hC5.step hx).do hs).mono ?_;rintro e6 w6 ⟨W6,m6,d,he6,hk6,hC6⟩;exact⟨_,_,_,_,_,_,_,_,_,_,_,he6,hk6,⟨by omega,by omega⟩,fun wr hx _=>⟨⟨k+1,n+20,W6,m6,by simp[Qa],by omega,by omega,hC6.step hx⟩,QS (k:=k) rfl rfl (by omega)⟩⟩
theorem zyr:Tryz.prog.underlying ty_sl_uint8=some (.slice Oj):=by kernel_rfl
theorem zyq:Tryz.prog.underlying Oj=some (.int .u8):=by kernel_rfl
theorem zys:Tryz.prog.underlying Zt=some .string:=by kernel_rfl
theorem XN.ofPlay{rb:Nat}{c:OA}{L N n k:Nat}{bs:List Nat}{w0 w w':Wo}{W:Q8}{m:MW}(d:Dr rb c L N n bs w0 w)(hs:∀x∈bs,x<w.heap.size)(iv:J5 W)(hM:Yu 8 w.heap.size w' W m)(hr:JI rb c L (N+n+k) w')(hx:Q0 [rb] w w')(hne:∀x∈QL 8 m,x≠rb):XN rb c L N (n+k) bs w0 w' W m:=
 ⟨iv,⟨d.r.upd (by rw[<-Nat.add_assoc]; exact hr),d.ext.trans hx,d.new⟩,⟨hM.mono d.ext.size,fun x hx1 hm=>by
  rcases List.mem_cons.1 hm with h1 | h1
  ·exact hne x hx1 h1
  ·have:=(hM.lt x hx1).1;have:=hs x h1;omega⟩⟩
theorem zun{rb:Nat}{c:OA}{L N:Nat}{w:Wo}(h:JI rb c L N w)(hN:N<=600000000000) :
  Cz Uw #[.pointer (some ⟨rb,0,none⟩)] w fun e w'=>∃(W:Q8) (m:MW),e=.returned (.agg (Qa W m).toArray)/\J5 W/\Yu 8 w.heap.size w' W m/\JI rb c L (N+1100) w'/\Q0 [rb] w w'/\∀x∈QL 8 m,x≠rb:=by
 refine(HI (some ⟨rb,0,none⟩) (R:=fun v w'=>∃(W:Q8) (m:MW),v=.agg (Qa W m).toArray/\J5 W/\Yu 8 w.heap.size w' W m/\JI rb c L (N+1100) w'/\Q0 [rb] w w'/\∀x∈QL 8 m,x≠rb) ?_).mono fun e w' ⟨v,he,W,m,hv,h3⟩=>⟨W,m,by rw[he,hv],h3⟩
 intro b hb wr hx hs;refine(Dr.pick ((Dr.start h).put hx hb) (by omega) hs).mono ?_;rintro e w1 ⟨v,he,hk,⟨p0,_,p2⟩,h1⟩;have p2:=p2 (by decide);refine⟨_,he,hk,fun wr hx hs=>?_⟩;have h2:=h1.step hx;refine(zw0 h2.r.rd (by omega) (items:=v) (by omega)).mono ?_;rintro e2 w2 ⟨W,m,he2,iv,hM,hr,hxp,hne⟩;have hK:=XN.ofPlay h2 hs iv hM hr hxp hne;refine⟨_,_,_,_,_,_,_,_,_,_,he2,PA h2.r hxp hs,fun b1 hb1 wr hx hs=>?_⟩;refine((hK.put hx hb1).pick (by omega) hs).mono ?_;rintro e3 w3 ⟨v3,he3,hk3,_,hK3⟩;refine⟨_,he3,hk3,fun _=>?_,fun _ wr hx=>⟨W,m,rfl,(hK3.step hx).fin (by omega)⟩⟩;refine⟨fun vs w2=>∃(k:Nat) (W:Q8) (m:MW),vs=.int .i64 (k:Int)::Qa W m/\k<=12/\XN rb c L N (0+1+1000+1) [b,b1] w w2 W m,Zu 12 0,fun wr hx _=>⟨0,W,m,rfl,by omega,hK3.step hx⟩,?_⟩;clear hK3 hK hM iv hne hr hxp he2 hk3 he3 h2 h1 hs hx;rintro i1 l l1O l1L l1C l2O l2L l2C l3O l3L l3C wv hs ⟨k,W,m,he,hk,hK⟩;simp only[Qa,List.cons.injEq,Value.int.injEq,Value.slice.injEq,true_and,and_true] at he;obtain⟨rfl,rfl,⟨rfl,rfl,rfl⟩,⟨rfl,rfl,rfl⟩,rfl,rfl,rfl⟩:=he;refine⟨fun hlt wr hx hs=>?_,fun hge=>?_⟩
 ·have hlt:=Ot hlt;refine((hK.step hx).fork hs).mono ?_;rintro e7 w7 ⟨W7,m7,a,d,he7,hk7,hC7⟩;exact⟨_,_,_,_,_,_,_,_,_,_,_,_,he7,hk7,⟨by omega,by omega⟩,fun wr hx _=>⟨⟨k+1,W7,m7,by simp[Qa],by omega,hC7.step hx⟩,QS (k:=k) rfl rfl (by omega)⟩⟩
 refine⟨fun vs w2=>∃(k:Nat) (W:Q8) (m:MW),vs=.int .i64 (k:Int)::Qa W m/\k<=8/\XN rb c L N (0+1+1000+1) [b,b1] w w2 W m,Zu 8 0,fun wr hx _=>⟨0,W,m,rfl,by omega,hK.step hx⟩,?_⟩;clear hK hs;rintro i3 l4 l5O l5L l5C l6O l6L l6C l7O l7L l7C wv hs ⟨k,W,m,he,hk,hK⟩;simp only[Qa,List.cons.injEq,Value.int.injEq,Value.slice.injEq,true_and,and_true] at he;obtain⟨rfl,rfl,⟨rfl,rfl,rfl⟩,⟨rfl,rfl,rfl⟩,rfl,rfl,rfl⟩:=he;refine⟨fun hlt=>⟨⟨by omega,by omega⟩,⟨by have:=Ot hlt; show (0:Int)<=_; omega,by have:=Ot hlt; show _<=(255:Int); omega⟩,fun b3 wb hxb hsz hh hn wr hx hs=>?_⟩,fun _ wr hx=>⟨W,m,rfl,(hK.step hx).fin (by omega)⟩⟩;have hlt:=Ot hlt;have hK1:=(hK.step hxb).step hx
 have hh2:wr.heap[b3]? = some (Obj.cells ([.int .u8 (48+(k:Int))]:List Va).toArray Oj (0,0)):=by
  rw[hx.block b3 (Ur hh) hn]; exact hh
 have hc:=run_convert_bytes_arg wr ty_sl_uint8 Oj zyr zyq b3 0 1 1 [48+(k:Int)] rfl (fun i hi=>by
  have:i=0:=by omega
  subst this;rw[Oa hh2]; rfl) Zt zys
 refine⟨_,wr,hc,fun _ _=>rfl,?_,fun wr2 hx2 hs2=>?_⟩
 ·have e1:(strOfNums [48+(k:Int)]).size=1:=rfl;rw[e1]; decide
 refine((hK1.step hx2).mak hs2).mono ?_;rintro e7 w7 ⟨W7,m7,a,d,he7,hk7,hC7⟩;exact⟨_,_,_,_,_,_,_,_,_,_,_,_,he7,hk7,⟨by omega,by omega⟩,fun wr hx _=>⟨⟨k+1,W7,m7,by simp[Qa],by omega,hC7.step hx⟩,QS (k:=k) rfl rfl (by omega)⟩⟩
structure Cl (W V:Q8):Prop where
 n:V.now=W.now
 c:V.cpus=W.cpus
 t:V.tasks.length=W.tasks.length
 g:V.groups.length=W.groups.length
 e:∀i:Int,0<=i->i<8->∃ss:List KE,gi V.groups i={ gi W.groups i with shelves:=ss }/\ss.length=(gi W.groups i).shelves.length
theorem Cl.refl(W:Q8):Cl W W:=⟨rfl,rfl,rfl,rfl,fun i _ _=>⟨_,rfl,rfl⟩⟩
theorem Cl.enc{W V:Q8}(h:Cl W V)(m:MW):Qa V m=Qa W m:=by simp[Qa,h.n,h.c,h.t,h.g]
theorem Cl.len{W V:Q8}(h:Cl W V)(hl:X5 W)(h8:W.groups.length=8):X5 V:=by
 refine⟨by rw[h.c]; exact hl.c,by rw[h.t]; exact hl.t,by rw[h.g]; exact hl.g,fun i a b=>?_⟩;rw[h.g] at b;obtain⟨ss,e,l⟩:=h.e i a (by omega);have hf:=hl.f i a b;rw[e];exact⟨hf.nm,hf.nx,hf.lo,hf.dr,by show ss.length<=_; rw[l]; exact hf.sh⟩
structure Lt (base:Nat) (bs:List Nat) (w0 w:Wo) (W V:Q8) (m:MW):Prop where
 cl:Cl W V
 o:OW 8 base bs w V m
 ext:Q0 (QL 8 m) w0 w
 new:∀x∈bs,w0.heap.size<=x
section
variable {base:Nat}{bs:List Nat}{w0 w w':Wo}{W V V':Q8}{m:MW}
theorem Lt.step(h:Lt base bs w0 w W V m)(hx:Q0 bs w w'):Lt base bs w0 w' W V m:=⟨h.cl,h.o.step hx,h.ext.fresh hx fun x hm=>.inl (h.new x hm),h.new⟩
theorem Lt.sto(h:Lt base bs w0 w W V m)(hc:Cl W V')(hM:Yu 8 base w' V' m)(hx:Q0 (QL 8 m) w w'):Lt base bs w0 w' W V' m:=⟨hc,⟨hM,h.o.nb⟩,h.ext.trans hx,h.new⟩
theorem zwy(h:Yu 8 base w W m)(iv:J5 W) :
  Cz Oz #[.agg (Qa W m).toArray] w fun e w'=>∃V:Q8,e=.returned (.agg (Qa V m).toArray)/\X5 V/\Yu 8 base w' V m/\Q0 (QL 8 m) w w':=by
 refine(Cy W.now m.cO W.cpus.length m.cC m.tO W.tasks.length m.tC m.gO W.groups.length m.gC (R:=fun v w'=>∃V:Q8,v=.agg (Qa V m).toArray/\X5 V/\Yu 8 base w' V m/\Q0 (QL 8 m) w w') ?_).mono fun e w' ⟨v,he,V,hv,h3⟩=>⟨V,by rw[he,hv],h3⟩
 intro b hb b1 hb1;have hgl:=iv.wp.a.gl;have htl:=iv.wp.a.t
 have hnew:∀x∈[b,b1],w.heap.size<=x:=by
  intro x hx;simp at hx;omega
 have h0:Lt base [b,b1] w w W W m:=⟨Cl.refl W,⟨h,fun x hx hm=>by
  have:=(h.lt x hx).2;have:=hnew x hm;omega⟩,Q0.refl _ _,hnew⟩
 refine⟨fun vs w2=>∃(k:Nat) (V:Q8),vs=[.int .i64 (k:Int)]/\k<=12/\Lt base [b,b1] w w2 W V m/\V.groups=W.groups/\∀j:Int,(k:Int)<=j->j<12->Q7 V j=Q7 W j,Zu 12 0,fun wr hx _=>⟨0,W,rfl,by omega,h0.step hx.of_nil,rfl,fun _ _ _=>rfl⟩,?_⟩;clear h0;rintro t wv hs ⟨k,V,he,hk,hL,hg,ht⟩;simp only[List.cons.injEq,Value.int.injEq,true_and,and_true] at he;subst he;have hVt:V.tasks.length=12:=by rw[hL.cl.t]; exact htl
 refine⟨fun hlt=>?_,fun hge=>?_⟩
 ·have hlt:=Ot hlt;have k0:(0:Int)<=(k:Int):=by omega
  have k1:(k:Int)<(V.tasks.length:Int):=by omega
  have ix:Ix m.tO W.tasks.length (k:Int):=by
   have:=hL.o.rd.t.ix Qy k0 k1
   rwa[hL.cl.t] at this
  have hv:0<=(Q7 V (k:Int)).v/\(Q7 V (k:Int)).v<=100000000000000000:=by
   rw[ht _ (Int.le_refl _) (by omega)];rcases iv.wp.t (k:Int) k0 (by omega) with hz | ⟨_,hx⟩
   ·rw[hz.2]; decide
   ·exact Y3.1 hx.v
  refine⟨ix,_,hL.o.rd.t.f k0 k1 (j:=0) rfl,fun _=>⟨ix,_,hL.o.rd.t.f k0 k1 (j:=5) rfl,⟨by show _<=(Q7 V (k:Int)).v+_; omega,by show (Q7 V (k:Int)).v+_<=_; omega⟩,ix,zif hL.o.own hL.o.nb k0 k1 (j:=5) (by decide),⟨by omega,by omega⟩,fun wr hx _=>⟨⟨k+1,setTk V (k:Int) { Q7 V (k:Int) with v:=(Q7 V (k:Int)).v+50000000000000001 },by simp,by omega,?_,hg,fun j a c=>?_⟩,QS (k:=k) rfl rfl (by omega)⟩⟩,fun _=>⟨⟨by omega,by omega⟩,fun wr hx _=>⟨⟨k+1,V,by simp,by omega,hL.step hx,hg,fun j a c=>ht j (by omega) c⟩,QS (k:=k) rfl rfl (by omega)⟩⟩⟩
  ·refine(hL.sto (V':=setTk V (k:Int) { Q7 V (k:Int) with v:=(Q7 V (k:Int)).v+50000000000000001 }) ⟨hL.cl.n,hL.cl.c,by show (List.set _ _ _).length=_; rw[List.length_set]; exact hL.cl.t,hL.cl.g,hL.cl.e⟩ (hL.o.own.stoT k0 k1 (j:=5) (vs:=[.int .i64 ((Q7 V (k:Int)).v+50000000000000001)]) (x:={ Q7 V (k:Int) with v:=(Q7 V (k:Int)).v+50000000000000001 }) rfl (by show 5+1<=9; decide)) GX).step hx
  ·rw[show Q7 (setTk V (k:Int) { Q7 V (k:Int) with v:=(Q7 V (k:Int)).v+50000000000000001 }) j=_ from (QA V.tasks { Q7 V (k:Int) with v:=(Q7 V (k:Int)).v+50000000000000001 } k0 k1 (j:=j) (by omega)),if_neg (by omega)];exact ht j (by omega) c
 have hge:=Ou hge;refine⟨fun vs w2=>∃(k:Nat) (V:Q8),vs=[.int .i64 (k:Int)]/\k<=8/\Lt base [b,b1] w w2 W V m/\∀j:Int,(k:Int)<=j->j<8->gi V.groups j=gi W.groups j,Zu 8 0,fun wr hx _=>⟨0,V,rfl,by omega,hL.step hx,fun j _ _=>by rw[hg]⟩,?_⟩;clear hL hg ht hs hVt;rintro k' wv1 hs1 ⟨k2,V,he,hk2,hL,hg⟩;simp only[List.cons.injEq,Value.int.injEq,true_and,and_true] at he;subst he;refine⟨fun hlt=>?_,fun hge2 wr hx=>?_⟩
 rotate_left
 ·have hK:=hL.step hx;exact⟨V,by rw[hK.cl.enc]; rfl,hK.cl.len iv.len hgl,hK.o.own,hK.ext⟩
 have hlt:=Ot hlt;have k0:(0:Int)<=(k2:Int):=by omega
 have k8:(k2:Int)<8:=by omega
 have hsl4:=(DK iv.wp.a k0 k8).2.2;refine⟨fun vs w2=>∃(c:Nat) (V:Q8),vs=[.int .i64 (c:Int)]/\c<=(gi W.groups (k2:Int)).shelves.length/\Lt base [b,b1] w w2 W V m/\(∀j:Int,(k2:Int)<j->j<8->gi V.groups j=gi W.groups j)/\∀d:Int,(c:Int)<=d->Qb V (k2:Int) d=Qb W (k2:Int) d,Zu 4 0,fun wr hx _=>⟨0,V,rfl,by omega,hL.step hx,fun j a c=>hg j (by omega) c,fun d _=>by unfold Qb; rw[hg _ (Int.le_refl _) k8]⟩,?_⟩;clear hL hg hs1;rintro c' wv2 hs2 ⟨c,V,he,hc,hL,hg,hsh⟩;simp only[List.cons.injEq,Value.int.injEq,true_and,and_true] at he;subst he;have hVg:V.groups.length=8:=by rw[hL.cl.g]; exact hgl
 have k1:(k2:Int)<(V.groups.length:Int):=by omega
 obtain⟨ss,hss,hsl⟩:=hL.cl.e (k2:Int) k0 k8;have hlen:(gi V.groups (k2:Int)).shelves.length=(gi W.groups (k2:Int)).shelves.length:=by rw[hss]; exact hsl
 have ix:∀{V':Q8} {w3:Wo},Lt base [b,b1] w w3 W V' m->Ix m.gO W.groups.length (k2:Int):=fun hL'=>by
  have:=hL'.o.rd.g.ix (i:=(k2:Int)) k0 (by rw[hL'.cl.g]; omega)
  rwa[hL'.cl.g] at this
 refine⟨ix hL,_,_,_,hL.o.rd.g.shelf k0 k1,fun hlc=>?_,fun hgc=>⟨⟨by omega,by omega⟩,fun wr hx _=>⟨⟨k2+1,V,by simp,by omega,hL.step hx,fun j a d=>hg j (by omega) d⟩,QS (k:=k2) rfl rfl (by omega)⟩⟩⟩;have hlc:=Ot hlc;have c0:(0:Int)<=(c:Int):=by omega
 have hp:=iv.wp.s (k2:Int) (c:Int) k0 k8 c0 (by omega);have hsc:=hsh (c:Int) (Int.le_refl _);have hf:=Y3.1 hp.f;have hv:=Y3.1 hp.v;rw[<-hsc] at hf hv;have hrs:=hL.o.rd.g.shelves _ k0 k1;have hM1:=hL.o.own.stoS (i:=(k2:Int)) (c:=(c:Int)) k0 (by omega) c0 hlc (j:=0) (vs:=[.int .i64 ((Qb V (k2:Int) (c:Int)).floor+50000000000000001)]) (x:={ Qb V (k2:Int) (c:Int) with floor:=(Qb V (k2:Int) (c:Int)).floor+50000000000000001 }) rfl (by show 0+1<=5; decide)
 have hcl:∀{V1:Q8} (s:KE),Cl W V1->Cl W (setSh V1 (k2:Int) (c:Int) s):=fun {V1} s h1=>⟨h1.n,h1.c,h1.t,by show (List.set _ _ _).length=_; rw[List.length_set]; exact h1.g,fun i a d=>by
  have:=h1.g;obtain⟨s1,e1,l1⟩:=h1.e i a d;have e2:gi (setSh V1 (k2:Int) (c:Int) s).groups i=if (k2:Int)=i then { gi V1.groups (k2:Int) with shelves:=(gi V1.groups (k2:Int)).shelves.set (Int.toNat (c:Int)) s } else gi V1.groups i:=Yt k0 (by omega) a;rw[e2];split
  ·rename_i e3;subst e3;exact⟨s1.set (Int.toNat (c:Int)) s,by rw[e1],by rw[List.length_set]; exact l1⟩
  ·exact⟨s1,e1,l1⟩⟩
 have hL1:=hL.sto (V':=setSh V (k2:Int) (c:Int) { Qb V (k2:Int) (c:Int) with floor:=(Qb V (k2:Int) (c:Int)).floor+50000000000000001 }) (hcl _ hL.cl) hM1 (Ao (by omega))
 have hg1:∀{V1:Q8} (s:KE),V1.groups.length=8->(∀j:Int,(k2:Int)<j->j<8->gi V1.groups j=gi W.groups j)->∀j:Int,(k2:Int)<j->j<8->gi (setSh V1 (k2:Int) (c:Int) s).groups j=gi W.groups j:=fun {V1} s hl h1 j a d=>by
  rw[show gi (setSh V1 (k2:Int) (c:Int) s).groups j=_ from Yt k0 (by omega) (by omega),if_neg (by omega)];exact h1 j a d
 have hs1:∀{V1:Q8} (s:KE),V1.groups.length=8->(c:Int)<((gi V1.groups (k2:Int)).shelves.length:Int)->(∀d:Int,(c:Int)+1<=d->Qb V1 (k2:Int) d=Qb W (k2:Int) d)->∀d:Int,(c:Int)+1<=d->Qb (setSh V1 (k2:Int) (c:Int) s) (k2:Int) d=Qb W (k2:Int) d:=fun {V1} s hl hcl2 h1 d a=>by
  rw[Jv k0 (by omega) c0 hcl2 k0 (by omega),if_neg (by omega)];exact h1 d a
 have hg2:=hg1 { Qb V (k2:Int) (c:Int) with floor:=(Qb V (k2:Int) (c:Int)).floor+50000000000000001 } hVg hg;have hs2':=hs1 { Qb V (k2:Int) (c:Int) with floor:=(Qb V (k2:Int) (c:Int)).floor+50000000000000001 } hVg hlc fun d a=>hsh d (by omega)
 have hl1:(gi (setSh V (k2:Int) (c:Int) { Qb V (k2:Int) (c:Int) with floor:=(Qb V (k2:Int) (c:Int)).floor+50000000000000001 }).groups (k2:Int)).shelves.length=(gi V.groups (k2:Int)).shelves.length:=zfl k0 k1 k0
 have hv1:Qb (setSh V (k2:Int) (c:Int) { Qb V (k2:Int) (c:Int) with floor:=(Qb V (k2:Int) (c:Int)).floor+50000000000000001 }) (k2:Int) (c:Int)={ Qb V (k2:Int) (c:Int) with floor:=(Qb V (k2:Int) (c:Int)).floor+50000000000000001 }:=by
  rw[Jv k0 k1 c0 hlc k0 c0,if_pos ⟨rfl,rfl⟩]
 refine⟨ix hL,_,_,_,hL.o.rd.g.shelf k0 k1,ix hL,_,_,_,hL.o.rd.g.shelf k0 k1,hrs.ix ZQ c0 hlc,(Qb V (k2:Int) (c:Int)).floor,hrs.f c0 hlc (j:=0) rfl,⟨by omega,by omega⟩,hrs.ix ZQ c0 hlc,zv7 hL.o.own hL.o.nb k0 (by omega) c0 hlc (j:=0) (by decide),fun _=>?_,fun _=>⟨⟨by omega,by omega⟩,fun wr hx _=>⟨⟨c+1,_,by simp,by omega,hL1.step hx,hg2,hs2'⟩,QS (k:=c) rfl rfl (by omega)⟩⟩⟩;generalize setSh V (k2:Int) (c:Int) { Qb V (k2:Int) (c:Int) with floor:=(Qb V (k2:Int) (c:Int)).floor+50000000000000001 }=V1 at hL1 hg2 hs2' hl1 hv1;have hVg1:V1.groups.length=8:=by rw[hL1.cl.g]; exact hgl
 have k11:(k2:Int)<(V1.groups.length:Int):=by omega
 have hlc1:(c:Int)<((gi V1.groups (k2:Int)).shelves.length:Int):=by rw[hl1]; exact hlc
 have hrs1:=hL1.o.rd.g.shelves _ k0 k11;have ev:(Qb V1 (k2:Int) (c:Int)).v=(Qb V (k2:Int) (c:Int)).v:=by rw[hv1]
 have hM2:=hL1.o.own.stoS (i:=(k2:Int)) (c:=(c:Int)) k0 (by omega) c0 hlc1 (j:=2) (vs:=[.int .i64 ((Qb V1 (k2:Int) (c:Int)).v+50000000000000001)]) (x:={ Qb V1 (k2:Int) (c:Int) with v:=(Qb V1 (k2:Int) (c:Int)).v+50000000000000001 }) rfl (by show 2+1<=5; decide);have hL2:=hL1.sto (V':=setSh V1 (k2:Int) (c:Int) { Qb V1 (k2:Int) (c:Int) with v:=(Qb V1 (k2:Int) (c:Int)).v+50000000000000001 }) (hcl _ hL1.cl) hM2 (Ao (by omega));exact⟨ix hL1,_,_,_,hL1.o.rd.g.shelf k0 k11,ix hL1,_,_,_,hL1.o.rd.g.shelf k0 k11,hrs1.ix ZQ c0 hlc1,(Qb V1 (k2:Int) (c:Int)).v,hrs1.f c0 hlc1 (j:=2) rfl,⟨by omega,by omega⟩,hrs1.ix ZQ c0 hlc1,zv7 hL1.o.own hL1.o.nb k0 (by omega) c0 hlc1 (j:=2) (by decide),⟨by omega,by omega⟩,fun wr hx _=>⟨⟨c+1,_,by simp,by omega,hL2.step hx,hg1 _ hVg1 hg2,hs1 _ hVg1 hlc1 hs2'⟩,QS (k:=c) rfl rfl (by omega)⟩⟩
end
theorem zo4{b:JH}(h:Tc b){c:Int}(c0:0<=c)(c1:c<(b.locals.length:Int)):Tc (Yw b c):=by
 by_cases hp:0<gi b.locals c
 ·exact(zi6 h c0 c1 hp).1
 ·have he:=(h.each c c0 c1).1;have e0:gi b.locals c=0:=by omega
  have hs:=LU b.locals c 0 c0 c1 b.locals.length;rw[if_pos c1] at hs;have hd:=h.dl;refine⟨h.q1,h.q2,?_,?_,?_,?_,?_,h.s1,h.s2,fun d d0 d1=>?_,?_⟩
  ·simp only[Yw,List.length_set]; exact h.l1
  ·simp only[Yw,List.length_set]; exact h.l2
  ·simp only[Yw,List.length_set]; split <;> simp[hd]
  ·simp only[Yw]; have:=h.p1; omega
  ·simp only[Yw]; have:=h.p2; omega
  ·simp only[Yw,List.length_set] at d1 ⊢;have hq:=h.each d d0 d1;have q1:=h.q1;rw[QA _ _ c0 c1 d0,e0]
   by_cases hpp:b.pool+0>0
   ·rw[if_pos hpp,OC _ _ d0 (by omega)];refine⟨?_,?_,fun h=>by cases h⟩
    ·split <;> omega
    ·split <;> omega
   ·rw[if_neg hpp];refine⟨?_,?_,fun hh=>?_⟩
    ·split <;> omega
    ·split <;> omega
    ·have:=hq.2.2 hh
     split <;> omega
  ·simp only[Yw,List.length_set];have:=h.sum;rw[hs,e0]; omega
theorem zqu{b:JH}(h:Tc b)(op:zvv):Tc (YM b op).1:=by
 unfold YM;split
 ·exact(ziy h).1
 ·split
  ·exact h
  ·rename_i hi;have hc:Yh op.at' 0 ((b.locals.length:Int)-1)=true:=by simpa using hi
   have hc:=Qm.1 hc;split
   ·exact(zkf h hc.1 (by omega)).1
   ·split
    ·exact(zfn h hc.1 (by omega)).1
    ·split
     ·exact zo4 h hc.1 (by omega)
     ·exact h
theorem zrn{q x:Int}{w:Wo}(hq:Yh q 1 10000=true)(h1:1<=x)(h4:x<=4) :
  Cz Qz #[.int .i64 q,.int .i64 x] w fun e w'=>∃(B:JH) (p:MG),e=.returned (.tuple #[.agg (Z6 B p).toArray,.bool true])/\Tc B/\QY w.heap.size w' B p/\Q0 [] w w':=by
 obtain⟨n,rfl⟩:∃n:Nat,x=(n:Int):=⟨x.toNat,by omega⟩;have hqq:=Qm.1 hq;exact(Ls (n:=n) hq (Qm.2 ⟨by omega,by omega⟩)).mono fun e w' ⟨p,he,ho,hx⟩=>⟨_,p,he,ze5 hqq.1 hqq.2 (by omega) (by omega),ho,hx⟩
theorem zrm{rb:Nat}{c:OA}{L N:Nat}{w:Wo}(h:JI rb c L N w)(hN:N<=900000000000) :
  Cz XC #[.pointer (some ⟨rb,0,none⟩)] w fun e w'=>∃op:zvv,e=.returned (.agg (zq3 op).toArray)/\JI rb c L (N+10) w'/\Q0 [rb] w w':=by
 refine(GG (some ⟨rb,0,none⟩) (R:=fun v w'=>∃op:zvv,v=.agg (zq3 op).toArray/\JI rb c L (N+10) w'/\Q0 [rb] w w') ?_).mono fun e w' ⟨v,he,op,hv,h1⟩=>⟨op,by rw[he,hv],h1⟩
 intro b hb b1 hb1 wr hx hs;refine(Dr.pick ((Dr.start h).put2 hx hb hb1) (by omega) hs).mono ?_;rintro e w1 ⟨v1,he,hk,⟨p0,_,p2⟩,h1⟩;have p2:=p2 (by decide);refine⟨_,he,hk,⟨by omega,by omega⟩,zvy (by decide) rfl (by omega) (by omega) fun x=>?_⟩;refine⟨fun vs bs w2=>bs=[]/\(∃x:Int,vs=[.int .i64 x])/\Dr rb c L N 2 [b,b1] w w2,⟨fun _ wr hx hs=>?_,fun _=>⟨fun _ wr hx _=>⟨rfl,⟨_,rfl⟩,(h1.step hx).more (by decide)⟩,fun _ wr hx _=>⟨rfl,⟨_,rfl⟩,(h1.step hx).more (by decide)⟩⟩⟩,?_⟩
 ·refine(Dr.pick (h1.step hx) (by omega) hs).mono ?_;rintro e w3 ⟨v3,he,hk,_,h3⟩;exact⟨_,he,hk,fun _ wr hx _=>⟨rfl,⟨_,rfl⟩,h3.step hx⟩,fun _ wr hx _=>⟨rfl,⟨_,rfl⟩,h3.step hx⟩⟩
 clear h1;rintro kind w2 hs2 ⟨-,-,h2⟩;refine⟨fun vs bs w2=>bs=[]/\(∃x:Int,vs=[.int .i64 x])/\Dr rb c L N 4 [b,b1] w w2,fun wr hx hs=>?_,?_⟩
 ·refine(Dr.pick (h2.step hx) (by omega) hs).mono ?_;rintro e w3 ⟨v3,he,hk,_,h3⟩;refine⟨_,he,hk,fun _ wr hx hs=>?_,fun _ wr hx _=>⟨rfl,⟨_,rfl⟩,(h3.step hx).more (by decide)⟩⟩;refine(Dr.pick (h3.step hx) (by omega) hs).mono ?_;rintro e w4 ⟨v4,he,hk,⟨q0,_,q2⟩,h4⟩;have q2:=q2 (by decide);exact⟨_,he,hk,⟨by omega,by omega⟩,fun wr hx _=>⟨rfl,⟨_,rfl⟩,h4.step hx⟩⟩
 clear h2;rintro kind2 w5 hs5 ⟨-,-,h5⟩ wr hx hs;refine(Dr.pick (h5.step hx) (by omega) hs).mono ?_;rintro e w6 ⟨v6,he,hk,⟨p60,_,p62⟩,h6⟩;have p62:=p62 (by decide);refine⟨_,he,hk,fun wr hx hs=>?_⟩;refine(Dr.pick (h6.step hx) (by omega) hs).mono ?_;rintro e w7 ⟨v7,he,hk,⟨p70,_,p72⟩,h7⟩;have p72:=p72 (by decide)
 have hd:0<=Int.tdiv v7 29/\Int.tdiv v7 29<=1:=by
  rw[Int.tdiv_eq_ediv_of_nonneg p70];omega
 refine⟨_,he,hk,⟨by decide,⟨by omega,by omega⟩⟩,⟨by omega,by omega⟩,fun b2 hb2 wr hx hs=>?_⟩;refine(Dr.pick (h7.put hx hb2) (by omega) hs).mono ?_;rintro e w8 ⟨v8,he,hk,⟨p80,_,p82⟩,h8⟩;have p82:=p82 (by decide);exact⟨_,he,hk,⟨by omega,by omega⟩,zvy (by decide) rfl (by omega) (by omega) fun x wr hx=>⟨⟨_,_,_⟩,rfl,(h8.step hx).fin (by decide)⟩⟩
def zek:List Int:=[1,20,21,50,100,10000]
theorem zik{v:Int}(h0:0<=v)(h1:v<6):Yh (gi zek v) 1 10000=true:=by
 have:v=0\/v=1\/v=2\/v=3\/v=4\/v=5:=by omega
 rcases this with rfl | rfl | rfl | rfl | rfl | rfl <;> rfl
structure Vw (rb:Nat) (c:OA) (L N n:Nat) (bs:List Nat) (w0 w:Wo) (bt:Nat):Prop where
 d:Dr rb c L N n bs w0 w
 v:Ob Ji 1 Qd 0 (rb::bs) w (some ⟨bt,0,none⟩) 6 zek
structure Bw (rb:Nat) (c:OA) (L N n:Nat) (bs:List Nat) (w0 w:Wo) (B:JH) (p:MG):Prop where
 P:Tc B
 d:Dr rb c L N n bs w0 w
 o:QY w0.heap.size w B p
 nb:∀x∈ZO p,x∉rb::bs
section
variable {rb b bt:Nat}{c:OA}{L N n k:Nat}{bs cs:List Nat}{w0 w w':Wo}{B B':JH}{p p':MG}
theorem Vw.of(h:Dr rb c L N n bs w0 w)(hx:Q0 bs w w')(hb:w.heap.size<=bt)(hh:w'.heap[bt]? = some (Obj.cells ([.int .i64 1,.int .i64 20,.int .i64 21,.int .i64 50,.int .i64 100,.int .i64 10000]:List Va).toArray Qd (0,0)))(hn:bt∉bs):Vw rb c L N n bs w0 w' bt:=
 ⟨h.step hx,.inr ⟨bt,[],rfl,Nat.zero_le _,by simpa[zek,Ji] using hh,by simp[zek,Ji],by simp[zek]⟩,fun x hxx hm=>by
  have:x=bt:=by simpa[QB] using hxx
  subst this;rcases List.mem_cons.1 hm with h1 | h1
  ·have:=h.r.rd.lt; omega
  ·exact hn h1⟩
theorem Vw.step(h:Vw rb c L N n bs w0 w bt)(hx:Q0 bs w w'):Vw rb c L N n bs w0 w' bt:=⟨h.d.step hx,h.v.step (hx.mono fun _ hm=>List.mem_cons_of_mem _ hm)⟩
theorem Vw.put(h:Vw rb c L N n bs w0 w bt)(hx:Q0 bs w w')(hb:w.heap.size<=b):Vw rb c L N n (bs++[b]) w0 w' bt:=⟨h.d.put hx hb,h.v.put (hx.mono fun _ hm=>List.mem_cons_of_mem _ hm) hb⟩
theorem Vw.call0(h:Vw rb c L N n bs w0 w bt)(hx:Q0 [] w w'):Vw rb c L N n bs w0 w' bt:=h.step hx.of_nil
theorem Vw.pick(h:Vw rb c L N n bs w0 w bt)(hN:N+n<=1000000000000)(hs:∀x∈bs,x<w.heap.size){q:Int} :
  Cz Q1 #[.pointer (some ⟨rb,0,none⟩),.int .i64 q] w fun e w'=>∃v,e=.returned (.int .i64 v)/\Q9 bs w w'/\Di q v/\Vw rb c L N (n+1) bs w0 w' bt:=
 (Mp h.d.r.rd hN).mono fun e w' ⟨v,he,hq,hr,hx⟩=>⟨v,he,PA h.d.r hx hs,hq,⟨h.d.r.upd (by rw[<-Nat.add_assoc]; exact hr),h.d.ext.trans hx,h.d.new⟩,h.v.step (hx.mono fun x hm=>by
  have:x=rb:=by simpa using hm
  subst this; exact List.mem_cons_self)⟩
theorem Vw.ix(h:Vw rb c L N n bs w0 w bt){v:Int}(h0:0<=v)(h1:v<6):Ix (some (Addr.mk bt 0 none)) 6 v:=h.v.own.ix h0 h1
theorem Vw.cell(h:Vw rb c L N n bs w0 w bt){v:Int}(h0:0<=v)(h1:v<6):Q2 bs w (some (Addr.mk bt 0 none)) (Int.toNat v*1) [.int .i64 (gi zek v)]:=((h.v.rd Y5.len).less fun _ hm=>List.mem_cons_of_mem _ hm) v h0 h1
theorem zts(h:QY w.heap.size w' B p)(d:Dr rb c L N n bs w0 w)(hs:∀x∈bs,x<w.heap.size):∀x∈ZO p,x∉rb::bs:=fun x hx hm=>by
 have:=(h.lt x hx).1;rcases List.mem_cons.1 hm with h1 | h1
 ·have:=d.r.rd.lt; omega
 ·have:=hs x h1; omega
theorem QY.wid{base:Nat}(h:QY base w B p)(hx:Q0 bs w w')(hd:∀x∈ZO p,x∉bs):QY base w' B p:=⟨h.loc.ext hx fun x hm=>hd x (List.mem_append_left _ hm),h.dry.ext hx fun x hm=>hd x (List.mem_append_right _ hm)⟩
theorem Bw.new(d:Dr rb c L N n bs w0 w)(hs:∀x∈bs,x<w.heap.size)(hP:Tc B)(ho:QY w.heap.size w' B p)(hx:Q0 [] w w'):Bw rb c L N n bs w0 w' B p:=
 ⟨hP,d.step hx.of_nil,⟨ho.loc.mono d.ext.size,ho.dry.mono d.ext.size⟩,zts ho d hs⟩
theorem Bw.step(h:Bw rb c L N n bs w0 w B p)(hx:Q0 bs w w'):Bw rb c L N n bs w0 w' B p:=⟨h.P,h.d.step hx,h.o.wid hx fun x hm hm'=>h.nb x hm (List.mem_cons_of_mem _ hm'),h.nb⟩
theorem Bw.put(h:Bw rb c L N n bs w0 w B p)(hx:Q0 bs w w')(hb:w.heap.size<=b):Bw rb c L N n (bs++[b]) w0 w' B p:=
 ⟨h.P,h.d.put hx hb,h.o.wid hx fun x hm hm'=>h.nb x hm (List.mem_cons_of_mem _ hm'),fun x hx1 hm=>by
  have hlt:=(h.o.lt x hx1).2;rcases List.mem_cons.1 hm with h1 | h1
  ·exact h.nb x hx1 (by rw[h1]; exact List.mem_cons_self)
  ·rcases List.mem_append.1 h1 with h2 | h2
   ·exact h.nb x hx1 (List.mem_cons_of_mem _ h2)
   ·have:x=b:=by simpa using h2
    omega⟩
theorem Bw.drawn(h:Bw rb c L N n bs w0 w B p)(hr:JI rb c L (N+n+k) w')(hx:Q0 [rb] w w'):Bw rb c L N (n+k) bs w0 w' B p:=
 ⟨h.P,⟨h.d.r.upd (by rw[<-Nat.add_assoc]; exact hr),h.d.ext.trans hx,h.d.new⟩,h.o.wid hx fun x hm hm'=>h.nb x hm (by
  have:x=rb:=by simpa using hm'
  rw[this]; exact List.mem_cons_self),h.nb⟩
theorem Bw.pick(h:Bw rb c L N n bs w0 w B p)(hN:N+n<=1000000000000)(hs:∀x∈bs,x<w.heap.size){q:Int} :
  Cz Q1 #[.pointer (some ⟨rb,0,none⟩),.int .i64 q] w fun e w'=>∃v,e=.returned (.int .i64 v)/\Q9 bs w w'/\Di q v/\Bw rb c L N (n+1) bs w0 w' B p:=
 (Mp h.d.r.rd hN).mono fun e w' ⟨v,he,hq,hr,hx⟩=>⟨v,he,PA h.d.r hx hs,hq,h.drawn hr hx⟩
theorem Bw.op(h:Bw rb c L N n bs w0 w B p)(hN:N+n<=900000000000)(hs:∀x∈bs,x<w.heap.size) :
  Cz XC #[.pointer (some ⟨rb,0,none⟩)] w fun e w'=>∃op:zvv,e=.returned (.agg (zq3 op).toArray)/\Q9 bs w w'/\Bw rb c L N (n+10) bs w0 w' B p:=
 (zrm h.d.r.rd hN).mono fun e w' ⟨op,he,hr,hx⟩=>⟨op,he,PA h.d.r hx hs,h.drawn hr hx⟩
theorem Bw.do(h:Bw rb c L N n bs w0 w B p)(hs:∀x∈bs,x<w.heap.size){op:zvv} :
  Cz Y9 #[.agg (Z6 B p).toArray,.agg (zq3 op).toArray] w fun e w'=>∃(B':JH) (p':MG) (d:Int),e=.returned (.tuple #[.agg (Z6 B' p').toArray,.int .i64 d])/\Q9 bs w w'/\Bw rb c L N n bs w0 w' B' p':=
 (Jt (op:=op) h.P (h.o.loc.rd Y5.len (by simp)) (h.o.dry.rd Xw.len (by simp))).mono fun e w' ⟨p',he,ho,hx⟩=>⟨_,p',_,he,Qe hx hs,Bw.new h.d hs (zqu h.P op) ho hx⟩
structure zxs (w w':Wo) (B:JH) (p:MG):Prop where
 ll:B.locals.length<=5
 dl:B.dry.length<=4
 rl:∀bs:List Nat,(∀x∈bs,x<w.heap.size)->zok bs w' p.lO B.locals
 rd:∀bs:List Nat,(∀x∈bs,x<w.heap.size)->ztl bs w' p.dO B.dry
theorem QY.bdv(h:QY w.heap.size w' B p)(hl:B.locals.length<=5)(hd:B.dry.length<=4):zxs w w' B p:=
 ⟨hl,hd,fun bs hs=>h.loc.rd Y5.len fun x hx hm=>by have:=(h.loc.lt x hx).1; have:=hs x hm; omega,fun bs hs=>h.dry.rd Xw.len fun x hx hm=>by have:=(h.dry.lt x hx).1; have:=hs x hm; omega⟩
theorem Bw.bdv(h:Bw rb c L N n bs w0 w B p):zxs w0 w B p:=h.o.bdv (by have:=h.P.l2; omega) (by have:=h.P.l2; have:=h.P.dl; omega)
theorem zvc{o:OA}{l:List Bool}{C:Nat}(h:ztl bs w o l)(h1:1<=l.length)(hC:l.length<=C):ztl bs w (if C=Int.toNat 1 then o else o.map (·.add (Int.toNat 1*1))) l.tail:=fun i i0 i1=>by
 have hl:l.tail.length=l.length-1:=by simp
 rw[hl] at i1;have hc:=h (i+1) (by omega) (by omega)
 have e:gi l.tail i=gi l (i+1):=by
  obtain⟨k,rfl⟩:=Int.eq_ofNat_of_zero_le i0;rw[J2 (by rw[hl]; omega),show ((k:Int)+1)=((k+1:Nat):Int) by omega,J2 (by omega)];simp
 rw[e,if_neg (by show ¬C=1; omega)];refine Vs fun j v hj=>?_
 obtain⟨a,ha,hb,hcell⟩:=hc.get j v hj;refine⟨a.add (Int.toNat 1*1),by rw[ha]; rfl,by rw[Zq]; exact hb,?_⟩;rw[UA]
 have:Int.toNat 1*1+(Int.toNat i*1+j)=Int.toNat (i+1)*1+j:=by
  have:Int.toNat (i+1)=Int.toNat i+1:=by omega
  rw[this];show 1*1+_=_;omega
 rw[this]; exact hcell
end
theorem zwu{rb:Nat}{c:OA}{L N:Nat}{w:Wo}(h:JI rb c L N w)(hN:N<=800000000000) :
  Cz Vg #[.pointer (some ⟨rb,0,none⟩)] w fun e w'=>∃(B:JH) (p:MG),e=.returned (.agg (Z6 B p).toArray)/\zxs w w' B p/\JI rb c L (N+300) w'/\Q0 [rb] w w':=by
 refine(DT (some ⟨rb,0,none⟩) (R:=fun v w'=>∃(B:JH) (p:MG),v=.agg (Z6 B p).toArray/\zxs w w' B p/\JI rb c L (N+300) w'/\Q0 [rb] w w') ?_).mono fun e w' ⟨v,he,B,p,hv,h1⟩=>⟨B,p,by rw[he,hv],h1⟩
 intro b hbA;have h0:=Dr.start h;refine⟨fun vs bs w2=>∃(bt:Nat) (B:JH) (p:MG),bs=[bt]/\vs=Z6 B p/\Bw rb c L N 2 [b,bt] w w2 B p,?_,?_⟩
 ·repeat' first
   | exact rfl
   | (refine And.intro ?_ ?_)
   | (intro (bt:Nat) (wb:Wo) hx hsz hh hn; have hV:=Vw.of (by assumption) hx hsz hh hn)
   | (intro (bt:Nat) (wb:Wo) hx hsz hh hn; have hV:=Vw.of (Dr.add h0 hbA) hx.of_nil hsz hh hn)
   | (intro (bt:Nat) (wb:Wo) hx hsz hh hn; have hV:=Vw.of (Dr.add (Dr.add h0 hbA) (by assumption)) hx.of_nil hsz hh hn)
   | (intro (bt:Nat) (wb:Wo) hx hsz hh hn; have hV:=Vw.of (Dr.add (by assumption) (by assumption)) (hx.mono fun _ hm=>List.mem_append_left _ hm) hsz hh hn)
   | (intro (b:Nat) hb)
   | (refine⟨_,Vw.cell (by assumption) (by omega) (by omega),?_⟩)
   | exact Vw.cell (by assumption) (by omega) (by omega)
   | exact Vw.ix (by assumption) (by omega) (by omega)
   | (intro (wr:Wo) hx hs; refine(Vw.pick (Vw.step (by assumption) hx) ?_ hs).mono ?_; rotate_left; rintro e w2 ⟨v,he,hk,⟨hp0,_,hp2⟩,hC⟩; have hp2:=hp2 (by decide); refine⟨_,he,hk,?_⟩)
   | (intro (wr:Wo) hx hs; refine(Vw.pick (Vw.put (by assumption) hx (by assumption)) ?_ hs).mono ?_; rotate_left; rintro e w2 ⟨v,he,hk,⟨hp0,_,hp2⟩,hC⟩; have hp2:=hp2 (by decide); refine⟨_,he,hk,?_⟩)
   | (intro (wr:Wo) hx hs; refine(Dr.pick (Dr.step (by assumption) hx) ?_ hs).mono ?_; rotate_left; rintro e w2 ⟨v,he,hk,⟨hp0,_,hp2⟩,hC⟩; have hp2:=hp2 (by decide); refine⟨_,he,hk,?_⟩)
   | (intro (wr:Wo) hx hs; refine(Dr.pick (Dr.put (by assumption) hx (by assumption)) ?_ hs).mono ?_; rotate_left; rintro e w2 ⟨v,he,hk,⟨hp0,_,hp2⟩,hC⟩; have hp2:=hp2 (by decide); refine⟨_,he,hk,?_⟩)
   | (intro (wr:Wo) hx hs; refine(Dr.pick (Dr.put2 h0 hx hbA (by assumption)) ?_ hs).mono ?_; rotate_left; rintro e w2 ⟨v,he,hk,⟨hp0,_,hp2⟩,hC⟩; have hp2:=hp2 (by decide); refine⟨_,he,hk,?_⟩)
   | (intro (wr:Wo) hx hs; have hV:=Vw.step (by assumption) hx; refine(zrn (zik (by omega) (by omega)) (by omega) (by omega)).mono ?_; rintro e w2 ⟨B,p,he,hP,ho,hy⟩; have hB:=Bw.new hV.d hs hP ho hy; have hV2:=hV.call0 hy; refine⟨_,_,_,_,_,_,_,_,_,_,he,Qe hy hs,?_⟩)
   | (intro (wr:Wo) hx hs; have hV:=Vw.put (by assumption) hx (by assumption); refine(zrn (zik (by omega) (by omega)) (by omega) (by omega)).mono ?_; rintro e w2 ⟨B,p,he,hP,ho,hy⟩; have hB:=Bw.new hV.d hs hP ho hy; have hV2:=hV.call0 hy; refine⟨_,_,_,_,_,_,_,_,_,_,he,Qe hy hs,?_⟩)
   | (intro (wr:Wo) hx hs; exact⟨_,_,_,rfl,rfl,Bw.put (by assumption) hx (by assumption)⟩)
   | (intro (wr:Wo) hx hs; exact⟨_,_,_,rfl,rfl,Bw.step (by assumption) hx⟩)
   | omega
 clear h0;rintro l l1 l2 l3O l3L l3C l4O l4L l4C b22 w31 hs31 ⟨bt,B,p,hbt,hv,hB⟩ wr hx hs;have:b22=bt:=by simpa using hbt
 subst this;simp only[Z6,List.cons.injEq,Value.int.injEq,Value.slice.injEq,true_and,and_true] at hv;obtain⟨rfl,rfl,rfl,⟨rfl,rfl,rfl⟩,rfl,rfl,rfl⟩:=hv;refine(Bw.pick (hB.step hx) (by omega) hs).mono ?_;rintro e1 w1 ⟨v1,he1,hk1,⟨p10,_,p12⟩,hB1⟩;have p12:=p12 (by decide);refine⟨_,he1,hk1,?_⟩;refine⟨fun vs w2=>∃(k n:Nat) (B:JH) (p:MG),vs=.int .i64 (k:Int)::Z6 B p/\(k:Int)<=v1/\n<=3+10*k/\Bw rb c L N n [b,b22] w w2 B p,Zu v1.toNat 0,fun wr hx _=>⟨0,2+1,B,p,rfl,p10,by omega,hB1.step hx⟩,?_⟩;clear hB1 hk1 he1 hs hx hB hs31;clear B p;rintro i1 l5 l6 l7 l8O l8L l8C l9O l9L l9C w36 hs ⟨k,n,B,p,he,hk,hn,hK⟩;simp only[Z6,List.cons.injEq,Value.int.injEq,Value.slice.injEq,true_and,and_true] at he;obtain⟨rfl,rfl,rfl,rfl,⟨rfl,rfl,rfl⟩,rfl,rfl,rfl⟩:=he;refine⟨fun hlt wr hx hs=>?_,fun hge wr hx hs=>?_⟩
 ·have hlt:=Ot hlt;refine(Bw.op (hK.step hx) (by omega) hs).mono ?_;rintro e2 w2 ⟨op,he2,hk2,hB2⟩;refine⟨_,_,_,he2,hk2,rfl,fun wr hx hs=>?_⟩;refine(Bw.do (hB2.step hx) hs (op:=op)).mono ?_;rintro e3 w3 ⟨B3,p3,d,he3,hk3,hB3⟩;exact⟨_,_,_,_,_,_,_,_,_,_,he3,hk3,⟨by omega,by omega⟩,fun wr hx _=>⟨⟨k+1,n+10,B3,p3,by simp[Z6],by omega,by omega,hB3.step hx⟩,QS (k:=k) rfl rfl (by omega)⟩⟩
 have hge:=Ou hge;refine(Bw.pick (hK.step hx) (by omega) hs).mono ?_;rintro e4 w4 ⟨v4,he4,hk4,_,hB4⟩;refine⟨_,he4,hk4,fun _ wr hx=>⟨B,p,rfl,(hB4.step hx).bdv,(hB4.step hx).d.fin (by omega)⟩,fun _ wr hx hs=>?_⟩;have l1:=hK.P.l1;have l2:=hK.P.l2;have hdl:=hK.P.dl;have hP:=hK.P;have q2:=hP.q2;have p1:=hP.p1;have p2:=hP.p2;have s1:=hP.s1;have s2:=hP.s2;refine(Bw.pick (hB4.step hx) (by omega) hs).mono ?_;rintro e5 w5 ⟨v5,he5,hk5,⟨p50,_,p52⟩,hB5⟩;have p52:=p52 (by omega);refine⟨_,he5,hk5,fun wr hx hs=>?_⟩;refine(Bw.pick (hB5.step hx) (by omega) hs).mono ?_;rintro e6 w6 ⟨v6,he6,hk6,_,hB⟩;have hnb:∀x∈ZO p,x∉[b,b22]:=fun x hx hm=>hB.nb x hx (List.mem_cons_of_mem _ hm)
 have hnew:∀x∈ZO p,w.heap.size<=x:=fun x hx=>(hB.o.lt x hx).1
 have fin:∀{w7 wr:Wo} {B':JH},QY w.heap.size w7 B' p->Q0 (ZO p) w6 w7->Q0 [b,b22] w7 wr->B'.locals.length<=5->B'.dry.length<=4->zxs w wr B' p/\JI rb c L (N+300) wr/\Q0 [rb] w wr:=fun {w7 wr B'} ho hx1 hx2 hl hd=>by
  have hd2:Dr rb c L N (n+1+1+1) [b,b22] w w7:=⟨hB.d.r.call hx1 (fun hm=>hB.nb rb hm List.mem_cons_self) fun a ha=>by
   rcases h.ltc a ha with h3 | h3
   ·exact .inl fun hm=>by have:=hnew _ hm; omega
   ·exact .inr h3,hB.d.ext.fresh hx1 fun x hm=>.inl (hnew x hm),hB.d.new⟩
  have hd3:=hd2.step hx2;exact⟨(ho.wid hx2 hnb).bdv hl hd,hd3.fin (by omega)⟩
 have fin0:∀{wr:Wo} {B':JH},B'.locals=B.locals->B'.dry=B.dry->Q0 [b,b22] w6 wr->zxs w wr B' p/\JI rb c L (N+300) wr/\Q0 [rb] w wr:=fun {wr B'} el ed hx2=>by
  have k:=hB.step hx2;have hb:=k.bdv;exact⟨⟨by rw[el]; exact hb.ll,by rw[ed]; exact hb.dl,by rw[el]; exact hb.rl,by rw[ed]; exact hb.rd⟩,k.d.fin (by omega)⟩
 have hix:Ix p.dO B.dry.length v5:=hB.o.dry.ix p50 (by omega);have hixl:Ix p.lO B.locals.length v5:=hB.o.loc.ix p50 (by omega);refine⟨_,he6,hk6,fun _=>⟨⟨by omega,by omega⟩,fun wr hx=>⟨{ B with pool:=B.pool+1 },p,rfl,fin0 rfl rfl hx⟩⟩,fun _=>⟨fun _=>⟨hix,_,(hB.o.dry.rd Xw.len fun x hx=>hnb x (List.mem_append_right _ hx)) v5 p50 (by omega),hix,hB.o.dry.wr Xw.len (fun x hx=>hnb x (List.mem_append_right _ hx)) p50 (by omega) (j:=0) (n:=1) (by decide),fun wr hx=>?_⟩,fun _=>⟨fun _=>⟨hixl,hB.o.loc.wr Y5.len (fun x hx=>hnb x (List.mem_append_left _ hx)) p50 (by omega) (j:=0) (n:=1) (by decide),fun wr hx=>?_⟩,fun _=>⟨fun _ wr hx=>⟨{ B with quota:=0 },p,rfl,fin0 rfl rfl hx⟩,fun _=>⟨fun _=>⟨⟨by omega,by omega,?_⟩,fun wr hx=>?_⟩,fun _=>⟨fun _ ba hba wr hx hs hh=>?_,fun _=>⟨fun _=>⟨⟨by omega,by omega⟩,⟨by omega,by omega⟩,fun wr hx=>⟨{ B with pool:=B.pool-1,spent:=B.spent+1 },p,rfl,fin0 rfl rfl hx⟩⟩,fun _ wr hx=>⟨B,p,rfl,fin0 rfl rfl hx⟩⟩⟩⟩⟩⟩⟩⟩
 ·exact⟨{ B with dry:=B.dry.set v5.toNat (!gi B.dry v5) },p,by simp[Z6],fin (hB.o.stoD p50 (by omega) _) (hB.o.xD _ _) hx (by show B.locals.length<=5; omega) (by show (B.dry.set _ _).length<=4; rw[List.length_set]; omega)⟩
 ·exact⟨{ B with locals:=B.locals.set v5.toNat (-1) },p,by simp[Z6],fin (hB.o.stoL p50 (by omega) _) (hB.o.xL _ _) hx (by show (B.locals.set _ _).length<=5; rw[List.length_set]; omega) (by show B.dry.length<=4; omega)⟩
 ·have:=hB.o.dry.le; omega
 ·have k:=hB.step hx;have hb:=k.bdv;have hle:=hB.o.dry.le;refine⟨{ B with dry:=B.dry.tail },{ p with dO:=if p.dC=Int.toNat 1 then p.dO else p.dO.map (·.add (Int.toNat 1*1)),dC:=p.dC-Int.toNat 1 },?_,⟨hb.ll,by show B.dry.tail.length<=4; simp; omega,hb.rl,fun bs hs=>zvc (hb.rd bs hs) (by omega) hle⟩,k.d.fin (by omega)⟩;simp[Z6]
 ·have hB2:=hB.put hx hba;have hnb2:∀x∈ZO p,x∉[b,b22,ba]:=fun x hx hm=>hB2.nb x hx (List.mem_cons_of_mem _ hm)
  obtain⟨o',cap',w9,hrun,hown,hxa,hor⟩:=zj2 Y5 PM hB2.o.loc (x:=0) (fz:=(0,0)) hh (by rfl) (by omega) (by omega) Zs #[false,false] (by have:=hB2.d.ext.size; omega);have hk9:Q9 [b,b22,ba] wr w9:=hxa.kept fun x hm=>⟨hs x hm,fun hm2=>hnb2 x (List.mem_append_left _ hm2) hm⟩
  refine⟨_,_,_,w9,hrun,hk9,fun wr2 hx2=>?_⟩
  have hnbL:∀x∈QB o',x∉[b,b22,ba]:=fun x hxo hm=>by
   rcases hor with e | e
   ·rw[e] at hxo; exact hnb2 x (List.mem_append_left _ hxo) hm
   ·rw[e] at hxo;have:x=wr.heap.size:=by simpa[QB] using hxo
    have:=hs x hm;omega
  have hrb:rb∉QB p.lO:=fun hm=>hB2.nb rb (List.mem_append_left _ hm) List.mem_cons_self
  have hd2:Dr rb c L N (n+1+1+1) [b,b22,ba] w w9:=⟨hB2.d.r.call hxa hrb fun a ha=>by
   rcases h.ltc a ha with h3 | h3
   ·exact .inl fun hm=>by have:=hnew _ (List.mem_append_left _ hm); omega
   ·exact .inr h3,hB2.d.ext.fresh hxa fun x hm=>.inl (hnew x (List.mem_append_left _ hm)),hB2.d.new⟩
  have hdry:U4 KM 1 YD w.heap.size wr2 p.dO p.dC B.dry:=(hB2.o.dry.ext hxa (hB2.o.dry.ty_ne hB2.o.loc (by decide))).ext hx2 fun x hm=>hnb2 x (List.mem_append_right _ hm)
  have hloc:U4 Ji 1 Qd w.heap.size wr2 o' cap' (B.locals++[0]):=hown.ext hx2 hnbL;exact⟨{ B with locals:=B.locals++[0] },{ p with lO:=o',lC:=cap' },by simp[Z6],QY.bdv ⟨hloc,hdry⟩ (by simp; omega) (by show B.dry.length<=4; omega),(hd2.step hx2).fin (by omega)⟩
theorem zsj{α:Type}[Inhabited α]{enc:α->List Va}{z:Nat}{bs:List Nat}{w:Wo}{o:OA}{l:List α}{C:Nat}(h:Rd enc z bs w o l)(h1:1<=l.length)(hC:l.length<=C):Rd enc z bs w (if C=Int.toNat 1 then o else o.map (·.add (Int.toNat 1*z))) l.tail:=fun i i0 i1=>by
 have hl:l.tail.length=l.length-1:=by simp
 rw[hl] at i1;have hc:=h (i+1) (by omega) (by omega)
 have e:gi l.tail i=gi l (i+1):=by
  obtain⟨k,rfl⟩:=Int.eq_ofNat_of_zero_le i0;rw[J2 (by rw[hl]; omega),show ((k:Int)+1)=((k+1:Nat):Int) by omega,J2 (by omega)];simp
 rw[e,if_neg (by show ¬C=1; omega)];refine Vs fun j v hj=>?_
 obtain⟨a,ha,hb,hcell⟩:=hc.get j v hj;refine⟨a.add (Int.toNat 1*z),by rw[ha]; rfl,by rw[Zq]; exact hb,?_⟩;rw[UA]
 have:Int.toNat 1*z+(Int.toNat i*z+j)=Int.toNat (i+1)*z+j:=by
  have:Int.toNat (i+1)=Int.toNat i+1:=by omega
  rw[this,Nat.succ_mul];show 1*z+_=_;omega
 rw[this]; exact hcell
def zv8(rb:Nat)(c:OA)(L N:Nat)(w0:Wo)(v:Va)(w:Wo):Prop:=∃(W:Q8) (m:MW),v=.agg (Qa W m).toArray/\X5 W/\(∀ds:List Nat,(∀x∈ds,x<w0.heap.size)->Xt ds w W m)/\JI rb c L (N+1500) w/\Q0 [rb] w0 w
section
variable {rb:Nat}{c:OA}{L N n q:Nat}{bs:List Nat}{w0 w w1 wr:Wo}{W W':Q8}{m:MW}
theorem XN.aft(h:XN rb c L N n bs w0 w W m)(ltc:∀a,c=some a->a.block<w0.heap.size\/L=0)(hx1:Q0 (QL 8 m) w w1)(hx2:Q0 bs w1 wr)(hq:n<=q):JI rb c L (N+q) wr/\Q0 [rb] w0 wr:=by
 have hnew:∀x∈QL 8 m,w0.heap.size<=x:=fun x hx=>(h.o.own.lt x hx).1
 have d2:Dr rb c L N n bs w0 w1:=⟨h.d.r.call hx1 (fun hm=>h.o.nb rb hm List.mem_cons_self) fun a ha=>by
  rcases ltc a ha with h3 | h3
  ·exact .inl fun hm=>by have:=hnew _ hm; omega
  ·exact .inr h3,h.d.ext.fresh hx1 fun x hm=>.inl (hnew x hm),h.d.new⟩
 exact(d2.step hx2).fin hq
theorem XN.btv(h:XN rb c L N n bs w0 w W m)(ltc:∀a,c=some a->a.block<w0.heap.size\/L=0)(hl:X5 W')(hM:Yu 8 w0.heap.size w1 W' m)(hx1:Q0 (QL 8 m) w w1)(hx2:Q0 bs w1 wr)(hq:n<=1500):zv8 rb c L N w0 (.agg (Qa W' m).toArray) wr:=
 ⟨W',m,rfl,hl,fun ds hd=>(hM.ext hx2 fun x hx hm=>h.o.nb x hx (List.mem_cons_of_mem _ hm)).rd fun x hx hm=>by
  have:=(h.o.own.lt x hx).1;have:=hd x hm;omega,h.aft ltc hx1 hx2 hq⟩
theorem XN.rdn(h:XN rb c L N n bs w0 w W m)(ds:List Nat)(hd:∀x∈ds,x<w0.heap.size):Xt ds w W m:=h.o.own.rd fun x hx hm=>by
 have:=(h.o.own.lt x hx).1;have:=hd x hm;omega
theorem XN.btv0(h:XN rb c L N n bs w0 w W m)(hx:Q0 bs w wr)(hq:n<=1500):zv8 rb c L N w0 (.agg (Qa W m).toArray) wr:=
 ⟨W,m,rfl,h.iv.len,(h.step hx).rdn,((h.step hx).d.fin hq)⟩
theorem zup(h:X5 W)(i:Int)(x:M0):X5 (setCp W i x):=⟨by show (List.set _ _ _).length<=_; rw[List.length_set]; exact h.c,h.t,h.g,h.f⟩
theorem zuq(h:X5 W)(i:Int)(x:Mw):X5 (setTk W i x):=⟨h.c,by show (List.set _ _ _).length<=_; rw[List.length_set]; exact h.t,h.g,h.f⟩
theorem AA(h:X5 W){i:Int}(i0:0<=i)(i1:i<(W.groups.length:Int)){G:ZF}(hG:zfy G):X5 (setGr W i G):=by
 have hl:(setGr W i G).groups.length=W.groups.length:=List.length_set;refine⟨h.c,h.t,by rw[hl]; exact h.g,fun j a b=>?_⟩;rw[hl] at b;rw[Yt i0 i1 a];split
 ·exact hG
 ·exact h.f j a b
theorem zvb{base:Nat}(hM:Yu 8 base w W m)(hn:∀x∈QL 8 m,x∉bs){g:Int}(g0:0<=g)(g8:g<8){B:JH}{p:MG}(hl:zok bs (sto w m.gO (Int.toNat g*14+8) (Z6 B p)) p.lO B.locals)(hd:ztl bs (sto w m.gO (Int.toNat g*14+8) (Z6 B p)) p.dO B.dry) :
  Xt bs (sto w m.gO (Int.toNat g*14+8) (Z6 B p)) (setBd W g B) (P2 m g.toNat (PG (m.ms g.toNat) p)):=by
 have hgl:=hM.len;have hx:Q0 (QB m.gO) w (sto w m.gO (Int.toNat g*14+8) (Z6 B p)):=hM.g.row.stoX _ _;have hrow:=hM.g.row.sto X6.len g0 (by rw[XF]; omega) (j:=8) (vs:=Z6 B p) (x:=({ gi W.groups g with band:=B },PG (m.ms g.toNat) p)) (by rw[T8 g0 (by omega)]; rfl) (by show 8+5<=14; decide);rw[<-zht g0 (by omega)] at hrow;have hrow:U4 Pf 14 QN base (sto w m.gO (Int.toNat g*14+8) (Z6 B p)) m.gO m.gC (zpw (setBd W g B) (P2 m g.toNat (PG (m.ms g.toNat) p))):=hrow;have hps:(setBd W g B).groups.length=8:=by show (List.set _ _ _).length=_; rw[List.length_set]; exact hgl
 have e1:∀i:Int,0<=i->gi (setBd W g B).groups i=if g=i then { gi W.groups g with band:=B } else gi W.groups i:=fun i a=>Yt g0 (by omega) a
 have e2:∀i:Int,0<=i->(P2 m g.toNat (PG (m.ms g.toNat) p)).ms i.toNat=if g=i then PG (m.ms g.toNat) p else m.ms i.toNat:=fun i a=>by
  show (if g.toNat=i.toNat then _ else _)=_
  by_cases e:g=i
  ·rw[if_pos e,if_pos (by omega)]
  ·rw[if_neg e,if_neg (by omega)]
 refine⟨(hM.c.ext hx (hM.c.ty_ne hM.g.row (by decide))).rd Gc.len fun x hx=>hn x (B0 hx),(hM.t.ext hx (hM.t.ty_ne hM.g.row (by decide))).rd Pe.len fun x hx=>hn x (B2 hx),⟨fun i i0 i1=>?_,fun i i0 i1=>?_,fun i i0 i1=>?_,fun i i0 i1=>?_⟩⟩
 ·have:=hrow.rd X6.len (bs:=bs) (fun x hx=>hn x (B1 hx)) i i0 (by rw[XF]; exact i1)
  rwa[T8 i0 i1] at this
 all_goals
  rw[hps] at i1;rw[e1 i i0,e2 i i0]
  have hi:=(hM.each i0 (by omega)).ext hx (by
   have:=J3 hM.g.row (hM.g.each i i0 (by rw[XF]; omega))
   rwa[T8 i0 (by omega)] at this)
  split
 ·exact hl
 ·exact hi.loc.rd Y5.len fun x hx=>hn x (JX (k:=i.toNat) (by omega) (by simp[Qt,hx]))
 ·exact hd
 ·exact hi.dry.rd Xw.len fun x hx=>hn x (JX (k:=i.toNat) (by omega) (by simp[Qt,hx]))
 ·rename_i e;subst e;exact hi.shl.rd Tr.len fun x hx=>hn x (JX (k:=g.toNat) (by omega) (by simp[Qt,hx]))
 ·exact hi.shl.rd Tr.len fun x hx=>hn x (JX (k:=i.toNat) (by omega) (by simp[Qt,hx]))
end
theorem zzb{v:Int}{k:Nat}{ls:List Va}{P:ByteArray->Prop}(ha:ls.all (fun | .string s=>decide (s.size<=1000) | _=>false)=true)(hl:ls.length=k)(h0:0<=v)(h1:v<(k:Int))(h:∀x,x.size<=1000->P x):∃x:ByteArray,(0<=v/\ls[Int.toNat v+0]? = some (.string x))/\P x:=by
 have hlt:Int.toNat v+0<ls.length:=by omega
 have:=List.all_eq_true.1 ha _ (List.getElem_mem hlt);have e:=List.getElem?_eq_getElem hlt;generalize ls[Int.toNat v+0]=y at this e
 split at this
 ·exact⟨_,⟨h0,e⟩,h _ (Ot this)⟩
 ·cases this
theorem zwv{rb:Nat}{c:OA}{L N:Nat}{w:Wo}(h:JI rb c L N w)(hN:N<=500000000000) :
  Cz Xe #[.pointer (some ⟨rb,0,none⟩)] w fun e w'=>∃v,e=.returned v/\zv8 rb c L N w v w':=by
 refine DU (some ⟨rb,0,none⟩) (R:=fun v w'=>zv8 rb c L N w v w') ?_;intro b hb wr hx hs;have h1:=(Dr.start h).put hx hb;refine(zun h1.r.rd (by omega)).mono ?_;rintro e2 w2 ⟨W,m,he2,iv,hM,hr,hxp,hne⟩;have hK:=XN.ofPlay h1 hs iv hM hr hxp hne;refine⟨_,_,_,_,_,_,_,_,_,_,he2,PA h1.r hxp hs,fun b1 hb1 wr1 hx1 hs1=>?_⟩;refine((hK.put hx1 hb1).pick (by omega) hs1).mono ?_;rintro e3 w3 ⟨v3,he3,hk3,_,hK3⟩;refine⟨_,he3,hk3,fun _ wr hx=>hK3.btv0 hx (by decide),fun _ wr3 hx3 hs3=>?_⟩;refine((hK3.step hx3).pick (by omega) hs3).mono ?_;rintro e4 w4 ⟨c1,he4,hk4,⟨c10,_,c12⟩,hK4⟩;have ha:=iv.wp.a;have hc1:=ha.c1;have hc4:=ha.c2;have htl:=ha.t;have hgl:=ha.gl;have c12:=c12 (by omega);refine⟨_,he4,hk4,fun wr4 hx4 hs4=>?_⟩;refine((hK4.step hx4).pick (by omega) hs4).mono ?_;rintro e5 w5 ⟨t,he5,hk5,⟨t0,_,t2⟩,hK5⟩;have t2:=t2 (by decide);refine⟨_,he5,hk5,fun wr5 hx5 hs5=>?_⟩;refine((hK5.step hx5).pick (by omega) hs5).mono ?_;rintro e6 w6 ⟨g,he6,hk6,⟨g0,_,g2⟩,hK6⟩;have g2:=g2 (by decide);refine⟨_,he6,hk6,fun wr6 hx6 hs6=>?_⟩;refine((hK6.step hx6).pick (by omega) hs6).mono ?_;rintro e7 w7 ⟨k,he7,hk7,_,hS⟩;clear hK3 hK4 hK5 hK6 hK hM hr hxp he2 he3 he4 he5 he6 hk3 hk4 hk5 hk6 hx1 hx3 hx4 hx5 hx6 hs1 hs3 hs4 hs5 hs6 h1 hne;refine⟨_,he7,hk7,?_⟩;have lc:=h.ltc;have ltc:∀a,c=some a->a.block<w.heap.size\/L=0:=lc;have hl:=iv.len;have t1:t<(W.tasks.length:Int):=by omega
 have g1:g<(W.groups.length:Int):=by omega
 have g8:g<((8:Nat):Int):=by omega
 have hix:∀{n:Nat} {w':Wo},XN rb c L N n [b,b1] w w' W m->Ix m.cO W.cpus.length c1:=fun h=>h.rd.c.ix ZH c10 c12
 have hit:∀{n:Nat} {w':Wo},XN rb c L N n [b,b1] w w' W m->Ix m.tO W.tasks.length t:=fun h=>h.rd.t.ix Qy t0 t1
 have hig:∀{n:Nat} {bs:List Nat} {w':Wo},XN rb c L N n bs w w' W m->Ix m.gO W.groups.length g:=fun h=>h.rd.g.ix g0 g1
 have nb:∀{n:Nat} {bs:List Nat} {w':Wo},XN rb c L N n bs w w' W m->∀x∈QL 8 m,x∉bs:=fun h x hx hm=>h.o.nb x hx (List.mem_cons_of_mem _ hm)
 have hrd:∀{w':Wo},XN rb c L N (0+1100+1+1+1+1+1) [b,b1] w w' W m->Xt [b,b1] w' W m:=fun h=>h.o.own.rd (nb h)
 have fC:∀{n:Nat} {bs:List Nat} {w' wr:Wo} {j:Nat} {vs:List Va} (x:M0),XN rb c L N n bs w w' W m->n<=1500->KN x=(KN (gi W.cpus c1)).take j++vs++(KN (gi W.cpus c1)).drop (j+vs.length)->j+vs.length<=5->Q0 bs (sto w' m.cO (Int.toNat c1*5+j) vs) wr->zv8 rb c L N w (.agg (Qa (setCp W c1 x) m).toArray) wr:=fun x h hn he hj hx=>h.btv ltc (zup hl c1 x) (h.o.own.stoC c10 c12 he hj) zec hx hn
 have fT:∀{n:Nat} {bs:List Nat} {w' wr:Wo} {j:Nat} {vs:List Va} (x:Mw),XN rb c L N n bs w w' W m->n<=1500->X7 x=(X7 (gi W.tasks t)).take j++vs++(X7 (gi W.tasks t)).drop (j+vs.length)->j+vs.length<=9->Q0 bs (sto w' m.tO (Int.toNat t*9+j) vs) wr->zv8 rb c L N w (.agg (Qa (setTk W t x) m).toArray) wr:=fun x h hn he hj hx=>h.btv ltc (zuq hl t x) (h.o.own.stoT t0 t1 he hj) GX hx hn
 have fG:∀{n:Nat} {bs:List Nat} {w' wr:Wo} {j:Nat} {vs:List Va} (G:ZF),XN rb c L N n bs w w' W m->n<=1500->zfy G->G.band=(gi W.groups g).band->G.shelves=(gi W.groups g).shelves->YF G (m.ms g.toNat)=(YF (gi W.groups g) (m.ms g.toNat)).take j++vs++(YF (gi W.groups g) (m.ms g.toNat)).drop (j+vs.length)->j+vs.length<=14->Q0 bs (sto w' m.gO (Int.toNat g*14+j) vs) wr->zv8 rb c L N w (.agg (Qa (setGr W g G) m).toArray) wr:=fun G h hn hf hb hsh he hj hx=>h.btv ltc (AA hl g0 g1 hf) (h.o.own.stoG0 g0 g8 (by rw[hb]) (by rw[hb]) hsh he hj) Bu hx hn
 have eC:∀x:M0,Qa (setCp W c1 x) m=Qa W m:=fun x=>by simp[Qa,setCp]
 have eT:∀x:Mw,Qa (setTk W t x) m=Qa W m:=fun x=>by simp[Qa,setTk]
 have eG:∀x:ZF,Qa (setGr W g x) m=Qa W m:=fun x=>by simp[Qa,setGr]
 have hfg:=hl.f g g0 g1
 have hv:0<=(Q7 W t).v/\(Q7 W t).v<=100000000000000000:=by
  rcases iv.wp.t t t0 (by omega) with hz | ⟨_,hx⟩
  ·rw[hz.2]; decide
  ·exact Y3.1 hx.v
 have hlm:=ZT 1;refine⟨fun _=>⟨hix hS,_,(hrd hS).c.f c10 c12 (j:=0) rfl,hix hS,zqf hS.o.own (nb hS) c10 c12 (j:=0) (by decide),fun wr hx=>?_⟩,fun _=>⟨fun _ wr hx hs=>?_,fun _=>⟨fun _ wr hx hs=>?_,fun _=>⟨fun _ wr hx hs=>?_,fun _=>⟨fun _ wr hx hs=>?_,fun _=>⟨fun _ wr hx hs=>?_,fun _=>⟨fun _=>⟨hit hS,_,(hrd hS).t.f t0 t1 (j:=5) rfl,_,Px,⟨by show _<=(Q7 W t).v+_; omega,by show (Q7 W t).v+_<=_; omega⟩,hit hS,zif hS.o.own (nb hS) t0 t1 (j:=5) (by decide),fun wr hx=>?_⟩,fun _=>⟨fun _=>⟨hit hS,zif hS.o.own (nb hS) t0 t1 (j:=3) (by decide),fun wr hx=>?_⟩,fun _=>⟨fun _=>⟨hit hS,zif hS.o.own (nb hS) t0 t1 (j:=4) (by decide),fun wr hx=>?_⟩,fun _=>⟨fun _=>⟨⟨by omega,by omega,by have:=hS.o.own.t.le; omega⟩,fun wr hx=>?_⟩,fun _=>⟨fun _=>⟨hig hS,_,(hrd hS).g.used g0 g1,hig hS,zee hS.o.own (nb hS) g0 g8 (j:=0) (by decide),fun wr hx=>?_⟩,fun _=>⟨fun _ wr hx hs=>?_,fun _=>⟨fun _=>⟨fun b2 hb2=>⟨rfl,fun wr hx hs=>?_⟩,fun wr hx hs=>?_⟩,fun _=>⟨fun _ wr hx hs=>?_,fun _=>⟨fun _ wr hx hs=>?_,fun _=>⟨fun _ wr hx hs=>?_,fun _=>⟨fun _ wr hx hs=>?_,fun _=>⟨fun _=>⟨hig hS,_,_,_,(hrd hS).g.shelf g0 g1,fun hlc=>?_,fun _ wr hx=>hS.btv0 hx (by decide)⟩,fun _=>⟨fun _=>⟨hig hS,_,_,_,(hrd hS).g.shelf g0 g1,fun hlc=>?_,fun _ wr hx=>hS.btv0 hx (by decide)⟩,fun _=>⟨fun _ wr hx hs=>?_,fun _ wr hx=>hS.btv0 hx (by decide)⟩⟩⟩⟩⟩⟩⟩⟩⟩⟩⟩⟩⟩⟩⟩⟩⟩⟩⟩⟩
 case refine_1=>
  have:=fC { gi W.cpus c1 with up := !(gi W.cpus c1).up } hS (by decide) rfl (by show 0+1<=5; decide) hx
  rwa[eC] at this
 case refine_2=>
  refine((hS.step hx).pick (by omega) hs).mono ?_;rintro e w8 ⟨v,he,hk,⟨p0,_,p2⟩,hP⟩;have p2:=p2 (by decide);refine⟨_,he,hk,rfl,⟨by omega,by omega⟩,hix hP,zqf hP.o.own (nb hP) c10 c12 (j:=1) (by decide),fun wr hx=>?_⟩;have:=fC { gi W.cpus c1 with cur:=v-2 } hP (by decide) rfl (by show 1+1<=5; decide) hx
  rwa[eC] at this
 case refine_3=>
  refine((hS.step hx).pick (by omega) hs).mono ?_;rintro e w8 ⟨v,he,hk,_,hP⟩;refine⟨_,he,hk,rfl,hix hP,zqf hP.o.own (nb hP) c10 c12 (j:=2) (by decide),fun wr hx=>?_⟩;have:=fC { gi W.cpus c1 with ran:=v } hP (by decide) rfl (by show 2+1<=5; decide) hx
  rwa[eC] at this
 case refine_4=>
  refine((hS.step hx).pick (by omega) hs).mono ?_;rintro e w8 ⟨v,he,hk,_,hP⟩;refine⟨_,he,hk,rfl,hit hP,zif hP.o.own (nb hP) t0 t1 (j:=0) (by decide),fun wr hx=>?_⟩;have:=fT { gi W.tasks t with state:=v } hP (by decide) rfl (by show 0+1<=9; decide) hx
  rwa[eT] at this
 case refine_5=>
  refine((hS.step hx).pick (by omega) hs).mono ?_;rintro e w8 ⟨v,he,hk,⟨p0,_,p2⟩,hP⟩;have p2:=p2 (by decide);refine⟨_,he,hk,rfl,⟨by omega,by omega⟩,hit hP,zif hP.o.own (nb hP) t0 t1 (j:=1) (by decide),fun wr hx=>?_⟩;have:=fT { gi W.tasks t with group:=v-1 } hP (by decide) rfl (by show 1+1<=9; decide) hx
  rwa[eT] at this
 case refine_6=>
  refine((hS.step hx).pick (by omega) hs).mono ?_;rintro e w8 ⟨v,he,hk,⟨p0,_,p2⟩,hP⟩;have p2:=p2 (by decide);refine⟨_,he,hk,rfl,⟨by omega,by omega⟩,hit hP,zif hP.o.own (nb hP) t0 t1 (j:=2) (by decide),fun wr hx=>?_⟩;have:=fT { gi W.tasks t with cpu:=v-1 } hP (by decide) rfl (by show 2+1<=9; decide) hx
  rwa[eT] at this
 case refine_7=>
  have:=fT { gi W.tasks t with v:=(gi W.tasks t).v+Zo 1 } hS (by decide) rfl (by show 5+1<=9; decide) hx
  rwa[eT] at this
 case refine_8=>
  have:=fT { gi W.tasks t with nice:=10 } hS (by decide) rfl (by show 3+1<=9; decide) hx
  rwa[eT] at this
 case refine_9=>
  have:=fT { gi W.tasks t with mask:=0 } hS (by decide) rfl (by show 4+1<=9; decide) hx
  rwa[eT] at this
 case refine_10=>
  have hK:=hS.step hx;have hr:=hK.rdn;have hle:=hS.o.own.t.le;refine⟨{ W with tasks:=W.tasks.tail },{ m with tO:=if m.tC=Int.toNat 1 then m.tO else m.tO.map (·.add (Int.toNat 1*9)),tC:=m.tC-Int.toNat 1 },?_,⟨hl.c,by show W.tasks.tail.length<=_; have:=hl.t; simp; omega,hl.g,hl.f⟩,fun ds hd=>⟨(hr ds hd).c,zsj (hr ds hd).t (by omega) hle,(hr ds hd).g⟩,hK.d.fin (by decide)⟩;simp[Qa]
 case refine_11=>
  have:=fG { gi W.groups g with used := !(gi W.groups g).used } hS (by decide) ⟨hfg.nm,hfg.nx,hfg.lo,hfg.dr,hfg.sh⟩ rfl rfl rfl (by show 0+1<=14; decide) hx
  rwa[eG] at this
 case refine_12=>
  refine((hS.step hx).pick (by omega) hs).mono ?_;rintro e w8 ⟨v,he,hk,⟨p0,_,p2⟩,hP⟩;have p2:=p2 (by decide);refine⟨_,he,hk,rfl,⟨by omega,by omega⟩,hig hP,zee hP.o.own (nb hP) g0 g8 (j:=1) (by decide),fun wr hx=>?_⟩;have:=fG { gi W.groups g with parent:=v-1 } hP (by decide) ⟨hfg.nm,hfg.nx,hfg.lo,hfg.dr,hfg.sh⟩ rfl rfl rfl (by show 1+1<=14; decide) hx
  rwa[eG] at this
 case refine_13=>
  refine((hS.put hx hb2).pick (by omega) hs).mono ?_;rintro e w8 ⟨v,he,hk,⟨p0,_,p2⟩,hP⟩;have p2:=p2 (by decide);refine⟨_,he,hk,rfl,⟨by omega,by omega⟩,zzb (by decide) rfl (by omega) (by omega) fun x hxs=>⟨hig hP,zee hP.o.own (nb hP) g0 g8 (j:=2) (by decide),fun wr hx=>?_⟩⟩;have hm:=Zl;have:=fG { gi W.groups g with name:=x } hP (by decide) ⟨by show x.size<=_; omega,hfg.nx,hfg.lo,hfg.dr,hfg.sh⟩ rfl rfl rfl (by show 2+1<=14; decide) hx
  rwa[eG] at this
 case refine_14=>
  refine((hS.step hx).pick (by omega) hs).mono ?_;rintro e w8 ⟨v,he,hk,⟨p0,_,p2⟩,hP⟩;have p2:=p2 (by decide);refine⟨_,he,hk,rfl,fun b3 hb3=>⟨rfl,⟨by omega,by omega⟩,zzb (by decide) rfl (by omega) (by omega) fun x hxs=>⟨hig hP,zee hP.o.own (nb hP) g0 g8 (j:=2) (by decide),fun wr hx=>?_⟩⟩⟩;have hm:=Zl;have:=fG { gi W.groups g with name:=x } hP (by decide) ⟨by show x.size<=_; omega,hfg.nx,hfg.lo,hfg.dr,hfg.sh⟩ rfl rfl rfl (by show 2+1<=14; decide) hx
  rwa[eG] at this
 case refine_15=>
  refine((hS.step hx).pick (by omega) hs).mono ?_;rintro e w8 ⟨v,he,hk,_,hP⟩;refine⟨_,he,hk,rfl,hig hP,zee hP.o.own (nb hP) g0 g8 (j:=3) (by decide),fun wr hx=>?_⟩;have:=fG { gi W.groups g with weight:=v } hP (by decide) ⟨hfg.nm,hfg.nx,hfg.lo,hfg.dr,hfg.sh⟩ rfl rfl rfl (by show 3+1<=14; decide) hx
  rwa[eG] at this
 case refine_16=>
  refine((hS.step hx).pick (by omega) hs).mono ?_;rintro e w8 ⟨v,he,hk,⟨p0,_,p2⟩,hP⟩;have p2:=p2 (by decide);refine⟨_,he,hk,rfl,⟨by omega,by omega⟩,hig hP,zee hP.o.own (nb hP) g0 g8 (j:=4) (by decide),fun wr hx=>?_⟩;have:=fG { gi W.groups g with cpus:=v-1 } hP (by decide) ⟨hfg.nm,hfg.nx,hfg.lo,hfg.dr,hfg.sh⟩ rfl rfl rfl (by show 4+1<=14; decide) hx
  rwa[eG] at this
 case refine_17=>
  refine((hS.step hx).pick (by omega) hs).mono ?_;rintro e w8 ⟨v,he,hk,⟨p0,_,p2⟩,hP⟩;have p2:=p2 (by decide);refine⟨_,he,hk,rfl,hig hP,zee hP.o.own (nb hP) g0 g8 (j:=6) (by decide),fun wr hx=>?_⟩;have:=fG { gi W.groups g with next:=v } hP (by decide) ⟨hfg.nm,⟨by show _<=v; omega,by show v<=_; omega⟩,hfg.lo,hfg.dr,hfg.sh⟩ rfl rfl rfl (by show 6+1<=14; decide) hx
  rwa[eG] at this
 case refine_18=>
  have hQ:=hS.step hx;refine(zwu hQ.d.r.rd (by omega)).mono ?_;rintro e w8 ⟨B,p,he,hB,hr,hy⟩;have hP:=hQ.drawn hr hy;refine⟨_,_,_,_,_,_,_,_,_,he,PA hQ.d.r hy hs,rfl,hig hP,zee hP.o.own (nb hP) g0 g8 (j:=8) (by decide),fun wr2 hx2=>?_⟩;have hsx:Q0 (QL 8 m) w8 (sto w8 m.gO (Int.toNat g*14+8) (Z6 B p)):=Bu
  have hR2:∀ds:List Nat,(∀x∈ds,x<w.heap.size)->Xt ds wr2 (setBd W g B) (P2 m g.toNat (PG (m.ms g.toNat) p)):=fun ds hd=>by
   have hz:=hQ.d.ext.size
   have hb2:∀x∈QL 8 m++([b,b1]++ds),x<wr.heap.size:=fun x hm=>by
    rcases List.mem_append.1 hm with h1 | h1
    ·exact(hQ.o.own.lt x h1).2
    ·rcases List.mem_append.1 h1 with h2 | h2
     ·exact hs x h2
     ·have:=hd x h2; omega
   have hsm:∀x∈[b,b1]++ds,x∈QL 8 m++([b,b1]++ds):=fun x hm=>List.mem_append_right _ hm
   have hsx2:Q0 (QL 8 m++([b,b1]++ds)) w8 (sto w8 m.gO (Int.toNat g*14+8) (Z6 B p)):=hsx.mono fun x hm=>List.mem_append_left _ hm
   have hnb:∀x∈QL 8 m,x∉[b,b1]++ds:=fun x hx hm=>by
    rcases List.mem_append.1 hm with h2 | h2
    ·exact nb hP x hx h2
    ·have:=(hP.o.own.lt x hx).1;have:=hd x h2;omega
   have hR:=zvb hP.o.own hnb g0 g8 (B:=B) (p:=p) (((hB.rl _ hb2).ext hsx2).less hsm) (((hB.rd _ hb2).ext hsx2).less hsm);exact(hR.ext (hx2.mono fun x hm=>List.mem_append_left _ hm)).less fun x hm=>List.mem_append_right _ hm
  have hm:=Zl;have hl5:=hB.ll;have hl4:=hB.dl;refine⟨setBd W g B,P2 m g.toNat (PG (m.ms g.toNat) p),?_,AA hl g0 g1 ⟨hfg.nm,hfg.nx,by show B.locals.length<=_; omega,by show B.dry.length<=_; omega,hfg.sh⟩,hR2,hP.aft ltc hsx hx2 (by decide)⟩;simp[Qa,setBd,setGr,P2]
 case refine_19=>
  have hlc:=Ot hlc;have hrs:=(hrd hS).g.shelves g g0 g1;refine⟨hig hS,_,_,_,(hrd hS).g.shelf g0 g1,hig hS,_,_,_,(hrd hS).g.shelf g0 g1,hrs.ix ZQ c10 hlc,_,hrs.f c10 hlc (j:=1) rfl,hrs.ix ZQ c10 hlc,zv7 hS.o.own (nb hS) g0 g8 c10 hlc (j:=1) (by decide),fun wr hx=>?_⟩;have hM:=hS.o.own.stoS (i:=g) (c:=c1) g0 g8 c10 hlc (j:=1) (vs:=[.bool (!(Qb W g c1).on)]) (x:={ Qb W g c1 with on := !(Qb W g c1).on }) rfl (by show 1+1<=5; decide);have:=hS.btv (W':=setSh W g c1 { Qb W g c1 with on := !(Qb W g c1).on }) ltc (AA hl g0 g1 ⟨hfg.nm,hfg.nx,hfg.lo,hfg.dr,by show (List.set _ _ _).length<=_; rw[List.length_set]; exact hfg.sh⟩) hM (Ao (by omega)) hx (by decide)
  rwa[show Qa (setSh W g c1 { Qb W g c1 with on := !(Qb W g c1).on }) m=Qa W m from eG _] at this
 case refine_20=>
  have hlc:=Ot hlc;have hrs:=(hrd hS).g.shelves g g0 g1;have hp:=Y3.1 (iv.wp.s g c1 g0 (by omega) c10 hlc).f;refine⟨hig hS,_,_,_,(hrd hS).g.shelf g0 g1,hig hS,_,_,_,(hrd hS).g.shelf g0 g1,hrs.ix ZQ c10 hlc,(Qb W g c1).floor,hrs.f c10 hlc (j:=0) rfl,⟨by omega,by omega⟩,hrs.ix ZQ c10 hlc,zv7 hS.o.own (nb hS) g0 g8 c10 hlc (j:=0) (by decide),fun wr hx=>?_⟩;have hM:=hS.o.own.stoS (i:=g) (c:=c1) g0 g8 c10 hlc (j:=0) (vs:=[.int .i64 ((Qb W g c1).floor+1)]) (x:={ Qb W g c1 with floor:=(Qb W g c1).floor+1 }) rfl (by show 0+1<=5; decide);have:=hS.btv (W':=setSh W g c1 { Qb W g c1 with floor:=(Qb W g c1).floor+1 }) ltc (AA hl g0 g1 ⟨hfg.nm,hfg.nx,hfg.lo,hfg.dr,by show (List.set _ _ _).length<=_; rw[List.length_set]; exact hfg.sh⟩) hM (Ao (by omega)) hx (by decide)
  rwa[show Qa (setSh W g c1 { Qb W g c1 with floor:=(Qb W g c1).floor+1 }) m=Qa W m from eG _] at this
 case refine_21=>
  have hQ:=hS.step hx;refine(zwy hQ.o.own iv).mono ?_;rintro e w8 ⟨V,he,hlV,hMV,hxV⟩;refine⟨_,_,_,_,_,_,_,_,_,_,he,hxV.kept fun x hm=>⟨hs x hm,fun hm2=>nb hQ x hm2 hm⟩,fun wr2 hx2=>hQ.btv ltc hlV hMV hxV hx2 (by decide)⟩
theorem zog{c:Int}{W:Q8}:∀(f:Nat) {V:Q8} {left:Int},AK f c W V left->WA (An c f V left)
 | 0,V,left,h=>by
  have:=h.f1;have:=h.l0;omega
 | f+1,V,left,h=>by
  have hK:=Gm h.f2;have hh0:(0:Int)<=Qq:=by decide
  by_cases hl:left<=0
  ·rw[zbd hl];exact(U1 h.sw (by omega)).1.a
  ·by_cases hp:Qn V c<0
   ·rw[Bn hl hp];exact(U1 (zld h).1 (by omega)).1.a
   ·rw[Bo hl hp];have hR:=zhx h (by omega) hp;exact zog f hR.nx
theorem zxm{W:Q8}{c n:Int}(hW:Qv W=true)(hb:D6 W c n=0):WA (zl4 W c n):=zog 400 (zl5 hW hb).2.2.2.2
theorem zw3{W:Q8}(hW:Qv W=true):X5 W:=zg8 (Qh.1 hW).a
theorem zxn{W W':Q8}{bar:Int}(hW:Qv W=true)(hb:bar=0->Qv W'=true):Qv (Xc W bar W').1=true:=by
 unfold Xc;rw[if_neg (by rw[hW]; decide)];split
 ·exact hW
 ·rename_i e;exact hb (by simpa using e)
theorem zvn{W W':Q8}{bar a:Int}(hW:Qv W=true)(hb:bar=0->Qv W'=true):Qv (O7 W bar W' a).1=true:=by
 unfold O7;rw[if_neg (by rw[hW]; decide)];split
 ·exact hW
 ·rename_i e;exact hb (by simpa using e)
theorem zw6{W:Q8}{c n:Int}(hW:Qv W=true):X5 (Xc W (D6 W c n) (zl4 W c n)).1:=by
 unfold Xc;rw[if_neg (by rw[hW]; decide)];split
 ·exact zw3 hW
 ·rename_i e;exact zg8 (zxm hW (by simpa using e))
structure Bx (rb:Nat) (c:OA) (L N:Nat) (bs:List Nat) (w0 w:Wo) (W:Q8) (m:MW):Prop where
 ln:X5 W
 rd:Xt (rb::bs) w W m
 r:RS rb c L N bs w
 s:Sc w0 (rb::bs) w
section
variable {rb b b2:Nat}{c:OA}{L C N:Nat}{bs:List Nat}{w0 w w':Wo}{W W':Q8}{m m':MW}
theorem Bx.step(h:Bx rb c L N bs w0 w W m)(hx:Q0 bs w w'):Bx rb c L N bs w0 w' W m:=⟨h.ln,h.rd.ext (hx.mono fun _ hm=>List.mem_cons_of_mem _ hm),h.r.step hx,h.s.stepB hx⟩
theorem Bx.put(h:Bx rb c L N bs w0 w W m)(hx:Q0 bs w w')(hb:w.heap.size<=b):Bx rb c L N (bs++[b]) w0 w' W m:=⟨h.ln,(h.rd.wide (cs:=rb::(bs++[b])) fun x hm=>by
 rcases List.mem_cons.1 hm with h1 | h1
 ·exact .inl (by rw[h1]; exact List.mem_cons_self)
 ·rcases List.mem_append.1 h1 with h2 | h2
  ·exact .inl (List.mem_cons_of_mem _ h2)
  ·have:x=b:=by simpa using h2
   exact .inr (by omega)).ext (hx.mono fun _ hm=>List.mem_cons_of_mem _ (List.mem_append_left _ hm)),h.r.put hx hb,h.s.putB hx hb⟩
theorem Bx.call{f:FuncId}{args:Array Va}{k:Nat}{Q:Int->Prop}(h:Bx rb c L N bs w0 w W m)(hs:∀x∈bs,x<w.heap.size)(hc:Cz f args w fun e w'=>∃v,e=.returned (.int .i64 v)/\Q v/\JI rb c L (N+k) w'/\Q0 [rb] w w') :
  Cz f args w fun e w'=>∃v,e=.returned (.int .i64 v)/\Q9 bs w w'/\Q v/\Bx rb c L (N+k) bs w0 w' W m:=
 hc.mono fun e w' ⟨v,he,hq,hr,hx⟩=>⟨v,he,PA h.r hx hs,hq,h.ln,h.rd.ext (hx.mono fun x hm=>by
  have:x=rb:=by simpa using hm
  rw[this]; exact List.mem_cons_self),h.r.upd hr,h.s.stepR hx⟩
theorem Bx.bsl(h:Bx rb c L N bs w0 w W m)(hs:∀x∈bs,x<w.heap.size):∀x∈rb::bs,x<w.heap.size:=fun x hm=>by
 rcases List.mem_cons.1 hm with h1 | h1
 ·rw[h1]; exact h.r.rd.lt
 ·exact hs x h1
theorem Bx.rd0(h:Bx rb c L N bs w0 w W m):Xt [] w W m:=h.rd.less (by simp)
theorem Bx.rdb(h:Bx rb c L N bs w0 w W m):Xt bs w W m:=h.rd.less fun x hm=>List.mem_cons_of_mem _ hm
theorem Bx.deed{n:Nat}(h:Bx rb c L N bs w0 w W m)(hs:∀x∈bs,x<w.heap.size)(hl:X5 W')(hM:Yu n w.heap.size w' W' m')(hx:Q0 [] w w'):Bx rb c L N bs w0 w' W' m':=
 ⟨hl,(OW.of hM (h.bsl hs)).rd,h.r.call0 hx,h.s.call0 hx⟩
theorem znj(h:Dg c L w0)(hC:L<=C)(hx:Q0 [] w0 w)(hn:∀x∈bs,w0.heap.size<=x)(hs:∀x∈bs,x<w.heap.size) :
  Cz Jn #[.slice c L C] w fun e wv=>∃rb c' L',e=.returned (.pointer (some ⟨rb,0,none⟩))/\Q9 bs w wv/\RS rb c' L' 0 bs wv/\Sc w0 (rb::bs) wv:=by
 refine(zlh (h.ext hx) hC).mono ?_;rintro e wv ⟨rb,c',L',he,hrb,hR,hx1,hblk⟩
 refine⟨rb,c',L',he,Qe hx1 hs,⟨hR,fun hm=>by
  have:=hs rb hm;omega,fun a' ha'=>?_⟩,⟨hx.trans hx1,fun x hm=>?_⟩⟩
 ·rcases hblk a' ha' with h0 | ⟨h0,a,ha,hab⟩
  ·exact .inr h0
  ·refine .inl fun hm=>?_
   obtain⟨a0,x0,ha0,_,_,h30⟩:=h 0 h0;have hlt2:=World.block_lt_of_cell? w0 _ h30;rw[Zq] at hlt2;rw[ha] at ha0; cases ha0;have:=hn _ hm;omega
 ·rcases List.mem_cons.1 hm with h1 | h1
  ·have:=hx.size; omega
  ·exact hn x h1
theorem zni(h:RS rb c L 0 bs w)(s:Sc w0 (rb::bs) w)(hs:∀x∈bs,x<w.heap.size) :
  Cz Xe #[.pointer (some ⟨rb,0,none⟩)] w fun e w'=>∃(W:Q8) (m:MW),e=.returned (.agg (Qa W m).toArray)/\Q9 bs w w'/\Bx rb c L 1500 bs w0 w' W m:=
 (zwv h.rd (by decide)).mono fun e w' ⟨v,he,W,m,hv,hl,hr,hR,hx⟩=>⟨W,m,by rw[he,hv],PA h hx hs,hl,hr _ fun x hm=>by
  rcases List.mem_cons.1 hm with h1 | h1
  ·rw[h1]; exact h.rd.lt
  ·exact hs x h1,h.upd (hR.mono (by decide)),s.stepR hx⟩
structure zxx (w0 w:Wo) (W:Q8) (m:MW):Prop where
 ln:X5 W
 rd:Xt [] w W m
 ext:Q0 [] w0 w
theorem Bx.dn(h:Bx rb c L N bs w0 w W m)(hx:Q0 bs w w'):zxx w0 w' W m:=⟨h.ln,(h.step hx).rd0,(h.step hx).s.ext⟩
theorem zjf(h:Dg c L w)(hC:L<=C) :
  Cz Tk #[.slice c L C] w fun e w'=>∃(W:Q8) (m:MW) (k:Int),e=.returned (.tuple #[.agg (Qa W m).toArray,.int .i64 k])/\zxx w w' W m:=by
 refine(Le c L C (R:=fun v w'=>∃(W:Q8) (m:MW) (k:Int),v=.tuple #[.agg (Qa W m).toArray,.int .i64 k]/\zxx w w' W m) ?_).mono fun e w' ⟨v,he,W,m,k,hv,h1⟩=>⟨W,m,k,by rw[he,hv],h1⟩
 intro b hb wr hx hs;refine(znj (bs:=[b]) h hC hx (by simpa using hb) hs).mono ?_;rintro e wv ⟨rb,c',L',he,hk,hR,hS⟩;refine⟨_,he,hk,fun wr1 hx1 hs1=>?_⟩;refine(zni (hR.step hx1) (hS.stepB hx1) hs1).mono ?_;rintro e1 wv1 ⟨W,m,he1,hk1,hB⟩;refine⟨_,_,_,_,_,_,_,_,_,_,he1,hk1,fun wr2 hx2 hs2=>?_⟩;refine((hB.step hx2).call hs2 (zw1 (hB.step hx2).r.rd (by decide))).mono ?_;rintro e2 wv2 ⟨t,he2,hk2,_,hB2⟩;exact⟨_,he2,hk2,fun wr3 hx3=>⟨W,m,t,rfl,hB2.dn hx3⟩⟩
theorem zx5{p n:Int}(h0:0<=p)(h1:p<n)(h2:n<=4):Qj .u64 p/\(0<=p/\Qj .i64 (1*2 ^ (min (Int.toNat p) 64))):=by
 refine⟨⟨by omega,by show p<=18446744073709551615; omega⟩,h0,?_⟩;have:p=0\/p=1\/p=2\/p=3:=by omega
 rcases this with rfl | rfl | rfl | rfl <;> exact⟨by decide,by decide⟩
theorem zyp{x n:Int}(h0:0<=x)(h1:0<n):0<=Int.tmod x n/\Int.tmod x n<n:=⟨Int.tmod_nonneg _ h0,Int.tmod_lt_of_pos _ h1⟩
theorem HR(h:Dg c L w)(hC:L<=C) :
  Cz Uv #[.slice c L C] w fun e w'=>∃(W:Q8) (m:MW) (k:Int),e=.returned (.tuple #[.agg (Qa W m).toArray,.int .i64 k])/\zxx w w' W m:=by
 refine(HF c L C (R:=fun v w'=>∃(W:Q8) (m:MW) (k:Int),v=.tuple #[.agg (Qa W m).toArray,.int .i64 k]/\zxx w w' W m) ?_).mono fun e w' ⟨v,he,W,m,k,hv,h1⟩=>⟨W,m,k,by rw[he,hv],h1⟩
 intro b hb wr hx hs;refine(znj (bs:=[b]) h hC hx (by simpa using hb) hs).mono ?_;rintro e wv ⟨rb,c',L',he,hk,hR,hS⟩;refine⟨_,he,hk,fun wr1 hx1 hs1=>?_⟩;refine(zni (hR.step hx1) (hS.stepB hx1) hs1).mono ?_;rintro e1 wv1 ⟨W,m,he1,hk1,hB⟩;refine⟨_,_,_,_,_,_,_,_,_,_,he1,hk1,fun b1 hb1 wr2 hx2 hs2=>?_⟩;have hB1:=hB.put hx2 hb1;refine(hB1.call hs2 (zye hB1.r.rd (by decide))).mono ?_;rintro e2 wv2 ⟨k,he2,hk2,_,hB2⟩;refine⟨_,he2,hk2,fun wr3 hx3 hs3=>?_⟩;refine((hB2.step hx3).call hs3 (Mp (hB2.step hx3).r.rd (by decide))).mono ?_;rintro e3 wv3 ⟨pk,he3,hk3,_,hB3⟩;refine⟨_,he3,hk3,Qv W,fun _=>YJ hB3.rdb hB3.ln.c hB3.ln.t hB3.ln.g hB3.ln.f,fun g wr4 hx4 hs4=>?_,fun _ wr5 hx5=>⟨W,m,k,rfl,hB3.dn hx5⟩⟩;simp only[Bool.and_eq_true,decide_eq_true_eq] at g;obtain⟨⟨_,hW⟩,hl1⟩:=g;have ha:=(Qh.1 hW).a;have hc2:=ha.c2;refine((hB3.step hx4).call hs4 (Mp (hB3.step hx4).r.rd (by decide))).mono ?_;rintro e4 wv4 ⟨p1,he4,hk4,hp1,hB4⟩;have p10:=hp1.1;have p11:=hp1.2.2 (by omega);obtain⟨t0,t1⟩:=zyp (x:=p1+1) (n:=((W.cpus.length:Nat):Int)) (by omega) (by omega);refine⟨_,he4,hk4,⟨by omega,by omega⟩,by omega,?_⟩;generalize Int.tmod (p1+1) ((W.cpus.length:Nat):Int)=p at t0 t1 ⊢;refine⟨fun vs w2=>∃(k M:Nat) (V:Q8) (m:MW),vs=.int .i64 (k:Int)::Qa V m/\k<=3/\M<=2000+k/\Qv V=true/\Bx rb c' L' M [b,b1] w w2 V m,Zu 3 0,fun wr8 hx8 _=>⟨0,_,W,m,rfl,by omega,Nat.le_trans (show _<=2000 by decide) (by omega),hW,hB4.step hx8⟩,?_⟩;clear hB4 hB3 hB2 hB1 hB hk4 hk3 hk2 hk1 he4 he3 he2 he1
 rintro i1 l l1O l1L l1C l2O l2L l2C l3O l3L l3C wv8 hs8 ⟨k,M,V,m,he8,hk,hM,hV,hB⟩;simp only[Qa,List.cons.injEq,Value.int.injEq,Value.slice.injEq,true_and,and_true] at he8;obtain⟨rfl,rfl,⟨rfl,rfl,rfl⟩,⟨rfl,rfl,rfl⟩,rfl,rfl,rfl⟩:=he8;refine⟨fun hlt=>?_,fun hge wr13 hx13 hs13=>?_⟩
 ·have hlt:=Ot hlt;refine⟨(zx5 t0 t1 (by omega)).1,(zx5 t0 t1 (by omega)).2,fun wr9 hx9 hs9=>?_⟩;refine((hB.step hx9).call hs9 (Mp (hB.step hx9).r.rd (by omega))).mono ?_;rintro e7 wv9 ⟨p3,he7,hk7,hp3,hB7⟩;have p30:=hp3.1;have p31:=hp3.2.2 (by decide);refine⟨_,he7,hk7,rfl,⟨by omega,by omega⟩,fun wr10 hx10 hs10=>?_⟩;have hB8:=hB7.step hx10;refine(OF hB8.rd0 hB8.ln).mono ?_;rintro e8 wv10 ⟨v8,he8,n8,m8,hv8,hM8,hy8⟩;have hW8:=zvn (a:=Vt V) hV fun hb=>(k7 (g:=0) (n:=p3-10) (x:=1*2 ^ (min (Int.toNat p) 64)) hV hb).w
  have hB9:=hB8.deed hs10 (zw3 hW8) hM8 hy8;refine⟨_,_,_,_,_,_,_,_,_,_,_,_,by rw[he8,hv8]; rfl,Qe hy8 hs10,fun wr11 hx11 hs11=>?_⟩;have hB10:=hB9.step hx11;refine(Lu hB10.rd0 hB10.ln).mono ?_;rintro e9 wv11 ⟨v9,he9,n9,m9,hv9,hM9,hy9⟩;refine⟨_,_,_,_,_,_,_,_,_,_,_,by rw[he9,hv9]; rfl,Qe hy9 hs11,⟨by omega,by omega⟩,fun wr12 hx12 _=>?_⟩;have hW9:=fun t:Int=>zxn hW8 fun hb=>(znf (t:=t) (x:=15) hW8 hb).w
  exact⟨⟨k+1,_,_,m9,rfl,by omega,(by omega:M+1<=2000+(k+1)),hW9 _,(hB10.deed hs11 (zw3 (hW9 _)) hM9 hy9).step hx12⟩,QS (k:=k) rfl rfl (by omega)⟩
 ·have hB2:=hB.step hx13;refine(Kv hB2.rd0 hB2.ln).mono ?_;rintro e10 wv12 ⟨v,he10,n,m',hv,hM',hy⟩;refine⟨_,_,_,_,_,_,_,_,_,_,_,by rw[he10,hv]; rfl,Qe hy hs13,fun wr14 hx14=>⟨_,m',p1,rfl,(hB2.deed hs13 (zw6 hV) hM' hy).dn hx14⟩⟩
end
noncomputable def zyz(W:Q8)(t:Int):Int:=if Qv W=true/\Zz W t=true then Qp W (Q7 W t).group (Q7 W t).mask else 0
theorem YW.gu{W:Q8}(wp:YW W){t:Int}(h:Zz W t=true):Q6 W.groups (Q7 W t).group=true:=by
 obtain⟨t0,t1,tn⟩:=Yc h;have htl:=wp.a.t;rcases wp.t t t0 (by omega) with hz | ⟨_,hx⟩
 ·exact absurd (by rw[hz.2]; rfl) tn
 ·exact hx.g
section
variable {W:Q8}{m:MW}{w:Wo}{bs:List Nat}
theorem FN{t:Int}(h:Xt bs w W m)(hl:X5 W):PX bs VV #[.agg (Qa W m).toArray,.int .i64 t] w (.int .i64 (zyz W t)):=
 Bh W.now m.cO W.cpus.length m.cC m.tO W.tasks.length m.tC m.gO W.groups.length m.gC t fun wr hx=>by
  have h:=(h.ext hx).less (cs:=[]) (by simp);intro _ _;refine⟨_,YJ h hl.c hl.t hl.g hl.f,_,fun _=>XL h hl.t,fun q=>?_,fun q=>?_⟩
  ·unfold zyz;rw[if_neg];rintro⟨h1,h2⟩;rw[h1,h2] at q; cases q
  ·simp only[Bool.or_eq_false_iff,Bool.not_eq_false'] at q;have wp:=Qh.1 q.1;obtain⟨t0,t1,_⟩:=Yc q.2;refine⟨h.t.ix Qy t0 t1,_,h.t.f t0 t1 (j:=1) rfl,h.t.ix Qy t0 t1,_,h.t.f t0 t1 (j:=4) rfl,_,Xg h wp.a.c2 wp.a.tree (wp.gu q.2),?_⟩;unfold zyz;rw[if_pos q]; rfl
end
end Go.Proofs.YtclpmgfpjeaibaaGreat
namespace Go.Proofs.YtclpmgfpjeaibaaGreat
open Go.RowKit Go.ChangeShapes
set_option linter.unusedVariables false
set_option linter.unusedSimpArgs false
set_option maxRecDepth 10000
set_option maxHeartbeats 8000000
theorem zvl:Tryz.prog.underlying Oj=some (.int .u8):=by kernel_rfl
theorem u_sl_uint8:Tryz.prog.underlying ty_sl_uint8=some (.slice Oj):=by kernel_rfl
theorem ztu:Tryz.prog.cellsOf Oj=1:=by kernel_rfl
theorem op_bytes{H:Type}{en:TypeId×Va->H}{w:Wo}{base:Nat}{spare:Nat->Bool}{held:Bool}{fuel:Nat}{cs:List Va}{x:DataW H×List MemPlace}(h:DataW.trod en Tryz.prog w base spare held fuel ty_sl_uint8 cs=some x) :
  ∃(o:OA) (cap L:Nat),cs=[.slice o L cap]/\Dg o L w/\L<=cap:=by
 obtain⟨o,len,cap,rfl,h1,_,h3⟩:=zs5 u_sl_uint8 h;refine⟨o,cap,len,rfl,fun i hi=>?_,h1⟩;obtain⟨a,n,y,ec,ho,hc,ht⟩:=h3 i hi;rw[ztu,Nat.mul_one] at hc;obtain⟨v,rfl,_,hw⟩:=DataW.trod_int zvl ht;have hv:0<=v/\v<=255:=by simpa[Lit.wf,IntKind.min,IntKind.max,IntKind.signed,IntKind.bits] using hw
 obtain⟨_,_,hcell⟩:=World.cells?_some hc;have:=hcell 0 (by decide);rw[UA,Nat.add_zero] at this;exact⟨a,v,ho,hv.1,hv.2,this⟩
end Go.Proofs.YtclpmgfpjeaibaaGreat
namespace Go.Proofs.YtclpmgfpjeaibaaGreat
open Go.RowKit
set_option linter.unusedVariables false
set_option linter.unusedSimpArgs false
set_option maxRecDepth 10000
set_option maxHeartbeats 8000000
theorem ziz{W:Q8}{b c:Int}:∀(f j:Nat),Jj W b c f j<0\/(∃t:Nat,Jj W b c f j=(t:Int)/\t<j+f/\KV W b c t=true)
 | 0,_=>.inl (by show (-1:Int)<0; decide)
 | f+1,j=>by
  simp only[Jj];split
  ·rename_i h;exact .inr ⟨j,rfl,by omega,h⟩
  ·rcases ziz f (j+1) with h | ⟨t,h1,h2,h3⟩
   ·exact .inl h
   ·exact .inr ⟨t,h1,by omega,h3⟩
theorem zlw{W:Q8}{c:Int}:∀(f k:Nat),zb1 W c f k<0\/(∃(t:Nat) (b:Int),zb1 W c f k=(t:Int)/\t<12/\KV W b c t=true)
 | 0,_=>.inl (by show (-1:Int)<0; decide)
 | f+1,k=>by
  by_cases h0:ZL W c (k:Int)<0
  ·rw[Ez h0]; exact zlw f (k+1)
  ·by_cases h1:Jj W (ZL W c (k:Int)) c 12 0<0
   ·rw[Ey h1]; exact zlw f (k+1)
   ·rw[EA h0 h1];rcases ziz (W:=W) (b:=ZL W c (k:Int)) (c:=c) 12 0 with h | ⟨t,h2,h3,h4⟩
    ·exact absurd h h1
    ·exact .inr ⟨t,_,h2,by omega,h4⟩
theorem zu9{W:Q8}{c:Int}(h:¬Vu W c<0):Qv W=true/\Yi W c=true/\∃t:Nat,Vu W c=(t:Int)/\t<12/\ZP W (t:Int) c=true/\zo1 W (t:Int) (Q7 W (t:Int)).cpu c=true:=by
 unfold Vu at h ⊢
 split at h
 ·rename_i hc;rw[if_pos hc];rcases zlw (W:=W) (c:=c) (KO (W.cpus.length:Int)).toNat 0 with h1 | ⟨t,b,h1,h2,h3⟩
  ·exact absurd h1 h
  ·unfold KV at h3;simp only[Bool.and_eq_true,beq_iff_eq] at h3;obtain⟨⟨rfl,h4⟩,h5⟩:=h3;exact⟨hc.1,hc.2.1,t,h1,h2,h4,h5⟩
 ·exact absurd (by decide) h
theorem k_FnPull{a:OA}{La Ca:Nat}{w:Wo}(ha:Dg a La w)(hca:La<=Ca) :
  Cz Lh #[.slice a La Ca] w fun e w'=>e=.returned (.bool true)/\Q0 [] w w':=by
 refine(zc0 a La Ca (R:=fun v w'=>v=.bool true/\Q0 [] w w') ?_).mono fun e w' ⟨v,he,hv,h3⟩=>⟨by rw[he,hv],h3⟩
 refine⟨fun _ wr hx=>⟨rfl,hx⟩,fun _ wr1 hx1 _=>?_⟩;refine(HR (ha.ext hx1) hca).mono ?_;rintro e wv ⟨W,m,c,he,hD⟩;have hX:=hx1.trans hD.ext;have hr:=hD.rd;have hl:=hD.ln;refine⟨_,_,_,_,_,_,_,_,_,_,_,he,Jq,fun b hb=>⟨_,_,k9 hr hl,_,_,z8 hr hl,fun g=>?_,fun _=>⟨fun g wr3 hx3=>?_,fun g=>?_⟩⟩⟩
 ·simp at g
 ·have g:Vu W c<0:=by simpa using g
  exact⟨by unfold EB; rw[if_pos g]; rfl,hX.trans hx3⟩
 ·have g:¬Vu W c<0:=by simpa using g
  obtain⟨hW,hc,t,ht,t12,hcd,hft⟩:=zu9 g;have hpa:EB (Vu W c)=(t:Int):=by unfold EB; rw[if_neg g,ht]
  have wp:=Qh.1 hW;have htl:=wp.a.t;have hst:=(M2 hcd).1;have hne:=(M2 hcd).2;have t1:(t:Int)<(W.tasks.length:Int):=by omega
  obtain⟨_,d0,d1⟩:=wp.li (by omega) t1 hst;have hci:=Qm.1 hc
  have hth:Zz W (t:Int)=true:=by
   unfold Zz;rw[hst,Qm.2 (by omega)]; rfl
  have hcu:(gi W.cpus (Q7 W (t:Int)).cpu).cur≠(t:Int)/\QP (Qp W (Q7 W (t:Int)).group (Q7 W (t:Int)).mask) c=true:=by
   unfold ZP at hcd;simp only[Bool.and_eq_true,Bool.not_eq_true',Bool.or_eq_false_iff,bne_eq_false_iff_eq,beq_eq_false_iff_ne,Bool.not_eq_false'] at hcd;exact⟨hcd.1.1.1.2,hcd.1.2⟩
  have hwm:zyz W (t:Int)=Qp W (Q7 W (t:Int)).group (Q7 W (t:Int)).mask:=if_pos ⟨hW,hth⟩;have l1:BL W c=UG W c:=if_pos ⟨hW,hc⟩;have l2:BL W (Q7 W (t:Int)).cpu=UG W (Q7 W (t:Int)).cpu:=if_pos ⟨hW,Qm.2 (by omega)⟩;have r1:=TL wp c;have r2:=TL wp (Q7 W (t:Int)).cpu;have rw':=Yf (Q7 W (t:Int)).nice;rw[hpa];refine⟨hr.t.ix Qy (by omega) t1,_,hr.t.f (by omega) t1 (j:=2) rfl,hr.t.ix Qy (by omega) t1,_,hr.t.f (by omega) t1 (j:=3) rfl,_,Zh,_,Ln hr hl,_,Ln hr hl,fun _=>hr.c.ix ZH d0 d1,_,fun _=>hr.c.f d0 d1 (j:=1) rfl,_,fun _=>FN hr hl,_,fun _=>Zy,fun g2=>?_,fun g2=>?_⟩
  ·rw[hwm,hcu.2,Bool.not_true,Bool.or_false,Bool.or_eq_true,beq_iff_eq,beq_iff_eq] at g2;rcases g2 with g2 | g2
   ·exact absurd g2 hne
   ·exact absurd g2 hcu.1
  ·unfold zo1 at hft;rw[l1,show BL W (gi W.tasks (t:Int)).cpu=UG W (Q7 W (t:Int)).cpu from l2];have hft:UG W c=0\/UG W c+Qc (Q7 W (t:Int)).nice<=UG W (Q7 W (t:Int)).cpu-Qc (Q7 W (t:Int)).nice:=by simpa using hft
   have hww:Qc (gi W.tasks (t:Int)).nice=Qc (Q7 W (t:Int)).nice:=rfl;rw[hww];generalize Qc (Q7 W (t:Int)).nice=q at *;generalize UG W (Q7 W (t:Int)).cpu=y at *;generalize UG W c=x at *;refine⟨⟨by omega,by omega⟩,⟨by omega,by omega⟩,⟨by omega,by omega⟩,⟨by omega,by omega⟩,fun g3=>?_,fun g3 wr6 hx6=>⟨?_,hX.trans hx6⟩⟩
   ·have g3:=Ot g3;refine⟨⟨by omega,by omega⟩,fun wr5 hx5=>⟨?_,hX.trans hx5⟩⟩;have:x=0:=by omega
    rw[this]; rfl
   ·have g3:=Ou g3;rcases hft with h1 | h1
    ·rw[h1]; rfl
    ·rw[decide_eq_true (show y-x>=0 by omega),decide_eq_true (show y-x-2*q<=y-x by omega)];simp
end Go.Proofs.YtclpmgfpjeaibaaGreat
