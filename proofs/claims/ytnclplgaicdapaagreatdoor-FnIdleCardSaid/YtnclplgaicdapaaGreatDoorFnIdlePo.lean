/- Part 15 of what the law FnIdle needs. -/
import Derived.Test.YtnclplgaicdapaaGreatDoorFnIdlePn
set_option linter.unusedVariables false
set_option linter.unusedSimpArgs false
set_option maxRecDepth 100000
set_option maxHeartbeats 8000000
namespace Go.Proofs.YtnclplgaicdapaaGreatDoor
open Go.RowKit
def z5x:Va->Bool
 | .int .i64 _=>true
 | _=>false
def z5z:Va->Bool
 | .string _=>true
 | _=>false
theorem z4p{v:Int}{k:Nat}{ls:List Va}{P:Int->Prop}(ha:ls.all z5x=true)(hl:ls.length=k)(h0:0<=v)(h1:v<(k:Int))(h:∀x,P x):∃x:Int,(0<=v/\ls[Int.toNat v+0]? = some (I x))/\P x:=by
 have IN:Int.toNat v+0<ls.length:=Qo;have:=List.all_eq_true.1 ha _ (List.getElem_mem IN);have e:=Il IN;generalize ls[Int.toNat v+0]=y at this e;unfold z5x at this
 split at this
 ·exact⟨_,⟨h0,e⟩,h _⟩
 ·cases this
theorem z5u{v:Int}{k:Nat}{ls:List Va}{P:ByteArray->Prop}(ha:ls.all z5z=true)(hl:ls.length=k)(h0:0<=v)(h1:v<(k:Int))(h:∀x,P x):∃x:ByteArray,(0<=v/\ls[Int.toNat v+0]? = some (.string x))/\P x:=by
 have IN:Int.toNat v+0<ls.length:=Qo;have:=List.all_eq_true.1 ha _ (List.getElem_mem IN);have e:=Il IN;generalize ls[Int.toNat v+0]=y at this e;unfold z5z at this
 split at this
 ·exact⟨_,⟨h0,e⟩,h _⟩
 ·cases this
theorem z2g(x:Int):Ql .i64 (10-ZI (zl8 x 1) 20):=by
 have:1<=ZI (zl8 x 1) 20/\ZI (zl8 x 1) 20<=20:=by
  have h:1<=zl8 x 1:=by unfold zl8; split <;> omega
  unfold ZI
  split <;> omega
 exact⟨Qo,Qo⟩
section
variable {rb:Nat}{c:OA}{L N n:Nat}{bs:List Nat}{w0 w:Wo}
def zzw(_:Int):Prop:=True
theorem z3i(h:OP rb c L N w)(hN:N<=900000000000) :
  Cz X3 #[.pointer (some ⟨rb,0,none⟩)] w λe w'=>∃v,e=.returned (I v)/\zzw v/\OP rb c L (N+2) w'/\Q0 [rb] w w':=by
 refine(FV (some ⟨rb,0,none⟩) (R:=λv w'=>∃x,v=I x/\OP rb c L (N+2) w'/\Q0 [rb] w w') ?_).mono λe w' ⟨v,he,x,hv,h1⟩=>⟨x,by rw[he,hv],trivial,h1⟩
 have h0:=Dr.start h;intro wr hx hs;refine(Dr.pick (h0.step hx) Qo hs).mono ?_;rintro e w2 ⟨v,he,hk,_,h1⟩;refine⟨_,he,hk,λ_ b hb I' RZ bX=>?_,λ_ b hb I' RZ bX=>?_⟩
 all_goals
  refine(Dr.pick (h1.put RZ hb) Qo bX).mono ?_;rintro e w3 ⟨u,jR,hk3,⟨u0,_,u2⟩,h2⟩;have u2:=u2 Qd;refine⟨_,jR,hk3,⟨Qo,Qo⟩,z4p Qd rfl Qo Qo λx M' R5=>⟨x,rfl,(h2.step R5).fin Qo⟩⟩
theorem z07(h:OP rb c L N w)(hN:N<=900000000000) :
  Cz Yc #[.pointer (some ⟨rb,0,none⟩)] w λe w'=>∃v,e=.returned (I v)/\zzw v/\OP rb c L (N+2) w'/\Q0 [rb] w w':=by
 refine(Et (some ⟨rb,0,none⟩) (R:=λv w'=>∃x,v=I x/\OP rb c L (N+2) w'/\Q0 [rb] w w') ?_).mono λe w' ⟨v,he,x,hv,h1⟩=>⟨x,by rw[he,hv],trivial,h1⟩
 have h0:=Dr.start h;intro wr hx hs;refine(Dr.pick (h0.step hx) Qo hs).mono ?_;rintro e w2 ⟨v,he,hk,_,h1⟩;refine⟨_,he,hk,λ_ b hb I' RZ bX=>?_,λ_ b hb I' RZ bX=>?_⟩
 all_goals
  refine(Dr.pick (h1.put RZ hb) Qo bX).mono ?_;rintro e w3 ⟨u,jR,hk3,⟨u0,_,u2⟩,h2⟩;have u2:=u2 Qd;refine⟨_,jR,hk3,⟨Qo,Qo⟩,z4p Qd rfl Qo Qo λx M' R5=>⟨x,rfl,(h2.step R5).fin Qo⟩⟩
theorem Dr.mask(h:Dr rb c L N n bs w0 w)(hN:N+n<=900000000000)(hs:∀x∈bs,x<w.heap.size) :
  Cz X3 #[.pointer (some ⟨rb,0,none⟩)] w λe w'=>∃v,e=.returned (I v)/\Q9 bs w w'/\zzw v/\Dr rb c L N (n+2) bs w0 w':=h.call hs (z3i h.r.rd hN)
theorem Dr.rK(h:Dr rb c L N n bs w0 w)(hN:N+n<=900000000000)(hs:∀x∈bs,x<w.heap.size) :
  Cz Yc #[.pointer (some ⟨rb,0,none⟩)] w λe w'=>∃v,e=.returned (I v)/\Q9 bs w w'/\zzw v/\Dr rb c L N (n+2) bs w0 w':=h.call hs (z07 h.r.rd hN)
end
theorem JF.w{W:Q8}(iv:JF W):QD W=true:=Qj.2 iv.wp
theorem JF.len{W:Q8}(iv:JF W):Ua W:=zsk iv.wp.a
def zpn(W V:Q8):Prop:=JF V/\Jc W V
theorem zpn.refl{W:Q8}(iv:JF W):zpn W W:=⟨iv,.same⟩
theorem z0s{W W':Q8}{bar:Int}(iv:JF W)(hb:bar=0->zpn W W'):zpn W (YY W bar W').1:=by
 unfold YY;rw[B' (by rw[iv.w]; decide)];split
 ·exact zpn.refl iv
 ·rename_i e;exact hb (by simpa using e)
theorem zxl{W W':Q8}{bar a:Int}(iv:JF W)(hb:bar=0->zpn W W'):zpn W (Tq W bar W' a).1:=by
 unfold Tq;rw[B' (by rw[iv.w]; decide)];split
 ·exact zpn.refl iv
 ·rename_i e;exact hb (by simpa using e)
section
variable {f:FuncId}{args:Array Va}{W W':Q8}{bar a:Int}{m:MW}{w:Wo}
theorem Vf(iv:JF W)(hc:Cz f args w λe w'=>∃v,e=.returned v/\QR (YY W bar W') w v w')(hb:bar=0->zpn W W') :
  Cz f args w λe w'=>∃(V:Q8) (m':MW) (d:Int),e=.returned (.tuple #[.agg (Qb V m').toArray,I d])/\zpn W V/\Zo 8 w.heap.size w' V m'/\Q0 [] w w':=
 hc.mono λe w' ⟨v,he,n,m',hv,hM,hx⟩=>by
  have hi:=z0s iv hb;have hn:n=8:=hM.len.symm.trans hi.1.wp.a.gl;subst hn;exact⟨_,m',_,by rw[he,hv],hi,hM,hx⟩
theorem zr0(iv:JF W)(hc:Cz f args w λe w'=>∃v,e=.returned v/\OZ (Tq W bar W' a) w v w')(hb:bar=0->zpn W W') :
  Cz f args w λe w'=>∃(V:Q8) (m':MW) (q d:Int),e=.returned (.tuple #[.agg (Qb V m').toArray,I q,I d])/\zpn W V/\Zo 8 w.heap.size w' V m'/\Q0 [] w w':=
 hc.mono λe w' ⟨v,he,n,m',hv,hM,hx⟩=>by
  have hi:=zxl (a:=a) iv hb;have hn:n=8:=hM.len.symm.trans hi.1.wp.a.gl;subst hn;exact⟨_,m',_,_,by rw[he,hv],hi,hM,hx⟩
theorem zwd{P:Q8->Prop}(iv:JF W)(h0:P W)(hc:Cz f args w λe w'=>∃v,e=.returned v/\OZ (Tq W bar W' a) w v w')(hb:bar=0->JF W'/\P W') :
  Cz f args w λe w'=>∃(V:Q8) (m':MW) (q d:Int),e=.returned (.tuple #[.agg (Qb V m').toArray,I q,I d])/\(JF V/\P V)/\Zo 8 w.heap.size w' V m'/\Q0 [] w w':=
 hc.mono λe w' ⟨v,he,n,m',hv,hM,hx⟩=>by
  have hi:JF (Tq W bar W' a).1/\P (Tq W bar W' a).1:=by
   unfold Tq;rw[B' (by rw[iv.w]; decide)];split
   ·exact⟨iv,h0⟩
   ·rename_i e;exact hb (by simpa using e)
  have hn:n=8:=hM.len.symm.trans hi.1.wp.a.gl;subst hn;exact⟨_,m',_,_,by rw[he,hv],hi,hM,hx⟩
def z5k(W:Q8)(w:Wo)(v:Va)(w':Wo):Prop:=∃(V:Q8) (m':MW) (d:Int),v=.tuple #[.agg (Qb V m').toArray,I d]/\zpn W V/\Zo 8 w.heap.size w' V m'/\Q0 [] w w'
theorem JI{bs:List Nat}{w0 w2 w3:Wo}{d:Int}(s:Sc w0 bs w)(hs:∀x∈bs,x<w.heap.size)(hi:zpn W W'){m':MW}(hM:Zo 8 w.heap.size w2 W' m')(hy:Q0 [] w w2)(hx:Q0 bs w2 w3):z5k W w0 (.tuple #[.agg (Qb W' m').toArray,I d]) w3:=
 ⟨W',m',d,rfl,hi,(((OW.of hM hs).step hx).own).mono s.ext.size,((s.R4 hy).step hx).ext⟩
theorem z3f{c:Int}(iv:JF W)(h:za4 W c=0):JF (Rz W c):=by
 obtain⟨c0,c1⟩:=US (z37 h).1;exact zuh iv c0 c1
theorem zuj{k a n q:Int}{s:ByteArray}(h:XE [] w W m)(iv:JF W) :
  Cz VF #[.agg (Qb W m).toArray,.agg #[I k,I a,I n,I q,.string s]] w λe w'=>∃v,e=.returned v/\z5k W w v w':=by
 refine zc6 _ _ _ _ _ _ _ _ _ _ k a n q s (R:=λv w'=>z5k W w v w') ?_;intro b hb b1 cJ b2 bR;have hl:=iv.len;have hW:=iv.w;have s0:Sc w ([b]++[b1]++[b2]) w:=(((Sc.start w).add hb).add cJ).add bR;have hS:∀{wr:Wo},Q0 [] w wr->Sc w [b,b1,b2] wr:=λhx=>s0.R4 hx
 refine⟨λ_ wr hx hs=>?_,λ_=>⟨λ_ wr hx hs=>?_,λ_=>⟨λ_ wr hx hs=>?_,λ_=>⟨λ_ wr hx hs=>?_,λ_=>⟨λ_ wr hx hs=>?_,λ_=>⟨λ_ wr hx hs=>?_,λ_=>⟨λ_ wr hx hs=>?_,λ_=>⟨λ_ wr hx hs=>?_,λ_=>⟨λ_ wr hx hs=>?_,λ_=>⟨λ_ wr hx hs=>?_,λ_=>⟨λ_ wr hx hs=>?_,λ_=>⟨λ_ wr hx hs=>?_,λ_=>⟨λ_ wr hx hs=>?_,λ_=>⟨λ_ wr hx hs=>?_,λ_=>⟨λ_ wr hx hs=>?_,λ_=>⟨λ_ wr hx hs=>?_,λ_=>⟨λ_ wr hx hs=>?_,λ_=>⟨λ_ wr hx hs=>?_,λ_=>⟨_,YC h hl.c hl.t hl.g hl.f,λg=>?_,λ_ wr hx hs=>?_⟩⟩⟩⟩⟩⟩⟩⟩⟩⟩⟩⟩⟩⟩⟩⟩⟩⟩⟩
 case refine_19=>rw[hW] at g; cases g
 case refine_20=>
  refine(M0 (h.ext hx) iv.wp.a).mono ?_;rintro e wv ⟨m',he,hM,hy⟩;exact⟨_,_,_,_,_,_,_,_,_,_,he,Qf hy hs,λM' R5=>JI (hS hx) hs (zpn.refl iv) hM hy R5⟩
 case refine_3=>
  refine(zr0 iv (G0 (h.ext hx) hl) (λhb=>⟨zn7 hW hb,.fork _ _ _ hb⟩)).mono ?_;rintro e wv ⟨V,m',q1,d,he,hi,hM,hy⟩;exact⟨_,_,_,_,_,_,_,_,_,_,_,_,he,Qf hy hs,λM' R5=>JI (hS hx) hs hi hM hy R5⟩
 case refine_10=>
  refine(zr0 iv (KW (h.ext hx) hl) λhb=>⟨zxn iv (zej hb).1,.mak _ _ _ (zej hb).1⟩).mono ?_;rintro e wv ⟨V,m',q1,d,he,hi,hM,hy⟩;exact⟨_,_,_,_,_,_,_,_,_,_,_,_,he,Qf hy hs,λM' R5=>JI (hS hx) hs hi hM hy R5⟩
 case refine_1=>exact(Vf iv (zab (h.ext hx) hl) (λhb=>⟨z00 iv hb,.run _ _ hb⟩)).mono λe wv ⟨V,m',d,he,hi,hM,hy⟩=>⟨_,_,_,_,_,_,_,_,_,_,_,he,Qf hy hs,λM' R5=>JI (hS hx) hs hi hM hy R5⟩
 case refine_2=>exact(Vf iv (Bc (h.ext hx) hl) (λhb=>⟨z3f iv hb,.yld _ hb⟩)).mono λe wv ⟨V,m',d,he,hi,hM,hy⟩=>⟨_,_,_,_,_,_,_,_,_,_,_,he,Qf hy hs,λM' R5=>JI (hS hx) hs hi hM hy R5⟩
 case refine_4=>exact(Vf iv (NZ (h.ext hx) hl) (λhb=>⟨zug hW hb,.block _ hb⟩)).mono λe wv ⟨V,m',d,he,hi,hM,hy⟩=>⟨_,_,_,_,_,_,_,_,_,_,_,he,Qf hy hs,λM' R5=>JI (hS hx) hs hi hM hy R5⟩
 case refine_5=>exact(Vf iv (z8 (h.ext hx) hl) (λhb=>⟨zxq hW hb,.wake _ hb⟩)).mono λe wv ⟨V,m',d,he,hi,hM,hy⟩=>⟨_,_,_,_,_,_,_,_,_,_,_,he,Qf hy hs,λM' R5=>JI (hS hx) hs hi hM hy R5⟩
 case refine_6=>exact(Vf iv (v9 (h.ext hx) hl) (λhb=>⟨zxm hW hb,.exit _ hb⟩)).mono λe wv ⟨V,m',d,he,hi,hM,hy⟩=>⟨_,_,_,_,_,_,_,_,_,_,_,he,Qf hy hs,λM' R5=>JI (hS hx) hs hi hM hy R5⟩
 case refine_7=>exact(Vf iv (z7 (h.ext hx) hl) (λhb=>⟨zxo hW hb,.nice _ _ hb⟩)).mono λe wv ⟨V,m',d,he,hi,hM,hy⟩=>⟨_,_,_,_,_,_,_,_,_,_,_,he,Qf hy hs,λM' R5=>JI (hS hx) hs hi hM hy R5⟩
 case refine_8=>exact(Vf iv (zd9 (h.ext hx) hl) (λhb=>⟨z0z hW hb,.pin _ _ hb⟩)).mono λe wv ⟨V,m',d,he,hi,hM,hy⟩=>⟨_,_,_,_,_,_,_,_,_,_,_,he,Qf hy hs,λM' R5=>JI (hS hx) hs hi hM hy R5⟩
 case refine_9=>exact(Vf iv (z6 (h.ext hx) hl) (λhb=>⟨z0w iv hb,.mov _ _ hb⟩)).mono λe wv ⟨V,m',d,he,hi,hM,hy⟩=>⟨_,_,_,_,_,_,_,_,_,_,_,he,Qf hy hs,λM' R5=>JI (hS hx) hs hi hM hy R5⟩
 case refine_11=>exact(Vf iv (NX (h.ext hx) hl) λhb=>⟨z0t iv (zwz hb).1,.drp _ (zwz hb).1⟩).mono λe wv ⟨V,m',d,he,hi,hM,hy⟩=>⟨_,_,_,_,_,_,_,_,_,_,_,he,Qf hy hs,λM' R5=>JI (hS hx) hs hi hM hy R5⟩
 case refine_12=>exact(Vf iv (Ba (h.ext hx) hl) (λhb=>⟨z01 hW hb,.wgh _ _ hb⟩)).mono λe wv ⟨V,m',d,he,hi,hM,hy⟩=>⟨_,_,_,_,_,_,_,_,_,_,_,he,Qf hy hs,λM' R5=>JI (hS hx) hs hi hM hy R5⟩
 case refine_13=>exact(Vf iv (v8 (h.ext hx) hl) (λhb=>⟨z0u hW hb,.gpn _ _ hb⟩)).mono λe wv ⟨V,m',d,he,hi,hM,hy⟩=>⟨_,_,_,_,_,_,_,_,_,_,_,he,Qf hy hs,λM' R5=>JI (hS hx) hs hi hM hy R5⟩
 case refine_14=>exact(Vf iv (B9 (h.ext hx) hl) (λhb=>⟨z0v hW hb,.lim _ _ _ hb⟩)).mono λe wv ⟨V,m',d,he,hi,hM,hy⟩=>⟨_,_,_,_,_,_,_,_,_,_,_,he,Qf hy hs,λM' R5=>JI (hS hx) hs hi hM hy R5⟩
 case refine_15=>exact(Vf iv (z9 (h.ext hx) hl) (λhb=>⟨zxp hW hb,.time _ hb⟩)).mono λe wv ⟨V,m',d,he,hi,hM,hy⟩=>⟨_,_,_,_,_,_,_,_,_,_,_,he,Qf hy hs,λM' R5=>JI (hS hx) hs hi hM hy R5⟩
 case refine_16=>exact(Vf iv (Kf (h.ext hx) hl) (λhb=>⟨zlx hW hb,.bal _ hb⟩)).mono λe wv ⟨V,m',d,he,hi,hM,hy⟩=>⟨_,_,_,_,_,_,_,_,_,_,_,he,Qf hy hs,λM' R5=>JI (hS hx) hs hi hM hy R5⟩
 case refine_17=>exact(Vf iv (zhy (h.ext hx) hl) (λhb=>⟨z0y hW hb,.off _ hb⟩)).mono λe wv ⟨V,m',d,he,hi,hM,hy⟩=>⟨_,_,_,_,_,_,_,_,_,_,_,he,Qf hy hs,λM' R5=>JI (hS hx) hs hi hM hy R5⟩
 case refine_18=>exact(Vf iv (zl3 (h.ext hx) hl) (λhb=>⟨z3e hW hb,.on _ hb⟩)).mono λe wv ⟨V,m',d,he,hi,hM,hy⟩=>⟨_,_,_,_,_,_,_,_,_,_,_,he,Qf hy hs,λM' R5=>JI (hS hx) hs hi hM hy R5⟩
end
theorem z3h{rb:Nat}{c:OA}{L N:Nat}{w:Wo}{W:Q8}{m:MW}(h:OP rb c L N w)(hN:N<=800000000000) :
  Cz JO #[.pointer (some ⟨rb,0,none⟩),.agg (Qb W m).toArray] w λe w'=>∃(k a n q:Int) (s:ByteArray),e=.returned (.agg #[I k,I a,I n,I q,.string s])/\OP rb c L (N+20) w'/\Q0 [rb] w w':=by
 refine(FU (some ⟨rb,0,none⟩) W.now m.cO W.IE.length m.cC m.tO W.tasks.length m.tC m.gO W.ID.length m.gC (R:=λv w'=>∃(k a n q:Int) (s:ByteArray),v=.agg #[I k,I a,I n,I q,.string s]/\OP rb c L (N+20) w'/\Q0 [rb] w w') ?_).mono λe w' ⟨v,he,k,a,n,q,s,hv,h1⟩=>⟨k,a,n,q,s,by rw[he,hv],h1⟩
 intro b hb b1 cJ;refine⟨_,TV,λwr hx hs=>?_⟩;refine(Dr.pick ((Dr.start h).AG3 hx hb cJ) Qo hs).mono ?_;rintro e w1 ⟨v1,he,hk,_,h1⟩;refine⟨_,he,hk,λwr hx hs=>?_⟩;refine(Dr.pick (h1.step hx) Qo hs).mono ?_;rintro e w2 ⟨v2,he,hk,_,h2⟩;refine⟨_,he,hk,λvs bs w2=>bs=[]/\(∃x:Int,vs=[I x])/\Dr rb c L N 4 [b,b1] w w2,λwr hx hs=>?_,?_⟩
 ·refine(Dr.pick (h2.step hx) Qo hs).mono ?_;rintro e w3 ⟨v3,he,hk,_,h3⟩;refine⟨_,he,hk,λ_ wr hx hs=>?_,λ_ wr hx hs=>⟨rfl,⟨_,rfl⟩,(h3.step hx).more Qd⟩⟩;refine(Dr.pick (h3.step hx) Qo hs).mono ?_;rintro e w4 ⟨v4,he,hk,_,h4⟩;exact⟨_,he,hk,λwr hx _=>⟨rfl,⟨_,rfl⟩,(h4.step hx).more Qd⟩⟩
 clear h1 h2;rintro t aX eZ ⟨-,-,h4⟩ wr hx hs;refine(Dr.pick (h4.step hx) Qo hs).mono ?_;rintro e w5 ⟨v5,he,hk,⟨p50,_,p52⟩,h5⟩;have p52:=p52 Qd;refine⟨_,he,hk,λwr hx hs=>?_⟩;refine(Dr.pick (h5.step hx) Qo hs).mono ?_;rintro e w6 ⟨v6,he,hk,_,h6⟩;clear h4 h5;refine⟨_,he,hk,λ_=>?_,λ_ wr hx hs=>?_⟩
 rotate_left
 ·refine(Dr.pick (h6.step hx) Qo hs).mono ?_;rintro e w7 ⟨v7,he,hk,_,h7⟩;clear h6;refine⟨_,he,hk,?_⟩;clear he hk hx hs eZ
  repeat' first
   | exact rfl
   | exact z2g _
   | (refine⟨_,TV,?_⟩)
   | (refine⟨_,JR,?_⟩)
   | (refine⟨λ_ bs w2=>bs=[]/\Dr rb c L N 7 [b,b1] w w2,?_,?_⟩)
   | (refine And.intro ?_ ?_)
   | (refine z4p Qd rfl Qo Qo λx=>?_)
   | (refine z5u Qd rfl Qo Qo λx=>?_)
   | (intro (x:Bool) (wv:Wo) hs hm; obtain⟨_,hD⟩:=hm)
   | (intro (b:Nat) hb)
   | (intro (wr:Wo) hx hs; refine(Dr.pick (Dr.step (by assumption) hx) ?_ hs).mono ?_; rotate_left; rintro e w2 ⟨v,he,hk,⟨hp0,_,cN⟩,hC⟩; have cN:=cN Qd; refine⟨_,he,hk,?_⟩)
   | (intro (wr:Wo) hx hs; refine(Dr.pick (Dr.put (by assumption) hx (by assumption)) ?_ hs).mono ?_; rotate_left; rintro e w2 ⟨v,he,hk,⟨hp0,_,cN⟩,hC⟩; have cN:=cN Qd; refine⟨_,he,hk,?_⟩)
   | (intro (wr:Wo) hx hs; refine(Dr.pick (Dr.AG3 (by assumption) hx (by assumption) (by assumption)) ?_ hs).mono ?_; rotate_left; rintro e w2 ⟨v,he,hk,⟨hp0,_,cN⟩,hC⟩; have cN:=cN Qd; refine⟨_,he,hk,?_⟩)
   | (intro (wr:Wo) hx hs; refine(Dr.weight (Dr.step (by assumption) hx) ?_ hs).mono ?_; rotate_left; rintro e w2 ⟨v,he,hk,⟨hp0,cN⟩,hC⟩; refine⟨_,he,hk,?_⟩)
   | (intro (wr:Wo) hx hs; refine(Dr.mask (Dr.step (by assumption) hx) ?_ hs).mono ?_; rotate_left; rintro e w2 ⟨v,he,hk,_,hC⟩; refine⟨_,he,hk,?_⟩)
   | (intro (wr:Wo) hx hs; refine(Dr.rK (Dr.step (by assumption) hx) ?_ hs).mono ?_; rotate_left; rintro e w2 ⟨v,he,hk,_,hC⟩; refine⟨_,he,hk,?_⟩)
   | (intro (wr:Wo) hx hs; exact⟨rfl,Dr.step (by assumption) hx⟩)
   | (intro (wr:Wo) hx; exact⟨_,_,_,_,_,rfl,(Dr.step (by assumption) hx).fin Qd⟩)
   | (intro (hh:_=true))
   | (intro (hh:_=false))
   | omega
   | decide
 ·repeat' first
   | exact rfl
   | (refine And.intro ?_ ?_)
   | (refine z4p Qd rfl Qo Qo λx=>?_)
   | (intro (b:Nat) hb)
   | (intro (wr:Wo) hx hs; refine(Dr.pick (Dr.step (by assumption) hx) ?_ hs).mono ?_; rotate_left; rintro e w2 ⟨v,he,hk,⟨hp0,_,cN⟩,hC⟩; have cN:=cN Qd; refine⟨_,he,hk,?_⟩)
   | (intro (wr:Wo) hx hs; refine(Dr.pick (Dr.put (by assumption) hx (by assumption)) ?_ hs).mono ?_; rotate_left; rintro e w2 ⟨v,he,hk,⟨hp0,_,cN⟩,hC⟩; have cN:=cN Qd; refine⟨_,he,hk,?_⟩)
   | (intro (wr:Wo) hx; exact⟨_,_,_,_,_,rfl,(Dr.step (by assumption) hx).fin Qd⟩)
   | omega
def z5y(lo hi:Int):Va->Bool
 | .int .i64 x=>decide (lo<=x)&&decide (x<=hi)
 | _=>false
theorem z55{lo hi v:Int}{k:Nat}{ls:List Va}{P:Int->Prop}(ha:ls.all (z5y lo hi)=true)(hl:ls.length=k)(h0:0<=v)(h1:v<(k:Int))(h:∀x,lo<=x->x<=hi->P x):∃x:Int,(0<=v/\ls[Int.toNat v+0]? = some (I x))/\P x:=by
 have IN:Int.toNat v+0<ls.length:=Qo;have:=List.all_eq_true.1 ha _ (List.getElem_mem IN);have e:=Il IN;generalize ls[Int.toNat v+0]=y at this e;unfold z5y at this
 split at this
 ·rw[A',Ij,Ij] at this;exact⟨_,⟨h0,e⟩,h _ this.1 this.2⟩
 ·cases this
structure UR (P:Nat->Q8->Prop) (rb:Nat) (c:OA) (L N n:Nat) (bs:List Nat) (w0 w:Wo) (W:Q8) (m:MW):Prop where
 iv:JF W
 lw:P n W
 d:Dr rb c L N n bs w0 w
 o:OW 8 w0.heap.size (rb::bs) w W m
section
variable {P:Nat->Q8->Prop}{rb b b2:Nat}{c:OA}{L N n k:Nat}{bs cs:List Nat}{w0 w w':Wo}{W W':Q8}{m m':MW}
theorem UR.step(h:UR P rb c L N n bs w0 w W m)(hx:Q0 bs w w'):UR P rb c L N n bs w0 w' W m:=⟨h.iv,h.lw,h.d.step hx,h.o.step (hx.mono λ_ hm=>I1 _ hm)⟩
theorem UR.put(h:UR P rb c L N n bs w0 w W m)(hx:Q0 bs w w')(hb:w.heap.size<=b):UR P rb c L N n (bs++[b]) w0 w' W m:=⟨h.iv,h.lw,h.d.put hx hb,h.o.put (hx.mono λ_ hm=>I1 _ hm) hb⟩
theorem UR.AG3(h:UR P rb c L N n bs w0 w W m)(hx:Q0 bs w w')(hb:w.heap.size<=b)(bR:w.heap.size<=b2):UR P rb c L N n (bs++[b]++[b2]) w0 w' W m:=⟨h.iv,h.lw,h.d.AG3 hx hb bR,h.o.AG3 (hx.mono λ_ hm=>I1 _ hm) hb bR⟩
theorem UR.sub(h:UR P rb c L N n bs w0 w W m)(hs:∀x∈cs,x∈bs):UR P rb c L N n cs w0 w W m:=⟨h.iv,h.lw,h.d.sub hs,h.o.sub λx hx=>by
 rcases Ii.1 hx with h1 | h1
 ·rw[h1]; exact I9
 ·exact I1 _ (hs x h1)⟩
theorem UR.more{q:Nat}(hP:Mb P)(h:UR P rb c L N n bs w0 w W m)(hm:n<=q):UR P rb c L N q bs w0 w W m:=⟨h.iv,hP.mono hm h.lw,h.d.more hm,h.o⟩
theorem UR.rd(h:UR P rb c L N n bs w0 w W m):XE [] w W m:=h.o.rd0
theorem UR.drawn(hP:Mb P)(h:UR P rb c L N n bs w0 w W m)(hr:OP rb c L (N+n+k) w')(hx:Q0 [rb] w w'):UR P rb c L N (n+k) bs w0 w' W m:=
 ⟨h.iv,hP.mono Qo h.lw,⟨h.d.r.upd (by rw[<-Nat.add_assoc]; exact hr),h.d.ext.trans hx,h.d.new⟩,h.o.step (hx.mono λx hm=>by
  have:x=rb:=by simpa using hm
  subst this; exact I9)⟩
theorem UR.call{f:FuncId}{args:Array Va}{Q:Int->Prop}(hP:Mb P)(h:UR P rb c L N n bs w0 w W m)(hs:∀x∈bs,x<w.heap.size)(hc:Cz f args w λe w'=>∃v,e=.returned (I v)/\Q v/\OP rb c L (N+n+k) w'/\Q0 [rb] w w') :
  Cz f args w λe w'=>∃v,e=.returned (I v)/\Q9 bs w w'/\Q v/\UR P rb c L N (n+k) bs w0 w' W m:=
 hc.mono λe w' ⟨v,he,hq,hr,hx⟩=>⟨v,he,zed h.d.r hx hs,hq,h.drawn hP hr hx⟩
theorem UR.pick(hP:Mb P)(h:UR P rb c L N n bs w0 w W m)(hN:N+n<=1000000000000)(hs:∀x∈bs,x<w.heap.size){q:Int} :
  Cz Q3 #[.pointer (some ⟨rb,0,none⟩),I q] w λe w'=>∃v,e=.returned (I v)/\Q9 bs w w'/\zbt q v/\UR P rb c L N (n+1) bs w0 w' W m:=h.call hP hs (zd6 h.d.r.rd hN)
theorem UR.weight(hP:Mb P)(h:UR P rb c L N n bs w0 w W m)(hN:N+n<=900000000000)(hs:∀x∈bs,x<w.heap.size) :
  Cz ZO #[.pointer (some ⟨rb,0,none⟩)] w λe w'=>∃v,e=.returned (I v)/\Q9 bs w w'/\z38 v/\UR P rb c L N (n+2) bs w0 w' W m:=h.call hP hs (zoc h.d.r.rd hN)
theorem UR.item(hP:Mb P)(h:UR P rb c L N n bs w0 w W m)(hN:N+n<=800000000000)(hs:∀x∈bs,x<w.heap.size){V:Q8}{p:MW} :
  Cz JO #[.pointer (some ⟨rb,0,none⟩),.agg (Qb V p).toArray] w λe w'=>∃(k a q r:Int) (s:ByteArray),e=.returned (.agg #[I k,I a,I q,I r,.string s])/\Q9 bs w w'/\UR P rb c L N (n+20) bs w0 w' W m:=
 (z3h h.d.r.rd hN).mono λe w' ⟨k,a,q,r,s,he,hr,hx⟩=>⟨k,a,q,r,s,he,zed h.d.r hx hs,h.drawn hP hr hx⟩
theorem UR.bsl(h:UR P rb c L N n bs w0 w W m)(hs:∀x∈bs,x<w.heap.size):∀x∈rb::bs,x<w.heap.size:=λx hm=>by
 rcases Ii.1 hm with h1 | h1
 ·rw[h1]; exact h.d.r.rd.lt
 ·exact hs x h1
theorem UR.Sn{P':Nat->Q8->Prop}{q:Nat}(h:UR P rb c L N n bs w0 w W m)(hq:n<=q)(hs:∀x∈bs,x<w.heap.size)(hi:JF W')(hl:P' q W')(hM:Zo 8 w.heap.size w' W' m')(hx:Q0 [] w w'):UR P' rb c L N q bs w0 w' W' m':=
 ⟨hi,hl,Dr.more ⟨h.d.r.R4 hx,h.d.ext.trans hx.of_nil,h.d.new⟩ hq,(OW.of hM (h.bsl hs)).mono h.d.ext.size⟩
theorem UR.mak{p:Int}{name:ByteArray}(hP:Mb P)(h:UR P rb c L N n bs w0 w W m)(hs:∀x∈bs,x<w.heap.size) :
  Cz QK #[.agg (Qb W m).toArray,I p,.string name] w λe w'=>∃(W':Q8) (m':MW) (a d:Int),e=.returned (.tuple #[.agg (Qb W' m').toArray,I a,I d])/\Q9 bs w w'/\UR P rb c L N n bs w0 w' W' m':=
 (zwd (P:=P n) h.iv h.lw (KW h.rd h.iv.len) λhb=>⟨zxn h.iv (zej hb).1,hP.mak h.iv h.lw (zej hb).1⟩).mono λe w' ⟨V,m',a,d,he,hi,hM,hx⟩=>⟨V,m',a,d,he,Qf hx hs,h.Sn (I7 _) hs hi.1 hi.2 hM hx⟩
theorem UR.fork{g q x:Int}(hP:Mb P)(h:UR P rb c L N n bs w0 w W m)(hs:∀x∈bs,x<w.heap.size) :
  Cz Xz #[.agg (Qb W m).toArray,I g,I q,I x] w λe w'=>∃(W':Q8) (m':MW) (a d:Int),e=.returned (.tuple #[.agg (Qb W' m').toArray,I a,I d])/\Q9 bs w w'/\UR P rb c L N n bs w0 w' W' m':=
 (zwd (P:=P n) h.iv h.lw (G0 h.rd h.iv.len) λhb=>⟨zn7 h.iv.w hb,hP.fork h.iv h.lw hb⟩).mono λe w' ⟨V,m',a,d,he,hi,hM,hx⟩=>⟨V,m',a,d,he,Qf hx hs,h.Sn (I7 _) hs hi.1 hi.2 hM hx⟩
theorem UR.do{k a q r:Int}{s:ByteArray}(hP:Mb P)(hn:n<=10000)(h:UR P rb c L N n bs w0 w W m)(hs:∀x∈bs,x<w.heap.size) :
  Cz VF #[.agg (Qb W m).toArray,.agg #[I k,I a,I q,I r,.string s]] w λe w'=>∃(W':Q8) (m':MW) (d:Int),e=.returned (.tuple #[.agg (Qb W' m').toArray,I d])/\Q9 bs w w'/\UR P rb c L N (n+10) bs w0 w' W' m':=
 (zuj h.rd h.iv).mono λe w' ⟨v,he,V,m',d,hv,hi,hM,hx⟩=>⟨V,m',d,by rw[he,hv],Qf hx hs,h.Sn (Nat.le_add_right _ _) hs hi.1 (hP.Sn hn h.iv h.lw hi.2) hM hx⟩
theorem UR.fin{q:Nat}(hP:Mb P)(h:UR P rb c L N n bs w0 w W m)(hq:n<=q):(JF W/\P q W)/\Zo 8 w0.heap.size w W m/\OP rb c L (N+q) w/\Q0 [rb] w0 w/\∀x∈QU 8 m,x≠rb:=⟨⟨h.iv,hP.mono hq h.lw⟩,h.o.own,(h.d.fin hq).1,h.d.ext,λx hx e=>h.o.nb x hx (by rw[e]; exact I9)⟩
end
theorem z3j{P:Nat->Q8->Prop}(hP:Mb P){rb:Nat}{c:OA}{L N:Nat}{w:Wo}{items:Int}(h:OP rb c L N w)(hN:N<=700000000000)(hi:items<=27) :
  Cz T4 #[.pointer (some ⟨rb,0,none⟩),I items] w λe w'=>∃(W:Q8) (m:MW),e=.returned (.agg (Qb W m).toArray)/\(JF W/\P 1000 W)/\Zo 8 w.heap.size w' W m/\OP rb c L (N+1000) w'/\Q0 [rb] w w'/\∀x∈QU 8 m,x≠rb:=by
 refine(FX (some ⟨rb,0,none⟩) items (R:=λv w'=>∃(W:Q8) (m:MW),v=.agg (Qb W m).toArray/\(JF W/\P 1000 W)/\Zo 8 w.heap.size w' W m/\OP rb c L (N+1000) w'/\Q0 [rb] w w'/\∀x∈QU 8 m,x≠rb) ?_).mono λe w' ⟨v,he,W,m,hv,h3⟩=>⟨W,m,by rw[he,hv],h3⟩
 intro b hb b1 cJ wr hx hs;refine(Dr.pick ((Dr.start h).AG3 hx hb cJ) Qo hs).mono ?_;rintro e w1 ⟨v,he,hk,⟨p0,_,p2⟩,h1⟩;have p2:=p2 Qd;refine⟨_,he,hk,⟨Qo,Qo⟩,z55 (lo:=1) (hi:=4) Qd rfl Qo Qo λx x1 x4 wr hx hs=>?_⟩;obtain⟨q,rfl⟩:∃q:Nat,x=(q:Int):=⟨x.toNat,Qo⟩;have h2:=h1.step hx;refine(zaa (n:=q) Qo Qo).mono ?_;rintro e2 w2 ⟨m,aR,hM,Sm⟩
 have bR:∀x∈rb::[b,b1],x<wr.heap.size:=λx hm=>by
  rcases Ii.1 hm with h1 | h1
  ·rw[h1]; exact h2.r.rd.lt
  ·exact hs x h1
 have hK:UR P rb c L N 1 [b,b1] w w2 (Us q) m:=⟨z0x Qo Qo,hP.new Qo Qo,⟨h2.r.R4 Sm,h2.ext.trans Sm.of_nil,h2.new⟩,(OW.of hM bR).mono h2.ext.size⟩;refine⟨_,_,_,_,_,_,_,_,_,_,_,aR,Qf Sm hs,λb2 bR wr hx hs=>?_⟩;refine((hK.put hx bR).pick hP Qo hs).mono ?_;rintro e3 w3 ⟨v1,jR,hk3,⟨p10,_,p12⟩,hK1⟩;have p12:=p12 Qd;refine⟨_,jR,hk3,?_⟩;refine⟨λvs w2=>∃(k n:Nat) (W:Q8) (m:MW),vs=I (k:Int)::Qb W m/\(k:Int)<=v1/\n<=2+2*k/\UR P rb c L N n [b,b1,b2] w w2 W m,Zt v1.toNat 0,λwr hx _=>⟨0,2,Us q,m,rfl,p10,Qo,hK1.step hx⟩,?_⟩;clear hK1 hk3 jR hs hx hM hK aR Sm h1 h2 he hk;rintro i1 l S5 Sb Sh S6 Se Sg S7 S8 Sa wv hs ⟨k,n,W,m,he,hk,hn,hK⟩;simp only[Qb,I4,I5,Iv,true_and,and_true] at he;obtain⟨rfl,rfl,⟨rfl,rfl,rfl⟩,⟨rfl,rfl,rfl⟩,rfl,rfl,rfl⟩:=he;refine⟨λIN=>?_,λRx wr hx hs=>?_⟩
 ·have IN:=Ot IN
  repeat' first
   | exact rfl
   | (refine And.intro ?_ ?_)
   | (refine z4p Qd rfl Qo Qo λx=>?_)
   | (refine z5u Qd rfl Qo Qo λx=>?_)
   | (intro (b:Nat) hb)
   | (intro (wr:Wo) hx hs; refine(UR.pick hP (UR.step (by assumption) hx) ?_ hs).mono ?_; rotate_left; rintro e w2 ⟨v,he,hk,⟨hp0,_,cN⟩,hC⟩; have cN:=cN Qd; refine⟨_,he,hk,?_⟩)
   | (intro (wr:Wo) hx hs; refine(UR.pick hP (UR.put (by assumption) hx (by assumption)) ?_ hs).mono ?_; rotate_left; rintro e w2 ⟨v,he,hk,⟨hp0,_,cN⟩,hC⟩; have cN:=cN Qd; refine⟨_,he,hk,?_⟩)
   | (intro (wr:Wo) hx hs; refine(UR.pick hP (UR.AG3 (by assumption) hx (by assumption) (by assumption)) ?_ hs).mono ?_; rotate_left; rintro e w2 ⟨v,he,hk,⟨hp0,_,cN⟩,hC⟩; have cN:=cN Qd; refine⟨_,he,hk,?_⟩)
   | (intro (wr:Wo) hx hs; refine(UR.mak hP (UR.step (by assumption) hx) hs).mono ?_; rintro e w2 ⟨W',m',a,d,he,hk,hC⟩; refine⟨_,_,_,_,_,_,_,_,_,_,_,_,he,hk,⟨Qo,Qo⟩,λwr hx _=>⟨⟨k+1,n+2,W',m',by simp[Qb],Qo,Qo,((hC.step hx).more hP Qo).sub Qs⟩,Zd (k:=k) rfl rfl Qo⟩⟩)
   | (intro (wr:Wo) hx hs; refine(UR.mak hP (UR.put (by assumption) hx (by assumption)) hs).mono ?_; rintro e w2 ⟨W',m',a,d,he,hk,hC⟩; refine⟨_,_,_,_,_,_,_,_,_,_,_,_,he,hk,⟨Qo,Qo⟩,λwr hx _=>⟨⟨k+1,n+2,W',m',by simp[Qb],Qo,Qo,((hC.step hx).more hP Qo).sub Qs⟩,Zd (k:=k) rfl rfl Qo⟩⟩)
   | (intro (wr:Wo) hx hs; refine(UR.mak hP (UR.AG3 (by assumption) hx (by assumption) (by assumption)) hs).mono ?_; rintro e w2 ⟨W',m',a,d,he,hk,hC⟩; refine⟨_,_,_,_,_,_,_,_,_,_,_,_,he,hk,⟨Qo,Qo⟩,λwr hx _=>⟨⟨k+1,n+2,W',m',by simp[Qb],Qo,Qo,((hC.step hx).more hP Qo).sub Qs⟩,Zd (k:=k) rfl rfl Qo⟩⟩)
   | omega
 refine((hK.step hx).pick hP Qo hs).mono ?_;rintro e4 w4 ⟨v3,he4,hk4,⟨p30,_,p32⟩,hC6⟩;have p32:=p32 Qd;refine⟨_,he4,hk4,⟨Qo,Qo⟩,?_⟩;refine⟨λvs w2=>∃(k n:Nat) (W:Q8) (m:MW),vs=I (k:Int)::Qb W m/\(k:Int)<=1+v3/\n<=20+3*k/\UR P rb c L N n [b,b1,b2] w w2 W m,Zt (1+v3).toNat 0,λV' oQ _=>⟨0,n+1,W,m,rfl,Qo,Qo,hC6.step oQ⟩,?_⟩;clear hK hC6 hk4 he4 hs hx Rx hk hn;clear W m n k;rintro i3 l4 mS iZ mR mM oZ mL kF nX mT wv hs ⟨k,n,W,m,he,hk,hn,hK⟩;simp only[Qb,I4,I5,Iv,true_and,and_true] at he;obtain⟨rfl,rfl,⟨rfl,rfl,rfl⟩,⟨rfl,rfl,rfl⟩,rfl,rfl,rfl⟩:=he;refine⟨λIN wr hx hs=>?_,λRx=>?_⟩
 ·have IN:=Ot IN;refine((hK.step hx).pick hP Qo hs).mono ?_;rintro e5 w5 ⟨v5,he5,hk5,_,hC5⟩;refine⟨_,he5,hk5,rfl,λwr hx hs=>?_⟩;refine((hC5.step hx).weight hP Qo hs).mono ?_;rintro e6 w6 ⟨v6,he6,hk6,_,hC6⟩;refine⟨_,he6,hk6,rfl,_,TV,_,JR,z2g _,λwr hx hs=>?_⟩;refine((hC6.step hx).fork hP hs).mono ?_;rintro e7 w7 ⟨W7,m7,a,d,he7,hk7,hC7⟩;exact⟨_,_,_,_,_,_,_,_,_,_,_,_,he7,hk7,⟨Qo,Qo⟩,λwr hx _=>⟨⟨k+1,n+1+2,W7,m7,by simp[Qb],Qo,Qo,hC7.step hx⟩,Zd (k:=k) rfl rfl Qo⟩⟩
 ·have Rx:=Ou Rx;refine⟨λvs w2=>∃(k n:Nat) (W:Q8) (m:MW),vs=I (k:Int)::Qb W m/\k<=27/\n<=60+30*k/\UR P rb c L N n [b,b1,b2] w w2 W m,Zt 27 0,λV' oQ _=>⟨0,n,W,m,rfl,Qo,Qo,hK.step oQ⟩,?_⟩;clear hK hs;rintro i5 l8 l9O l9L l9C A12 A11 A10 nV nU nT wv hs ⟨k,n,W,m,he,hk,hn,hK⟩;simp only[Qb,I4,I5,Iv,true_and,and_true] at he;obtain⟨rfl,rfl,⟨rfl,rfl,rfl⟩,⟨rfl,rfl,rfl⟩,rfl,rfl,rfl⟩:=he;refine⟨λIN wr hx hs=>?_,λRx wr hx=>⟨W,m,rfl,(hK.step hx).fin hP Qo⟩⟩;have IN:=Ot IN;refine((hK.step hx).item hP Qo hs (V:=W) (p:=m)).mono ?_;rintro e5 w5 ⟨k5,a5,q5,r5,s5,he5,hk5,hC5⟩;refine⟨_,_,_,_,_,he5,hk5,rfl,λwr hx hs=>?_⟩;refine((hC5.step hx).do hP Qo hs).mono ?_;rintro e6 w6 ⟨W6,m6,d,he6,hk6,hC6⟩;exact⟨_,_,_,_,_,_,_,_,_,_,_,he6,hk6,⟨Qo,Qo⟩,λwr hx _=>⟨⟨k+1,n+20+10,W6,m6,by simp[Qb],Qo,Qo,hC6.step hx⟩,Zd (k:=k) rfl rfl Qo⟩⟩
theorem z5a:Tryz.prog.underlying ty_sl_uint8=some (.slice Pg):=Qk
theorem z49:Tryz.prog.underlying Pg=some (.int .u8):=Qk
theorem z5b:Tryz.prog.underlying ZL=some .string:=Qk
theorem UR.CC1{P:Nat->Q8->Prop}(hP:Mb P){rb:Nat}{c:OA}{L N n k:Nat}{bs:List Nat}{w0 w w':Wo}{W:Q8}{m:MW}(d:Dr rb c L N n bs w0 w)(hs:∀x∈bs,x<w.heap.size)(iv:JF W/\P k W)(hM:Zo 8 w.heap.size w' W m)(hr:OP rb c L (N+n+k) w')(hx:Q0 [rb] w w')(bT:∀x∈QU 8 m,x≠rb):UR P rb c L N (n+k) bs w0 w' W m:=
 ⟨iv.1,hP.mono Qo iv.2,⟨d.r.upd (by rw[<-Nat.add_assoc]; exact hr),d.ext.trans hx,d.new⟩,⟨hM.mono d.ext.size,λx RZ hm=>by
  rcases Ii.1 hm with h1 | h1
  ·exact bT x RZ h1
  ·have:=(hM.lt x RZ).1;have:=hs x h1;omega⟩⟩
theorem z08{P:Nat->Q8->Prop}(hP:Mb P){rb:Nat}{c:OA}{L N:Nat}{w:Wo}(h:OP rb c L N w)(hN:N<=600000000000) :
  Cz Vm #[.pointer (some ⟨rb,0,none⟩)] w λe w'=>∃(W:Q8) (m:MW),e=.returned (.agg (Qb W m).toArray)/\(JF W/\P 1100 W)/\Zo 8 w.heap.size w' W m/\OP rb c L (N+1100) w'/\Q0 [rb] w w'/\∀x∈QU 8 m,x≠rb:=by
 refine(Eu (some ⟨rb,0,none⟩) (R:=λv w'=>∃(W:Q8) (m:MW),v=.agg (Qb W m).toArray/\(JF W/\P 1100 W)/\Zo 8 w.heap.size w' W m/\OP rb c L (N+1100) w'/\Q0 [rb] w w'/\∀x∈QU 8 m,x≠rb) ?_).mono λe w' ⟨v,he,W,m,hv,h3⟩=>⟨W,m,by rw[he,hv],h3⟩
 intro b hb wr hx hs;refine(Dr.pick ((Dr.start h).put hx hb) Qo hs).mono ?_;rintro e w1 ⟨v,he,hk,⟨p0,_,p2⟩,h1⟩;have p2:=p2 Qd;refine⟨_,he,hk,λwr hx hs=>?_⟩;have h2:=h1.step hx;refine(z3j hP h2.r.rd Qo (items:=v) Qo).mono ?_;rintro e2 w2 ⟨W,m,aR,iv,hM,hr,hxp,bT⟩;have hK:=UR.CC1 hP h2 hs iv hM hr hxp bT;refine⟨_,_,_,_,_,_,_,_,_,_,aR,zed h2.r hxp hs,λb1 cJ wr hx hs=>?_⟩;refine((hK.put hx cJ).pick hP Qo hs).mono ?_;rintro e3 w3 ⟨v3,jR,hk3,_,qD⟩;refine⟨_,jR,hk3,λ_=>?_,λ_ wr hx=>⟨W,m,rfl,(qD.step hx).fin hP Qo⟩⟩;refine⟨λvs w2=>∃(k:Nat) (W:Q8) (m:MW),vs=I (k:Int)::Qb W m/\k<=12/\UR P rb c L N (0+1+1000+1) [b,b1] w w2 W m,Zt 12 0,λwr hx _=>⟨0,W,m,rfl,Qo,qD.step hx⟩,?_⟩;clear qD hK hM iv bT hr hxp aR hk3 jR h2 h1 hs hx;rintro i1 l S5 Sb Sh S6 Se Sg S7 S8 Sa wv hs ⟨k,W,m,he,hk,hK⟩;simp only[Qb,I4,I5,Iv,true_and,and_true] at he;obtain⟨rfl,rfl,⟨rfl,rfl,rfl⟩,⟨rfl,rfl,rfl⟩,rfl,rfl,rfl⟩:=he;refine⟨λIN wr hx hs=>?_,λRx=>?_⟩
 ·have IN:=Ot IN;refine((hK.step hx).fork hP hs).mono ?_;rintro e7 w7 ⟨W7,m7,a,d,he7,hk7,hC7⟩;exact⟨_,_,_,_,_,_,_,_,_,_,_,_,he7,hk7,⟨Qo,Qo⟩,λwr hx _=>⟨⟨k+1,W7,m7,by simp[Qb],Qo,hC7.step hx⟩,Zd (k:=k) rfl rfl Qo⟩⟩
 refine⟨λvs w2=>∃(k:Nat) (W:Q8) (m:MW),vs=I (k:Int)::Qb W m/\k<=8/\UR P rb c L N (0+1+1000+1) [b,b1] w w2 W m,Zt 8 0,λwr hx _=>⟨0,W,m,rfl,Qo,hK.step hx⟩,?_⟩;clear hK hs;rintro i3 l4 mS iZ mR mM oZ mL kF nX mT wv hs ⟨k,W,m,he,hk,hK⟩;simp only[Qb,I4,I5,Iv,true_and,and_true] at he;obtain⟨rfl,rfl,⟨rfl,rfl,rfl⟩,⟨rfl,rfl,rfl⟩,rfl,rfl,rfl⟩:=he;refine⟨λIN=>⟨⟨Qo,Qo⟩,⟨by have:=Ot IN; show (0:Int)<=_; omega,by have:=Ot IN; show _<=(255:Int); omega⟩,λb3 wb hxb rH hh hn wr hx hs=>?_⟩,λ_ wr hx=>⟨W,m,rfl,(hK.step hx).fin hP Qo⟩⟩;have IN:=Ot IN;have hK1:=(hK.step hxb).step hx
 have hh2:wr.heap[b3]? = some (Obj.cells ([.int .u8 (48+(k:Int))]:List Va).toArray Pg (0,0)):=by
  rw[hx.block b3 (JG hh) hn]; exact hh
 have hc:=run_convert_bytes_arg wr ty_sl_uint8 Pg z5a z49 b3 0 1 1 [48+(k:Int)] rfl (λi hi=>by
  have:i=0:=Qo;subst this;rw[Tt hh2]; rfl) ZL z5b
 refine⟨_,wr,hc,λ_ _=>rfl,?_,λM' R5 SR=>?_⟩
 ·have e1:(strOfNums [48+(k:Int)]).size=1:=rfl;rw[e1]; decide
 refine((hK1.step R5).mak hP SR).mono ?_;rintro e7 w7 ⟨W7,m7,a,d,he7,hk7,hC7⟩;exact⟨_,_,_,_,_,_,_,_,_,_,_,_,he7,hk7,⟨Qo,Qo⟩,λwr hx _=>⟨⟨k+1,W7,m7,by simp[Qb],Qo,hC7.step hx⟩,Zd (k:=k) rfl rfl Qo⟩⟩
section
variable {rb b b2:Nat}{c:OA}{L C N:Nat}{bs:List Nat}{w0 w w':Wo}{W W':Q8}{m m':MW}
theorem z06(h:DJ c L w0)(hC:L<=C)(hx:Q0 [] w0 w)(hn:∀x∈bs,w0.heap.size<=x)(hs:∀x∈bs,x<w.heap.size) :
  Cz VG #[.slice c L C] w λe wv=>∃rb c' L',e=.returned (.pointer (some ⟨rb,0,none⟩))/\Q9 bs w wv/\RS rb c' L' 0 bs wv/\Sc w0 (rb::bs) wv:=by
 refine(zqn (h.ext hx) hC).mono ?_;rintro e wv ⟨rb,c',L',he,hrb,hR,RZ,Cq5⟩
 refine⟨rb,c',L',he,Qf RZ hs,⟨hR,λhm=>by
  have:=hs rb hm;omega,λa' ha'=>?_⟩,⟨hx.trans RZ,λx hm=>?_⟩⟩
 ·rcases Cq5 a' ha' with h0 | ⟨h0,a,ha,hab⟩
  ·exact .inr h0
  ·refine .inl λhm=>?_
   obtain⟨a0,x0,ha0,_,_,h30⟩:=h 0 h0;have RA:=World.block_lt_of_cell? w0 _ h30;rw[ZC] at RA;rw[ha] at ha0; cases ha0;have:=hn _ hm;omega
 ·rcases Ii.1 hm with h1 | h1
  ·have:=hx.size; omega
  ·exact hn x h1
end
section
variable {c:OA}{L C:Nat}{w:Wo}
theorem NW{P:Nat->Q8->Prop}(hP:Mb P)(h:DJ c L w)(hC:L<=C) :
  Cz TF #[.slice c L C] w λe w'=>∃(W:Q8) (m:MW),e=.returned (.agg (Qb W m).toArray)/\(JF W/\P 1100 W)/\Zo 8 w.heap.size w' W m/\Q0 [] w w':=by
 refine(NA c L C (R:=λv w'=>∃(W:Q8) (m:MW),v=.agg (Qb W m).toArray/\(JF W/\P 1100 W)/\Zo 8 w.heap.size w' W m/\Q0 [] w w') ?_).mono λe w' ⟨v,he,W,m,hv,h1⟩=>⟨W,m,by rw[he,hv],h1⟩
 intro b hb wr hx hs;refine(z06 (bs:=[b]) h hC hx (by simpa using hb) hs).mono ?_;rintro e wv ⟨rb,c',L',he,hk,hR,hS⟩;refine⟨_,he,hk,λI' RZ bX=>?_⟩;have hR1:=hR.step RZ;have hS1:=hS.B44 RZ;refine(z08 hP hR1.rd Qd).mono ?_;rintro e1 R8 ⟨W,m,gP,iv,hM,hr,hxp,bT⟩;exact⟨_,_,_,_,_,_,_,_,_,_,gP,zed hR1 hxp bX,λM' R5=>⟨W,m,rfl,iv,((OW.of hM bX).step R5).own.mono hS1.ext.size,((hS1.CZ0 hxp).B44 R5).ext⟩⟩
end
section
variable {bs:List Nat}{w:Wo}{p q:MG}
theorem zhv{B:Ve}(h1:zm9 bs w p.lO B.locals)(h2:zv3 bs w p.dO B.Ry)(h3:zm9 bs w q.lO B.locals)(h4:zv3 bs w q.dO B.Ry)(hl:B.Ry.length=B.locals.length)(h8:B.locals.length<=1000) :
  PX bs Mo #[.agg (Zy B p).toArray,.agg (Zy B q).toArray] w (.bool true):=
 zih B.IX B.RD B.Sl p.lO B.locals.length p.lC p.dO B.Ry.length p.dC B.IX B.RD B.Sl q.lO B.locals.length q.lC q.dO B.Ry.length q.dC λwr hx=>by
  have g1:=(h1.ext hx).less (cs:=[]) Qs;have g2:=(h2.ext hx).less (cs:=[]) Qs;have g3:=(h3.ext hx).less (cs:=[]) Qs;have g4:=(h4.ext hx).less (cs:=[]) Qs;intro b hb b5 hb5;refine⟨λg=>by simp at g,λ_=>YV B.locals.length 0 rfl (λk=>k<=B.locals.length) (Ic _) λk hk=>⟨λIN=>?_,λRx=>rfl⟩⟩;have IN:=Ot IN;refine⟨g1.ix XV Qo IN,_,g1 (k:Int) Qo IN,g3.ix XV Qo IN,_,g3 (k:Int) Qo IN,λ_=>g2.ix Lv Qo Qo,_,λ_=>g2 (k:Int) Qo Qo,λ_=>g4.ix Lv Qo Qo,_,λ_=>g4 (k:Int) Qo Qo,λg=>by simp at g,λ_=>⟨⟨Qo,Qo⟩,Qu Qo Qo⟩⟩
end
theorem zw8:zbr Tryz.prog Zb:=⟨Qk,Qk,Qk⟩
theorem z3a(a b:KI):DO Tryz.prog (Tryz.prog.fieldsOf Zb).toList 0 (Ge a) (Ge b)=some ((a.up==b.up)&&((a.cur==b.cur)&&((a.WQ==b.WQ)&&((a.busy==b.busy)&&((a.idle==b.idle)&&true))))):=Qk
theorem zqc:zbr Tryz.prog ZD:=⟨Qk,Qk,Qk⟩
theorem zw4(a b:LR):DO Tryz.prog (Tryz.prog.fieldsOf ZD).toList 0 (Po a) (Po b)=some ((a.floor==b.floor)&&((a.on==b.on)&&((a.v==b.v)&&((a.w==b.w)&&((a.sum==b.sum)&&true))))):=Qk
section
variable {bs:List Nat}{w:Wo}{p q:MG}{W:Q8}{m n:MW}
theorem zd5{G:ZX}(h1:zm9 bs w p.lO G.IP.locals)(h2:zv3 bs w p.dO G.IP.Ry)(h5:zna bs w p.sO G.IF)(h3:zm9 bs w q.lO G.IP.locals)(h4:zv3 bs w q.dO G.IP.Ry)(h6:zna bs w q.sO G.IF)(hl:G.IP.Ry.length=G.IP.locals.length)(h8:G.IP.locals.length<=1000)(h9:G.IF.length<=1000) :
  PX bs Pr #[.agg (YJ G p).toArray,.agg (YJ G q).toArray] w (.bool true):=
 zez G.used G.parent G.name G.weight G.IE G.period G.next G.sum G.IP.IX G.IP.RD G.IP.Sl p.lO G.IP.locals.length p.lC p.dO G.IP.Ry.length p.dC p.sO G.IF.length p.sC G.used G.parent G.name G.weight G.IE G.period G.next G.sum G.IP.IX G.IP.RD G.IP.Sl q.lO G.IP.locals.length q.lC q.dO G.IP.Ry.length q.dC q.sO G.IF.length q.sC λwr hx=>by
  have g1:=(h1.ext hx).less (cs:=[]) Qs;have g2:=(h2.ext hx).less (cs:=[]) Qs;have g3:=(h3.ext hx).less (cs:=[]) Qs;have g4:=(h4.ext hx).less (cs:=[]) Qs;have g5:=(h5.ext hx).less (cs:=[]) Qs;have g6:=(h6.ext hx).less (cs:=[]) Qs;have e:Zv G.name G.name=true:=U8.2 rfl;intro b hb b5 hb5;refine⟨true,λ_=>zhv g1 g2 g3 g4 hl h8,λg=>?_,λ_=>YV G.IF.length 0 rfl (λk=>k<=G.IF.length) (Ic _) λk hk=>⟨λIN=>?_,λRx=>rfl⟩⟩
  ·rw[e] at g;simp at g
  ·have IN:=Ot IN;refine⟨g5.ix X0 Qo IN,_,_,_,_,_,g5 (k:Int) Qo IN,g6.ix X0 Qo IN,_,_,_,_,_,g6 (k:Int) Qo IN,_,λwq=>F0 zqc (zw4 _ _) _ _ wq,λg=>?_,λ_=>⟨⟨Qo,Qo⟩,Qu Qo Qo⟩⟩;simp at g
structure z5s (W:Q8):Prop where
 c:W.IE.length<=1000
 t:W.tasks.length<=1000
 g:W.ID.length<=1000
 e:∀i:Int,0<=i->i<(W.ID.length:Int)->(gi W.ID i).IP.Ry.length=(gi W.ID i).IP.locals.length/\(gi W.ID i).IP.locals.length<=1000/\(gi W.ID i).IF.length<=1000
theorem z26(ha:WA W):z5s W:=⟨by have:=ha.c2; omega,by have:=ha.t; omega,by have:=ha.gl; omega,λi a b=>by
 have h:=KM ha a (by have:=ha.gl; omega);exact⟨h.1,Qo,Qo⟩⟩
theorem zhx(h:XE bs w W m)(k:XE bs w W n)(hE:z5s W):PX bs Mr #[.agg (Qb W m).toArray,.agg (Qb W n).toArray] w (.bool true):=
 zij _ _ _ _ _ _ _ _ _ _ W.now n.cO W.IE.length n.cC n.tO W.tasks.length n.tC n.gO W.ID.length n.gC λwr hx=>by
  have h:=(h.ext hx).less (cs:=[]) Qs;have k:=(k.ext hx).less (cs:=[]) Qs;have c1:=hE.c;have c2:=hE.t;have c3:=hE.g;intro b hb b5 hb5;refine⟨λg=>by simp at g,λ_=>YV W.IE.length 0 rfl (λk=>k<=W.IE.length) (Ic _) λj hj=>⟨λIN=>?_,λRx=>YV W.tasks.length 0 rfl (λk=>k<=W.tasks.length) (Ic _) λj2 hj2=>⟨λIN=>?_,λaN=>YV W.ID.length 0 rfl (λk=>k<=W.ID.length) (Ic _) λj3 hj3=>⟨λIN=>?_,λBX0=>rfl⟩⟩⟩⟩
  ·have IN:=Ot IN;refine⟨h.c.ix Y6 Qo IN,_,_,_,_,_,h.c (j:Int) Qo IN,k.c.ix Y6 Qo IN,_,_,_,_,_,k.c (j:Int) Qo IN,_,λwq=>F0 zw8 (z3a _ _) _ _ wq,λg=>?_,λ_=>⟨⟨Qo,Qo⟩,Qu Qo Qo⟩⟩;simp at g
  ·have IN:=Ot IN;refine⟨h.t.ix QF Qo IN,_,_,_,_,_,_,_,_,_,h.t (j2:Int) Qo IN,k.t.ix QF Qo IN,_,_,_,_,_,_,_,_,_,k.t (j2:Int) Qo IN,_,λwq=>F0 NJ (zlp _ _) _ _ wq,λg=>?_,λ_=>⟨⟨Qo,Qo⟩,Qu Qo Qo⟩⟩;simp at g
  ·have IN:=Ot IN;have j0:(0:Int)<=(j3:Int):=Qo;have he:=hE.e (j3:Int) j0 IN;refine⟨h.g.ix j0 IN,_,_,_,_,_,_,_,_,_,_,_,_,_,_,_,_,_,_,_,_,h.g.cells (j3:Int) j0 IN,k.g.ix j0 IN,_,_,_,_,_,_,_,_,_,_,_,_,_,_,_,_,_,_,_,_,k.g.cells (j3:Int) j0 IN,true,zd5 (h.g.locals _ j0 IN) (h.g.Ry _ j0 IN) (h.g.IF _ j0 IN) (k.g.locals _ j0 IN) (k.g.Ry _ j0 IN) (k.g.IF _ j0 IN) he.1 he.2.1 he.2.2,λg=>by simp at g,λ_=>⟨⟨Qo,Qo⟩,Qu Qo Qo⟩⟩
end
section
open Go.RowKit Go.ChangeShapes
theorem z12:Tryz.prog.underlying Pg=some (.int .u8):=Qk
theorem u_sl_uint8:Tryz.prog.underlying ty_sl_uint8=some (.slice Pg):=Qk
theorem zz8:Tryz.prog.cellsOf Pg=1:=Qk
theorem op_bytes{H:Type}{en:TypeId×Va->H}{w:Wo}{base:Nat}{spare:Nat->Bool}{held:Bool}{fuel:Nat}{cs:List Va}{x:DataW H×List MemPlace}(h:DataW.trod en Tryz.prog w base spare held fuel ty_sl_uint8 cs=some x) :
  ∃(o:OA) (cap L:Nat),cs=[.slice o L cap]/\DJ o L w/\L<=cap:=by
 obtain⟨o,len,cap,rfl,h1,_,h3⟩:=zzj u_sl_uint8 h;refine⟨o,cap,len,rfl,λi hi=>?_,h1⟩;obtain⟨a,n,y,ec,ho,hc,ht⟩:=h3 i hi;rw[zz8,Nat.mul_one] at hc;obtain⟨v,rfl,_,hw⟩:=DataW.trod_int z12 ht;have hv:0<=v/\v<=255:=by simpa[Lit.wf,IntKind.min,IntKind.max,IntKind.signed,IntKind.bits] using hw
 obtain⟨_,_,Ss⟩:=World.cells?_some hc;have:=Ss 0 Qd;rw[Uv,Nat.add_zero] at this;exact⟨a,v,ho,hv.1,hv.2,this⟩
end
theorem XE.sc{bs:List Nat}{w0 w1:Wo}{W:Q8}{m:MW}(h:XE [] w0 W m)(s:Sc w0 bs w1):XE bs w1 W m:=(h.wide (cs:=bs) λx hm=>.inr (s.new x hm)).ext s.ext.of_nil
theorem XE.sc0{bs:List Nat}{w0 w1:Wo}{W:Q8}{m:MW}(h:XE [] w0 W m)(s:Sc w0 bs w1):XE [] w1 W m:=(h.sc s).less Qs
theorem z48{x n:Int}(h0:0<=x)(h1:0<n):0<=Int.tmod x n/\Int.tmod x n<n:=⟨Int.tmod_nonneg _ h0,Int.tmod_lt_of_pos _ h1⟩
def zzx(bs:List Nat)(w:Wo)(c:OA)(L:Nat)(f:Nat->Int):Prop:=∀i:Nat,i<L->0<=f i/\f i<=255/\JA bs w c i (.int .u8 (f i))
def bD(L:Nat)(f:Nat->Int)(i:Int):Int:=if i<(L:Int) then f i.toNat else Int.tmod (i*37) 251
section
variable {bs cs:List Nat}{w w':Wo}{c:OA}{L C:Nat}{f:Nat->Int}{i:Int}
theorem z2y(h:DJ c L w):∃f:Nat->Int,zzx [] w c L f:=by
 have h1:∀i:Nat,∃x:Int,i<L->0<=x/\x<=255/\JA [] w c i (.int .u8 x):=λi=>by
  by_cases hi:i<L
  ·obtain⟨a,x,ha,h1,h2,h3⟩:=h i hi;exact⟨x,λ_=>⟨h1,h2,a,ha,Qs,h3⟩⟩
  ·exact⟨0,λh=>Ir h hi⟩
 exact⟨λi=>(h1 i).choose,λi hi=>(h1 i).choose_spec hi⟩
theorem zzx.ext(h:zzx bs w c L f)(hx:Q0 bs w w'):zzx bs w' c L f:=λi hi=>⟨(h i hi).1,(h i hi).2.1,(h i hi).2.2.ext hx⟩
theorem zzx.less(h:zzx bs w c L f)(hs:∀x∈cs,x∈bs):zzx cs w c L f:=λi hi=>by
 obtain⟨h1,h2,a,ha,hb,h3⟩:=h i hi;exact⟨h1,h2,a,ha,λhm=>hb (hs _ hm),h3⟩
theorem z4k(h:zzx bs w c L f)(i0:0<=i):0<=bD L f i/\bD L f i<=255:=by
 unfold bD;split
 ·exact⟨(h i.toNat Qo).1,(h i.toNat Qo).2.1⟩
 ·exact⟨Int.tmod_nonneg _ Qo,by have:=Int.tmod_lt_of_pos (i*37) (show (0:Int)<251 by decide); omega⟩
theorem zhw(h:zzx bs w c L f)(i0:0<=i)(i1:i<=1000):PX bs Mq #[.slice c L C,I i] w (I (bD L f i)):=
 zii c L C i λwr hx=>by
  have h:=(h.ext hx).less (cs:=[]) Qs;refine⟨λIN=>?_,λRx=>⟨⟨Qo,Qo⟩,Qd,?_⟩⟩
  ·have IN:=Ot IN;obtain⟨h1,h2,h3⟩:=h i.toNat Qo;refine⟨⟨i0,IN,?_⟩,f i.toNat,YZ (by rw[Nat.mul_one]; exact h3),⟨Qo,Qo⟩,?_⟩
   ·obtain⟨a,ha,_⟩:=h3;rw[ha]; rfl
   ·show _=_;unfold bD;rw[C' IN]
  ·have Rx:=Ou Rx;show _=_;unfold bD;rw[B' Rx]
end
noncomputable def z5i(W:Q8)(t:Int):Int:=if QD W=true/\ZB W t=true then Qx W (Q7 W t).group (Q7 W t).mask else 0
theorem YI.gu{W:Q8}(wp:YI W){t:Int}(h:ZB W t=true):Q6 W.ID (Q7 W t).group=true:=by
 obtain⟨t0,t1,tn⟩:=Yv h;have eM:=wp.a.t;rcases wp.t t t0 Qo with hz | ⟨_,hx⟩
 ·exact Ir (by rw[hz.2]; rfl) tn
 ·exact hx.g
section
variable {W:Q8}{m:MW}{w:Wo}{bs:List Nat}
theorem A1{t:Int}(h:XE bs w W m)(hl:Ua W):PX bs TM #[.agg (Qb W m).toArray,I t] w (I (z5i W t)):=
 Ao _ _ _ _ _ _ _ _ _ _ t λwr hx=>by
  have h:=(h.ext hx).less (cs:=[]) Qs;intro _ _;refine⟨_,YC h hl.c hl.t hl.g hl.f,_,λ_=>Xx h hl.t,λq=>?_,λq=>?_⟩
  ·unfold z5i;rw[B'];rintro⟨h1,h2⟩;rw[h1,h2] at q; cases q
  ·simp only[H',I6] at q;have wp:=Qj.1 q.1;obtain⟨t0,t1,_⟩:=Yv q.2;refine⟨h.t.ix QF t0 t1,_,h.t.f t0 t1 (j:=1) rfl,h.t.ix QF t0 t1,_,h.t.f t0 t1 (j:=4) rfl,_,XI h wp.a.c2 wp.a.tree (wp.gu q.2),?_⟩;unfold z5i;rw[C' q]; rfl
end
theorem zdn{α:Type}[Inhabited α](l:List α)(k i:Int)(x:α):(gi (l.set k.toNat x) i=x/\gi l i=gi l k)\/gi (l.set k.toNat x) i=gi l i:=by
 unfold gi;simp only[List.getD_eq_getElem?_getD,List.getElem?_set]
 by_cases e:k.toNat=i.toNat
 ·rw[C' e,e]
  by_cases h:i.toNat<l.length
  ·rw[C' h]; exact .inl ⟨rfl,rfl⟩
  ·rw[B' h,Iw Qo]; exact .inr rfl
 ·rw[B' e]; exact .inr rfl
structure Dl (W W':Q8):Prop where
 d:∀g c:Int,Yx W' g c=true->Yx W g c=true
 k:∀c:Int,(gi W'.IE c).cur=(gi W.IE c).cur\/(gi W'.IE c).cur = -1
theorem Dl.refl(W:Q8):Dl W W:=⟨λ_ _ h=>h,λ_=>.inl rfl⟩
theorem Dl.trans{A B C:Q8}(h:Dl A B)(k:Dl B C):Dl A C:=⟨λg c q=>h.d g c (k.d g c q),λc=>by
 rcases k.k c with e | e
 ·rw[e]; exact h.k c
 ·exact .inr e⟩
theorem z4m(W:Q8){g:Int}{x:ZX}(h:x.IP=(gi W.ID g).IP):Dl W (Rn W g x):=⟨λi c q=>by
 unfold Yx at q ⊢
 rwa[show (gi (Rn W g x).ID i).IP=(gi W.ID i).IP from YT (f:=ZX.IP) W.ID g h i] at q,λ_=>.inl rfl⟩
theorem zr8(W:Q8)(g c:Int)(s:LR):Dl W (Rv W g c s):=z4m W rfl
theorem z2c(W:Q8)(t:Int)(x:Lm):Dl W (IU W t x):=⟨λ_ _ h=>h,λ_=>.inl rfl⟩
theorem zp3(W:Q8)(c:Int):Dl W (Rz W c):=⟨λ_ _ h=>h,λd=>by
 rcases zdn W.IE c d (XT (gi W.IE c)) with ⟨e,_⟩ | e
 ·refine .inr ?_;show (gi (W.IE.set c.toNat (XT (gi W.IE c))) d).cur = -1;rw[e]; rfl
 ·refine .inl ?_;show (gi (W.IE.set c.toNat (XT (gi W.IE c))) d).cur=_;rw[e]⟩
theorem z0o(n:Nat)(d:Int):gi (List.replicate n false) d=false:=by
 unfold gi;simp only[List.getD_eq_getElem?_getD,List.getElem?_replicate]
 split <;> rfl
theorem z0d(W:Q8)(k c:Int):Dl W (RL W k (Yo (gi W.ID k).IP c)):=⟨λi d q=>by
 unfold Yx at q ⊢;rcases zdn W.ID k i { gi W.ID k with IP:=Yo (gi W.ID k).IP c } with ⟨e,e2⟩ | e
 ·rw[show gi (RL W k (Yo (gi W.ID k).IP c)).ID i=_ from e] at q;rw[e2];simp only[Yo,A'] at q ⊢;refine⟨q.1,?_⟩;have q2:=q.2
  split at q2
  ·rw[z0o] at q2; cases q2
  ·exact q2
 ·rwa[show gi (RL W k (Yo (gi W.ID k).IP c)).ID i=_ from e] at q,λ_=>.inl rfl⟩
theorem zcy(W:Q8)(c d:Int):∀k:Nat,Dl W (Zk W c d k)
 | 0=>Dl.refl _
 | k+1=>by
  simp only[Zk];split
  ·exact(zcy W c d k).trans (zr8 _ _ _ _)
  ·exact zcy W c d k
theorem Nu(W:Q8)(c:Int):∀j:Nat,Dl W (X4 W c j)
 | 0=>Dl.refl _
 | j+1=>(Nu W c j).trans (zcy _ _ _ _)
theorem zjg(W:Q8):∀c:Nat,Dl W (ZU W c)
 | 0=>Dl.refl _
 | c+1=>(zjg W c).trans (Nu (ZU W c) (c:Int) 3)
theorem zcw(W:Q8)(k:Int):∀c:Nat,Dl W (ZJ W k c)
 | 0=>Dl.refl _
 | c+1=>by
  simp only[ZJ];split
  ·exact(zcw W k c).trans (z0d _ _ _)
  ·exact zcw W k c
theorem zcx(W:Q8):∀k:Nat,Dl W (Yd W k)
 | 0=>Dl.refl _
 | k+1=>by
  simp only[Yd];split
  ·exact(zcx W k).trans (zcw _ _ _)
  ·exact zcx W k
theorem Nt(W:Q8)(c:Int):∀k:Nat,Dl W (QN W c k)
 | 0=>Dl.refl _
 | k+1=>by
  simp only[QN];split
  ·exact(Nt W c k).trans (zr8 _ _ _ _)
  ·exact Nt W c k
theorem zww(W:Q8)(c:Int):Dl W (UP W c):=by
 have h:=(Nu W c 3).trans (Nt (QI W c) c 8);unfold UP;split
 ·exact h.trans (zp3 _ _)
 ·exact h
theorem znl(W:Q8):∀c:Nat,Dl W (XM W c)
 | 0=>Dl.refl _
 | c+1=>(znl W c).trans (zww (XM W c) (c:Int))
theorem zjh(W:Q8):Dl W (Qg W):=((zjg W W.IE.length).trans (zcx (ZU W W.IE.length) 8)).trans (znl (KT (ZU W W.IE.length)) W.IE.length)
theorem z22(W:Q8)(g c x:Int):Dl W (O3 W g c x):=by
 unfold O3;split
 ·exact Dl.refl _
 ·split
  ·exact(zr8 _ _ _ _).trans (zp3 _ _)
  ·exact zr8 _ _ _ _
theorem zlc(W:Q8)(c:Int):∀k:Nat,Dl W (Vg W c k)
 | 0=>Dl.refl _
 | k+1=>by
  simp only[Vg];split
  ·exact(zlc W c k).trans (z22 _ _ _ _)
  ·exact zlc W c k
theorem z21(W:Q8)(t g c:Int):Dl W (XW W t g c):=by
 unfold XW;split
 ·exact(z2c W t _).trans (zp3 _ c)
 ·exact z2c W t _
theorem z0c(W:Q8)(c:Int):Dl W (YM W c):=(zlc W c 8).trans (zjh _)
theorem zwp{W:Q8}(ha:WA W){c:Int}(hd:∀k:Int,Q6 W.ID k=true->k≠0->Vp W c k){g:Int}(hu:Q6 W.ID g=true) :
  (∀x∈QP W.ID g,Yx W x c=false)->QJ W g c=true->∀x∈QP W.ID g,(Qa W x c).on=true:=by
 refine Pf ha.tree (Q:=λg=>(∀x∈QP W.ID g,Yx W x c=false)->QJ W g c=true->∀x∈QP W.ID g,(Qa W x c).on=true) (λ_ _ x hx=>?_) (λh hu hz ih tY AF3=>?_) g hu
 ·rw[show QP W.ID 0=[] from Zi _ _] at hx; cases hx
 ·rw[Yt ha.tree hu hz] at tY ⊢
  have hon:(Qa W h c).on=true:=by
   have:=hd h hu hz;unfold Vp at this;rw[this,AF3,tY h I9]; rfl
  obtain⟨u0,u1,u2⟩:=Q4.1 hu
  have hpa:QJ W (gi W.ID h).parent c=true:=by
   unfold QJ;rw[Iu];refine .inr (Pk.2 ⟨h.toNat,Qo,?_⟩);unfold Jd;rw[show ((h.toNat:Nat):Int)=h by omega,u2,hon,Ih (show 1<=h.toNat by omega)];simp
  intro x hx;rcases Ii.1 hx with e | e
  ·rw[e]; exact hon
  ·exact ih (λy hy=>tY y (I1 _ hy)) hpa x e
theorem zsm{W:Q8}(wp:YI W){t:Int}(t0:0<=t)(t1:t<12)(hs:(Q7 W t).state=1)(tY:∀x∈QP W.ID (Q7 W t).group,Yx W x (Q7 W t).IZ=false):Z3 W t=true:=by
 have ha:=wp.a;have eM:=ha.t;obtain⟨hu,c0,c1⟩:=wp.li t0 Qo hs
 have AF3:QJ W (Q7 W t).group (Q7 W t).IZ=true:=by
  unfold QJ;rw[Iu];refine .inl (Pk.2 ⟨t.toNat,Qo,?_⟩);unfold Od;rw[show ((t.toNat:Nat):Int)=t by omega,show (gi W.tasks t).state=1 from hs];simp[Q7]
 unfold Z3 Vb;rw[hs];simp only[beq_self_eq_true,Bool.true_and];exact List.all_eq_true.2 (zwp ha (zwx wp c0 c1).on hu tY AF3)
theorem Bl{W:Q8}(wp:YI W){t:Int}(t0:0<=t)(t1:t<12)(h:Z3 W t=true):(Q7 W t).state=1/\∀x∈QP W.ID (Q7 W t).group,Yx W x (Q7 W t).IZ=false:=by
 have eM:=wp.a.t;unfold Z3 at h;simp only[A',Is] at h;obtain⟨hs,hl⟩:=h;obtain⟨hu,c0,c1⟩:=wp.li t0 Qo hs;refine⟨hs,λx hx=>?_⟩;have hon:=List.all_eq_true.1 hl x hx;obtain⟨hup,hz⟩:=YQ wp.a.tree _ hu x hx;have:=(zwx wp c0 c1).on x hup hz;unfold Vp at this;rw[hon] at this;have:=this.symm;simp only[A',IC] at this;exact this.2
theorem zlf{W:Q8}{g c:Int}:Lu W g c=false↔(∀x∈QP W.ID g,Yx W x c=false)/\Yx W 0 c=false:=by
 unfold Lu AV;rw[List.any_append,H',List.any_eq_false];simp
theorem zno{W:Q8}(ha:WA W)(c:Int):Yx W 0 c=false:=by
 unfold Yx;rw[((ha.u ha.root).2.2.root rfl).2.2]; rfl
theorem z30:∀(n:Fin 5) (c b:Fin 4),2<=n.val->c.val<n.val->b.val<n.val->QZ (Gn (n.val:Int) (c.val:Int) (L3 (n.val:Int)-1)) (b.val:Int)=true:=by decide +kernel
theorem zjc{W:Q8}{c m:Int}:∀(k b:Nat),b<k->(QZ m (b:Int)&&Pl W (b:Int) c)=true->0<=Ur W c m k
 | 0,_,h,_=>by omega
 | k+1,b,h,hp=>by
  by_cases hq:((QZ m (k:Int)&&Pl W (k:Int) c)&&(decide (Ur W c m k<0)||zvw W (k:Int) (Ur W c m k)))=true
  ·rw[Gw hq]; omega
  ·rw[K9 hq]
   by_cases e:b=k
   ·subst e;rw[hp,Bool.true_and,Iu,Ij] at hq;omega
   ·exact zjc k b Qo hp
theorem znf{W:Q8}{c m:Int}:∀k:Nat,0<=Ur W c m k->Pl W (Ur W c m k) c=true
 | 0,h=>by have:(0:Int)<=-1:=h; omega
 | k+1,h=>by
  by_cases hq:((QZ m (k:Int)&&Pl W (k:Int) c)&&(decide (Ur W c m k<0)||zvw W (k:Int) (Ur W c m k)))=true
  ·rw[Gw hq];simp only[A'] at hq;exact hq.1.2
  ·rw[K9 hq] at h ⊢;exact znf k h
theorem zdg{W:Q8}{b c:Int}:∀(f j i:Nat),j<=i->i<j+f->Gm W b c i=true->0<=JT W b c f j
 | 0,j,i,h1,h2,_=>by omega
 | f+1,j,i,h1,h2,hp=>by
  simp only[JT];split
  ·omega
  ·rename_i hn
   by_cases e:j=i
   ·exact Ir (e▸hp) hn
   ·exact zdg f (j+1) i Qo Qo hp
theorem zw6{W:Q8}{b c:Int}(h:Pl W b c=true)(h0:Uo W c=0):0<=JT W b c 12 0:=by
 obtain⟨t,ht,hp⟩:=Pk.1 h;refine zdg 12 0 t (Ic _) Qo ?_;unfold Gm zw7;rw[hp,h0];rfl
theorem zs2{W:Q8}{c:Int}(h0:Uo W c=0):∀(f k j:Nat),k<=j->j<k+f->0<=Y2 W c (j:Int)->0<=zi1 W c f k
 | 0,k,j,h1,h2,_=>by omega
 | f+1,k,j,h1,h2,hb=>by
  by_cases hn:Y2 W c (k:Int)<0
  ·rw[BC hn];refine zs2 h0 f (k+1) j ?_ Qo hb
   by_cases e:k=j
   ·subst e; omega
   ·omega
  ·have hf:=zw6 (znf _ (show 0<=Ur W c (Gn (W.IE.length:Int) c (k:Int)) W.IE.length by unfold Y2 at hn; omega)) h0;have hf:0<=JT W (Y2 W c (k:Int)) c 12 0:=hf;rw[BD hn Qo];exact hf
theorem zyr{W:Q8}(wp:YI W){c:Int}(c0:0<=c)(c1:c<(W.IE.length:Int))(h0:Uo W c=0){t:Nat}(ht:t<12)(h:Zw W (t:Int) c=true):0<=U0 W c:=by
 have hl:=wp.a.t;have hc2:=wp.a.c2;have hc:=GA h;obtain⟨_,b0,b1⟩:=wp.li Qo Qo hc.1
 have Bh4:Pl W (Q7 W (t:Int)).IZ c=true:=by
  unfold Pl;refine Pk.2 ⟨t,ht,?_⟩;rw[h]; simp
 have bT:=hc.2;have hm:=z30 ⟨W.IE.length,Qo⟩ ⟨c.toNat,Qo⟩ ⟨(Q7 W (t:Int)).IZ.toNat,Qo⟩ (by show 2<=W.IE.length; omega) (by show c.toNat<W.IE.length; omega) (by show (Q7 W (t:Int)).IZ.toNat<W.IE.length; omega);simp only[show ((c.toNat:Nat):Int)=c by omega,show (((Q7 W (t:Int)).IZ.toNat:Nat):Int)=(Q7 W (t:Int)).IZ by omega] at hm
 have hlv:1<=L3 (W.IE.length:Int):=by
  rcases zju (Qv.2 (show 1<=(W.IE.length:Int)/\(W.IE.length:Int)<=4 by omega)) with ⟨a,b⟩ | ⟨a,b⟩ | ⟨a,b⟩ | ⟨a,b⟩ <;> omega
 unfold U0;refine zs2 h0 _ 0 (L3 (W.IE.length:Int)-1).toNat (Ic _) Qo ?_;unfold Y2;rw[show (((L3 (W.IE.length:Int)-1).toNat:Nat):Int)=L3 (W.IE.length:Int)-1 by omega];refine zjc _ (Q7 W (t:Int)).IZ.toNat Qo ?_;rw[show (((Q7 W (t:Int)).IZ.toNat:Nat):Int)=(Q7 W (t:Int)).IZ by omega,hm,Bh4]; rfl
theorem zti{f:Nat->Int}(h:∀j,0<=f j):∀{k j:Nat},j<k->f j<=X9 f k
 | k+1,j,hj=>by
  simp only[X9]
  by_cases e:j=k
  ·subst e;have:=zmy h j;omega
  ·have:=zti h (k:=k) (j:=j) Qo;have:=h k;omega
theorem zus{W:Q8}(wp:YI W){t c:Int}(t0:0<=t)(t1:t<12)(hc:(Q7 W t).IZ=c)(hl:Z3 W t=true):0<Uo W c:=by
 have eM:=wp.a.t;have hs:=(Bl wp t0 t1 hl).1
 have hw:0<Qe (Q7 W t).nice:=by
  rcases wp.t t t0 t1 with hz | ⟨_,hx⟩
  ·rw[hz.1] at hs; cases hs
  ·have:=hx.n;have:=(Ym (Q7 W t).nice).1;omega
 have e:H1 W c t.toNat=Qe (Q7 W t).nice:=by
  have:=z1b (W:=W) (c:=c) (k:=t.toNat) (by rw[show ((t.toNat:Nat):Int)=t by omega,hl,hc]; simp)
  rwa[show ((t.toNat:Nat):Int)=t by omega] at this
 have:=zti (f:=H1 W c) (λj=>(H2 W c j).1) (k:=W.tasks.length) (j:=t.toNat) Qo;unfold Uo;omega
theorem zvm{V X:Q8}{p g c K:Int}(hX:X=Qg (XW V p g c))(hg0:g=(Q7 V p).group)(wV:YI V)(p0:0<=p)(p1:p<12)(ps:(Q7 V p).state=1)(sw:SW K (XW V p g c))(hK:0<=K)(hdp:Lu V g c=false)(wX:YI X):0<Uo X c:=by
 have eM:=wV.a.t;have fr:=(UN sw hK).2;rw[<-hX] at fr;have dX:Dl V X:=by rw[hX]; exact(z21 _ _ _ _).trans (zjh _)
 have e2:Q7 (IU V p (T6 V p g c)) p=T6 V p g c:=(QM _ _ p0 Qo p0).trans (C' rfl)
 have e3:Q7 (XW V p g c) p=T6 V p g c:=by
  unfold XW;split
  ·exact e2
  ·exact e2
 have eP:Q7 X p=T6 V p g c:=(Jf fr.t p).trans e3;have hg:(XW V p g c).ID=V.ID:=by unfold XW; split <;> rfl
 have CS2:QP X.ID g=QP V.ID g:=by
  have:=fr.g.path 3 g;rw[hg] at this;exact this
 have es:(Q7 X p).state=1:=by rw[eP]; exact ps
 have eg:(Q7 X p).group=g:=by rw[eP]; rfl
 have ec:(Q7 X p).IZ=c:=by rw[eP]; rfl
 refine zus wX p0 p1 ec (zsm wX p0 p1 es λx hx=>?_);rw[eg,CS2] at hx;rw[ec]
 cases hq:Yx X x c with
 | false=>rfl
 | true=>
  have:=dX.d _ _ hq;rw[(zlf.1 hdp).1 x hx] at this;cases this
theorem zxh{W:Q8}{c t:Int}(hW:QD W=true)(hb:P5 W c=0)(t0:0<=t)(t1:t<12)(h:Zw W t c=true):0<Uo (Th W c) c:=by
 have wp:=Qj.1 hW;obtain⟨c0,c1,hB,wV,sV,fV⟩:=HA hW hb;have dV:=z0c W c;have eT:∀i:Int,Q7 (YM W c) i=Q7 W i:=λi=>by unfold Q7; rw[fV.t]
 have c1V:c<((YM W c).IE.length:Int):=by rw[fV.c]; exact c1
 by_cases hp:Jh W c<0
 ·have hx:Th W c=YM W c:=C' hp;rw[hx];have hr:=MJ wV c;refine Iq λhn=>?_
  have h0:Uo (YM W c) c=0:=Qo
  have hcd:Zw (YM W c) (((t.toNat:Nat):Int)) c=true:=by
   rw[show ((t.toNat:Nat):Int)=t by omega];unfold Zw at h ⊢;simp only[A',IC,H',bne_eq_false_iff_eq,beq_eq_false_iff_ne,I6] at h ⊢;obtain⟨⟨⟨⟨⟨h1,h2⟩,h3⟩,h4⟩,h5⟩,h6⟩:=h;obtain⟨_,tY⟩:=Bl wp t0 t1 h4;have Cv9:O5 W (YM W c):=hB.sta.trans (zfu _);refine⟨⟨⟨⟨⟨by rw[eT]; exact h1,by rw[eT]; exact h2⟩,?_⟩,?_⟩,?_⟩,?_⟩
   ·rw[eT];rcases dV.k (Q7 W t).IZ with e | e
    ·rw[e]; exact h3
    ·rw[e]; omega
   ·refine zsm wV t0 t1 (by rw[eT]; exact h1) λx hx=>?_
    rw[eT] at hx ⊢;rw[show QP (YM W c).ID (Q7 W t).group=QP W.ID (Q7 W t).group from fV.g.path 3 _] at hx
    cases hq:Yx (YM W c) x (Q7 W t).IZ with
    | false=>rfl
    | true=>
     have:=dV.d _ _ hq;rw[tY x hx] at this;cases this
   ·rw[eT,Cv9.wh]; exact h5
   ·rw[eT];have h6:=(zlf.1 h6).1;refine zlf.2 ⟨λx hx=>?_,zno wV.a c⟩;rw[show QP (YM W c).ID (Q7 W t).group=QP W.ID (Q7 W t).group from fV.g.path 3 _] at hx
    cases hq:Yx (YM W c) x c with
    | false=>rfl
    | true=>
     have:=dV.d _ _ hq;rw[h6 x hx] at this;cases this
  have:=zyr wV c0 c1V h0 Qo hcd;unfold Jh at hp;omega
 ·obtain⟨p0,p1,ps,pu,sf,sf2⟩:=FG hW hb hp;obtain⟨i,b,hi,i12,htp⟩:=Au (W:=YM W c) (c:=c) hp;have hpi:Jh W c=(i:Int):=hi
  have hcd:Zw (YM W c) (Jh W c) c=true:=by
   unfold Gm at htp;simp only[A'] at htp;rw[hpi]; exact htp.1.2
  have hdp:Lu (YM W c) (Q7 (YM W c) (Jh W c)).group c=false:=by
   unfold Zw at hcd;simp only[A',IC] at hcd;exact hcd.2
  have hx:Th W c=Qg (XW (YM W c) (Jh W c) (Q7 (YM W c) (Jh W c)).group c):=B' hp;exact zvm hx rfl wV p0 p1 ps sf2.w (by simp only[Qi]; decide) hdp (zlx hW hb).wp
section
variable {W:Q8}{m:MW}{w:Wo}{bs:List Nat}
theorem Bb{t:Int}(h:XE bs w W m)(hl:Ua W)(hW:QD W=true):PX bs TL #[.agg (Qb W m).toArray,I t] w (.bool (ZB W t&&Z3 W t)):=
 An _ _ _ _ _ _ _ _ _ _ t λwr hx=>by
  have h:=(h.ext hx).less (cs:=[]) Qs;have wp:=Qj.1 hW;intro b hb;refine⟨_,YC h hl.c hl.t hl.g hl.f,ZB W t,λ_=>Xx h hl.t,Z3 W t,λq=>?_,?_⟩
  ·rw[A'] at q;obtain⟨t0,t1,_⟩:=Yv q.2;exact JZ h wp.a t0 t1 λhs=>wp.li t0 t1 hs
  ·rw[hW]; rfl
theorem A0{g c:Int}(h:XE bs w W m)(hl:Ua W)(hW:QD W=true):PX bs Oo #[.agg (Qb W m).toArray,I g,I c] w (.bool ((Q6 W.ID g&&YK W c)&&Yx W g c)):=
 zaq _ _ _ _ _ _ _ _ _ _ g c λwr hx=>by
  have h:=(h.ext hx).less (cs:=[]) Qs;have wp:=Qj.1 hW;have hc:=wp.a.c2;intro b hb;refine⟨_,YC h hl.c hl.t hl.g hl.f,Q6 W.ID g,λ_=>X8 h.g,λ_=>⟨Qo,Qo⟩,YK W c,λ_=>Qm,Yx W g c,λq=>?_,?_⟩
  ·simp only[A'] at q;obtain⟨c0,c1⟩:=US q.2;exact PZ h wp.a q.1.2 c0 c1
  ·rw[hW]; rfl
end
def zru(W:Q8)(c g0:Int)(fr:Bool)(g:Int):Prop:=Q6 W.ID g=true/\(fr=true->(∀x∈QP W.ID g,Yx W x c=false)->∀x∈QP W.ID g0,Yx W x c=false)
theorem zru.step{W:Q8}{c g0 g:Int}{fr d:Bool}(ht:Y8 W.ID)(h:zru W c g0 fr g)(hz:g>0)(hd:d=Yx W g c):zru W c g0 (fr && !d) (gi W.ID g).parent/\(dep 3 W.ID (gi W.ID g).parent).toNat<(dep 3 W.ID g).toNat:=by
 obtain⟨hp,_,_,n,e1,e2,_⟩:=Y3 ht h.1 Qo;refine⟨⟨hp,λh1 h2=>h.2 ?_ λx hx=>?_⟩,Qo⟩
 ·rw[A'] at h1; exact h1.1
 ·rw[Yt ht h.1 Qo] at hx;rcases Ii.1 hx with e | e
  ·subst e;rw[A',IC] at h1;rw[<-hd]; exact h1.2
  ·exact h2 x e
theorem zz5{W:Q8}{c:Int}(hW:QD W=true)(hb:P5 W c=0):(Th W c).IE.length=W.IE.length:=by
 obtain⟨_,_,_,_,_,fr⟩:=HA hW hb;unfold Th;split
 ·exact fr.c
 ·rename_i hp;obtain⟨_,_,_,_,_,sf⟩:=FG hW hb hp;exact((UN sf.w (by simp only[Qi,Ud]; decide)).2.c.trans (zq4 _ _ _ _).2.1).trans fr.c
def z59(W:Q8):Va->Nat
 | .int .i64 g=>(dep 3 W.ID g).toNat
 | _=>0
def z58(W:Q8):List Va->Nat
 | [_,v]=>z59 W v
 | _=>0
theorem k_FnIdle{a b:OA}{La Ca Lb Cb:Nat}{w:Wo}(ha:DJ a La w)(hca:La<=Ca)(hb:DJ b Lb w)(_:Lb<=Cb)(hg:K7 w) :
  Cz GJ #[.slice a La Ca,.slice b Lb Cb] w λe w'=>e=.returned (.bool true)/\Q0 [] w w':=by
 refine(zhf a La Ca b Lb Cb (R:=λv w'=>v=.bool true/\Q0 [] w w') ?_).mono λe w' ⟨v,he,hv,h3⟩=>⟨by rw[he,hv],h3⟩
 obtain⟨f,hf⟩:=z2y hb;refine⟨λ_ wr hx=>⟨rfl,hx⟩,λ_ I' RZ _=>?_⟩;refine(NW z5o (ha.ext RZ) hca).mono ?_;rintro e wv ⟨W,m,he,⟨iv,-⟩,hM,R5⟩;have hX0:Q0 [] w wv:=RZ.trans R5;have r0:XE [] wv W m:=hM.rd Qs;have s0:=Sc.start wv;have hl:=iv.len;have wp:=iv.wp;have hW:QD W=true:=Qj.2 wp;have sS:=wp.a.c1;have eM:=wp.a.t;have hG:∀{bs:List Nat} {w':Wo},Sc wv bs w'->K7 w':=λs=>hg.ext (hX0.trans s.ext)
 have hi0:=z4k hf (show (0:Int)<=0 by decide);obtain⟨c0,c1⟩:=z48 hi0.1 (show (0:Int)<((W.IE.length:Nat):Int) by omega);refine⟨_,_,_,_,_,_,_,_,_,_,he,Ys,λb hb=>⟨bD Lb f 0,zhw (hf.ext hX0) Qo Qo,Qo,?_⟩⟩;generalize Int.tmod (bD Lb f 0) ((W.IE.length:Nat):Int)=c at c0 c1 ⊢;intro M' hxb SR;have s1:=s0.put hxb hb;refine(B4 (c:=c) (r0.sc0 s1) hl (hG s1)).mono ?_;rintro e1 R8 ⟨v,gP,n1,m1,hv,hM1,cP⟩;subst hv;have s2:=s1.R4 cP;have o2:=OW.of hM1 SR;refine⟨_,_,_,_,_,_,_,_,_,_,_,gP,Qf cP SR,λb1 cJ Rr R6 fQ=>?_⟩;have s3:=s2.put R6 cJ;have o3:=o2.put R6 cJ;refine(Kf (c:=c) (r0.sc0 s3) hl).mono ?_;rintro e2 RF ⟨v,aR,n2,m2,hv,Wz,SI⟩;subst hv;have s4:=s3.R4 SI;have o4:=o3.R4 SI;have p4:=OW.of Wz fQ;have rW:=r0.sc s4
 have hX:YI (YY W (P5 W c) (Th W c)).1/\((YY W (P5 W c) (Th W c)).2=0->P5 W c=0/\(YY W (P5 W c) (Th W c)).1=Th W c/\(YY W (P5 W c) (Th W c)).1.IE.length=W.IE.length):=by
  by_cases hb:P5 W c=0
  ·rw[zpp hW hb];have h1:=(zlx hW hb).wp;have h2:=zz5 hW hb;generalize Th W c=X at *;exact⟨h1,λ_=>⟨hb,rfl,h2⟩⟩
  ·rw[zk4 hW hb];exact⟨wp,λe=>Ir e hb⟩
 refine⟨_,_,_,_,_,_,_,_,_,_,_,aR,Qf SI fQ,λb2 bR=>⟨true,λ_=>zhx o4.rd p4.rd (z26 hX.1.a),λq=>by simp at q,λ_=>⟨_,λ_=>zd8 rW hl,λ_ RN Sm=>⟨rfl,hX0.trans (s4.step Sm).ext⟩,λq=>?_⟩⟩⟩;simp only[H',bne_eq_false_iff_eq,decide_eq_false_iff_not] at q;obtain⟨hb0,eX,lX⟩:=hX.2 q.1;have wx:=hX.1;have lx:=zsk wx.a;have law:=λ{t:Int} (t0:0<=t) (t1:t<12) (h:Zw W t c=true)=>zxh hW hb0 t0 t1 h
 rw[<-eX] at law;clear hX eX q he gP aR hM1 Wz s1 s2 s3 o2 o3 p4 R6 SR fQ cP SI hb cJ hxb;generalize (YY W (P5 W c) (Th W c)).1=X at *;refine⟨λvs w2=>∃(k:Nat) (th:Bool),vs=[.bool th,I (k:Int)]/\k<=12/\(th=true->0<Uo X c)/\Sc wv [b,b1,b2] w2/\OW n1 M'.heap.size [b,b1,b2] w2 X m1,Zt 12 1,λwr hx _=>⟨0,false,rfl,Qo,(λh=>by cases h),s4.put hx bR,o4.put hx bR⟩,?_⟩;clear s4 o4 rW bR;rintro th j RU fQ ⟨k,th',he,hk,hth,s,o⟩;simp only[I4,I5,Value.bool.injEq,true_and,and_true] at he;obtain⟨rfl,rfl⟩:=he;have rk:=r0.sc s;refine⟨λIN=>?_,λRx=>⟨_,λ_=>zdv o.rd lx,λSk AF8=>⟨?_,hX0.trans (s.step AF8).ext⟩⟩⟩
 rotate_left
 ·cases th with
  | false=>rfl
  | true=>
   have hld:E0 X c=Uo X c:=C' ⟨Qj.2 wx,Qv.2 Qo⟩;rw[hld,Ih (hth rfl)]; rfl
 have IN:=Ot IN;have k0:(0:Int)<=(k:Int):=Qo
 have hq:∀{x:Bool},((!(ZB W (k:Int)&&Z3 W (k:Int)))||x)=false->ZB W (k:Int)=true/\Z3 W (k:Int)=true/\x=false:=λ{x} h=>by
  cases h1:ZB W (k:Int) <;> cases h2:Z3 W (k:Int) <;> cases x <;> simp_all
 have iW:Z3 W (k:Int)=true->Q6 W.ID (Q7 W (k:Int)).group=true/\0<=(Q7 W (k:Int)).IZ/\(Q7 W (k:Int)).IZ<(W.IE.length:Int):=λh=>wp.li k0 Qo (Bl wp k0 Qo h).1
 refine⟨rk.t.ix QF k0 IN,_,_,_,_,_,_,_,_,_,rk.t (k:Int) k0 IN,λb3 vK=>⟨_,Bb rk hl hW,λq=>rk.c.ix Y6 (iW (hq q).2.1).2.1 (iW (hq q).2.1).2.2,_,λq=>rk.c.f (iW (hq q).2.1).2.1 (iW (hq q).2.1).2.2 (j:=1) rfl,_,λ_=>A1 rk hl,_,λ_=>ZS,λq=>⟨⟨Qo,Qo⟩,λSM eB _=>⟨⟨k+1,th,rfl,Qo,hth,s.step eB,o.step eB⟩,Zd (k:=k) rfl rfl Qo⟩⟩,λq=>?_⟩⟩;rw[Bool.or_assoc,Bool.or_assoc] at q;obtain⟨q1,q2,q3⟩:=hq q;rw[H',H'] at q3;obtain⟨q3,q4,q5⟩:=q3;obtain⟨hu,d0,d1⟩:=iW q2
 have hcd:(∀x∈QP W.ID (Q7 W (k:Int)).group,Yx W x c=false)->Zw W (k:Int) c=true:=λh=>by
  have hs:=(Bl wp k0 Qo q2).1;have hm:z5i W (k:Int)=Qx W (Q7 W (k:Int)).group (Q7 W (k:Int)).mask:=C' ⟨hW,q1⟩;rw[hm] at q5;have q3:((Q7 W (k:Int)).IZ==c)=false:=q3;have q4:((gi W.IE (Q7 W (k:Int)).IZ).cur==(k:Int))=false:=q4;unfold Zw;rw[hs,q3,q4,q2,zlf.2 ⟨h,zno wp.a c⟩];rw[I6] at q5;rw[q5]; rfl
 refine⟨λvs w2=>∃(fr:Bool) (g:Int),vs=[.bool fr,I g]/\zru W c (Q7 W (k:Int)).group fr g/\Sc wv [b,b1,b2,b3] w2/\OW n1 M'.heap.size [b,b1,b2,b3] w2 X m1,λvs _=>z58 W vs,λV' oQ _=>⟨true,_,rfl,⟨hu,λ_ h=>h⟩,s.put oQ vK,o.put oQ vK⟩,?_⟩;clear s o rk fQ;rintro fr g aX eZ ⟨fr',g',he,hF,s,o⟩;simp only[I4,I5,Value.bool.injEq,true_and,and_true] at he;obtain⟨rfl,rfl⟩:=he;have rk:=r0.sc s;obtain⟨g0,g1,_⟩:=Q4.1 hF.1;refine⟨λhgt=>?_,λhle=>⟨⟨Qo,Qo⟩,λSi tD _=>⟨⟨k+1,_,rfl,Qo,λh=>?_,(s.step tD).sub Qs,(o.step tD).sub Qs⟩,Zd (k:=k) rfl rfl Qo⟩⟩⟩
 ·have hgt:=Ot hgt;refine⟨_,λ_=>A0 rk hl hW,rk.g.ix g0 g1,_,rk.g.parent g0 g1,λWS gL _=>?_⟩;obtain⟨h1,h2⟩:=hF.step (d:=(Q6 W.ID g&&YK W c)&&Yx W g c) wp.a.tree hgt (by rw[hF.1,show YK W c=true from Qv.2 Qo]; rfl);exact⟨⟨_,_,rfl,h1,s.step gL,o.step gL⟩,h2⟩
 ·have hle:=Ou hle;have:g=0:=Qo;subst this;rw[Iu] at h;rcases h with h | h
  ·exact hth h
  ·exact law k0 Qo (hcd (hF.2 h λx hx=>by rw[show QP W.ID 0=[] from Zi _ _] at hx; cases hx))
end Go.Proofs.YtnclplgaicdapaaGreatDoor
