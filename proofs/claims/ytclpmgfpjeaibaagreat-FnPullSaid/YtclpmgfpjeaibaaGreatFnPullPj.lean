/- Part 10 of what the law FnPull needs: the engine, the functions' propositions, the contracts. -/
import Derived.Test.YtclpmgfpjeaibaaGreatFnPullPi
namespace Go.Proofs.YtclpmgfpjeaibaaGreat
open Go.RowKit
set_option linter.unusedVariables false
set_option maxRecDepth 100000
set_option maxHeartbeats 1600000
set_option maxHeartbeats 8000000
def EY(c:OA)(n:Int)(w:Wo)(R:RT):= (∀u,w.heap.size<=u->(∃d,PX [] Y8 #[.agg #[.pointer c,I n]] w (I d)/\c.isSome=true/\(∃v t A,Q2 [] w c (0+1) [S v t A]/\(∃o,PX [] Xx #[I (t:Int)] w (I o)/\(∃(k:List Va->Prop) (h:List Va->Nat),k [I 0]/\∀(b:Int),k [I b]->((decide (b<o))=true->(∃f,PX [] JQ #[.agg #[.pointer c,I n],I b] w (I f)/\((decide (f<0))=true->Qj .i64 (b+1)/\k [I (b+1)]/\h [I (b+1)]<h [I b])/\((decide (f<0))=false->(∃s r,PX [] Z0 #[.pointer c,I f] w (.agg #[.pointer s,I r])/\(∃i,PX [] Y8 #[.agg #[.pointer s,I r]] w (I i)/\c.isSome=true/\(∃q j G,Q2 [] w c (0+2) [S q j G]/\(∃(g:List Va->Prop) (l:List Va->Nat),g [I 0]/\∀(a:Int),g [I a]->((decide (a<(j:Int)))=true->Ix q j a/\(∃x z m D y B C H F,Q2 [] w q (Int.toNat a*9) [I x,I z,I m,I D,I y,I B,I C,I H,I F]/\(∀E,w.heap.size<=E->(∃p,((m != f)=false->PX [] Xq #[.agg #[.pointer c,I n],I a] w (.bool p))/\(((m != f)||(!p))=true->Qj .i64 (a+1)/\g [I (a+1)]/\l [I (a+1)]<l [I a])/\(((m != f)||(!p))=false->(∃e,PX [] Xz #[.pointer c,I a] w (I e)/\((d==0)=false->Qj .i64 (d+e))/\((d==0)=false->Qj .i64 (i-e))/\(((d==0)||(decide (d+e<=i-e)))=true->R (.tuple #[I a,.bool true]) w)/\(((d==0)||(decide (d+e<=i-e)))=false->Qj .i64 (a+1)/\g [I (a+1)]/\l [I (a+1)]<l [I a])))))))/\((decide (a<(j:Int)))=false->Qj .i64 (b+1)/\k [I (b+1)]/\h [I (b+1)]<h [I b]))))))))/\((decide (b<o))=false->R (.tuple #[I 0,.bool false]) w))))))
theorem Bb(p0 p1):Yv (EY p0 p1) VK #[.agg #[.pointer p0,.int .i64 p1]]:=pV [] false [(3,⟨[(20,.int .i64)],[],[1,4,19],[],[]⟩),(9,⟨[(39,.int .i64)],[],[1,4,6,7,19,20,37,38],[],[]⟩)] Tryz.func63 (by kernel_rfl) (by kernel_rfl)
def AN(C:Int)(z:OA)(H x:Nat)(D:OA)(G B:Nat)(y:OA)(F E:Nat)(e:Int)(w:Wo)(R:RT):= (∀b a,Q0 [] w a->w.heap.size<=b->a.heap[b]? = some (Obj.cells ([I C,S z H x,S D G B,S y F E]:List Va).toArray Q4 (0,0))->b∉([]:List Nat)->(∃o i j s k n q m p u,Q2 [] a (some (Addr.mk b 0 none)) 0 [I o,S i j s,S k n q,S m p u]/\(∃c,PX [] UM #[Wv o i j s k n q m p u] a (.bool c)/\(∃d,((!c)=false->PX [] YX #[.pointer ((some (Addr.mk b 0 none)).map (·.add 0)),I e] a (.bool d))/\(∃f r A,(((!c)||(!d))=false->Q2 [] a (some (Addr.mk b 0 none)) (0+1) [S f r A])/\(((!c)||(!d))=false->Ix f r e)/\(∃g,(((!c)||(!d))=false->Q2 [] a f (Int.toNat e*5+0) [.bool g])/\((((!c)||(!d))||(!g))=true->(AR [] a R (.tuple #[I 0,.bool false])))/\((((!c)||(!d))||(!g))=false->(∃l h,PX [] Z0 #[.pointer ((some (Addr.mk b 0 none)).map (·.add 0)),I e] a (.agg #[.pointer l,I h])/\(∃v t,PX [] VK #[.agg #[.pointer l,I h]] a (.tuple #[I v,.bool t])/\(AR [] a R (.tuple #[I v,.bool t])))))))))))
theorem Ct(w0 w1O w1L w1C w2O w2L w2C w3O w3L w3C cpu):Ug (AN w0 w1O w1L w1C w2O w2L w2C w3O w3L w3C cpu) Ov #[.agg #[.int .i64 w0,.slice w1O w1L w1C,.slice w2O w2L w2C,.slice w3O w3L w3C],.int .i64 cpu]:=eV [2] false [] Tryz.func24 (by kernel_rfl) (by kernel_rfl)
def zig(n:Int)(e:OA)(b h:Nat)(j:OA)(g k:Nat)(i:OA)(l m:Nat)(c:Int)(w:Wo)(R:RT):= (∀f,w.heap.size<=f->Qj .i64 ((b:Int)-1)/\(∃a,PX [] Qf #[I c,I 0,I ((b:Int)-1)] w (.bool a)/\(a=true->Ix e b c)/\(∃d,(a=true->Q2 [] w e (Int.toNat c*5+0) [.bool d])/\R (.bool (a&&d)) w)))
theorem zjs(w0 w1O w1L w1C w2O w2L w2C w3O w3L w3C c):Yv (zig w0 w1O w1L w1C w2O w2L w2C w3O w3L w3C c) Kb #[.agg #[.int .i64 w0,.slice w1O w1L w1C,.slice w2O w2L w2C,.slice w3O w3L w3C],.int .i64 c]:=pV [] false [] Tryz.func64 (by kernel_rfl) (by kernel_rfl)
def AU(m:Int)(g:OA)(f e:Nat)(i:OA)(c j:Nat)(h:OA)(k l:Nat)(n:Int)(w:Wo)(R:RT):= (∀o,w.heap.size<=o->(∃a,PX [] ZC #[Wv m g f e i c j h k l] w (.bool a)/\(∃d,((!a)=false->PX [] Kb #[Wv m g f e i c j h k l,I n] w (.bool d))/\(((!a)||(!d))=true->R (.tuple #[I 0,.bool false]) w)/\(((!a)||(!d))=false->(∃b,PX [] UP #[Wv m g f e i c j h k l,I n] w (I b)/\((decide (b<0))=true->R (.tuple #[I 0,.bool false]) w)/\((decide (b<0))=false->R (.tuple #[I b,.bool true]) w))))))
theorem zat(w0 w1O w1L w1C w2O w2L w2C w3O w3L w3C cpu):Yv (AU w0 w1O w1L w1C w2O w2L w2C w3O w3L w3C cpu) Ox #[.agg #[.int .i64 w0,.slice w1O w1L w1C,.slice w2O w2L w2C,.slice w3O w3L w3C],.int .i64 cpu]:=pV [] false [] Tryz.func25 (by kernel_rfl) (by kernel_rfl)
def AM(x:Int)(u:OA)(C s:Nat)(y:OA)(B v:Nat)(t:OA)(A z:Nat)(i:Int)(w:Wo)(R:RT):= (∀b a,Q0 [] w a->w.heap.size<=b->a.heap[b]? = some (Obj.cells ([I x,S u C s,S y B v,S t A z]:List Va).toArray Q4 (0,0))->b∉([]:List Nat)->(∃m f g q h l p k n r,Q2 [] a (some (Addr.mk b 0 none)) 0 [I m,S f g q,S h l p,S k n r]/\(∃c,PX [] UM #[Wv m f g q h l p k n r] a (.bool c)/\(∃d,((!c)=false->PX [] YX #[.pointer ((some (Addr.mk b 0 none)).map (·.add 0)),I i] a (.bool d))/\(((!c)||(!d))=true->(AR [] a R (I 0)))/\(((!c)||(!d))=false->(∃j e,PX [] Z0 #[.pointer ((some (Addr.mk b 0 none)).map (·.add 0)),I i] a (.agg #[.pointer j,I e])/\(∃o,PX [] Y8 #[.agg #[.pointer j,I e]] a (I o)/\(AR [] a R (I o)))))))))
theorem Cs(w0 w1O w1L w1C w2O w2L w2C w3O w3L w3C cpu):Ug (AM w0 w1O w1L w1C w2O w2L w2C w3O w3L w3C cpu) UK #[.agg #[.int .i64 w0,.slice w1O w1L w1C,.slice w2O w2L w2C,.slice w3O w3L w3C],.int .i64 cpu]:=eV [2] false [] Tryz.func27 (by kernel_rfl) (by kernel_rfl)
def zcb(D:OA)(v E:Nat)(w:Wo)(R:RT):= ((decide ((v:Int)>1048576))=true->(AR [] w R (.bool true)))/\((decide ((v:Int)>1048576))=false->(CV [] Uv #[S D v E] w fun r j k l g i m p n o f a=>( (∀C,a.heap.size<=C->(∃d q,PX [] Ov #[Wv r j k l g i m p n o,I f] a (.tuple #[I d,.bool q])/\(∃t x,PX [] Ox #[Wv r j k l g i m p n o,I f] a (.tuple #[I t,.bool x])/\(((!(q==x))||(d != t))=true->(AR [] a R (.bool false)))/\(((!(q==x))||(d != t))=false->((!q)=true->(AR [] a R (.bool (d==0))))/\((!q)=false->Ix g i d/\(∃e,Q2 [] a g (Int.toNat d*9+2) [I e]/\Ix g i d/\(∃y,Q2 [] a g (Int.toNat d*9+3) [I y]/\(∃h,PX [] QV #[I y] a (I h)/\(∃b,PX [] UK #[Wv r j k l g i m p n o,I f] a (I b)/\(∃c,PX [] UK #[Wv r j k l g i m p n o,I e] a (I c)/\((e==f)=false->Ix j k e)/\(∃s,((e==f)=false->Q2 [] a j (Int.toNat e*5+1) [I s])/\(∃z,(((e==f)||(s==d))=false->PX [] VV #[Wv r j k l g i m p n o,I d] a (I z))/\(∃u,(((e==f)||(s==d))=false->PX [] Z4 #[I z,I f] a (.bool u))/\((((e==f)||(s==d))||(!u))=true->(AR [] a R (.bool false)))/\((((e==f)||(s==d))||(!u))=false->Qj .i64 (c-b)/\Qj .i64 (c-b)/\Qj .i64 (2*h)/\Qj .i64 ((c-b)-(2*h))/\((decide ((c-b)-(2*h)<0))=true->Qj .i64 (0-((c-b)-(2*h)))/\(∀A,Q0 [] a A->R (.bool ((b==0)||((decide (c-b>=0))&&(decide (0-((c-b)-(2*h))<=c-b))))) A))/\((decide ((c-b)-(2*h)<0))=false->(∀B,Q0 [] a B->R (.bool ((b==0)||((decide (c-b>=0))&&(decide ((c-b)-(2*h)<=c-b))))) B)))))))))))))))))))
theorem zc0(codeO codeL codeC):Ug (zcb codeO codeL codeC) Lh #[.slice codeO codeL codeC]:=eV [] false [] Tryz.func6 (by kernel_rfl) (by kernel_rfl)
def EZ(m n b:Int)(w:Wo)(R:RT):= (∀o,w.heap.size<=o->(∀p,w.heap.size<=p->(∃(k:List Va->Prop) (l:List Va->Nat),k [I 0,.bool false,.bool false,.bool false,.bool false]/\∀(a:Int) (e f c d:Bool),k [I a,.bool e,.bool f,.bool c,.bool d]->((decide (a<m))=true->Qj .i64 (b+1)/\0<=b+1/\Qj .i64 (b+1)/\0<=b+1/\(0<=a/\a<(4:Int))/\(Int.toNat a+0<4)/\(∃h g i j,([.bool e,.bool f,.bool c,.bool d]:List Va).set (Int.toNat a+0) (.bool ((Int.fdiv a (2 ^ (min (Int.toNat (b+1)) 64)))==(Int.fdiv n (2 ^ (min (Int.toNat (b+1)) 64)))))=[.bool h,.bool g,.bool i,.bool j]/\Qj .i64 (a+1)/\k [I (a+1),.bool h,.bool g,.bool i,.bool j]/\l [I (a+1),.bool h,.bool g,.bool i,.bool j]<l [I a,.bool e,.bool f,.bool c,.bool d]))/\((decide (a<m))=false->R (.agg #[.bool e,.bool f,.bool c,.bool d]) w))))
theorem Bc(cpus cpu level):Yv (EZ cpus cpu level) VL #[.int .i64 cpus,.int .i64 cpu,.int .i64 level]:=pV [] false [(3,⟨[(10,.int .i64)],[(1,[.bool,.bool,.bool,.bool])],[1,2,6,7,9],[],[]⟩)] Tryz.func177 (by kernel_rfl) (by kernel_rfl)
def Dl(e n p:Int)(w:Wo)(R:RT):= (∃b,PX [] Qo #[I e,I 1,I 4] w (.bool b)/\((!b)=false->Qj .i64 (e-1))/\(∃d,((!b)=false->PX [] Qo #[I n,I 0,I (e-1)] w (.bool d))/\(∃i,(((!b)||(!d))=false->PX [] Xx #[I e] w (I i))/\(((!b)||(!d))=false->Qj .i64 (i-1))/\(∃h,(((!b)||(!d))=false->PX [] Qo #[I p,I 0,I (i-1)] w (.bool h))/\((((!b)||(!d))||(!h))=true->R (I 0) w)/\((((!b)||(!d))||(!h))=false->(∃l k o m,PX [] VL #[I e,I n,I p] w (.agg #[.bool l,.bool k,.bool o,.bool m])/\(∃(g:List Va->Prop) (f:List Va->Nat),g [I 0,I 0]/\∀(c a:Int),g [I c,I a]->((decide (a<4))=true->(∃j,(0<=a/\a<(4:Int)/\(#[.bool l,.bool k,.bool o,.bool m]:Array Va)[Int.toNat a]? = some (.bool j))/\(j=true->(0<=a/\Qj .i64 (1*2 ^ (min (Int.toNat a) 64)))/\Qj .i64 (a+1)/\g [I (Vz .or .i64 c (1*2 ^ (min (Int.toNat a) 64))),I (a+1)]/\f [I (Vz .or .i64 c (1*2 ^ (min (Int.toNat a) 64))),I (a+1)]<f [I c,I a])/\(j=false->Qj .i64 (a+1)/\g [I c,I (a+1)]/\f [I c,I (a+1)]<f [I c,I a])))/\((decide (a<4))=false->R (I c) w))))))))
theorem Em(cpus cpu level):Yv (Dl cpus cpu level) V3 #[.int .i64 cpus,.int .i64 cpu,.int .i64 level]:=pV [] false [(5,⟨[(7,.int .i64),(32,.int .i64)],[],[31],[],[]⟩)] Tryz.func154 (by kernel_rfl) (by kernel_rfl)
def KH(c:Int)(w:Wo)(R:RT):= (∀a b,Q0 [] w b->w.heap.size<=a->b.heap[a]? = some (Obj.cells ([I c]:List Va).toArray zbr (0,0))->a∉([]:List Nat)->(AR [] b R (.func (.func QT) #[] #[.pointer ((some (Addr.mk a 0 none)).map (·.add 0))])))
theorem KL(m):Ug (KH m) Ja #[.int .i64 m]:=eV [1] false [] Tryz.func155 (by kernel_rfl) (by kernel_rfl)
def KI(j k:Int)(a:OA)(w:Wo)(R:RT):= a.isSome=true/\(∃h,Q2 [] w a 0 [.pointer h]/\(∃f b,PX [] Z0 #[.pointer h,I j] w (.agg #[.pointer f,I b])/\(∃i,PX [] Y8 #[.agg #[.pointer f,I b]] w (I i)/\a.isSome=true/\(∃d,Q2 [] w a 0 [.pointer d]/\(∃c e,PX [] Z0 #[.pointer d,I k] w (.agg #[.pointer c,I e])/\(∃g,PX [] Y8 #[.agg #[.pointer c,I e]] w (I g)/\R (.bool (decide (i>g))) w))))))
theorem KT(a b cap):Yv (KI a b cap) Y7 #[.int .i64 a,.int .i64 b,.pointer cap]:=pV [] false [] Tryz.func157 (by kernel_rfl) (by kernel_rfl)
def Mx(n:Fn)(l:Array Va)(q:Array Va)(m:OA)(w:Wo)(R:RT):= (∃(e:List Va->Wo->Prop) (d:List Va->Wo->Nat),(AY [] w fun p=>e [I 0] p)/\∀(a:Int) b,(∀bq∈([]:List Nat),bq<b.heap.size)->e [I a] b->((decide (a<4))=true->(∃k,Q2 [] b m 0 [I k]/\(∃c,PX [] J9 #[I k,I a] b (.bool c)/\(c=true->(AY [] b fun j=>H2 Tryz.prog (.func n l q) [I a] j fun o f=>(∃g,o=.returned (.bool g)/\Q9 [] j f/\((c&&(!g))=true->(AR [] f R (.tuple #[])))/\((c&&(!g))=false->Qj .i64 (a+1)/\(AY [] f fun h=>e [I (a+1)] h/\d [I (a+1)] h<d [I a] b)))))/\((c=true->False)->(false=true->(AR [] b R (.tuple #[])))/\(false=false->Qj .i64 (a+1)/\(AY [] b fun i=>e [I (a+1)] i/\d [I (a+1)] i<d [I a] b))))))/\((decide (a<4))=false->(AR [] b R (.tuple #[]))))
theorem MC(yieldF yieldA yieldK cap):Ug (Mx yieldF yieldA yieldK cap) QT #[.func yieldF yieldA yieldK,.pointer cap]:=eV [] false [(1,⟨[(4,.int .i64)],[],[0,1],[],[]⟩)] Tryz.func178 (by kernel_rfl) (by kernel_rfl)
noncomputable def OP(l:Option Nat):U3:={ P:=Tryz.prog,T:=Vp zp5,pf:=zqe,ef:=zqc,tt:=zti,vis:=[3,6,7],n:=22,pm:=false,wr:=false,rd:=l }
noncomputable def GW:List (Nat×ZN):=[]
noncomputable def YV:List Code:=[cL ((J6 Tryz.f156)),cL (cR ((J6 Tryz.f156))),cL (cR (cR ((J6 Tryz.f156))))]
def OL(h:Fn)(j:Array Va)(i:Array Va)(w:Wo)(R:Exit->List Va->Wo->Prop):Prop:= (∀c b,Q0 [] w b->w.heap.size<=c->b.heap[c]? = some (Obj.cells ([.func h j i]:List Va).toArray 58 (0,0))->c∉([]:List Nat)->(∀e d,Q0 [] b d->b.heap.size<=e->d.heap[e]? = some (Obj.cells ([I 0]:List Va).toArray Qd (0,0))->e∉([]:List Nat)->(∀a f,Q0 [] d f->d.heap.size<=a->f.heap[a]? = some (Obj.cells ([.bool false]:List Va).toArray YD (0,0))->a∉([]:List Nat)->Xr [] f (some (Addr.mk a 0 none)) 0 1/\(∀g,Q0 [] (sto f (some (Addr.mk a 0 none)) 0 [.bool false]) g->R .normal [.pointer ((some (Addr.mk c 0 none)).map (·.add 0)),.pointer ((some (Addr.mk e 0 none)).map (·.add 0)),.pointer ((some (Addr.mk a 0 none)).map (·.add 0))] g))))
theorem H0(l:Option Nat)(beforeF:Fn)(beforeA:Array Va)(beforeK:Array Va)(w:Wo)(R:Exit->List Va->Wo->Prop):zyb (OP l) GW YV (JT [(1,.func beforeF beforeA beforeK)]) w (MF [3,6,7] R)=OL beforeF beforeA beforeK w R:=by kernel_rfl
theorem GK(l:Option Nat)(beforeF:Fn)(beforeA:Array Va)(beforeK:Array Va){w:Wo}{R:Exit->List Va->Wo->Prop}{X:Code}{Q:Exit->Act->Wo->Prop}{a:Act}(hn:a.tmps.size=22)(hin:Lm [(1,.func beforeF beforeA beforeK)] a)(hvc:OL beforeF beforeA beforeK w R)(hX:∀vs a1 w1,R .normal vs w1->zmr (Oq YV) [3,6,7] a a1 vs->X.wpIn (VC l) 0 Tryz.prog Q a1 w1)(hQ:∀e vs a1 w1,e≠.normal->R e vs w1->zmr (Oq YV) [3,6,7] a a1 vs->Q e a1 w1):(zl6 YV X).wpIn (VC l) 0 Tryz.prog Q a w:=
 zvz (C:=OP l) (ztf _ _ _ _ _) hn hin (by rw[H0]; exact hvc) hX hQ
noncomputable def OO(l:Option Nat):U3:={ P:=Tryz.prog,T:=Vp zp5,pf:=zqe,ef:=zqc,tt:=zti,vis:=[],n:=22,pm:=false,wr:=false,rd:=l }
noncomputable def GV:List (Nat×ZN):=[]
noncomputable def XQ:Code:=(cL (cL (cR (cR (cR ((J6 Tryz.f156)))))))
def OK(d:Fn)(b:Array Va)(c:Array Va)(w:Wo)(R:Exit->List Va->Wo->Prop):Prop:= (∀a,Q0 [] w a->R .normal [.func d b c] a)
theorem GZ(l:Option Nat)(fromvF:Fn)(fromvA:Array Va)(fromvK:Array Va)(w:Wo)(R:Exit->List Va->Wo->Prop):Fv (OO l) GV XQ (JT [(0,.func fromvF fromvA fromvK)]) w (MF [9] R)=OK fromvF fromvA fromvK w R:=by kernel_rfl
theorem GJ(l:Option Nat)(fromvF:Fn)(fromvA:Array Va)(fromvK:Array Va){w:Wo}{R:Exit->List Va->Wo->Prop}{Q:Exit->Act->Wo->Prop}{a:Act}(hn:a.tmps.size=22)(hin:Lm [(0,.func fromvF fromvA fromvK)] a)(hvc:OK fromvF fromvA fromvK w R)(hQ:∀e vs a1 w1,R e vs w1->zmr (YQ XQ) [9] a a1 vs->Q e a1 w1):XQ.wpIn (VC l) 0 Tryz.prog Q a w:=
 zev (C:=OO l) (ztf _ _ _ _ _) hn hin (by rw[GZ]; exact hvc) hQ
noncomputable def ON(l:Option Nat):U3:={ P:=Tryz.prog,T:=Vp zp5,pf:=zqe,ef:=zqc,tt:=zti,vis:=[],n:=22,pm:=false,wr:=false,rd:=l }
noncomputable def GU:List (Nat×ZN):=[]
noncomputable def XP:Code:=(zzg (cB (cR (cL (cR (cR (cR ((J6 Tryz.f156)))))))))
def OJ(b:Int)(w:Wo)(R:Exit->List Va->Wo->Prop):Prop:= (∀a,Q0 [] w a->R .normal [I b] a)
theorem GY(l:Option Nat)(x:Int)(w:Wo)(R:Exit->List Va->Wo->Prop):Fv (ON l) GU XP (JT [(10,.int .i64 x)]) w (MF [8] R)=OJ x w R:=by kernel_rfl
theorem GI(l:Option Nat)(x:Int){w:Wo}{R:Exit->List Va->Wo->Prop}{Q:Exit->Act->Wo->Prop}{a:Act}(hn:a.tmps.size=22)(hin:Lm [(10,.int .i64 x)] a)(hvc:OJ x w R)(hQ:∀e vs a1 w1,R e vs w1->zmr (YQ XP) [8] a a1 vs->Q e a1 w1):XP.wpIn (VC l) 0 Tryz.prog Q a w:=
 zev (C:=ON l) (ztf _ _ _ _ _) hn hin (by rw[GY]; exact hvc) hQ
noncomputable def O8(l:Option Nat):U3:={ P:=Tryz.prog,T:=Vp zp5,pf:=zqe,ef:=zqc,tt:=zti,vis:=[],n:=22,pm:=false,wr:=false,rd:=l }
noncomputable def LQ:List (Nat×ZN):=[]
noncomputable def XG:Code:=(zzh (cB (cR (cL (cR (cR (cR ((J6 Tryz.f156)))))))))
def O4(q a d:OA)(c:Int)(w:Wo)(R:Exit->List Va->Wo->Prop):Prop:= (∃(b:Bool),Q2 [] w d 0 [.bool b]/\(∃(i:Fn) (j:Array Va) (o:Array Va),((!b)=false->Q2 [] w q 0 [.func i j o])/\(∃(k:Int),((!b)=false->Q2 [] w a 0 [I k])/\((!b)=false->(AY [] w fun m=>H2 Tryz.prog (.func i j o) [I c,I k] m fun p e=>(∃(f:Bool),p=.returned (.bool f)/\Q9 [] m e/\(((!b)||f)=true->Xr [] e a 0 1/\Xr [] (sto e a 0 [I c]) d 0 1/\(∀n,Q0 [] (sto (sto e a 0 [I c]) d 0 [.bool true]) n->R .normal [] n))/\(((!b)||f)=false->(∀g,Q0 [] e g->R .normal [] g)))))/\(((!b)=false->False)->(true=true->Xr [] w a 0 1/\Xr [] (sto w a 0 [I c]) d 0 1/\(∀l,Q0 [] (sto (sto w a 0 [I c]) d 0 [.bool true]) l->R .normal [] l))/\(true=false->(∀h,Q0 [] w h->R .normal [] h))))))
theorem G0(l:Option Nat)(before:OA)(firstv:OA)(somev:OA)(x:Int)(w:Wo)(R:Exit->List Va->Wo->Prop):Fv (O8 l) LQ XG (JT [(3,.pointer before),(6,.pointer firstv),(7,.pointer somev),(8,.int .i64 x)]) w (MF [] R)=O4 before firstv somev x w R:=by kernel_rfl
theorem Lj(l:Option Nat)(before:OA)(firstv:OA)(somev:OA)(x:Int){w:Wo}{R:Exit->List Va->Wo->Prop}{Q:Exit->Act->Wo->Prop}{a:Act}(hn:a.tmps.size=22)(hin:Lm [(3,.pointer before),(6,.pointer firstv),(7,.pointer somev),(8,.int .i64 x)] a)(hvc:O4 before firstv somev x w R)(hQ:∀e vs a1 w1,R e vs w1->zmr (YQ XG) [] a a1 vs->Q e a1 w1):XG.wpIn (VC l) 0 Tryz.prog Q a w:=
 zev (C:=O8 l) (ztf _ _ _ _ _) hn hin (by rw[G0]; exact hvc) hQ
noncomputable def O9(l:Option Nat):U3:={ P:=Tryz.prog,T:=Vp zp5,pf:=zqe,ef:=zqc,tt:=zti,vis:=[],n:=22,pm:=false,wr:=false,rd:=l }
noncomputable def LR:List (Nat×ZN):=[]
noncomputable def XH:Code:=(cR (cR (cR (cR ((J6 Tryz.f156))))))
def O5(e d:OA)(w:Wo)(R:Exit->List Va->Wo->Prop):Prop:= (∃(a:Int),Q2 [] w e 0 [I a]/\(∃(c:Bool),Q2 [] w d 0 [.bool c]/\(∀b,Q0 [] w b->R .ret [I a,.bool c] b)))
theorem G1(l:Option Nat)(firstv:OA)(somev:OA)(w:Wo)(R:Exit->List Va->Wo->Prop):Fv (O9 l) LR XH (JT [(6,.pointer firstv),(7,.pointer somev)]) w (MF [4,5] R)=O5 firstv somev w R:=by kernel_rfl
theorem Lk(l:Option Nat)(firstv:OA)(somev:OA){w:Wo}{R:Exit->List Va->Wo->Prop}{Q:Exit->Act->Wo->Prop}{a:Act}(hn:a.tmps.size=22)(hin:Lm [(6,.pointer firstv),(7,.pointer somev)] a)(hvc:O5 firstv somev w R)(hQ:∀e vs a1 w1,R e vs w1->zmr (YQ XH) [4,5] a a1 vs->Q e a1 w1):XH.wpIn (VC l) 0 Tryz.prog Q a w:=
 zev (C:=O9 l) (ztf _ _ _ _ _) hn hin (by rw[G1]; exact hvc) hQ
noncomputable def Uk(l:Option Nat):U3:={ P:=Tryz.prog,T:=Vp zp5,pf:=zqe,ef:=zqc,tt:=zti,vis:=[3],n:=44,pm:=false,wr:=false,rd:=l }
noncomputable def PW:List (Nat×ZN):=[]
noncomputable def ZG:List Code:=[cL ((J6 Tryz.f153)),cL (cR ((J6 Tryz.f153)))]
def Ui(s:Fn)(r:Array Va)(u:Array Va)(c q:OA)(w:Wo)(R:Exit->List Va->Wo->Prop):Prop:= (∀b a,Q0 [] w a->w.heap.size<=b->a.heap[b]? = some (Obj.cells ([.func s r u]:List Va).toArray 72 (0,0))->b∉([]:List Nat)->c.isSome=true/\(∃(d:OA),Q2 [] a c 0 [.pointer d]/\d.isSome=true/\(∃(o:OA) (j p:Nat),Q2 [] a d (0+1) [S o j p]/\c.isSome=true/\(∃(k:Int),Q2 [] a c 1 [I k]/\(∃(m:Int),Q2 [] a q 0 [I m]/\(∃(f:Int),PX [] V3 #[I (j:Int),I k,I m] a (I f)/\(AY [] a fun g=>Cz Ja #[I f] g fun t i=>(∃(n:Fn) (l:Array Va) (e:Array Va),t=.returned (.func n l e)/\Q9 [] g i/\(∀h,Q0 [] i h->R .normal [.func n l e,.pointer ((some (Addr.mk b 0 none)).map (·.add 0))] h)))))))))
theorem PZ(l:Option Nat)(yieldF:Fn)(yieldA:Array Va)(yieldK:Array Va)(x:OA)(x1:OA)(w:Wo)(R:Exit->List Va->Wo->Prop):zyb (Uk l) PW ZG (JT [(0,.func yieldF yieldA yieldK),(1,.pointer x),(2,.pointer x1)]) w (MF [17,3] R)=Ui yieldF yieldA yieldK x x1 w R:=by kernel_rfl
theorem PS(l:Option Nat)(yieldF:Fn)(yieldA:Array Va)(yieldK:Array Va)(x:OA)(x1:OA){w:Wo}{R:Exit->List Va->Wo->Prop}{X:Code}{Q:Exit->Act->Wo->Prop}{a:Act}(hn:a.tmps.size=44)(hin:Lm [(0,.func yieldF yieldA yieldK),(1,.pointer x),(2,.pointer x1)] a)(hvc:Ui yieldF yieldA yieldK x x1 w R)(hX:∀vs a1 w1,R .normal vs w1->zmr (Oq ZG) [17,3] a a1 vs->X.wpIn (VC l) 0 Tryz.prog Q a1 w1)(hQ:∀e vs a1 w1,e≠.normal->R e vs w1->zmr (Oq ZG) [17,3] a a1 vs->Q e a1 w1):(zl6 ZG X).wpIn (VC l) 0 Tryz.prog Q a w:=
 zvz (C:=Uk l) (ztf _ _ _ _ _) hn hin (by rw[PZ]; exact hvc) hX hQ
noncomputable def Uj(l:Option Nat):U3:={ P:=Tryz.prog,T:=Vp zp5,pf:=zqe,ef:=zqc,tt:=zti,vis:=[],n:=44,pm:=false,wr:=false,rd:=l }
noncomputable def PV:List (Nat×ZN):=[]
noncomputable def Yj:Code:=(zzg (cB (cR (cR ((J6 Tryz.f153))))))
def Uh(b:Int)(w:Wo)(R:Exit->List Va->Wo->Prop):Prop:= (∀a,Q0 [] w a->R .normal [I b] a)
theorem PY(l:Option Nat)(x:Int)(w:Wo)(R:Exit->List Va->Wo->Prop):Fv (Uj l) PV Yj (JT [(18,.int .i64 x)]) w (MF [4] R)=Uh x w R:=by kernel_rfl
theorem PR(l:Option Nat)(x:Int){w:Wo}{R:Exit->List Va->Wo->Prop}{Q:Exit->Act->Wo->Prop}{a:Act}(hn:a.tmps.size=44)(hin:Lm [(18,.int .i64 x)] a)(hvc:Uh x w R)(hQ:∀e vs a1 w1,R e vs w1->zmr (YQ Yj) [4] a a1 vs->Q e a1 w1):Yj.wpIn (VC l) 0 Tryz.prog Q a w:=
 zev (C:=Uj l) (ztf _ _ _ _ _) hn hin (by rw[PY]; exact hvc) hQ
noncomputable def JN(l:Option Nat):U3:={ P:=Tryz.prog,T:=Vp zp5,pf:=zqe,ef:=zqc,tt:=zti,vis:=[],n:=44,pm:=false,wr:=false,rd:=l }
noncomputable def PH:List (Nat×ZN):=[(4,⟨[(25,.int .i64)],[],[1,3,4,23,24],[],[]⟩)]
noncomputable def Yb:Code:=(zzh (cB (cR (cR ((J6 Tryz.f153))))))
def JM(h E:OA)(e:Int)(w:Wo)(R:Exit->List Va->Wo->Prop):Prop:= h.isSome=true/\(∃(g:OA),Q2 [] w h 0 [.pointer g]/\g.isSome=true/\(∃(l:OA) (f K:Nat),Q2 [] w g (0+2) [S l f K]/\(∃(k:List Va->Wo->Prop) (o:List Va->Wo->Nat),(AY [] w fun D=>k [I 0] D)/\∀(b:Int) a,(∀bq∈([]:List Nat),bq<a.heap.size)->k [I b] a->((decide (b<(f:Int)))=true->Ix l f b/\(∃(z B d G A C F L H:Int),Q2 [] a l (Int.toNat b*9) [I z,I B,I d,I G,I A,I C,I F,I L,I H]/\(∀c,a.heap.size<=c->(∃(x:OA) (r:Int),((d==e)=true->Q2 [] a h 0 [.pointer x,I r])/\(∃(i:Bool),((d==e)=true->PX [] Xq #[.agg #[.pointer x,I r],I b] a (.bool i))/\(((d==e)&&i)=true->(∃(u:Fn) (t:Array Va) (q:Array Va),Q2 [] a E 0 [.func u t q]/\(AX [] [c] a fun p=>H2 Tryz.prog (.func u t q) [I e] p fun J j=>(∃(m:Bool),J=.returned (.bool m)/\Q9 [c] p j/\((!m)=true->(∀n,Q0 [c] j n->R .ret [] n))/\((!m)=false->(∀y,Q0 [c] j y->R .normal [] y))))))/\(((d==e)&&i)=false->Qj .i64 (b+1)/\(AX [] [c] a fun v=>k [I (b+1)] v/\o [I (b+1)] v<o [I b] a)))))))/\((decide (b<(f:Int)))=false->(∀s,Q0 [] a s->R .normal [] s)))))
theorem PN(l:Option Nat)(x:OA)(yield:OA)(other:Int)(w:Wo)(R:Exit->List Va->Wo->Prop):Fv (JN l) PH Yb (JT [(1,.pointer x),(3,.pointer yield),(4,.int .i64 other)]) w (MF [] R)=JM x yield other w R:=by kernel_rfl
theorem Ps(l:Option Nat)(x:OA)(yield:OA)(other:Int){w:Wo}{R:Exit->List Va->Wo->Prop}{Q:Exit->Act->Wo->Prop}{a:Act}(hn:a.tmps.size=44)(hin:Lm [(1,.pointer x),(3,.pointer yield),(4,.int .i64 other)] a)(hvc:JM x yield other w R)(hQ:∀e vs a1 w1,R e vs w1->zmr (YQ Yb) [] a a1 vs->Q e a1 w1):Yb.wpIn (VC l) 0 Tryz.prog Q a w:=
 zev (C:=JN l) (ztf _ _ _ _ _) hn hin (by rw[PN]; exact hvc) hQ
set_option linter.unusedSimpArgs false
set_option maxRecDepth 10000
theorem Tr:zqa Tryz.prog MD 5 YE 40 (⟨0,false,0,0,0⟩:KE):=HJ (by kernel_rfl) fun _=>rfl
theorem KB:Tryz.prog.underlying ZE=some (.slice YE):=by kernel_rfl
def Z6(b:JH)(m:MG):List Va:=[.int .i64 b.quota,.int .i64 b.pool,.int .i64 b.spent,.slice m.lO b.locals.length m.lC,.slice m.dO b.dry.length m.dC]
theorem Ue{a b:ByteArray}:Zp a b=true↔a=b:=by
 unfold Zp;rw[beq_iff_eq];constructor
 ·intro h
  have h1:∀x:ByteArray,x.toList=x.data.toList:=fun x=>by
   have key:∀(n i:Nat) (r:List UInt8),n=x.size-i->ByteArray.toList.loop x i r=r.reverse++x.data.toList.drop i:=by
    intro n
    induction n with
    | zero=>
     intro i r hn;unfold ByteArray.toList.loop;rw[if_neg (by omega),List.drop_eq_nil_iff.2 (by simp only[Array.length_toList]; show x.size<=i; omega),List.append_nil]
    | succ n ih=>
     intro i r hn;unfold ByteArray.toList.loop;have hi:i<x.data.toList.length:=by simp only[Array.length_toList]; show i<x.size; omega
     rw[if_pos (by omega),ih (i+1) _ (by omega),List.reverse_cons,List.append_assoc,List.singleton_append,List.drop_eq_getElem_cons hi]
     have:x.get! i=x.data.toList[i]:=by
      have hi':i<x.data.size:=by simpa using hi
      simp[ByteArray.get!,getElem!_pos x.data i hi']
     rw[this]
   have:=key _ 0 [] rfl
   simpa[ByteArray.toList] using this
  rw[h1,h1] at h
  cases a; cases b
  simp only at h
  congr 1
  exact Array.ext' h
 ·rintro rfl; rfl
theorem EH(a b:ByteArray):Zp a b=decide (a=b):=by
 cases h:Zp a b with
 | true=>rw[decide_eq_true (Ue.1 h)]
 | false=>rw[decide_eq_false fun e=>by rw[Ue.2 e] at h; cases h]
def Pf(p:ZF×MG):List Va:=YF p.1 p.2
def Ol:ZF×MG:=(⟨false,0,ByteArray.empty,0,0,0,0,0,⟨0,0,0,[],[]⟩,[]⟩,⟨none,0,none,0,none,0⟩)
theorem X6:zqa Tryz.prog Pf 14 QN 168 Ol:=HJ (by kernel_rfl) fun _=>rfl
theorem KA:Tryz.prog.underlying QW=some (.slice QN):=by kernel_rfl
def Qt(m:MG):List Nat:=QB m.lO++QB m.dO++QB m.sO
structure K6 (base:Nat) (w:Wo) (p:ZF×MG):Prop where
 loc:U4 Ji 1 Qd base w p.2.lO p.2.lC p.1.band.locals
 dry:U4 KM 1 YD base w p.2.dO p.2.dC p.1.band.dry
 shl:U4 MD 5 YE base w p.2.sO p.2.sC p.1.shelves
theorem K6.ext{base:Nat}{w w':Wo}{p:ZF×MG}{bs:List Nat}(h:K6 base w p)(hx:Q0 bs w w')(hd:∀b∈Qt p.2,b∉bs):K6 base w' p:=
 ⟨h.loc.ext hx fun b hb=>hd b (by simp[Qt,hb]),h.dry.ext hx fun b hb=>hd b (by simp[Qt,hb]),h.shl.ext hx fun b hb=>hd b (by simp[Qt,hb])⟩
theorem K6.mono{base base':Nat}{w:Wo}{p:ZF×MG}(h:K6 base w p)(hb:base'<=base):K6 base' w p:=⟨h.loc.mono hb,h.dry.mono hb,h.shl.mono hb⟩
theorem K6.lt{base:Nat}{w:Wo}{p:ZF×MG}(h:K6 base w p):∀b∈Qt p.2,base<=b/\b<w.heap.size:=by
 intro b hb;simp only[Qt,List.mem_append] at hb;rcases hb with (hb | hb) | hb
 ·exact h.loc.lt b hb
 ·exact h.dry.lt b hb
 ·exact h.shl.lt b hb
structure K5 (base:Nat) (w:Wo) (o:OA) (cap:Nat) (ps:List (ZF×MG)):Prop where
 row:U4 Pf 14 QN base w o cap ps
 each:∀i:Int,0<=i->i<(ps.length:Int)->K6 base w (gi ps i)
 dj:∀i j:Int,0<=i->i<(ps.length:Int)->0<=j->j<(ps.length:Int)->i≠j->∀b∈Qt (gi ps i).2,b∉Qt (gi ps j).2
theorem K5.mono{base base':Nat}{w:Wo}{o:OA}{cap:Nat}{ps:List (ZF×MG)}(h:K5 base w o cap ps)(hb:base'<=base):K5 base' w o cap ps:=
 ⟨h.row.mono hb,fun i a b=>(h.each i a b).mono hb,h.dj⟩
theorem J3{base:Nat}{w:Wo}{o:OA}{cap:Nat}{ps:List (ZF×MG)}(h:U4 Pf 14 QN base w o cap ps){base':Nat}{p:ZF×MG}(hp:K6 base' w p):∀b∈Qt p.2,b∉QB o:=by
 intro b hb hx;simp only[Qt,List.mem_append] at hb;rcases hb with (hb | hb) | hb
 ·exact hp.loc.ty_ne h (by decide) b hb hx
 ·exact hp.dry.ty_ne h (by decide) b hb hx
 ·exact hp.shl.ty_ne h (by decide) b hb hx
theorem K5.put{base:Nat}{w:Wo}{o:OA}{cap:Nat}{ps:List (ZF×MG)}(h:K5 base w o cap ps){i:Int}(h0:0<=i)(hi:i<(ps.length:Int)){p:ZF×MG}(hp:K6 base w p)(hd:∀j:Int,0<=j->j<(ps.length:Int)->i≠j->∀b∈Qt (gi ps j).2,b∉Qt p.2):K5 base (sto w o (Int.toNat i*14) (Pf p)) o cap (ps.set i.toNat p):=by
 have hx:=h.row.stoX (Int.toNat i*14) (Pf p);have hlen:(ps.set i.toNat p).length=ps.length:=List.length_set;refine⟨?_,fun j hj hjl=>?_,fun j k hj hjl hk hkl hjk b hb hb'=>?_⟩
 ·have:=h.row.sto X6.len h0 hi (j:=0) (vs:=Pf p) (x:=p) (by rw[List.take_zero,List.nil_append,List.drop_eq_nil_iff.2 (by rw[Nat.zero_add,X6.len,X6.len]; exact Nat.le_refl _),List.append_nil]) (by rw[Nat.zero_add,X6.len]; exact Nat.le_refl _);exact this
 ·rw[hlen] at hjl;rw[QA _ _ h0 hi hj];split
  ·exact hp.ext hx (J3 h.row hp)
  ·exact(h.each j hj hjl).ext hx (J3 h.row (h.each j hj hjl))
 ·rw[hlen] at hjl hkl;rw[QA _ _ h0 hi hj] at hb;rw[QA _ _ h0 hi hk] at hb'
  by_cases e1:i=j
  ·rw[if_pos e1] at hb
   by_cases e2:i=k
   ·omega
   ·rw[if_neg e2] at hb';exact hd k hk hkl e2 b hb' hb
  ·rw[if_neg e1] at hb
   by_cases e2:i=k
   ·rw[if_pos e2] at hb';exact hd j hj hjl e1 b hb hb'
   ·rw[if_neg e2] at hb';exact h.dj j k hj hjl hk hkl hjk b hb hb'
theorem JE{z:Int}(h1 : -9223372036854775808<=z)(h2:z<=9223372036854775807):Qj .i64 z:=⟨h1,h2⟩
def zfq(w:Int):Int:=Int.tdiv 232792560 w
def Yh(n a b:Int):Bool:=decide (n>=a)&&decide (n<=b)
theorem Qm{n a b:Int}:Yh n a b=true↔a<=n/\n<=b:=by simp[Yh]
theorem zv0{n a b:Int}:Yh n a b=false↔¬(a<=n/\n<=b):=by rw[<-Qm]; simp
def Z3(n w:Int):Int:=if Yh n 0 100000000&&Yh w 1 20 then n*zfq w else 0
def Zo(w:Int):Int:=Z3 149 w
theorem zvj:∀k:Fin 20,zfq ((k.val:Int)+1)*((k.val:Int)+1)=232792560:=by decide
theorem zvk{w:Int}(h1:1<=w)(h2:w<=20):zfq w*w=232792560:=by
 have:=zvj ⟨(w-1).toNat,by omega⟩;have e:(((w-1).toNat:Nat):Int)+1=w:=by omega
 simp only[e] at this;exact this
theorem zbn{w:Int}(h1:1<=w)(h2:w<=20):11639628<=zfq w/\zfq w<=232792560:=by
 have h:=zvk h1 h2
 have hp:0<=zfq w:=by
  rcases Int.lt_or_le (zfq w) 0 with hn | hn
  ·have:=Int.mul_neg_of_neg_of_pos hn (show 0<w by omega);omega
  ·exact hn
 constructor
 ·have:=Int.mul_le_mul_of_nonneg_left h2 hp;omega
 ·have:=Int.mul_le_mul_of_nonneg_left h1 hp;omega
theorem Ok{n w:Int}(h1:0<=n)(h2:n<=100000000)(h3:1<=w)(h4:w<=20):Z3 n w=n*zfq w:=by
 unfold Z3;rw[if_pos];rw[Bool.and_eq_true,Qm,Qm]; exact⟨⟨h1,h2⟩,h3,h4⟩
theorem Gu{n w:Int}(h:¬(0<=n/\n<=100000000/\1<=w/\w<=20)):Z3 n w=0:=by
 unfold Z3;rw[if_neg];rw[Bool.and_eq_true,Qm,Qm]; omega
theorem zhi{n w:Int}(h1:0<=n)(h2:n<=100000000)(h3:1<=w)(h4:w<=20):0<=n*zfq w/\n*zfq w<=23279256000000000:=by
 have hs:=zbn h3 h4;refine⟨Int.mul_nonneg h1 (by omega),?_⟩
 calc n*zfq w<=100000000*zfq w:=Int.mul_le_mul_of_nonneg_right h2 (by omega)
  _<=100000000*232792560:=Int.mul_le_mul_of_nonneg_left hs.2 (by decide)
  _=23279256000000000:=rfl
theorem G3(n w:Int):0<=Z3 n w/\Z3 n w<=23279256000000000:=by
 by_cases h:0<=n/\n<=100000000/\1<=w/\w<=20
 ·rw[Ok h.1 h.2.1 h.2.2.1 h.2.2.2]; exact zhi h.1 h.2.1 h.2.2.1 h.2.2.2
 ·rw[Gu h]; omega
theorem Qu{n a b:Int}{w:Wo}{bs:List Nat}:PX bs Qo #[.int .i64 n,.int .i64 a,.int .i64 b] w (.bool (Yh n a b)):=
 zas n a b fun wr hx=>by unfold L2; rfl
theorem Qi{n a b:Int}{w:Wo}{bs:List Nat}:PX bs Qf #[.int .i64 n,.int .i64 a,.int .i64 b] w (.bool (Yh n a b)):=
 zjr n a b fun wr hx=>by unfold BG; rfl
theorem OE{n:Int}{w:Wo}{bs:List Nat}:PX bs XU #[.int .i64 n] w (.bool (Yh n 1 20)):=
 A9 n fun wr hx=>⟨_,Qu,rfl⟩
theorem Jp{n:Int}{w:Wo}{bs:List Nat}:PX bs Yp #[.int .i64 n] w (.bool (Yh n 1 20)):=
 Ag n fun wr hx=>⟨_,Qi,rfl⟩
theorem Hb{n:Int}{w:Wo}{bs:List Nat}:PX bs VM #[.int .i64 n] w (.bool (Yh n (-10) 9)):=
 zds n fun wr hx=>⟨_,Qu,rfl⟩
def VD(k j:Nat):Int:=if j<=k then zfq (j:Int) else 0
def zzj(k:Nat):List Va:=[.int .i64 ((k:Int)+1),.int .i64 0,.int .i64 (VD k 1),.int .i64 (VD k 2),.int .i64 (VD k 3),.int .i64 (VD k 4),.int .i64 (VD k 5),.int .i64 (VD k 6),.int .i64 (VD k 7),
 .int .i64 (VD k 8),.int .i64 (VD k 9),.int .i64 (VD k 10),.int .i64 (VD k 11),.int .i64 (VD k 12),.int .i64 (VD k 13),.int .i64 (VD k 14),.int .i64 (VD k 15),.int .i64 (VD k 16),.int .i64 (VD k 17),.int .i64 (VD k 18),.int .i64 (VD k 19),.int .i64 (VD k 20)]
theorem HQ{w:Wo}{bs:List Nat}:PX bs Uu #[] w (.agg #[.int .i64 0,.int .i64 (VD 20 1),.int .i64 (VD 20 2),.int .i64 (VD 20 3),.int .i64 (VD 20 4),.int .i64 (VD 20 5),.int .i64 (VD 20 6),.int .i64 (VD 20 7),
 .int .i64 (VD 20 8),.int .i64 (VD 20 9),.int .i64 (VD 20 10),.int .i64 (VD 20 11),.int .i64 (VD 20 12),.int .i64 (VD 20 13),.int .i64 (VD 20 14),.int .i64 (VD 20 15),.int .i64 (VD 20 16),.int .i64 (VD 20 17),.int .i64 (VD 20 18),.int .i64 (VD 20 19),.int .i64 (VD 20 20)]):=
 D1 fun wr hx=>by
  intro _ _ _ _
  refine⟨fun vs=>∃k:Nat,k<=20/\vs=zzj k,fun vs=>match vs with
   | .int _ i::_=>(21-i).toNat
   | _=>0,⟨0,by omega,rfl⟩,?_⟩
  rintro i l l1 l2 l3 l4 l5 l6 l7 l8 l9 l10 l11 l12 l13 l14 l15 l16 l17 l18 l19 l20 ⟨k,hk,he⟩;simp only[zzj,List.cons.injEq,Value.int.injEq,true_and,and_true] at he;obtain⟨rfl,rfl,rfl,rfl,rfl,rfl,rfl,rfl,rfl,rfl,rfl,rfl,rfl,rfl,rfl,rfl,rfl,rfl,rfl,rfl,rfl,rfl⟩:=he;constructor
  ·intro h;have h:=Ot h;refine⟨⟨by omega,?_⟩,⟨by omega,by omega⟩,by omega,?_⟩
   ·have:=zbn (w:=(k:Int)+1) (by omega) (by omega);exact JE (by unfold zfq at this; omega) (by unfold zfq at this; omega)
   ·refine⟨_,_,_,_,_,_,_,_,_,_,_,_,_,_,_,_,_,_,_,_,_,?_,JE (by omega) (by omega),⟨k+1,by omega,rfl⟩,?_⟩
    ·have:k=0\/k=1\/k=2\/k=3\/k=4\/k=5\/k=6\/k=7\/k=8\/k=9\/k=10\/k=11\/k=12\/k=13\/k=14\/k=15\/k=16\/k=17\/k=18\/k=19:=by omega
     rcases this with rfl | rfl | rfl | rfl | rfl | rfl | rfl | rfl | rfl | rfl | rfl | rfl | rfl | rfl | rfl | rfl | rfl | rfl | rfl | rfl <;> rfl
    ·show (21-(((k:Int)+1)+1)).toNat<(21-((k:Int)+1)).toNat;omega
  ·intro h;have h:=Ou h;have hk:k=20:=by omega
   subst hk;rfl
theorem zxq{k:Int}(h1:1<=k)(h2:k<=20):(#[.int .i64 0,.int .i64 (VD 20 1),.int .i64 (VD 20 2),.int .i64 (VD 20 3),.int .i64 (VD 20 4),.int .i64 (VD 20 5),.int .i64 (VD 20 6),.int .i64 (VD 20 7),
 .int .i64 (VD 20 8),.int .i64 (VD 20 9),.int .i64 (VD 20 10),.int .i64 (VD 20 11),.int .i64 (VD 20 12),.int .i64 (VD 20 13),.int .i64 (VD 20 14),.int .i64 (VD 20 15),.int .i64 (VD 20 16),.int .i64 (VD 20 17),.int .i64 (VD 20 18),.int .i64 (VD 20 19),.int .i64 (VD 20 20)]:Array Va)[Int.toNat k]? = some (.int .i64 (zfq k)):=by
 have:k=1\/k=2\/k=3\/k=4\/k=5\/k=6\/k=7\/k=8\/k=9\/k=10\/k=11\/k=12\/k=13\/k=14\/k=15\/k=16\/k=17\/k=18\/k=19\/k=20:=by omega
 rcases this with rfl | rfl | rfl | rfl | rfl | rfl | rfl | rfl | rfl | rfl | rfl | rfl | rfl | rfl | rfl | rfl | rfl | rfl | rfl | rfl <;> rfl
theorem Vj{n k:Int}{w:Wo}{bs:List Nat}:PX bs YR #[.int .i64 n,.int .i64 k] w (.int .i64 (Z3 n k)):=
 HX n k fun wr hx=>by
  refine⟨_,Qu,_,fun _=>OE,fun h=>?_,fun h=>?_⟩
  ·congr 1; unfold Z3; rw[if_neg]; intro h2; simp only[Bool.and_eq_true] at h2; simp[h2] at h
  ·have h2:Yh n 0 100000000=true/\Yh k 1 20=true:=by simpa using h
   rw[Qm,Qm] at h2;have hm:=zhi h2.1.1 h2.1.2 h2.2.1 h2.2.2;refine⟨_,_,_,_,_,_,_,_,_,_,_,_,_,_,_,_,_,_,_,_,_,HQ,zfq k,⟨by omega,by omega,zxq h2.2.1 h2.2.2⟩,JE (by omega) (by omega),?_⟩;rw[Ok h2.1.1 h2.1.2 h2.2.1 h2.2.2]
theorem y7{k:Int}{w:Wo}{bs:List Nat}:PX bs Ow #[.int .i64 k] w (.int .i64 (Zo k)):=
 zap k fun wr hx=>⟨_,Vj,rfl⟩
def M4(s:ByteArray):Bool:=(((((Zp s (⟨[119,101,105,103,104,116].toArray⟩))||(Zp s (⟨[109,97,120].toArray⟩)))||(Zp s (⟨[99,112,117,115].toArray⟩)))||(Zp s (⟨[112,114,111,99,115].toArray⟩)))||(Zp s (⟨[115,116,97,116].toArray⟩)))
def zth(x:Int):Bool:=(((decide (x>=97))&&(decide (x<=122)))||((decide (x>=48))&&(decide (x<=57))))
def JY(s:ByteArray):Bool:=Yh (s.size:Int) 1 8 && !M4 s&&(List.range s.size).all fun i=>zth (JG s (i:Int))
theorem Kf{s:ByteArray}:JY s=true↔(1<=s.size/\s.size<=8)/\M4 s=false/\∀i:Nat,i<s.size->zth (JG s (i:Int))=true:=by
 unfold JY;simp only[Bool.and_eq_true,Qm,Bool.not_eq_true',List.all_eq_true,List.mem_range];constructor
 ·rintro⟨⟨h1,h2⟩,h3⟩; exact⟨⟨by omega,by omega⟩,h2,h3⟩
 ·rintro⟨⟨h0,h1⟩,h2,h3⟩; exact⟨⟨⟨by omega,by omega⟩,h2⟩,h3⟩
theorem MQ{s:ByteArray}(h:¬((1<=s.size/\s.size<=8)/\M4 s=false/\∀i:Nat,i<s.size->zth (JG s (i:Int))=true)):JY s=false:=by
 cases hn:JY s with
 | false=>rfl
 | true=>exact absurd (Kf.1 hn) h
theorem zdg{s:ByteArray}{w:Wo}{bs:List Nat}:PX bs Pl #[.string s] w (.bool (M4 s)):=
 zd2 s fun wr hx=>rfl
theorem He{s:ByteArray}{w:Wo}{bs:List Nat}:PX bs VS #[.string s] w (.bool (JY s)):=
 zdy s fun wr hx=>by
  refine⟨_,Qi,M4 s,fun _=>zdg,fun h=>?_,fun h=>?_⟩
  ·rw[MQ];rintro⟨h1,h2,_⟩;rw[h2,Qm.2 (by omega)] at h;cases h
  ·have h:Yh (s.size:Int) 1 8=true/\M4 s=false:=by simpa using h
   have h1:=Qm.1 h.1;refine Xi s.size 0 rfl (fun k=>k<=s.size/\∀j:Nat,j<k->zth (JG s (j:Int))=true) ⟨Nat.zero_le _,fun j hj=>absurd hj (Nat.not_lt_zero j)⟩ fun k ⟨hk,hI⟩=>⟨fun hlt=>?_,fun hge=>?_⟩
   ·have hlt:=Ot hlt;have hr:0<=(k:Int)/\(k:Int)<(s.size:Int):=⟨by omega,hlt⟩;refine⟨hr,fun _=>hr,fun _=>hr,fun _ _=>hr,fun hno=>?_,fun hyes=>⟨⟨by omega,by omega⟩,Qs (by omega) ⟨by omega,fun j hj=>?_⟩⟩⟩
    ·rw[MQ];rintro⟨_,_,h3⟩;have:=h3 k (by omega);unfold zth at this;rw[this] at hno;cases hno
    ·by_cases hjk:j<k
     ·exact hI j hjk
     ·have:j=k:=by omega
      subst this;unfold zth;rw[Bool.not_eq_false'] at hyes;exact hyes
   ·have hge:=Ou hge;have hk:k=s.size:=by omega
    subst hk;rw[Kf.2 ⟨⟨by omega,by omega⟩,h.2,hI⟩]
def Q6(gs:List ZF)(g:Int):Bool:=(decide (g>=0)&&decide (g<(gs.length:Int)))&&(gi gs g).used
theorem Q5{gs:List ZF}{g:Int}:Q6 gs g=true↔0<=g/\g<(gs.length:Int)/\(gi gs g).used=true:=by
 unfold Q6;simp[and_assoc]
def dep:Nat->List ZF->Int->Int
 | 0,_,g=>if g=0 then 0 else -1
 | f+1,gs,g=>if g=0 then 0 else if dep f gs (gi gs g).parent<0 then -1 else dep f gs (gi gs g).parent+1
def Of:Nat->List ZF->Int->Int->Int
 | 0,_,_,_ => -1
 | f+1,gs,g,n=>if Q6 gs g=false then -1 else if g=0 then n else Of f gs (gi gs g).parent (n+1)
theorem Tq(gs:List ZF):∀(f:Nat) (g:Int),-1<=dep f gs g/\dep f gs g<=f
 | 0,g=>by simp only[dep]; split <;> omega
 | f+1,g=>by
  have:=Tq gs f (gi gs g).parent;simp only[dep];split
  ·omega
  ·split <;> omega
theorem Lc(gs:List ZF):∀(f f':Nat) (g:Int),0<=dep f gs g->dep f gs g<=f'->dep f' gs g=dep f gs g
 | 0,f',g,h,_=>by
  simp only[dep] at h ⊢
  split at h
  ·rename_i hg
   cases f' <;> simp[dep,hg]
  ·omega
 | f+1,f',g,h,hle=>by
  simp only[dep] at h hle ⊢
  by_cases hg:g=0
  ·rw[if_pos hg]
   cases f' <;> simp[dep,hg]
  ·rw[if_neg hg] at h hle ⊢
   by_cases hd:dep f gs (gi gs g).parent<0
   ·rw[if_pos hd] at h; omega
   ·rw[if_neg hd] at hle ⊢
    cases f' with
    | zero=>omega
    | succ f'=>
     have:=Lc gs f f' (gi gs g).parent (by omega) (by omega);simp only[dep];rw[if_neg hg,this,if_neg hd]
theorem Yk(gs:List ZF)(f:Nat):dep f gs 0=0:=by cases f <;> simp[dep]
theorem zq0{gs:List ZF}{f:Nat}{g:Int}(h:dep f gs g=0):g=0:=by
 cases f with
 | zero=>simp only[dep] at h; split at h <;> first | assumption | omega
 | succ f=>
  simp only[dep] at h
  split at h
  ·assumption
  ·split at h <;> omega
structure ZX (gs:List ZF):Prop where
 len:gs.length=8
 ru:(gi gs 0).used=true
 rp:(gi gs 0).parent = -1
 rn:(gi gs 0).name=⟨[].toArray⟩
 nm:∀g:Int,1<=g->g<8->(gi gs g).used=true->JY (gi gs g).name=true
 par:∀g:Int,1<=g->g<8->(gi gs g).used=true->Q6 gs (gi gs g).parent=true
 dp:∀g:Int,1<=g->g<8->(gi gs g).used=true->0<=dep 3 gs g
 uniq:∀g h:Int,1<=h->h<g->g<8->(gi gs g).used=true->(gi gs h).used=true->¬((gi gs h).parent=(gi gs g).parent/\(gi gs h).name=(gi gs g).name)
noncomputable def M8(gs:List ZF):Bool:=@decide (ZX gs) (Classical.propDecidable _)
theorem Vy{gs:List ZF}:M8 gs=true↔ZX gs:=@decide_eq_true_iff _ (Classical.propDecidable _)
theorem EK{gs:List ZF}(h:¬ZX gs):M8 gs=false:=by
 cases hb:M8 gs with
 | false=>rfl
 | true=>exact absurd (Vy.1 hb) h
theorem Eg{gs:List ZF}(hp:∀g:Int,g≠0->Q6 gs g=true->Q6 gs (gi gs g).parent=true):∀(f:Nat) (g n:Int),Q6 gs g=true->Of (f+1) gs g n=if dep f gs g<0 then -1 else n+dep f gs g
 | 0,g,n,hu=>by
  simp only[Of,dep,hu]
  by_cases hg:g=0 <;> simp[hg]
 | f+1,g,n,hu=>by
  rw[Of];simp only[hu]
  by_cases hg:g=0
  ·simp[hg,dep]
  ·have ih:=Eg hp f (gi gs g).parent (n+1) (hp g hg hu);have hr:=Tq gs f (gi gs g).parent;simp only[dep,if_neg hg];rw[ih]
   by_cases hd:dep f gs (gi gs g).parent<0
   ·simp[hd]
   ·have h2:¬(dep f gs (gi gs g).parent+1<0):=by omega
    simp[hd,h2]; omega
theorem zpb{gs:List ZF}{f:Nat}{g n:Int}(hg:g≠0)(h:Of (f+1) gs g n≠-1):f≠0/\Q6 gs (gi gs g).parent=true:=by
 rw[Of] at h
 by_cases hu:Q6 gs g=false
 ·rw[if_pos hu] at h; exact absurd rfl h
 ·rw[if_neg hu,if_neg hg] at h
  cases f with
  | zero=>exact absurd rfl h
  | succ f=>
   rw[Of] at h
   by_cases hp:Q6 gs (gi gs g).parent=false
   ·rw[if_pos hp] at h; exact absurd rfl h
   ·exact⟨by omega,by simpa using hp⟩
structure zmt (gs:List ZF) (k:Int):Prop where
 each:∀g:Int,1<=g->g<k->(gi gs g).used=true->JY (gi gs g).name=true/\Yh (Of 9 gs g 0) 1 3=true/\∀h:Int,1<=h->h<g->(gi gs h).used=true->¬((gi gs h).parent=(gi gs g).parent/\(gi gs h).name=(gi gs g).name)
theorem zp6{gs:List ZF}(hl:gs.length=8)(ru:(gi gs 0).used=true)(rp:(gi gs 0).parent = -1)(rn:(gi gs 0).name=⟨[].toArray⟩)(h:zmt gs 8):ZX gs:=by
 have par:∀g:Int,1<=g->g<8->(gi gs g).used=true->Q6 gs (gi gs g).parent=true:=fun g h1 h2 hu=>by
  have:=Qm.1 (h.each g h1 h2 hu).2.1;exact(zpb (f:=8) (n:=0) (by omega) (by show Of 9 gs g 0≠-1; omega)).2
 have hp:∀g:Int,g≠0->Q6 gs g=true->Q6 gs (gi gs g).parent=true:=fun g hg hu=>by
  obtain⟨a,b,c⟩:=Q5.1 hu;exact par g (by omega) (by omega) c
 refine⟨hl,ru,rp,rn,fun g h1 h2 hu=>(h.each g h1 h2 hu).1,par,fun g h1 h2 hu=>?_,fun g k h1 h2 h3 hu hk=>(h.each g (by omega) h3 hu).2.2 k h1 h2 hk⟩;have h9:=Qm.1 (h.each g h1 h2 hu).2.1;rw[Eg hp 8 g 0 (Q5.2 ⟨by omega,by omega,hu⟩)] at h9
 split at h9
 ·omega
 ·rename_i hd;have:=Lc gs 8 3 g (by omega) (by omega);omega
theorem zom{gs:List ZF}(h:ZX gs):zmt gs 8:=by
 have hp:∀g:Int,g≠0->Q6 gs g=true->Q6 gs (gi gs g).parent=true:=fun g hg hu=>by
  obtain⟨a,b,c⟩:=Q5.1 hu;have:=h.len;exact h.par g (by omega) (by omega) c
 refine⟨fun g h1 h2 hu=>⟨h.nm g h1 h2 hu,?_,fun k h3 h4 hk=>h.uniq g k h3 h4 h2 hu hk⟩⟩;have hl:=h.len;rw[Eg hp 8 g 0 (Q5.2 ⟨by omega,by omega,hu⟩)];have h3:=h.dp g h1 h2 hu;have hr:=Tq gs 3 g;have:=Lc gs 3 8 g h3 (by omega);rw[this,if_neg (by omega)];have hz:dep 3 gs g≠0:=fun e=>by have:=zq0 e; omega
 exact Qm.2 (by omega)
section
variable {gs:List ZF}{ms:Nat->MG}{o:OA}{c:Nat}{w:Wo}{bs:List Nat}
theorem KD.used(h:KD bs w o gs ms){i:Int}(h0:0<=i)(h1:i<(gs.length:Int)):Q2 bs w o (Int.toNat i*14+0) [.bool (gi gs i).used]:=(h.cells i h0 h1).get 0 _ rfl
theorem KD.parent(h:KD bs w o gs ms){i:Int}(h0:0<=i)(h1:i<(gs.length:Int)):Q2 bs w o (Int.toNat i*14+1) [.int .i64 (gi gs i).parent]:=(h.cells i h0 h1).get 1 _ rfl
theorem KD.name(h:KD bs w o gs ms){i:Int}(h0:0<=i)(h1:i<(gs.length:Int)):Q2 bs w o (Int.toNat i*14+2) [.string (gi gs i).name]:=(h.cells i h0 h1).get 2 _ rfl
theorem X4{g:Int}(h:KD bs w o gs ms):PX bs ZS #[.slice o gs.length c,.int .i64 g] w (.bool (Q6 gs g)):=
 zd3 o gs.length c g fun wr hx=>by
  have h:=(h.ext hx).less (cs:=[]) (by simp);refine⟨fun q=>?_,(gi gs g).used,fun q=>?_,rfl⟩
  ·have q:0<=g/\g<(gs.length:Int):=by simpa using q
   exact h.ix q.1 q.2
  ·have q:0<=g/\g<(gs.length:Int):=by simpa using q
   exact h.used q.1 q.2
theorem Pz{g:Int}(h:KD bs w o gs ms)(hl:gs.length<maxLen):PX bs Jo #[.slice o gs.length c,.int .i64 g] w (.int .i64 (Of (gs.length+1) gs g 0)):=
 za1 o gs.length c g fun wr hx=>by
  have h:=(h.ext hx).less (cs:=[]) (by simp);refine T3 (gs.length+1) 0 rfl (fun x k=>k<=gs.length+1/\Of (gs.length+1-k) gs x k=Of (gs.length+1) gs g 0) ⟨by omega,rfl⟩ fun x k ⟨hk,he⟩=>⟨fun hlt=>?_,fun hge=>?_⟩
  ·have hlt:=Ot hlt;have hf:gs.length+1-k=(gs.length-k)+1:=by omega
   rw[hf,Of] at he;refine⟨_,X4 h,fun hu=>?_,fun hu=>?_⟩
   ·have hu:Q6 gs x=false:=by simpa using hu
    rw[if_pos hu] at he;rw[<-he]
   ·have hu:Q6 gs x=true:=by simpa using hu
    rw[if_neg (by simp[hu])] at he;obtain⟨u1,u2,u3⟩:=Q5.1 hu;refine⟨fun hz=>?_,fun hz=>?_⟩
    ·rw[if_pos (by simpa using hz)] at he;rw[<-he]
    ·rw[if_neg (by simpa using hz)] at he;have hm:=Xb;refine⟨h.ix u1 u2,_,h.parent u1 u2,⟨by omega,by omega⟩,Qw (by omega) ⟨by omega,?_⟩⟩;rw[<-he,show gs.length+1-(k+1)=gs.length-k by omega];rfl
  ·have hge:=Ou hge;have:gs.length+1-k=0:=by omega
   rw[this] at he;rw[<-he]; rfl
theorem Hf(h:KD bs w o gs ms)(hl:gs.length<=maxLen):PX bs VU #[.slice o gs.length c] w (.bool (M8 gs)):=
 zdz o gs.length c fun wr hx=>by
  have h:=(h.ext hx).less (cs:=[]) (by simp);have l8:((((gs.length:Nat):Int) != 8)=false)->gs.length=8:=fun q=>by have:=(bne_eq_false_iff_eq).1 q; omega
  have i0:∀q:(((gs.length:Nat):Int) != 8)=false,(0:Int)<(gs.length:Int):=fun q=>by have:=l8 q; omega
  refine⟨fun q=>h.ix (Int.le_refl _) (i0 q),(gi gs 0).used,fun q=>h.used (Int.le_refl _) (i0 q),fun q=>?_,(gi gs 0).parent,fun q=>?_,fun q=>?_,(gi gs 0).name,fun q=>?_,fun q=>?_,fun q=>?_⟩
  ·simp only[Bool.or_eq_false_iff] at q; exact h.ix (Int.le_refl _) (i0 q.1)
  ·simp only[Bool.or_eq_false_iff] at q; exact h.parent (Int.le_refl _) (i0 q.1)
  ·simp only[Bool.or_eq_false_iff] at q; exact h.ix (Int.le_refl _) (i0 q.1.1)
  ·simp only[Bool.or_eq_false_iff] at q; exact h.name (Int.le_refl _) (i0 q.1.1)
  ·rw[EK];intro ht;have e:((gs.length:Nat):Int)=8:=by have:=ht.len; omega
   rw[e,ht.ru,ht.rp,ht.rn,EH] at q;simp at q
  ·simp only[Bool.or_eq_false_iff,Bool.not_eq_false',bne_eq_false_iff_eq,Ue] at q;obtain⟨⟨⟨q1,ru⟩,rp⟩,rn⟩:=q;have hl8:gs.length=8:=by omega
   refine Xi 8 1 rfl (fun k=>1<=k/\k<=8/\zmt gs k) ⟨Nat.le_refl _,by omega,⟨fun g h1 h2=>by omega⟩⟩ fun k ⟨hk1,hk,hS⟩=>⟨fun hlt=>?_,fun hge=>?_⟩
   ·have hlt:=Ot hlt;have hk0:(0:Int)<=(k:Int):=by omega
    have step:((gi gs (k:Int)).used=true->JY (gi gs (k:Int)).name=true/\Yh (Of 9 gs (k:Int) 0) 1 3=true/\∀h:Int,1<=h->h<(k:Int)->(gi gs h).used=true->¬((gi gs h).parent=(gi gs (k:Int)).parent/\(gi gs h).name=(gi gs (k:Int)).name))->zmt gs ((k+1:Nat):Int):=fun hst=>⟨fun g h1 h2 hu=>by
     by_cases hgk:g<(k:Int)
     ·exact hS.each g h1 hgk hu
     ·have:g=(k:Int):=by omega
      subst this; exact hst hu⟩
    refine⟨h.ix hk0 hlt,_,h.used hk0 hlt,fun hu=>⟨⟨by omega,by omega⟩,Qs (by omega) ⟨by omega,by omega,step fun hu'=>by rw[hu'] at hu; cases hu⟩⟩,fun hu=>?_⟩;have hu:(gi gs (k:Int)).used=true:=by simpa using hu
    refine⟨h.ix hk0 hlt,_,h.name hk0 hlt,_,He,Of 9 gs (k:Int) 0,fun _=>?_,Yh (Of 9 gs (k:Int) 0) 1 3,fun _=>Qi,fun q=>?_,fun q=>?_⟩
    ·have:=Pz (c:=c) (g:=(k:Int)) h (by rw[hl8]; simp[maxLen])
     rwa[hl8] at this ⊢
    ·rw[EK];intro ht;have:=(zom ht).each (k:Int) (by omega) (by omega) hu;rw[this.1,this.2.1] at q;cases q
    ·simp only[Bool.or_eq_false_iff,Bool.not_eq_false'] at q;refine Xi k 1 rfl (fun j=>1<=j/\j<=k/\∀h:Int,1<=h->h<(j:Int)->(gi gs h).used=true->¬((gi gs h).parent=(gi gs (k:Int)).parent/\(gi gs h).name=(gi gs (k:Int)).name)) ⟨Nat.le_refl _,hk1,fun g h1 h2=>by omega⟩ fun j ⟨hj1,hjk,hJ⟩=>⟨fun hlt2=>?_,fun hge2=>?_⟩
     ·have hlt2:=Ot hlt2;have hj0:(0:Int)<=(j:Int):=by omega
      have hjl:(j:Int)<(gs.length:Int):=by omega
      refine⟨h.ix hj0 hjl,_,h.used hj0 hjl,fun _=>h.ix hj0 hjl,_,fun _=>h.parent hj0 hjl,fun _=>h.ix hk0 hlt,_,fun _=>h.parent hk0 hlt,fun _=>h.ix hj0 hjl,_,fun _=>h.name hj0 hjl,fun _=>h.ix hk0 hlt,_,fun _=>h.name hk0 hlt,fun hs=>?_,fun hs=>⟨⟨by omega,by omega⟩,Qs (by omega) ⟨by omega,by omega,fun g h1 h2 hg=>?_⟩⟩⟩
      ·rw[EK];intro ht;simp only[Bool.and_eq_true,beq_iff_eq,Ue] at hs;exact ht.uniq (k:Int) (j:Int) (by omega) hlt2 (by omega) hu hs.1.1 ⟨hs.1.2,hs.2⟩
      ·by_cases hgj:g<(j:Int)
       ·exact hJ g h1 hgj hg
       ·have:g=(j:Int):=by omega
        subst this;rintro⟨e1,e2⟩;rw[hg,e1,e2,EH] at hs;simp at hs
     ·have hge2:=Ou hge2;have:j=k:=by omega
      subst this;exact⟨⟨by omega,by omega⟩,Qs (by omega) ⟨by omega,by omega,step fun _=>⟨q.1,q.2,hJ⟩⟩⟩
   ·have hge:=Ou hge;have:k=8:=by omega
    subst this;rw[Vy.2 (zp6 hl8 ru rp rn hS)]
def Tj:Nat->List ZF->Int->Int->Bool
 | 0,_,g,h=>h==g
 | f+1,gs,g,h=>h==g||(h != 0&&Tj f gs g (gi gs h).parent)
noncomputable def OI(gs:List ZF)(g h:Int):Bool:=M8 gs&&Q6 gs g&&Q6 gs h&&Tj 3 gs g h
theorem ZY{gs:List ZF}(ht:ZX gs){h:Int}(hu:Q6 gs h=true)(hz:h≠0):Q6 gs (gi gs h).parent=true/\0<=h/\h<(gs.length:Int)/\∃d:Nat,dep 3 gs h=(d:Int)+1/\dep 3 gs (gi gs h).parent=(d:Int)/\d<3:=by
 obtain⟨a,b,u⟩:=Q5.1 hu;have hl:=ht.len;have h1:1<=h:=by omega
 have hd:=ht.dp h h1 (by omega) u;refine⟨ht.par h h1 (by omega) u,a,b,?_⟩;have hr:=Tq gs 2 (gi gs h).parent;have e:dep 3 gs h=if dep 2 gs (gi gs h).parent<0 then -1 else dep 2 gs (gi gs h).parent+1:=by simp only[dep,if_neg hz]
 rw[e] at hd ⊢
 split at hd
 ·omega
 ·rename_i hn;rw[if_neg hn];have:=Lc gs 2 3 (gi gs h).parent (by omega) (by omega);exact⟨(dep 2 gs (gi gs h).parent).toNat,by omega,by omega,by omega⟩
theorem zo5{gs:List ZF}(ht:ZX gs)(g:Int):∀(f f':Nat) (h:Int),Q6 gs h=true->dep 3 gs h<=f->dep 3 gs h<=f'->Tj f gs g h=Tj f' gs g h:=by
 intro f
 induction f with
 | zero=>
  intro f' h hu h1 h2
  have hz:h=0:=Decidable.byContradiction fun hz=>by
   obtain⟨_,_,_,d,e,_⟩:=ZY ht hu hz;omega
  subst hz
  cases f' <;> simp[Tj]
 | succ f ih=>
  intro f' h hu h1 h2
  by_cases hz:h=0
  ·subst hz
   cases f' <;> simp[Tj]
  ·obtain⟨hp,_,_,d,e,e2,_⟩:=ZY ht hu hz
   cases f' with
   | zero=>omega
   | succ f'=>
    simp only[Tj];rw[ih f' (gi gs h).parent hp (by omega) (by omega)]
theorem zex{gs:List ZF}(ht:ZX gs){g h:Int}(hu:Q6 gs h=true)(hz:h≠0)(hg:h≠g):Tj 3 gs g h=Tj 3 gs g (gi gs h).parent:=by
 obtain⟨hp,_,_,d,e,e2,hd⟩:=ZY ht hu hz;rw[<-zo5 ht g 2 3 (gi gs h).parent hp (by omega) (by omega)];have e3:Tj 3 gs g h=(h==g||(h != 0&&Tj 2 gs g (gi gs h).parent)):=rfl;rw[e3];have e4:(h==g)=false:=by simpa using hg
 have e5:(h != 0)=true:=by simpa using hz
 rw[e4,e5,Bool.false_or,Bool.true_and]
theorem TJ{g h:Int}(hr:KD bs w o gs ms)(hl:gs.length<=maxLen):PX bs XB #[.slice o gs.length c,.int .i64 g,.int .i64 h] w (.bool (OI gs g h)):=
 Bg o gs.length c g h fun wr hx=>by
  have hr:=(hr.ext hx).less (cs:=[]) (by simp);refine⟨_,Hf hr hl,_,fun _=>X4 hr,_,fun _=>X4 hr,fun q=>?_,fun q=>?_⟩
  ·have:OI gs g h=false:=by
    unfold OI
    cases h1:M8 gs <;> cases h2:Q6 gs g <;> cases h3:Q6 gs h <;> simp_all
   rw[this]
  ·simp only[Bool.or_eq_false_iff,Bool.not_eq_false'] at q;obtain⟨⟨q1,q2⟩,q3⟩:=q;have ht:=Vy.1 q1;have hU:OI gs g h=Tj 3 gs g h:=by unfold OI; rw[q1,q2,q3]; rfl
   refine⟨fun vs=>∃x:Int,vs=[.int .i64 x]/\Q6 gs x=true/\Tj 3 gs g x=Tj 3 gs g h,fun vs=>(dep 3 gs (ZZ 0 vs)).toNat,⟨h,rfl,q3,rfl⟩,?_⟩;rintro x ⟨x',he,hu,hI⟩;simp only[List.cons.injEq,Value.int.injEq,true_and,and_true] at he;subst he;refine⟨fun hne=>⟨fun hz=>?_,fun hz=>?_⟩,fun heq=>?_⟩
   ·have hz:x=0:=by simpa using hz
    subst hz
    have:Tj 3 gs g 0=false:=by
     have:¬(0=g):=by simpa using hne
     simp[Tj,this]
    rw[hU,<-hI,this]
   ·have hz:x≠0:=by simpa using hz
    have hne:x≠g:=by simpa using hne
    obtain⟨hp,a,b,d,e,e2,hd⟩:=ZY ht hu hz;refine⟨hr.ix a b,_,hr.parent a b,⟨_,rfl,hp,by rw[<-zex ht hu hz hne]; exact hI⟩,?_⟩;show (dep 3 gs (gi gs x).parent).toNat<(dep 3 gs x).toNat;omega
   ·have heq:x=g:=by simpa using heq
    subst heq;rw[hU,<-hI];simp[Tj]
end
theorem zo2{s:ByteArray}{i:Nat}(h:i<s.size):((s.get! i).toNat:Int)=JG s (i:Int):=by
 have hi:i<s.data.size:=h;unfold JG;rw[Int.toNat_natCast];simp[ByteArray.get!,getElem!_pos s.data i hi,Array.getD,h]
theorem zen{s:ByteArray}{i:Nat}(h:(s.get! i).toNat<128):Utf8.decode s i=((s.get! i).toNat,1):=by
 simp only[Utf8.decode,Nat.add_zero];rw[if_pos h]
theorem zou{s:ByteArray}{i:Nat}(h:¬(s.get! i).toNat<128):128<=(Utf8.decode s i).1/\1<=(Utf8.decode s i).2:=by
 simp only[Utf8.decode,Nat.add_zero,Utf8.runeError];rw[if_neg h];split
 ·split
  ·rename_i h1; exact⟨h1,by show 1<=2; omega⟩
  ·exact⟨by decide,by decide⟩
 ·split
  ·split
   ·rename_i h1;simp only[ge_iff_le,Bool.and_eq_true,decide_eq_true_eq] at h1;exact⟨by show 128<=_; omega,by show 1<=3; omega⟩
   ·exact⟨by decide,by decide⟩
  ·split
   ·split
    ·rename_i h1;simp only[ge_iff_le,Bool.and_eq_true,decide_eq_true_eq] at h1;exact⟨by show 128<=_; omega,by show 1<=4; omega⟩
    ·exact⟨by decide,by decide⟩
   ·exact⟨by decide,by decide⟩
theorem zo8(w:Wo)(b:Nat)(s:ByteArray)(p:Nat):Q0 [b] w (Pv w b s p):=
 ⟨rfl,rfl,rfl,by simp[Pv],fun k _ hk=>by
  have:b≠k:=fun e=>hk (by simp[e])
  simp only[Pv];rw[Array.getElem?_setIfInBounds_ne this]⟩
theorem zrl{w:Wo}{b:Nat}{s:ByteArray}{p:Nat}(h:b<w.heap.size):(Pv w b s p).heap[b]? = some (.stringIter s p):=by
 simp[Pv,h]
def zv5(b:Nat)(w:Wo):Nat:=match w.heap[b]? with
 | some (.stringIter s p)=>s.size+1-p
 | _=>0
theorem zix{s:ByteArray}(h1:Zp s (⟨[119,101,105,103,104,116].toArray⟩)=false)(h2:Zp s (⟨[109,97,120].toArray⟩)=false)(h3:Zp s (⟨[99,112,117,115].toArray⟩)=false)(h4:Zp s (⟨[112,114,111,99,115].toArray⟩)=false)(h5:Zp s (⟨[115,116,97,116].toArray⟩)=false):M4 s=false:=by
 unfold M4; rw[h1,h2,h3,h4,h5]; rfl
theorem Og{s:ByteArray}(h:M4 s=true):JY s=false:=MQ fun ⟨_,h2,_⟩=>by rw[h] at h2; cases h2
theorem zc8{s:ByteArray}{w:Wo}{bs:List Nat}:PX bs Ph #[.string s] w (.bool (JY s)):=by
 refine Oi fun wr hx=>zcy s (R:=fun v w'=>v=.bool (JY s)/\Q0 [] wr w') ?_
 refine⟨fun h=>?_,fun h1=>⟨fun h=>?_,fun h2=>⟨fun h=>?_,fun h3=>⟨fun h=>?_,fun h4=>⟨fun h=>?_,fun h5=>?_⟩⟩⟩⟩⟩
 ·intro w1 hx1; rw[Og (by unfold M4; rw[h]; rfl)]; exact⟨rfl,hx1⟩
 ·intro w1 hx1; rw[Og (by unfold M4; rw[h]; simp)]; exact⟨rfl,hx1⟩
 ·intro w1 hx1; rw[Og (by unfold M4; rw[h]; simp)]; exact⟨rfl,hx1⟩
 ·intro w1 hx1; rw[Og (by unfold M4; rw[h]; simp)]; exact⟨rfl,hx1⟩
 ·intro w1 hx1; rw[Og (by unfold M4; rw[h]; simp)]; exact⟨rfl,hx1⟩
 ·have hf:=zix h1 h2 h3 h4 h5;refine⟨_,Qu,fun h=>?_,fun h=>?_⟩
  ·intro w1 hx1;have h:Yh (s.size:Int) 1 8=false:=by simpa using h
   have h:=zv0.1 h;rw[MQ fun ⟨h6,_⟩=>h (by omega)];exact⟨rfl,hx1⟩
  ·have h:Yh (s.size:Int) 1 8=true:=by simpa using h
   have h:=Qm.1 h;intro w1 hx1 _;refine⟨some ⟨w1.heap.size,0,none⟩,w1.alloc (.stringIter s 0),by simp[Instr.range,run_underlying zbs],Jq,?_⟩;have hb0:(w1.alloc (.stringIter s 0)).heap[w1.heap.size]? = some (.stringIter s 0):=Array.getElem?_push_size ..;have hX0:Q0 [] wr (w1.alloc (.stringIter s 0)):=hx1.trans (Zc w1 _);have hbr:wr.heap.size<=w1.heap.size:=hx1.size;generalize w1.heap.size=b at hb0 hbr;generalize w1.alloc (.stringIter s 0)=w2 at hb0 hX0;refine⟨fun vs w'=>vs=[]/\Q0 [] wr w'/\∃p:Nat,p<=s.size/\w'.heap[b]? = some (.stringIter s p)/\∀j:Nat,j<p->zth (JG s (j:Int))=true,fun _ w'=>zv5 b w',fun w3 hx3 _=>⟨rfl,hX0.trans hx3,0,Nat.zero_le _,Zd hb0 hx3 (by simp),fun j hj=>absurd hj (Nat.not_lt_zero j)⟩,?_⟩;intro w3 _ ⟨_,hX,p,hp,hb,hI⟩ w4 hx4 _;have hb4:=Zd hb hx4 (by simp);refine⟨b,s,p,rfl,by simp,hb4,fun hge=>⟨(by intro q; cases q),fun _ w5 hx5=>?_⟩,fun hlt=>⟨fun _=>?_,by intro q; cases q⟩⟩
   ·have:p=s.size:=by omega
    subst this;rw[Kf.2 ⟨⟨by omega,by omega⟩,hf,hI⟩];exact⟨rfl,(hX.trans hx4).trans hx5⟩
   ·have hX5:Q0 [] wr (Pv w4 b s (p+(Utf8.decode s p).2)):=(hX.trans hx4).fresh (zo8 w4 b s _) fun x hm=>.inl (by rw[List.mem_singleton.1 hm]; exact hbr)
    have hg:=zo2 hlt;refine⟨fun hno=>?_,fun hyes=>?_⟩
    ·intro w5 hx5
     have hno':JY s=false:=MQ fun ⟨_,_,h3⟩=>by
      have h3:=h3 p hlt
      by_cases hlo:(s.get! p).toNat<128
      ·rw[zen hlo] at hno;simp only[hg] at hno;unfold zth at h3;rw[h3] at hno;cases hno
      ·unfold zth at h3;simp only[Bool.or_eq_true,Bool.and_eq_true,decide_eq_true_eq] at h3;omega
     rw[hno'];exact⟨rfl,hX5.trans hx5⟩
    ·intro w5 hx5 _
     by_cases hlo:(s.get! p).toNat<128
     ·rw[zen hlo] at hyes hX5 hx5;simp only[hg] at hyes;have hat:=Zd (zrl (s:=s) (p:=p+1) (Ur hb4)) hx5 (by simp);refine⟨⟨rfl,hX5.trans hx5,p+1,by omega,hat,fun j hj=>?_⟩,?_⟩
      ·by_cases hjp:j<p
       ·exact hI j hjp
       ·have:j=p:=by omega
        subst this;unfold zth;rw[Bool.not_eq_false'] at hyes;exact hyes
      ·simp only[zv5,hat,hb];omega
     ·exfalso
      have:=zou hlo;rw[Bool.not_eq_false'] at hyes;simp only[Bool.or_eq_true,Bool.and_eq_true,decide_eq_true_eq] at hyes;omega
end Go.Proofs.YtclpmgfpjeaibaaGreat
