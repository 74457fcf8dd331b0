/- Part 6 of what the law FnExactWorldRun needs: the engine, the functions' propositions, the contracts. -/
import Derived.Test.YthhmnlcimojhlaaGreatDoorFnExactWorldRunPe
import Derived.ChangeArms
namespace Go.Proofs.YthhmnlcimojhlaaGreatDoor
open Go.RowKit Go.ChangeShapes
set_option linter.unusedVariables false
set_option linter.unusedSimpArgs false
section
variable {H:Type} {en:TypeId×Value→H} {P:Program} {w:World} {base:Nat} {spare:Nat→Bool} {held:Bool} {fuel:Nat} {t:TypeId} {cs:List Value} {x:DataW H×List MemPlace}
def zd8 (P:Program) (t:TypeId):Array Field:=match P.underlying t with
 | some (.struct fs)=>fs
 | _ => #[]
theorem zl7 {l:List (TypeId×Nat)} (hu:P.underlying t=some (.struct (zd8 P t))) (hl:(zd8 P t).toList.map (fun f=>(f.type,f.offset))=l)
  (h:DataW.trod en P w base spare held fuel t cs=some x):cs.length=P.cellsOf t∧∀p∈l,∃n y,DataW.trod en P w base spare held n p.1 ((cs.drop p.2).take (P.cellsOf p.1))=some y:=by
 obtain ⟨xs,n,_,_,hlen,hxs,hf⟩:=DataW.trod_struct hu h
 refine ⟨hlen,fun p hp => ?_⟩
 rw [←hl] at hp
 obtain ⟨f,hfm,rfl⟩:=List.mem_map.1 hp
 obtain ⟨i,hi⟩:=List.getElem?_of_mem hfm
 have hi':(zd8 P t)[i]? = some f:=by simpa using hi
 have hlt:i<xs.length:=by
  have:=(Array.getElem?_eq_some_iff.1 hi').1
  omega
 refine ⟨n,xs[i],?_⟩
 have:=hf i f hi'
 rw [List.getElem?_eq_getElem hlt] at this
 exact this
theorem zahr {e:TypeId} (hu:P.underlying t=some (.slice e)) (h:DataW.trod en P w base spare held fuel t cs=some x) :
  ∃(o:Option Addr) (len cap:Nat),cs=[.slice o len cap]∧len≤cap∧cap≤maxLen∧∀i,i<len→∃a n y ec,o=some a∧w.cells? base (a.add (i*P.cellsOf e)) (P.cellsOf e)=some ec∧DataW.trod en P w base spare held n e ec=some y:=by
 rcases DataW.trod_slice hu h with ⟨rfl,_⟩ | ⟨a,len,cap,elems,rest,n,_,rfl,_,_,hl,hm,hlen,hel,_,_⟩
 ·exact ⟨none,0,0,rfl,Nat.le_refl _,Nat.zero_le _,fun i hi=>absurd hi (Nat.not_lt_zero i)⟩
 ·refine ⟨some a,len,cap,rfl,hl,hm,fun i hi => ?_⟩
  have h1:=hel i hi
  rw [List.getElem?_eq_getElem (by omega),Option.bind_eq_some_iff] at h1
  obtain ⟨ec,h2,h3⟩:=h1
  exact ⟨a,n,_,ec,rfl,h2,h3⟩
theorem zado {α:Type} [Inhabited α] {R:Nat→α→Prop}:∀(n:Nat),(∀i,i<n→∃a,R i a)→∃l:List α,l.length=n∧∀i,i<n→R i (l.getD i default)
 | 0,_=>⟨[],rfl,fun i hi=>absurd hi (Nat.not_lt_zero i)⟩
 | n+1,h=>by
  obtain ⟨l,hl,hr⟩:=zado n fun i hi=>h i (by omega)
  obtain ⟨a,ha⟩:=h n (by omega)
  refine ⟨l++[a],by simp [hl],fun i hi => ?_⟩
  by_cases hin:i<n
  ·have:=hr i hin
   rw [List.getD_eq_getElem?_getD] at this ⊢
   rwa [List.getElem?_append_left (by omega)]
  ·have:i=n:=by omega
   subst this
   rw [List.getD_eq_getElem?_getD,List.getElem?_append_right (by omega),hl]
   simpa using ha
theorem zabi {α:Type} [Inhabited α] {enc:α→List Value} {Q:α→Prop} {z:Nat} {e:TypeId} (hu:P.underlying t=some (.slice e)) (hz:P.cellsOf e=z)
  (each:∀ec n y,DataW.trod en P w base spare held n e ec=some y→∃a:α,ec=enc a∧Q a) (h:DataW.trod en P w base spare held fuel t cs=some x) :
  ∃(o:Option Addr) (cap:Nat) (l:List α),cs=[.slice o l.length cap]∧l.length≤cap∧cap≤maxLen∧Rd enc z [] w o l∧∀i:Int,0≤i→i<(l.length:Int)→Q (gi l i):=by
 obtain ⟨o,len,cap,rfl,h1,h2,h3⟩:=zahr hu h
 rw [hz] at h3
 obtain ⟨l,hl,hr⟩:=zado (R:=fun i a=>zaa [] w o (i*z) (enc a)∧Q a) len fun i hi=>by
  obtain ⟨ad,n,y,ec,ho,hc,ht⟩:=h3 i hi
  obtain ⟨a,rfl,hq⟩:=each ec n y ht
  refine ⟨a,zii fun j v hj => ?_,hq⟩
  obtain ⟨_,hlen,hcell⟩:=World.cells?_some hc
  have hjl:j<z:=by
   have:=(List.getElem?_eq_some_iff.1 hj).1
   omega
  refine ⟨ad,ho,by simp,?_⟩
  have:=hcell j hjl
  rw [zgi] at this
  rw [this]; exact hj
 subst hl
 refine ⟨o,cap,l,rfl,h1,h2,fun i h0 hi => ?_,fun i h0 hi => ?_⟩
 ·exact (hr i.toNat (by omega)).1
 ·exact (hr i.toNat (by omega)).2
theorem zakv {n:Int} (h:(Lit.int .i64 n).wf=true):InR .i64 n:=by
 simpa [Lit.wf,IntKind.min,IntKind.max,IntKind.signed,IntKind.bits,InR] using h
theorem tr_i {t:TypeId} (hu:P.underlying t=some (.int .i64)) (h:DataW.trod en P w base spare held fuel t cs=some x):∃n:Int,cs=[.int .i64 n]∧InR .i64 n:=by
 obtain ⟨n,h1,_,h2⟩:=DataW.trod_int hu h
 exact ⟨n,h1,zakv h2⟩
theorem tr_b {t:TypeId} (hu:P.underlying t=some .bool) (h:DataW.trod en P w base spare held fuel t cs=some x):∃b:Bool,cs=[.bool b]:=by
 obtain ⟨b,h1,_⟩:=DataW.trod_bool hu h
 exact ⟨b,h1⟩
theorem tr_s {t:TypeId} (hu:P.underlying t=some .string) (h:DataW.trod en P w base spare held fuel t cs=some x):∃s:ByteArray,cs=[.string s]∧s.size≤maxLen:=by
 obtain ⟨s,h1,_,h2⟩:=DataW.trod_string hu h
 exact ⟨s,h1,h2⟩
end
theorem len4 {l:List Value} (h:l.length=4):∃a0 a1 a2 a3,l=[a0,a1,a2,a3]:=by
 match l,h with
 | [a0,a1,a2,a3],_=>exact ⟨a0,a1,a2,a3,rfl⟩
theorem len5 {l:List Value} (h:l.length=5):∃a0 a1 a2 a3 a4,l=[a0,a1,a2,a3,a4]:=by
 match l,h with
 | [a0,a1,a2,a3,a4],_=>exact ⟨a0,a1,a2,a3,a4,rfl⟩
theorem len9 {l:List Value} (h:l.length=9):∃a0 a1 a2 a3 a4 a5 a6 a7 a8,l=[a0,a1,a2,a3,a4,a5,a6,a7,a8]:=by
 match l,h with
 | [a0,a1,a2,a3,a4,a5,a6,a7,a8],_=>exact ⟨a0,a1,a2,a3,a4,a5,a6,a7,a8,rfl⟩
theorem zak3 {l:List Value} (h:l.length=14):∃a0 a1 a2 a3 a4 a5 a6 a7 a8 a9 a10 a11 a12 a13,l=[a0,a1,a2,a3,a4,a5,a6,a7,a8,a9,a10,a11,a12,a13]:=by
 match l,h with
 | [a0,a1,a2,a3,a4,a5,a6,a7,a8,a9,a10,a11,a12,a13],_=>exact ⟨a0,a1,a2,a3,a4,a5,a6,a7,a8,a9,a10,a11,a12,a13,rfl⟩
theorem u_int:Tryz.prog.underlying ty_int=some (.int .i64):=by kernel_rfl
theorem u_bool:Tryz.prog.underlying za2=some .bool:=by kernel_rfl
theorem zaal:Tryz.prog.cellsOf ty_int=1:=by kernel_rfl
theorem z58:Tryz.prog.cellsOf za2=1:=by kernel_rfl
theorem zmx:Tryz.prog.underlying zb5=some (.slice ty_int):=by kernel_rfl
theorem zok:Tryz.prog.underlying zcu=some (.slice za2):=by kernel_rfl
theorem zaft:Tryz.prog.cellsOf zb5=1:=by kernel_rfl
theorem zab4:Tryz.prog.cellsOf zcu=1:=by kernel_rfl
theorem zcq:Elt Tryz.prog encI 1 ty_int 8 (0:Int):=zs9 (by kernel_rfl) fun _=>rfl
theorem zcp:Elt Tryz.prog encB 1 za2 1 (false:Bool):=zs9 (by kernel_rfl) fun _=>rfl
end Go.Proofs.YthhmnlcimojhlaaGreatDoor
namespace Go.Proofs.YthhmnlcimojhlaaGreatDoor
open Go.RowKit Go.ChangeShapes
set_option linter.unusedVariables false
set_option linter.unusedSimpArgs false
section
variable {H:Type} {en:TypeId×Value→H} {w:World} {base:Nat} {spare:Nat→Bool} {held:Bool} {fuel:Nat} {cs:List Value} {x:DataW H×List MemPlace}
theorem zu5:Tryz.prog.underlying zfa=some .string:=by kernel_rfl
theorem zafu:Tryz.prog.cellsOf zfa=1:=by kernel_rfl
theorem z84:Tryz.prog.underlying zej=some (.slice zfm):=by kernel_rfl
theorem z73:Tryz.prog.cellsOf zej=1:=by kernel_rfl
theorem zaht:Tryz.prog.underlying zfm=some (.struct (zd8 Tryz.prog zfm)):=by kernel_rfl
theorem zaf6:(zd8 Tryz.prog zfm).toList.map (fun f=>(f.type,f.offset))=[(ty_int,0),(za2,1),(ty_int,2),(ty_int,3),(ty_int,4)]:=by kernel_rfl
theorem z9d:Tryz.prog.cellsOf zfm=5:=by kernel_rfl
theorem zajt:Tryz.prog.underlying zgg=some (.struct (zd8 Tryz.prog zgg)):=by kernel_rfl
theorem zaiz:(zd8 Tryz.prog zgg).toList.map (fun f=>(f.type,f.offset))=[(ty_int,0),(ty_int,1),(ty_int,2),(zb5,3),(zcu,4)]:=by kernel_rfl
theorem zaim:Tryz.prog.cellsOf zgg=5:=by kernel_rfl
theorem zahs:Tryz.prog.underlying zfl=some (.struct (zd8 Tryz.prog zfl)):=by kernel_rfl
theorem zaf5:(zd8 Tryz.prog zfl).toList.map (fun f=>(f.type,f.offset))=[(za2,0),(ty_int,1),(zfa,2),(ty_int,3),(ty_int,4),(ty_int,5),(ty_int,6),(ty_int,7),(zgg,8),(zej,13)]:=by kernel_rfl
theorem z9c:Tryz.prog.cellsOf zfl=14:=by kernel_rfl
theorem z83:Tryz.prog.underlying zei=some (.slice zfl):=by kernel_rfl
theorem zaje (h:DataW.trod en Tryz.prog w base spare held fuel zb5 cs=some x):∃(o:Option Addr) (cap:Nat) (l:List Int),cs=[.slice o l.length cap]∧l.length≤cap∧cap≤maxLen∧RdI [] w o l∧∀i:Int,0≤i→i<(l.length:Int)→InR .i64 (gi l i) :=
 zabi zmx zaal (fun _ _ _ h=>by obtain ⟨n,h1,h2⟩:=tr_i u_int h; exact ⟨n,h1,h2⟩) h
theorem zag3 (h:DataW.trod en Tryz.prog w base spare held fuel zcu cs=some x):∃(o:Option Addr) (cap:Nat) (l:List Bool),cs=[.slice o l.length cap]∧l.length≤cap∧cap≤maxLen∧RdB [] w o l:=by
 obtain ⟨o,cap,l,h1,h2,h3,h4,_⟩:=zabi (Q:=fun _=>True) zok z58 (fun _ _ _ h=>by obtain ⟨n,h1⟩:=tr_b u_bool h; exact ⟨n,h1,trivial⟩) h
 exact ⟨o,cap,l,h1,h2,h3,h4⟩
theorem zag5 (h:DataW.trod en Tryz.prog w base spare held fuel zfm cs=some x):∃s:Shf,cs=encS s:=by
 obtain ⟨hl,hp⟩:=zl7 zaht zaf6 h
 rw [z9d] at hl
 obtain ⟨a,b,c,d,e,rfl⟩:=len5 hl
 ·skip
  obtain ⟨_,_,h1⟩:=hp (ty_int,0) (by simp)
  obtain ⟨_,_,h2⟩:=hp (za2,1) (by simp)
  obtain ⟨_,_,h3⟩:=hp (ty_int,2) (by simp)
  obtain ⟨_,_,h4⟩:=hp (ty_int,3) (by simp)
  obtain ⟨_,_,h5⟩:=hp (ty_int,4) (by simp)
  obtain ⟨n1,e1,_⟩:=tr_i u_int h1
  obtain ⟨n2,e2⟩:=tr_b u_bool h2
  obtain ⟨n3,e3,_⟩:=tr_i u_int h3
  obtain ⟨n4,e4,_⟩:=tr_i u_int h4
  obtain ⟨n5,e5,_⟩:=tr_i u_int h5
  simp only [zaal,z58,List.drop,List.take,List.cons.injEq,and_true] at e1 e2 e3 e4 e5
  subst e1; subst e2; subst e3; subst e4; subst e5
  exact ⟨⟨n1,n2,n3,n4,n5⟩,rfl⟩
theorem zabb (h:DataW.trod en Tryz.prog w base spare held fuel zej cs=some x):∃(o:Option Addr) (cap:Nat) (l:List Shf),cs=[.slice o l.length cap]∧l.length≤cap∧cap≤maxLen∧RdS [] w o l:=by
 obtain ⟨o,cap,l,h1,h2,h3,h4,_⟩:=zabi (Q:=fun _=>True) z84 z9d (fun _ _ _ h=>by obtain ⟨n,h1⟩:=zag5 h; exact ⟨n,h1,trivial⟩) h
 exact ⟨o,cap,l,h1,h2,h3,h4⟩
structure FitG (g:Grp):Prop where
 nm:g.name.size≤maxLen
 nx:InR .i64 g.next
 lo:g.band.locals.length≤maxLen
 dr:g.band.dry.length≤maxLen
 sh:g.shelves.length≤maxLen
theorem zag4 (h:DataW.trod en Tryz.prog w base spare held fuel zfl cs=some x) :
  ∃p:Grp×MG,cs=encG p.1 p.2∧FitG p.1∧RdI [] w p.2.lO p.1.band.locals∧RdB [] w p.2.dO p.1.band.dry∧RdS [] w p.2.sO p.1.shelves:=by
 obtain ⟨hl,hp⟩:=zl7 zahs zaf5 h
 rw [z9c] at hl
 obtain ⟨a0,a1,a2,a3,a4,a5,a6,a7,a8,a9,a10,a11,a12,a13,rfl⟩:=zak3 hl
 ·skip
  obtain ⟨_,_,h0⟩:=hp (za2,0) (by simp)
  obtain ⟨_,_,h1⟩:=hp (ty_int,1) (by simp)
  obtain ⟨_,_,h2⟩:=hp (zfa,2) (by simp)
  obtain ⟨_,_,h3⟩:=hp (ty_int,3) (by simp)
  obtain ⟨_,_,h4⟩:=hp (ty_int,4) (by simp)
  obtain ⟨_,_,h5⟩:=hp (ty_int,5) (by simp)
  obtain ⟨_,_,h6⟩:=hp (ty_int,6) (by simp)
  obtain ⟨_,_,h7⟩:=hp (ty_int,7) (by simp)
  obtain ⟨_,_,h8⟩:=hp (zgg,8) (by simp)
  obtain ⟨_,_,h9⟩:=hp (zej,13) (by simp)
  obtain ⟨n0,e0⟩:=tr_b u_bool h0
  obtain ⟨n1,e1,_⟩:=tr_i u_int h1
  obtain ⟨n2,e2,b2⟩:=tr_s zu5 h2
  obtain ⟨n3,e3,_⟩:=tr_i u_int h3
  obtain ⟨n4,e4,_⟩:=tr_i u_int h4
  obtain ⟨n5,e5,_⟩:=tr_i u_int h5
  obtain ⟨n6,e6,b6⟩:=tr_i u_int h6
  obtain ⟨n7,e7,_⟩:=tr_i u_int h7
  obtain ⟨_,hb⟩:=zl7 zajt zaiz h8
  obtain ⟨_,_,k0⟩:=hb (ty_int,0) (by simp)
  obtain ⟨_,_,k1⟩:=hb (ty_int,1) (by simp)
  obtain ⟨_,_,k2⟩:=hb (ty_int,2) (by simp)
  obtain ⟨_,_,k3⟩:=hb (zb5,3) (by simp)
  obtain ⟨_,_,k4⟩:=hb (zcu,4) (by simp)
  obtain ⟨m0,f0,_⟩:=tr_i u_int k0
  obtain ⟨m1,f1,_⟩:=tr_i u_int k1
  obtain ⟨m2,f2,_⟩:=tr_i u_int k2
  obtain ⟨o3,c3,l3,f3,b3a,b3b,r3,_⟩:=zaje k3
  obtain ⟨o4,c4,l4,f4,b4a,b4b,r4⟩:=zag3 k4
  obtain ⟨o5,c5,l5,f5,b5a,b5b,r5⟩:=zabb h9
  simp only [zaal,z58,zafu,z73,zaim,zaft,zab4,List.drop,List.take,List.cons.injEq,and_true] at e0 e1 e2 e3 e4 e5 e6 e7 f0 f1 f2 f3 f4 f5
  subst e0; subst e1; subst e2; subst e3; subst e4; subst e5; subst e6; subst e7; subst f0; subst f1; subst f2; subst f3; subst f4; subst f5
  exact ⟨(⟨n0,n1,n2,n3,n4,n5,n6,n7,⟨m0,m1,m2,l3,l4⟩,l5⟩,⟨o3,c3,o4,c4,o5,c5⟩),rfl,⟨b2,b6,by show l3.length≤_; omega,by show l4.length≤_; omega,by show l5.length≤_; omega⟩,r3,r4,r5⟩
theorem zad0 (h:DataW.trod en Tryz.prog w base spare held fuel zei cs=some x) :
  ∃(o:Option Addr) (cap:Nat) (gs:List Grp) (ms:Nat→MG),cs=[.slice o gs.length cap]∧gs.length≤cap∧cap≤maxLen∧RdG [] w o gs ms∧∀i:Int,0≤i→i<(gs.length:Int)→FitG (gi gs i):=by
 obtain ⟨o,cap,l,h1,h2,h3,h4,h5⟩:=zabi (enc:=fun p:Grp×MG=>encG p.1 p.2) z83 z9c (fun _ _ _ h=>zag4 h) h
 have e:∀i:Int,0≤i→i<(l.length:Int)→gi (l.map (·.1)) i=(gi l i).1:=fun i h0 hi=>by
  obtain ⟨k,rfl⟩:=Int.eq_ofNat_of_zero_le h0
  rw [ze4 (by simp; omega),ze4 (by omega)]; simp
 refine ⟨o,cap,l.map (·.1),fun k=>(gi l (k:Int)).2,by simpa using h1,by simpa using h2,h3,⟨fun i h0 hi => ?_,fun i h0 hi => ?_,fun i h0 hi => ?_,fun i h0 hi => ?_⟩,fun i h0 hi => ?_⟩
 all_goals
  rw [List.length_map] at hi
  rw [e i h0 hi]
  have ek:((i.toNat:Nat):Int)=i:=by omega
  try rw [ek]
 ·exact h4 i h0 hi
 ·exact (h5 i h0 hi).2.1
 ·exact (h5 i h0 hi).2.2.1
 ·exact (h5 i h0 hi).2.2.2
 ·exact (h5 i h0 hi).1
end
end Go.Proofs.YthhmnlcimojhlaaGreatDoor
namespace Go.Proofs.YthhmnlcimojhlaaGreatDoor
open Go.RowKit
set_option linter.unusedVariables false
set_option maxRecDepth 100000
set_option maxHeartbeats 1600000
def z2r (aO:Option Addr) (aL aC:Nat) (aa:Int) (w:World) (R:Value→World→Prop):Prop :=
 InR .i64 (aa - (aL:Int)) ∧
 ((decide (aa - (aL:Int)<0))=true →
 R (.int .i64 (-1)) w) ∧
 ((decide (aa - (aL:Int)<0))=false →
 R (.int .i64 (aa - (aL:Int))) w)
theorem z4z (aO aL aC leftv):PuV (z2r aO aL aC leftv) zk8 #[.slice aO aL aC,.int .i64 leftv]:=pV [] false [] Tryz.func35 (by kernel_rfl) (by kernel_rfl)
def zzj (aO:Option Addr) (aL aC:Nat) (aa:Int) (w:World) (R:Value→World→Prop):Prop :=
 InR .i64 (aa - (aL:Int)) ∧
 ((decide (aa - (aL:Int)<0))=true →
 R (.int .i64 (-1)) w) ∧
 ((decide (aa - (aL:Int)<0))=false →
 R (.int .i64 (aa - (aL:Int))) w)
theorem z00 (aO aL aC leftv):PuV (zzj aO aL aC leftv) zjv #[.slice aO aL aC,.int .i64 leftv]:=pV [] false [] Tryz.func36 (by kernel_rfl) (by kernel_rfl)
def z2s (aO:Option Addr) (aL aC:Nat) (aa:Int) (w:World) (R:Value→World→Prop):Prop :=
 InR .i64 (aa - (aL:Int)) ∧
 ((decide (aa - (aL:Int)<0))=true →
 R (.int .i64 (-1)) w) ∧
 ((decide (aa - (aL:Int)<0))=false →
 R (.int .i64 (aa - (aL:Int))) w)
theorem z40 (aO aL aC leftv):PuV (z2s aO aL aC leftv) zk9 #[.slice aO aL aC,.int .i64 leftv]:=pV [] false [] Tryz.func243 (by kernel_rfl) (by kernel_rfl)
def zzh (aO:Option Addr) (aL aC:Nat) (aa:Int) (w:World) (R:Value→World→Prop):Prop :=
 InR .i64 (aa - (aL:Int)) ∧
 ((decide (aa - (aL:Int)<0))=true →
 R (.int .i64 (-1)) w) ∧
 ((decide (aa - (aL:Int)<0))=false →
 R (.int .i64 (aa - (aL:Int))) w)
theorem z0y (aO aL aC leftv):PuV (zzh aO aL aC leftv) zjt #[.slice aO aL aC,.int .i64 leftv]:=pV [] false [] Tryz.func244 (by kernel_rfl) (by kernel_rfl)
def z2q (a0 a1 a2:Int) (ca:Option Addr) (da ea:Nat) (fa:Option Addr) (ga ha:Nat) (ia:Int) (w:World) (R:Value→World→Prop):Prop :=
 (∀b,w.heap.size≤b →
 (∃aa,
 zab [] Tryz.prog zk9 #[.slice ca da ea,.int .i64 ia] w (.int .i64 aa) ∧
 ((decide (aa<0))=true →
 R (.int .i64 (-1)) w) ∧
 ((decide (aa<0))=false →
 (∃ba,
 zab [] Tryz.prog zjt #[.slice fa ga ha,.int .i64 aa] w (.int .i64 ba) ∧
 ((decide (ba<0))=true →
 R (.int .i64 (-1)) w) ∧
 ((decide (ba<0))=false →
 R (.int .i64 ba) w)))))
theorem z4y (a0 a1 a2 a3O a3L a3C a4O a4L a4C leftv):PuV (z2q a0 a1 a2 a3O a3L a3C a4O a4L a4C leftv) zk7 #[.agg #[.int .i64 a0,.int .i64 a1,.int .i64 a2,.slice a3O a3L a3C,.slice a4O a4L a4C],.int .i64 leftv]:=pV [] false [] Tryz.func194 (by kernel_rfl) (by kernel_rfl)
def zvt (aO:Option Addr) (aL aC:Nat) (aa:Int) (w:World) (R:Value→World→Prop):Prop :=
 InR .i64 (aa - (aL:Int)) ∧
 ((decide (aa - (aL:Int)<0))=true →
 R (.int .i64 (-1)) w) ∧
 ((decide (aa - (aL:Int)<0))=false →
 R (.int .i64 (aa - (aL:Int))) w)
theorem zyd (aO aL aC leftv):PuV (zvt aO aL aC leftv) zix #[.slice aO aL aC,.int .i64 leftv]:=pV [] false [] Tryz.func195 (by kernel_rfl) (by kernel_rfl)
def zzi (a0:Bool) (a1:Int) (a2:ByteArray) (a3 a4 a5 a6 a7 a8 a9 ca:Int) (da:Option Addr) (ea fa:Nat) (ga:Option Addr) (ha ia:Nat) (ja:Option Addr) (ka la:Nat) (ma:Int) (w:World) (R:Value→World→Prop):Prop :=
 (∀b,w.heap.size≤b →
 InR .i64 (ma - (a2.size:Int)) ∧
 ((decide (ma - (a2.size:Int)<0))=true →
 R (.int .i64 (-1)) w) ∧
 ((decide (ma - (a2.size:Int)<0))=false →
 (∃aa,
 zab [] Tryz.prog zk7 #[.agg #[.int .i64 a8,.int .i64 a9,.int .i64 ca,.slice da ea fa,.slice ga ha ia],.int .i64 (ma - (a2.size:Int))] w (.int .i64 aa) ∧
 ((decide (aa<0))=true →
 R (.int .i64 (-1)) w) ∧
 ((decide (aa<0))=false →
 (∃ba,
 zab [] Tryz.prog zix #[.slice ja ka la,.int .i64 aa] w (.int .i64 ba) ∧
 ((decide (ba<0))=true →
 R (.int .i64 (-1)) w) ∧
 ((decide (ba<0))=false →
 R (.int .i64 ba) w))))))
theorem z0z (a0 a1 a2 a3 a4 a5 a6 a7 a8 a9 a10 a11O a11L a11C a12O a12L a12C a13O a13L a13C leftv):PuV (zzi a0 a1 a2 a3 a4 a5 a6 a7 a8 a9 a10 a11O a11L a11C a12O a12L a12C a13O a13L a13C leftv) zju #[.agg #[.bool a0,.int .i64 a1,.string a2,.int .i64 a3,.int .i64 a4,.int .i64 a5,.int .i64 a6,.int .i64 a7,.int .i64 a8,.int .i64 a9,.int .i64 a10,.slice a11O a11L a11C,.slice a12O a12L a12C,.slice a13O a13L a13C],.int .i64 leftv]:=pV [] false [] Tryz.func117 (by kernel_rfl) (by kernel_rfl)
def zvs (aO:Option Addr) (aL aC:Nat) (na:Int) (w:World) (R:Value→World→Prop):Prop :=
 InR .i64 (na - (aL:Int)) ∧
 ((decide (na - (aL:Int)<0))=true →
 R (.int .i64 (-1)) w) ∧
 ((decide (na - (aL:Int)<0))=false →
 (∃(aa:List Value→Prop) (mu:List Value→Nat),aa [.int .i64 (na - (aL:Int)),.int .i64 0] ∧
 ∀(ba i:Int),aa [.int .i64 ba,.int .i64 i] →
 ((decide (i<(aL:Int)))=true →
 Ix aO aL i ∧
 (∃(x0:Bool) (x1:Int) (x2:ByteArray) (x3 x4 x5 x6 x7 x8 x9 ca:Int) (da:Option Addr) (ea fa:Nat) (ga:Option Addr) (ha ia:Nat) (ja:Option Addr) (ka la:Nat),
 zaa [] w aO (Int.toNat i*14) [.bool x0,.int .i64 x1,.string x2,.int .i64 x3,.int .i64 x4,.int .i64 x5,.int .i64 x6,.int .i64 x7,.int .i64 x8,.int .i64 x9,.int .i64 ca,.slice da ea fa,.slice ga ha ia,.slice ja ka la] ∧
 (∃ma,
 zab [] Tryz.prog zju #[.agg #[.bool x0,.int .i64 x1,.string x2,.int .i64 x3,.int .i64 x4,.int .i64 x5,.int .i64 x6,.int .i64 x7,.int .i64 x8,.int .i64 x9,.int .i64 ca,.slice da ea fa,.slice ga ha ia,.slice ja ka la],.int .i64 ba] w (.int .i64 ma) ∧
 ((decide (ma<0))=true →
 R (.int .i64 (-1)) w) ∧
 ((decide (ma<0))=false →
 InR .i64 (i+1) ∧
 aa [.int .i64 ma,.int .i64 (i+1)]∧mu [.int .i64 ma,.int .i64 (i+1)]<mu [.int .i64 ba,.int .i64 i])))) ∧
 ((decide (i<(aL:Int)))=false →
 R (.int .i64 ba) w)))
theorem zyc (aO aL aC leftv):PuV (zvs aO aL aC leftv) ziw #[.slice aO aL aC,.int .i64 leftv]:=pV [] false [(5,⟨[(1,.int .i64),(5,.int .i64)],[],[0],[],[]⟩)] Tryz.func37 (by kernel_rfl) (by kernel_rfl)
def zzk (a0:Int) (da:Option Addr) (ea fa:Nat) (ga:Option Addr) (ha ia:Nat) (ja:Option Addr) (ka la:Nat) (ma:Int) (w:World) (R:Value→World→Prop):Prop :=
 (∀b,w.heap.size≤b →
 (∃aa,
 zab [] Tryz.prog zk8 #[.slice da ea fa,.int .i64 ma] w (.int .i64 aa) ∧
 ((decide (aa<0))=true →
 R (.int .i64 (-1)) w) ∧
 ((decide (aa<0))=false →
 (∃ba,
 zab [] Tryz.prog zjv #[.slice ga ha ia,.int .i64 aa] w (.int .i64 ba) ∧
 ((decide (ba<0))=true →
 R (.int .i64 (-1)) w) ∧
 ((decide (ba<0))=false →
 (∃ca,
 zab [] Tryz.prog ziw #[.slice ja ka la,.int .i64 ba] w (.int .i64 ca) ∧
 ((decide (ca<0))=true →
 R (.int .i64 (-1)) w) ∧
 ((decide (ca<0))=false →
 R (.int .i64 ca) w)))))))
theorem z01 (a0 a1O a1L a1C a2O a2L a2C a3O a3L a3C leftv):PuV (zzk a0 a1O a1L a1C a2O a2L a2C a3O a3L a3C leftv) zjw #[.agg #[.int .i64 a0,.slice a1O a1L a1C,.slice a2O a2L a2C,.slice a3O a3L a3C],.int .i64 leftv]:=pV [] false [] Tryz.func12 (by kernel_rfl) (by kernel_rfl)
def zvy (n aa ba:Int) (w:World) (R:Value→World→Prop):Prop :=
 R (.bool ((decide (n≥aa))&&(decide (n≤ba)))) w
theorem z8u (n low high):PuV (zvy n low high) zan #[.int .i64 n,.int .i64 low,.int .i64 high]:=pV [] false [] Tryz.func71 (by kernel_rfl) (by kernel_rfl)
def z52 (w0:Int) (ba:Option Addr) (ca da:Nat) (ea:Option Addr) (fa ga:Nat) (ha:Option Addr) (ia ja:Nat) (w:World) (R:Value→World→Prop):Prop :=
 (∀b,w.heap.size≤b →
 (∃(aa:List Value→Prop) (mu:List Value→Nat),aa [.int .i64 0,.int .i64 0] ∧
 ∀(m c:Int),aa [.int .i64 m,.int .i64 c] →
 ((decide (c<(ca:Int)))=true →
 Ix ba ca c ∧
 (∃up,
 zaa [] w ba (Int.toNat c*5+0) [.bool up] ∧
 (up=true →
 InR .u64 c ∧
 (0≤c∧InR .i64 (1*2 ^ (min (Int.toNat c) 64))) ∧
 InR .i64 (m+(1*2 ^ (min (Int.toNat c) 64))) ∧
 InR .i64 (c+1) ∧
 aa [.int .i64 (m+(1*2 ^ (min (Int.toNat c) 64))),.int .i64 (c+1)]∧mu [.int .i64 (m+(1*2 ^ (min (Int.toNat c) 64))),.int .i64 (c+1)]<mu [.int .i64 m,.int .i64 c]) ∧
 (up=false →
 InR .i64 (c+1) ∧
 aa [.int .i64 m,.int .i64 (c+1)]∧mu [.int .i64 m,.int .i64 (c+1)]<mu [.int .i64 m,.int .i64 c]))) ∧
 ((decide (c<(ca:Int)))=false →
 R (.int .i64 m) w)))
theorem z7e (w0 w1O w1L w1C w2O w2L w2C w3O w3L w3C):PuV (z52 w0 w1O w1L w1C w2O w2L w2C w3O w3L w3C) zjc #[.agg #[.int .i64 w0,.slice w1O w1L w1C,.slice w2O w2L w2C,.slice w3O w3L w3C]]:=pV [] false [(3,⟨[(3,.int .i64),(4,.int .i64)],[],[1],[],[]⟩)] Tryz.func91 (by kernel_rfl) (by kernel_rfl)
def z25 (lO:Option Addr) (lL lC:Nat) (g:Int) (w:World) (R:Value→World→Prop):Prop :=
 (((decide (g≥0))&&(decide (g<(lL:Int))))=true→Ix lO lL g) ∧
 (∃aa,
 (((decide (g≥0))&&(decide (g<(lL:Int))))=true→zaa [] w lO (Int.toNat g*14+0) [.bool aa]) ∧
 R (.bool (((decide (g≥0))&&(decide (g<(lL:Int))))&&aa)) w)
theorem z49 (lO lL lC g):PuV (z25 lO lL lC g) zh5 #[.slice lO lL lC,.int .i64 g]:=pV [] false [] Tryz.func77 (by kernel_rfl) (by kernel_rfl)
def zzu (lO:Option Addr) (lL lC:Nat) (g:Int) (w:World) (R:Value→World→Prop):Prop :=
 (∃(aa:List Value→Prop) (mu:List Value→Nat),aa [.int .i64 g,.int .i64 0] ∧
 ∀(g1 n:Int),aa [.int .i64 g1,.int .i64 n] →
 ((decide (n≤(lL:Int)))=true →
 (∃ba,
 zab [] Tryz.prog zh5 #[.slice lO lL lC,.int .i64 g1] w (.bool ba) ∧
 ((!ba)=true →
 R (.int .i64 (-1)) w) ∧
 ((!ba)=false →
 ((g1==0)=true →
 R (.int .i64 n) w) ∧
 ((g1==0)=false →
 Ix lO lL g1 ∧
 (∃ca,
 zaa [] w lO (Int.toNat g1*14+1) [.int .i64 ca] ∧
 InR .i64 (n+1) ∧
 aa [.int .i64 ca,.int .i64 (n+1)]∧mu [.int .i64 ca,.int .i64 (n+1)]<mu [.int .i64 g1,.int .i64 n]))))) ∧
 ((decide (n≤(lL:Int)))=false →
 R (.int .i64 (-1)) w))
theorem z07 (lO lL lC g):PuV (zzu lO lL lC g) zg2 #[.slice lO lL lC,.int .i64 g]:=pV [] false [(2,⟨[(1,.int .i64),(5,.int .i64)],[],[0],[],[]⟩)] Tryz.func197 (by kernel_rfl) (by kernel_rfl)
def z24 (s:ByteArray) (w:World) (R:Value→World→Prop):Prop :=
 R (.bool (((((zck s (ByteArray.mk [119,101,105,103,104,116].toArray))||(zck s (ByteArray.mk [109,97,120].toArray)))||(zck s (ByteArray.mk [99,112,117,115].toArray)))||(zck s (ByteArray.mk [112,114,111,99,115].toArray)))||(zck s (ByteArray.mk [115,116,97,116].toArray)))) w
theorem z48 (s):PuV (z24 s) zlh #[.string s]:=pV [] false [] Tryz.func262 (by kernel_rfl) (by kernel_rfl)
def z21 (s:ByteArray) (w:World) (R:Value→World→Prop):Prop :=
 (∃aa,
 zab [] Tryz.prog zan #[.int .i64 (s.size:Int),.int .i64 1,.int .i64 8] w (.bool aa) ∧
 (∃ba,
 ((!aa)=false→zab [] Tryz.prog zlh #[.string s] w (.bool ba)) ∧
 (((!aa)||ba)=true →
 R (.bool false) w) ∧
 (((!aa)||ba)=false →
 (∃(ca:List Value→Prop) (mu:List Value→Nat),ca [.int .i64 0] ∧
 ∀(i:Int),ca [.int .i64 i] →
 ((decide (i<(s.size:Int)))=true →
 (0≤i∧i<(s.size:Int)) ∧
 ((decide (zjf s i≥97))=true→(0≤i∧i<(s.size:Int))) ∧
 (((decide (zjf s i≥97))&&(decide (zjf s i≤122)))=false→(0≤i∧i<(s.size:Int))) ∧
 ((decide (zjf s i≥48))=true→(((decide (zjf s i≥97))&&(decide (zjf s i≤122)))=false→(0≤i∧i<(s.size:Int)))) ∧
 ((!(((decide (zjf s i≥97))&&(decide (zjf s i≤122)))||((decide (zjf s i≥48))&&(decide (zjf s i≤57)))))=true →
 R (.bool false) w) ∧
 ((!(((decide (zjf s i≥97))&&(decide (zjf s i≤122)))||((decide (zjf s i≥48))&&(decide (zjf s i≤57)))))=false →
 InR .i64 (i+1) ∧
 ca [.int .i64 (i+1)]∧mu [.int .i64 (i+1)]<mu [.int .i64 i])) ∧
 ((decide (i<(s.size:Int)))=false →
 R (.bool true) w)))))
theorem z45 (s):PuV (z21 s) zlf #[.string s]:=pV [] false [(4,⟨[(3,.int .i64)],[],[0],[],[]⟩)] Tryz.func229 (by kernel_rfl) (by kernel_rfl)
def z22 (lO:Option Addr) (lL lC:Nat) (w:World) (R:Value→World→Prop):Prop :=
 (((lL:Int) != 8)=false→Ix lO lL 0) ∧
 (∃aa,
 (((lL:Int) != 8)=false→zaa [] w lO (Int.toNat 0*14+0) [.bool aa]) ∧
 ((((lL:Int) != 8)||(!aa))=false→Ix lO lL 0) ∧
 (∃ba,
 ((((lL:Int) != 8)||(!aa))=false→zaa [] w lO (Int.toNat 0*14+1) [.int .i64 ba]) ∧
 (((((lL:Int) != 8)||(!aa))||(ba != (-1)))=false→Ix lO lL 0) ∧
 (∃(ca:ByteArray),
 (((((lL:Int) != 8)||(!aa))||(ba != (-1)))=false→zaa [] w lO (Int.toNat 0*14+2) [.string ca]) ∧
 ((((((lL:Int) != 8)||(!aa))||(ba != (-1)))||(!zck ca (ByteArray.mk [].toArray)))=true →
 R (.bool false) w) ∧
 ((((((lL:Int) != 8)||(!aa))||(ba != (-1)))||(!zck ca (ByteArray.mk [].toArray)))=false →
 (∃(da:List Value→Prop) (mu:List Value→Nat),da [.int .i64 1] ∧
 ∀(g:Int),da [.int .i64 g] →
 ((decide (g<(lL:Int)))=true →
 Ix lO lL g ∧
 (∃ea,
 zaa [] w lO (Int.toNat g*14+0) [.bool ea] ∧
 ((!ea)=true →
 InR .i64 (g+1) ∧
 da [.int .i64 (g+1)]∧mu [.int .i64 (g+1)]<mu [.int .i64 g]) ∧
 ((!ea)=false →
 Ix lO lL g ∧
 (∃(fa:ByteArray),
 zaa [] w lO (Int.toNat g*14+2) [.string fa] ∧
 (∃ga,
 zab [] Tryz.prog zlf #[.string fa] w (.bool ga) ∧
 (∃ha,
 ((!ga)=false→zab [] Tryz.prog zg2 #[.slice lO lL lC,.int .i64 g] w (.int .i64 ha)) ∧
 (∃ia,
 ((!ga)=false→zab [] Tryz.prog zan #[.int .i64 ha,.int .i64 1,.int .i64 3] w (.bool ia)) ∧
 (((!ga)||(!ia))=true →
 R (.bool false) w) ∧
 (((!ga)||(!ia))=false →
 (∃(ja:List Value→Prop) (ka:List Value→Nat),ja [.int .i64 1] ∧
 ∀(h:Int),ja [.int .i64 h] →
 ((decide (h<g))=true →
 Ix lO lL h ∧
 (∃la,
 zaa [] w lO (Int.toNat h*14+0) [.bool la] ∧
 (la=true→Ix lO lL h) ∧
 (∃ma,
 (la=true→zaa [] w lO (Int.toNat h*14+1) [.int .i64 ma]) ∧
 (la=true→Ix lO lL g) ∧
 (∃na,
 (la=true→zaa [] w lO (Int.toNat g*14+1) [.int .i64 na]) ∧
 ((la&&(ma==na))=true→Ix lO lL h) ∧
 (∃(oa:ByteArray),
 ((la&&(ma==na))=true→zaa [] w lO (Int.toNat h*14+2) [.string oa]) ∧
 ((la&&(ma==na))=true→Ix lO lL g) ∧
 (∃(pa:ByteArray),
 ((la&&(ma==na))=true→zaa [] w lO (Int.toNat g*14+2) [.string pa]) ∧
 (((la&&(ma==na))&&(zck oa pa))=true →
 R (.bool false) w) ∧
 (((la&&(ma==na))&&(zck oa pa))=false →
 InR .i64 (h+1) ∧
 ja [.int .i64 (h+1)]∧ka [.int .i64 (h+1)]<ka [.int .i64 h]))))))) ∧
 ((decide (h<g))=false →
 InR .i64 (g+1) ∧
 da [.int .i64 (g+1)]∧mu [.int .i64 (g+1)]<mu [.int .i64 g])))))))))) ∧
 ((decide (g<(lL:Int)))=false →
 R (.bool true) w))))))
theorem z46 (lO lL lC):PuV (z22 lO lL lC) zlg #[.slice lO lL lC]:=pV [] false [(4,⟨[(3,.int .i64)],[],[0],[],[]⟩),(10,⟨[(4,.int .i64)],[],[0,3],[],[]⟩)] Tryz.func168 (by kernel_rfl) (by kernel_rfl)
def zvz (wv:Int) (w:World) (R:Value→World→Prop):Prop :=
 (∃aa,
 zab [] Tryz.prog zan #[.int .i64 wv,.int .i64 1,.int .i64 20] w (.bool aa) ∧
 R (.bool aa) w)
theorem zyf (wv):PuV (zvz wv) zdd #[.int .i64 wv]:=pV [] false [] Tryz.func39 (by kernel_rfl) (by kernel_rfl)
def z20 (m:Int) (w:World) (R:Value→World→Prop):Prop :=
 (∃aa,
 zab [] Tryz.prog zan #[.int .i64 m,.int .i64 0,.int .i64 15] w (.bool aa) ∧
 R (.bool aa) w)
theorem z44 (m):PuV (z20 m) zdu #[.int .i64 m]:=pV [] false [] Tryz.func62 (by kernel_rfl) (by kernel_rfl)
def zv3 (b0 b1 b2:Int) (aa:Option Addr) (ba ca:Nat) (da:Option Addr) (ea fa:Nat) (w:World) (R:Value→World→Prop):Prop :=
 (∀b,w.heap.size≤b →
 R (.bool (((((b0==0)&&(b1==0))&&(b2==0))&&((ba:Int)==0))&&((ea:Int)==0))) w)
theorem zyi (b0 b1 b2 b3O b3L b3C b4O b4L b4C):PuV (zv3 b0 b1 b2 b3O b3L b3C b4O b4L b4C) zf6 #[.agg #[.int .i64 b0,.int .i64 b1,.int .i64 b2,.slice b3O b3L b3C,.slice b4O b4L b4C]]:=pV [] false [] Tryz.func230 (by kernel_rfl) (by kernel_rfl)
def z23 (v:Int) (w:World) (R:Value→World→Prop):Prop :=
 (∃aa,
 zab [] Tryz.prog zan #[.int .i64 v,.int .i64 0,.int .i64 100000000000000000] w (.bool aa) ∧
 R (.bool aa) w)
theorem z47 (v):PuV (z23 v) zbr #[.int .i64 v]:=pV [] false [] Tryz.func231 (by kernel_rfl) (by kernel_rfl)
def z2y (b0 b1 b2:Int) (ha:Option Addr) (ia ja:Nat) (ka:Option Addr) (la ma:Nat) (w:World) (R:Value→World→Prop):Prop :=
 (∀b,w.heap.size≤b →
 (∃aa,
 zab [] Tryz.prog zan #[.int .i64 b0,.int .i64 1,.int .i64 10000] w (.bool aa) ∧
 (∃ba,
 ((!aa)=false→zab [] Tryz.prog zan #[.int .i64 (ia:Int),.int .i64 1,.int .i64 4] w (.bool ba)) ∧
 (∃ca,
 ((((!aa)||(!ba))||((la:Int) != (ia:Int)))=false→zab [] Tryz.prog zan #[.int .i64 b1,.int .i64 0,.int .i64 b0] w (.bool ca)) ∧
 (∃da,
 (((((!aa)||(!ba))||((la:Int) != (ia:Int)))||(!ca))=false→zab [] Tryz.prog zan #[.int .i64 b2,.int .i64 0,.int .i64 b0] w (.bool da)) ∧
 ((((((!aa)||(!ba))||((la:Int) != (ia:Int)))||(!ca))||(!da))=true →
 R (.bool false) w) ∧
 ((((((!aa)||(!ba))||((la:Int) != (ia:Int)))||(!ca))||(!da))=false →
 InR .i64 (b1+b2) ∧
 (∃(ea:List Value→Prop) (mu:List Value→Nat),ea [.int .i64 (b1+b2),.int .i64 0] ∧
 ∀(fa c:Int),ea [.int .i64 fa,.int .i64 c] →
 ((decide (c<(ia:Int)))=true →
 Ix ha ia c ∧
 (∃x,
 zaa [] w ha (Int.toNat c*1) [.int .i64 x] ∧
 (∃ga,
 zab [] Tryz.prog zan #[.int .i64 x,.int .i64 0,.int .i64 b0] w (.bool ga) ∧
 ((!ga)=false→Ix ka la c) ∧
 (∃x1,
 ((!ga)=false→zaa [] w ka (Int.toNat c*1) [.bool x1]) ∧
 (x1=true→((!ga)=false→Ix ha ia c)) ∧
 (∃x2,
 (x1=true→((!ga)=false→zaa [] w ha (Int.toNat c*1) [.int .i64 x2])) ∧
 (((!ga)||(x1&&((decide (x2>0))||(decide (b1>0)))))=true →
 R (.bool false) w) ∧
 (((!ga)||(x1&&((decide (x2>0))||(decide (b1>0)))))=false →
 Ix ha ia c ∧
 (∃x3,
 zaa [] w ha (Int.toNat c*1) [.int .i64 x3] ∧
 InR .i64 (fa+x3) ∧
 InR .i64 (c+1) ∧
 ea [.int .i64 (fa+x3),.int .i64 (c+1)]∧mu [.int .i64 (fa+x3),.int .i64 (c+1)]<mu [.int .i64 fa,.int .i64 c]))))))) ∧
 ((decide (c<(ia:Int)))=false →
 R (.bool (fa==b0)) w))))))))
theorem z42 (b0 b1 b2 b3O b3L b3C b4O b4L b4C):PuV (z2y b0 b1 b2 b3O b3L b3C b4O b4L b4C) zh4 #[.agg #[.int .i64 b0,.int .i64 b1,.int .i64 b2,.slice b3O b3L b3C,.slice b4O b4L b4C]]:=pV [] false [(5,⟨[(3,.int .i64),(4,.int .i64)],[],[1],[],[]⟩)] Tryz.func232 (by kernel_rfl) (by kernel_rfl)
def zt1 (w0:Int) (ra:Option Addr) (sa ta:Nat) (ua:Option Addr) (va wa:Nat) (xa:Option Addr) (ya za:Nat) (k:Int) (w:World) (R:Value→World→Prop):Prop :=
 (∀b,w.heap.size≤b →
 Ix xa ya k ∧
 (∃(x0:Bool) (x1:Int) (x2:ByteArray) (x3 x4 x5 x6 x7 x8 x9 aa:Int) (ba:Option Addr) (ca da:Nat) (ea:Option Addr) (fa ga:Nat) (ha:Option Addr) (ia ja:Nat),
 zaa [] w xa (Int.toNat k*14) [.bool x0,.int .i64 x1,.string x2,.int .i64 x3,.int .i64 x4,.int .i64 x5,.int .i64 x6,.int .i64 x7,.int .i64 x8,.int .i64 x9,.int .i64 aa,.slice ba ca da,.slice ea fa ga,.slice ha ia ja] ∧
 (∀b1,w.heap.size≤b1 →
 ((!x0)=true →
 (∃ka,
 (((((((((x1==0)&&(zck x2 (ByteArray.mk [].toArray)))&&(x3==0))&&(x4==0))&&(x5==0))&&(x6==0))&&(x7==0))&&((ia:Int)==0))=true→zab [] Tryz.prog zf6 #[.agg #[.int .i64 x8,.int .i64 x9,.int .i64 aa,.slice ba ca da,.slice ea fa ga]] w (.bool ka)) ∧
 R (.bool (((((((((x1==0)&&(zck x2 (ByteArray.mk [].toArray)))&&(x3==0))&&(x4==0))&&(x5==0))&&(x6==0))&&(x7==0))&&((ia:Int)==0))&&ka)) w)) ∧
 ((!x0)=false →
 (∃la,
 zab [] Tryz.prog zdd #[.int .i64 x3] w (.bool la) ∧
 (∃ma,
 ((!la)=false→zab [] Tryz.prog zdu #[.int .i64 x4] w (.bool ma)) ∧
 (∃na,
 ((((!la)||(!ma))||(x4==0))=false→zab [] Tryz.prog zbr #[.int .i64 x7] w (.bool na)) ∧
 ((((((!la)||(!ma))||(x4==0))||(!na))||((ia:Int) != (sa:Int)))=true →
 R (.bool false) w) ∧
 ((((((!la)||(!ma))||(x4==0))||(!na))||((ia:Int) != (sa:Int)))=false →
 (((k==0)&&(((x3 != 10)||(x4 != 15))||(x8 != 0)))=true →
 R (.bool false) w) ∧
 (((k==0)&&(((x3 != 10)||(x4 != 15))||(x8 != 0)))=false →
 ((x8==0)=true →
 (∃oa,
 zab [] Tryz.prog zf6 #[.agg #[.int .i64 x8,.int .i64 x9,.int .i64 aa,.slice ba ca da,.slice ea fa ga]] w (.bool oa) ∧
 R (.bool ((oa&&(x5==0))&&(x6==0))) w)) ∧
 ((x8==0)=false →
 (∃pa,
 zab [] Tryz.prog zh4 #[.agg #[.int .i64 x8,.int .i64 x9,.int .i64 aa,.slice ba ca da,.slice ea fa ga]] w (.bool pa) ∧
 (∃qa,
 ((pa&&((ca:Int)==(sa:Int)))=true→zab [] Tryz.prog zan #[.int .i64 x5,.int .i64 1,.int .i64 1000] w (.bool qa)) ∧
 ((((pa&&((ca:Int)==(sa:Int)))&&qa)&&(decide (x6>w0)))=true→InR .i64 (x6 - w0)) ∧
 R (.bool ((((pa&&((ca:Int)==(sa:Int)))&&qa)&&(decide (x6>w0)))&&(decide (x6 - w0≤x5)))) w))))))))))))
theorem zun (w0 w1O w1L w1C w2O w2L w2C w3O w3L w3C k):PuV (zt1 w0 w1O w1L w1C w2O w2L w2C w3O w3L w3C k) zhu #[.agg #[.int .i64 w0,.slice w1O w1L w1C,.slice w2O w2L w2C,.slice w3O w3L w3C],.int .i64 k]:=pV [] false [] Tryz.func169 (by kernel_rfl) (by kernel_rfl)
def zvw (ba:Int) (w:World) (R:Value→World→Prop):Prop :=
 (∃aa,
 zab [] Tryz.prog zan #[.int .i64 ba,.int .i64 (-10),.int .i64 9] w (.bool aa) ∧
 ((!aa)=true →
 R (.int .i64 0) w) ∧
 ((!aa)=false →
 InR .i64 (10 - ba) ∧
 R (.int .i64 (10 - ba)) w))
theorem zye (nice):PuV (zvw nice) zdc #[.int .i64 nice]:=pV [] false [] Tryz.func76 (by kernel_rfl) (by kernel_rfl)
def zzs (m ca:Int) (w:World) (R:Value→World→Prop):Prop :=
 (∃aa,
 zab [] Tryz.prog zdu #[.int .i64 m] w (.bool aa) ∧
 (∃ba,
 (aa=true→zab [] Tryz.prog zan #[.int .i64 ca,.int .i64 0,.int .i64 3] w (.bool ba)) ∧
 ((aa&&ba)=true→InR .u64 ca) ∧
 ((aa&&ba)=true→0≤ca) ∧
 ((aa&&ba)=true→(2:Int)≠0) ∧
 R (.bool ((aa&&ba)&&((Int.tmod (Int.fdiv m (2 ^ (min (Int.toNat ca) 64))) 2)==1))) w))
theorem z05 (m cpu):PuV (zzs m cpu) ze3 #[.int .i64 m,.int .i64 cpu]:=pV [] false [] Tryz.func147 (by kernel_rfl) (by kernel_rfl)
def zzr (a b:Int) (w:World) (R:Value→World→Prop):Prop :=
 (∃aa,
 zab [] Tryz.prog zdu #[.int .i64 a] w (.bool aa) ∧
 (∃ba,
 ((!aa)=false→zab [] Tryz.prog zdu #[.int .i64 b] w (.bool ba)) ∧
 (((!aa)||(!ba))=true →
 R (.int .i64 0) w) ∧
 (((!aa)||(!ba))=false →
 (∃(ca:List Value→Prop) (mu:List Value→Nat),ca [.int .i64 0,.int .i64 0] ∧
 ∀(m c:Int),ca [.int .i64 m,.int .i64 c] →
 ((decide (c<4))=true →
 (∃da,
 zab [] Tryz.prog ze3 #[.int .i64 a,.int .i64 c] w (.bool da) ∧
 (∃ea,
 (da=true→zab [] Tryz.prog ze3 #[.int .i64 b,.int .i64 c] w (.bool ea)) ∧
 ((da&&ea)=true →
 InR .u64 c ∧
 (0≤c∧InR .i64 (1*2 ^ (min (Int.toNat c) 64))) ∧
 InR .i64 (m+(1*2 ^ (min (Int.toNat c) 64))) ∧
 InR .i64 (c+1) ∧
 ca [.int .i64 (m+(1*2 ^ (min (Int.toNat c) 64))),.int .i64 (c+1)]∧mu [.int .i64 (m+(1*2 ^ (min (Int.toNat c) 64))),.int .i64 (c+1)]<mu [.int .i64 m,.int .i64 c]) ∧
 ((da&&ea)=false →
 InR .i64 (c+1) ∧
 ca [.int .i64 m,.int .i64 (c+1)]∧mu [.int .i64 m,.int .i64 (c+1)]<mu [.int .i64 m,.int .i64 c])))) ∧
 ((decide (c<4))=false →
 R (.int .i64 m) w)))))
theorem z04 (a b):PuV (zzr a b) ze2 #[.int .i64 a,.int .i64 b]:=pV [] false [(5,⟨[(5,.int .i64),(6,.int .i64)],[],[0,1],[],[]⟩)] Tryz.func158 (by kernel_rfl) (by kernel_rfl)
def z28 (w0:Int) (fa:Option Addr) (ga ha:Nat) (ia:Option Addr) (ja ka:Nat) (la:Option Addr) (ma na:Nat) (g:Int) (w:World) (R:Value→World→Prop):Prop :=
 (∀b,w.heap.size≤b →
 Ix la ma g ∧
 (∃aa,
 zaa [] w la (Int.toNat g*14+4) [.int .i64 aa] ∧
 (∃(ba:List Value→Prop) (mu:List Value→Nat),ba [.int .i64 g,.int .i64 aa] ∧
 ∀(g1 m:Int),ba [.int .i64 g1,.int .i64 m] →
 ((g1 != 0)=true →
 Ix la ma g1 ∧
 (∃ca,
 zaa [] w la (Int.toNat g1*14+1) [.int .i64 ca] ∧
 Ix la ma ca ∧
 (∃da,
 zaa [] w la (Int.toNat ca*14+4) [.int .i64 da] ∧
 (∃ea,
 zab [] Tryz.prog ze2 #[.int .i64 m,.int .i64 da] w (.int .i64 ea) ∧
 ba [.int .i64 ca,.int .i64 ea]∧mu [.int .i64 ca,.int .i64 ea]<mu [.int .i64 g1,.int .i64 m])))) ∧
 ((g1 != 0)=false →
 R (.int .i64 m) w))))
theorem z5b (w0 w1O w1L w1C w2O w2L w2C w3O w3L w3C g):PuV (z28 w0 w1O w1L w1C w2O w2L w2C w3O w3L w3C g) zlj #[.agg #[.int .i64 w0,.slice w1O w1L w1C,.slice w2O w2L w2C,.slice w3O w3L w3C],.int .i64 g]:=pV [] false [(2,⟨[(1,.int .i64),(5,.int .i64)],[],[2],[],[]⟩)] Tryz.func159 (by kernel_rfl) (by kernel_rfl)
def zzz (w0:Int) (ea:Option Addr) (fa ga:Nat) (ha:Option Addr) (ia ja:Nat) (ka:Option Addr) (la ma:Nat) (g na:Int) (w:World) (R:Value→World→Prop):Prop :=
 (∀b,w.heap.size≤b →
 (∃aa,
 zab [] Tryz.prog zjc #[.agg #[.int .i64 w0,.slice ea fa ga,.slice ha ia ja,.slice ka la ma]] w (.int .i64 aa) ∧
 (∃ba,
 zab [] Tryz.prog zlj #[.agg #[.int .i64 w0,.slice ea fa ga,.slice ha ia ja,.slice ka la ma],.int .i64 g] w (.int .i64 ba) ∧
 (∃ca,
 zab [] Tryz.prog ze2 #[.int .i64 ba,.int .i64 aa] w (.int .i64 ca) ∧
 (∃da,
 zab [] Tryz.prog ze2 #[.int .i64 na,.int .i64 ca] w (.int .i64 da) ∧
 ((da != 0)=true →
 R (.int .i64 da) w) ∧
 ((da != 0)=false →
 ((ca != 0)=true →
 R (.int .i64 ca) w) ∧
 ((ca != 0)=false →
 R (.int .i64 aa) w)))))))
theorem z1b (w0 w1O w1L w1C w2O w2L w2C w3O w3L w3C g mask):PuV (zzz w0 w1O w1L w1C w2O w2L w2C w3O w3L w3C g mask) zj2 #[.agg #[.int .i64 w0,.slice w1O w1L w1C,.slice w2O w2L w2C,.slice w3O w3L w3C],.int .i64 g,.int .i64 mask]:=pV [] false [] Tryz.func79 (by kernel_rfl) (by kernel_rfl)
def zqn (ca da:Int) (w:World) (R:Value→World→Prop):Prop :=
 (∃aa,
 zab [] Tryz.prog zdd #[.int .i64 da] w (.bool aa) ∧
 (∃ba,
 ((!aa)=false→zab [] Tryz.prog zan #[.int .i64 ca,.int .i64 0,.int .i64 100000000] w (.bool ba)) ∧
 (((!aa)||(!ba))=true →
 R (.int .i64 0) w) ∧
 (((!aa)||(!ba))=false →
 (da≠0∧InR .i64 (Int.tdiv 232792560 da)) ∧
 InR .i64 (ca*(Int.tdiv 232792560 da)) ∧
 R (.int .i64 (ca*(Int.tdiv 232792560 da))) w)))
theorem zrk (units weight):PuV (zqn units weight) zbw #[.int .i64 units,.int .i64 weight]:=pV [] false [] Tryz.func178 (by kernel_rfl) (by kernel_rfl)
def zzq (ba:Int) (w:World) (R:Value→World→Prop):Prop :=
 (∃aa,
 zab [] Tryz.prog zbw #[.int .i64 149,.int .i64 ba] w (.int .i64 aa) ∧
 R (.int .i64 aa) w)
theorem z03 (weight):PuV (zzq weight) zgz #[.int .i64 weight]:=pV [] false [] Tryz.func196 (by kernel_rfl) (by kernel_rfl)
def zzy (v ba ca:Int) (w:World) (R:Value→World→Prop):Prop :=
 (∃d,
 ((decide (v≥ba))=true→(∀wq,((do eqGuard .sub ty_int (.tmp 11) (.tmp 12) (.int .i64 v) (.int .i64 ba); binOp .sub ty_int (.int .i64 v) (.int .i64 ba)):Sem Value).run Tryz.prog wq = .ok (.int .i64 d) wq)) ∧
 (∃aa,
 ((decide (v≥ba))=true→zab [] Tryz.prog zgz #[.int .i64 ca] w (.int .i64 aa)) ∧
 R (.bool ((decide (v≥ba))&&(decide (d≤aa)))) w))
theorem z1a (v floor weight):PuV (zzy v floor weight) zg6 #[.int .i64 v,.int .i64 floor,.int .i64 weight]:=pV [] true [] Tryz.func233 (by kernel_rfl) (by kernel_rfl)
def zv7 (w0:Int) (pa:Option Addr) (qa ra:Nat) (sa:Option Addr) (ta ua:Nat) (va:Option Addr) (wa xa:Nat) (t:Int) (w:World) (R:Value→World→Prop):Prop :=
 (∀b,w.heap.size≤b →
 Ix sa ta t ∧
 (∃x0 x1 x2 x3 x4 x5 x6 x7 x8,
 zaa [] w sa (Int.toNat t*9) [.int .i64 x0,.int .i64 x1,.int .i64 x2,.int .i64 x3,.int .i64 x4,.int .i64 x5,.int .i64 x6,.int .i64 x7,.int .i64 x8] ∧
 (∀b1,w.heap.size≤b1 →
 ((x0==0)=true →
 (∃eq,
 (∀wq,((do eqGuard .eql zap (.tmp 14) (.tmp 15) (.agg #[.int .i64 x0,.int .i64 x1,.int .i64 x2,.int .i64 x3,.int .i64 x4,.int .i64 x5,.int .i64 x6,.int .i64 x7,.int .i64 x8]) (.agg #[.int .i64 0,.int .i64 0,.int .i64 0,.int .i64 0,.int .i64 0,.int .i64 0,.int .i64 0,.int .i64 0,.int .i64 0]); binOp .eql zap (.agg #[.int .i64 x0,.int .i64 x1,.int .i64 x2,.int .i64 x3,.int .i64 x4,.int .i64 x5,.int .i64 x6,.int .i64 x7,.int .i64 x8]) (.agg #[.int .i64 0,.int .i64 0,.int .i64 0,.int .i64 0,.int .i64 0,.int .i64 0,.int .i64 0,.int .i64 0,.int .i64 0])):Sem Value).run Tryz.prog wq = .ok (.bool eq) wq) ∧
 R (.bool eq) w)) ∧
 ((x0==0)=false →
 (∃aa,
 (((x0 != 1)&&(x0 != 2))=false→zab [] Tryz.prog zh5 #[.slice va wa xa,.int .i64 x1] w (.bool aa)) ∧
 (∃ba,
 ((((x0 != 1)&&(x0 != 2))||(!aa))=false→zab [] Tryz.prog zdc #[.int .i64 x3] w (.int .i64 ba)) ∧
 (∃ca,
 (((((x0 != 1)&&(x0 != 2))||(!aa))||(ba==0))=false→zab [] Tryz.prog zdu #[.int .i64 x4] w (.bool ca)) ∧
 (((((((x0 != 1)&&(x0 != 2))||(!aa))||(ba==0))||(!ca))||(x4==0))=true →
 R (.bool false) w) ∧
 (((((((x0 != 1)&&(x0 != 2))||(!aa))||(ba==0))||(!ca))||(x4==0))=false →
 (∃da,
 zab [] Tryz.prog zbr #[.int .i64 x5] w (.bool da) ∧
 (∃ea,
 ((!da)=false→zab [] Tryz.prog zbr #[.int .i64 x6] w (.bool ea)) ∧
 (∃fa,
 (((!da)||(!ea))=false→zab [] Tryz.prog zbr #[.int .i64 x7] w (.bool fa)) ∧
 (∃ga,
 ((((!da)||(!ea))||(!fa))=false→zab [] Tryz.prog zan #[.int .i64 x8,.int .i64 0,.int .i64 8000000] w (.bool ga)) ∧
 (∃ha,
 (((((!da)||(!ea))||(!fa))||(!ga))=false→zab [] Tryz.prog zj2 #[.agg #[.int .i64 w0,.slice pa qa ra,.slice sa ta ua,.slice va wa xa],.int .i64 x1,.int .i64 x4] w (.int .i64 ha)) ∧
 (∃ia,
 (((((!da)||(!ea))||(!fa))||(!ga))=false→zab [] Tryz.prog ze3 #[.int .i64 ha,.int .i64 x2] w (.bool ia)) ∧
 ((((((!da)||(!ea))||(!fa))||(!ga))||(!ia))=true →
 R (.bool false) w) ∧
 ((((((!da)||(!ea))||(!fa))||(!ga))||(!ia))=false →
 ((x0==2)=false→Ix va wa x1) ∧
 (∃ja ka la,
 ((x0==2)=false→zaa [] w va (Int.toNat x1*14+13) [.slice ja ka la]) ∧
 ((x0==2)=false→Ix ja ka x2) ∧
 (∃ma,
 ((x0==2)=false→zaa [] w ja (Int.toNat x2*5+0) [.int .i64 ma]) ∧
 (∃na,
 ((x0==2)=false→zab [] Tryz.prog zdc #[.int .i64 x3] w (.int .i64 na)) ∧
 (∃oa,
 ((x0==2)=false→zab [] Tryz.prog zg6 #[.int .i64 x5,.int .i64 ma,.int .i64 na] w (.bool oa)) ∧
 R (.bool ((x0==2)||oa)) w)))))))))))))))))))
theorem zyl (w0 w1O w1L w1C w2O w2L w2C w3O w3L w3C t):PuV (zv7 w0 w1O w1L w1C w2O w2L w2C w3O w3L w3C t) zi3 #[.agg #[.int .i64 w0,.slice w1O w1L w1C,.slice w2O w2L w2C,.slice w3O w3L w3C],.int .i64 t]:=pV [] false [] Tryz.func170 (by kernel_rfl) (by kernel_rfl)
def zv4 (w0:Int) (ea:Option Addr) (fa ga:Nat) (ha:Option Addr) (ia ja:Nat) (ka:Option Addr) (la ma:Nat) (g c:Int) (w:World) (R:Value→World→Prop):Prop :=
 (∀b,w.heap.size≤b →
 Ix ka la g ∧
 (∃aa ba ca,
 zaa [] w ka (Int.toNat g*14+13) [.slice aa ba ca] ∧
 Ix aa ba c ∧
 (∃da,
 zaa [] w aa (Int.toNat c*5+1) [.bool da] ∧
 R (.bool da) w)))
theorem zyj (w0 w1O w1L w1C w2O w2L w2C w3O w3L w3C g c):PuV (zv4 w0 w1O w1L w1C w2O w2L w2C w3O w3L w3C g c) zde #[.agg #[.int .i64 w0,.slice w1O w1L w1C,.slice w2O w2L w2C,.slice w3O w3L w3C],.int .i64 g,.int .i64 c]:=pV [] false [] Tryz.func201 (by kernel_rfl) (by kernel_rfl)
def zv0 (w0:Int) (ja:Option Addr) (ka la:Nat) (ma:Option Addr) (na oa:Nat) (pa:Option Addr) (qa ra:Nat) (g c:Int) (w:World) (R:Value→World→Prop):Prop :=
 (∀b,w.heap.size≤b →
 (∃(aa:List Value→Prop) (mu:List Value→Nat),aa [.int .i64 0] ∧
 ∀(t:Int),aa [.int .i64 t] →
 ((decide (t<(na:Int)))=true →
 Ix ma na t ∧
 (∃ba,
 zaa [] w ma (Int.toNat t*9+0) [.int .i64 ba] ∧
 ((ba==1)=true→Ix ma na t) ∧
 (∃ca,
 ((ba==1)=true→zaa [] w ma (Int.toNat t*9+1) [.int .i64 ca]) ∧
 (((ba==1)&&(ca==g))=true→Ix ma na t) ∧
 (∃da,
 (((ba==1)&&(ca==g))=true→zaa [] w ma (Int.toNat t*9+2) [.int .i64 da]) ∧
 ((((ba==1)&&(ca==g))&&(da==c))=true →
 R (.bool true) w) ∧
 ((((ba==1)&&(ca==g))&&(da==c))=false →
 InR .i64 (t+1) ∧
 aa [.int .i64 (t+1)]∧mu [.int .i64 (t+1)]<mu [.int .i64 t]))))) ∧
 ((decide (t<(na:Int)))=false →
 (∃(ea:List Value→Prop) (fa:List Value→Nat),ea [.int .i64 1] ∧
 ∀(h:Int),ea [.int .i64 h] →
 ((decide (h<(qa:Int)))=true →
 Ix pa qa h ∧
 (∃ga,
 zaa [] w pa (Int.toNat h*14+0) [.bool ga] ∧
 (ga=true→Ix pa qa h) ∧
 (∃ha,
 (ga=true→zaa [] w pa (Int.toNat h*14+1) [.int .i64 ha]) ∧
 (∃ia,
 ((ga&&(ha==g))=true→zab [] Tryz.prog zde #[.agg #[.int .i64 w0,.slice ja ka la,.slice ma na oa,.slice pa qa ra],.int .i64 h,.int .i64 c] w (.bool ia)) ∧
 (((ga&&(ha==g))&&ia)=true →
 R (.bool true) w) ∧
 (((ga&&(ha==g))&&ia)=false →
 InR .i64 (h+1) ∧
 ea [.int .i64 (h+1)]∧fa [.int .i64 (h+1)]<fa [.int .i64 h]))))) ∧
 ((decide (h<(qa:Int)))=false →
 R (.bool false) w)))))
theorem zyg (w0 w1O w1L w1C w2O w2L w2C w3O w3L w3C g c):PuV (zv0 w0 w1O w1L w1C w2O w2L w2C w3O w3L w3C g c) zec #[.agg #[.int .i64 w0,.slice w1O w1L w1C,.slice w2O w2L w2C,.slice w3O w3L w3C],.int .i64 g,.int .i64 c]:=pV [] false [(2,⟨[(7,.int .i64)],[],[1,2,3],[],[]⟩),(7,⟨[(8,.int .i64)],[],[1,2,3],[],[]⟩)] Tryz.func198 (by kernel_rfl) (by kernel_rfl)
def z5z (w0:Int) (ja:Option Addr) (ka la:Nat) (ma:Option Addr) (na oa:Nat) (pa:Option Addr) (qa ra:Nat) (g c:Int) (w:World) (R:Value→World→Prop):Prop :=
 (∀b,w.heap.size≤b →
 Ix pa qa g ∧
 (∃aa ba ca da ea fa ga ha ia,
 zaa [] w pa (Int.toNat g*14+8) [.int .i64 aa,.int .i64 ba,.int .i64 ca,.slice da ea fa,.slice ga ha ia] ∧
 (∀b1,w.heap.size≤b1 →
 ((decide (aa>0))=true→Ix ga ha c) ∧
 (∃x,
 ((decide (aa>0))=true→zaa [] w ga (Int.toNat c*1) [.bool x]) ∧
 R (.bool ((decide (aa>0))&&x)) w))))
theorem z7d (w0 w1O w1L w1C w2O w2L w2C w3O w3L w3C g c):PuV (z5z w0 w1O w1L w1C w2O w2L w2C w3O w3L w3C g c) zjb #[.agg #[.int .i64 w0,.slice w1O w1L w1C,.slice w2O w2L w2C,.slice w3O w3L w3C],.int .i64 g,.int .i64 c]:=pV [] false [] Tryz.func199 (by kernel_rfl) (by kernel_rfl)
def zt2 (w0:Int) (ab:Option Addr) (bb cb:Nat) (db:Option Addr) (eb fb:Nat) (gb:Option Addr) (hb ib:Nat) (k c:Int) (w:World) (R:Value→World→Prop):Prop :=
 (∀b,w.heap.size≤b →
 Ix gb hb k ∧
 (∃(x0:Bool) (x1:Int) (x2:ByteArray) (x3 x4 x5 x6 x7 x8 x9 aa:Int) (ba:Option Addr) (ca da:Nat) (ea:Option Addr) (fa ga:Nat) (ha:Option Addr) (ia ja:Nat),
 zaa [] w gb (Int.toNat k*14) [.bool x0,.int .i64 x1,.string x2,.int .i64 x3,.int .i64 x4,.int .i64 x5,.int .i64 x6,.int .i64 x7,.int .i64 x8,.int .i64 x9,.int .i64 aa,.slice ba ca da,.slice ea fa ga,.slice ha ia ja] ∧
 (∀b1,w.heap.size≤b1 →
 Ix ha ia c ∧
 (∃ka la ma na oa,
 zaa [] w ha (Int.toNat c*5) [.int .i64 ka,.bool la,.int .i64 ma,.int .i64 na,.int .i64 oa] ∧
 (∀b2,w.heap.size≤b2 →
 (∃pa,
 zab [] Tryz.prog zbr #[.int .i64 ka] w (.bool pa) ∧
 (∃qa,
 ((!pa)=false→zab [] Tryz.prog zbr #[.int .i64 ma] w (.bool qa)) ∧
 (∃ra,
 (((!pa)||(!qa))=false→zab [] Tryz.prog zbr #[.int .i64 oa] w (.bool ra)) ∧
 (∃sa,
 ((((!pa)||(!qa))||(!ra))=false→zab [] Tryz.prog zdd #[.int .i64 na] w (.bool sa)) ∧
 (((((!pa)||(!qa))||(!ra))||(!sa))=true →
 R (.bool false) w) ∧
 (((((!pa)||(!qa))||(!ra))||(!sa))=false →
 ((k==0)=true →
 R (.bool (((!la)&&(ma==0))&&(na==10))) w) ∧
 ((k==0)=false →
 (∃ta,
 zab [] Tryz.prog zec #[.agg #[.int .i64 w0,.slice ab bb cb,.slice db eb fb,.slice gb hb ib],.int .i64 k,.int .i64 c] w (.bool ta) ∧
 (∃ua,
 (ta=true→zab [] Tryz.prog zjb #[.agg #[.int .i64 w0,.slice ab bb cb,.slice db eb fb,.slice gb hb ib],.int .i64 k,.int .i64 c] w (.bool ua)) ∧
 ((!(la==(ta&&(!ua))))=true →
 R (.bool false) w) ∧
 ((!(la==(ta&&(!ua))))=false →
 ((!la)=false→Ix gb hb x1) ∧
 (∃va wa xa,
 ((!la)=false→zaa [] w gb (Int.toNat x1*14+13) [.slice va wa xa]) ∧
 ((!la)=false→Ix va wa c) ∧
 (∃ya,
 ((!la)=false→zaa [] w va (Int.toNat c*5+0) [.int .i64 ya]) ∧
 (∃za,
 ((!la)=false→zab [] Tryz.prog zg6 #[.int .i64 ma,.int .i64 ya,.int .i64 na] w (.bool za)) ∧
 R (.bool ((!la)||za)) w)))))))))))))))))
theorem zuo (w0 w1O w1L w1C w2O w2L w2C w3O w3L w3C k c):PuV (zt2 w0 w1O w1L w1C w2O w2L w2C w3O w3L w3C k c) zhv #[.agg #[.int .i64 w0,.slice w1O w1L w1C,.slice w2O w2L w2C,.slice w3O w3L w3C],.int .i64 k,.int .i64 c]:=pV [] false [] Tryz.func171 (by kernel_rfl) (by kernel_rfl)
def zv2 (w0:Int) (da:Option Addr) (ea fa:Nat) (ga:Option Addr) (ha ia:Nat) (ja:Option Addr) (ka la:Nat) (t:Int) (w:World) (R:Value→World→Prop):Prop :=
 (∀b,w.heap.size≤b →
 Ix ga ha t ∧
 (∃x0 x1 x2 x3 x4 x5 x6 x7 x8,
 zaa [] w ga (Int.toNat t*9) [.int .i64 x0,.int .i64 x1,.int .i64 x2,.int .i64 x3,.int .i64 x4,.int .i64 x5,.int .i64 x6,.int .i64 x7,.int .i64 x8] ∧
 (∀b1,w.heap.size≤b1 →
 ((x0 != 1)=true →
 R (.bool false) w) ∧
 ((x0 != 1)=false →
 (∃(aa:List Value→Prop) (mu:List Value→Nat),aa [.int .i64 x1] ∧
 ∀(g:Int),aa [.int .i64 g] →
 ((g != 0)=true →
 (∃ba,
 zab [] Tryz.prog zde #[.agg #[.int .i64 w0,.slice da ea fa,.slice ga ha ia,.slice ja ka la],.int .i64 g,.int .i64 x2] w (.bool ba) ∧
 ((!ba)=true →
 R (.bool false) w) ∧
 ((!ba)=false →
 Ix ja ka g ∧
 (∃ca,
 zaa [] w ja (Int.toNat g*14+1) [.int .i64 ca] ∧
 aa [.int .i64 ca]∧mu [.int .i64 ca]<mu [.int .i64 g])))) ∧
 ((g != 0)=false →
 R (.bool true) w))))))
theorem zyh (w0 w1O w1L w1C w2O w2L w2C w3O w3L w3C t):PuV (zv2 w0 w1O w1L w1C w2O w2L w2C w3O w3L w3C t) zed #[.agg #[.int .i64 w0,.slice w1O w1L w1C,.slice w2O w2L w2C,.slice w3O w3L w3C],.int .i64 t]:=pV [] false [(5,⟨[(6,.int .i64)],[],[2,5],[],[]⟩)] Tryz.func123 (by kernel_rfl) (by kernel_rfl)
def zv6 (w0:Int) (bb:Option Addr) (cb db:Nat) (eb:Option Addr) (fb gb:Nat) (hb:Option Addr) (ib jb:Nat) (c:Int) (w:World) (R:Value→World→Prop):Prop :=
 (∀b,w.heap.size≤b →
 Ix bb cb c ∧
 (∃x0 x1 x2 x3 x4,
 zaa [] w bb (Int.toNat c*5) [.bool x0,.int .i64 x1,.int .i64 x2,.int .i64 x3,.int .i64 x4] ∧
 (∀b1,w.heap.size≤b1 →
 Ix eb fb x1 ∧
 (∃aa ba ca da ea x5 x6 x7 x8,
 zaa [] w eb (Int.toNat x1*9) [.int .i64 aa,.int .i64 ba,.int .i64 ca,.int .i64 da,.int .i64 ea,.int .i64 x5,.int .i64 x6,.int .i64 x7,.int .i64 x8] ∧
 (∀b2,w.heap.size≤b2 →
 Ix hb ib ba ∧
 (∃fa ga ha,
 zaa [] w hb (Int.toNat ba*14+13) [.slice fa ga ha] ∧
 Ix fa ga c ∧
 (∃ia,
 zaa [] w fa (Int.toNat c*5+0) [.int .i64 ia] ∧
 InR .i64 (x5 - ia) ∧
 (∃ja,
 zab [] Tryz.prog zdc #[.int .i64 da] w (.int .i64 ja) ∧
 (∃ka,
 zab [] Tryz.prog zbw #[.int .i64 x2,.int .i64 ja] w (.int .i64 ka) ∧
 ((decide (x5 - ia>ka))=true →
 R (.bool false) w) ∧
 ((decide (x5 - ia>ka))=false →
 (∃(la:List Value→Prop) (mu:List Value→Nat),la [.int .i64 ba] ∧
 ∀(g:Int),la [.int .i64 g] →
 ((g != 0)=true →
 Ix hb ib g ∧
 (∃ma na oa,
 zaa [] w hb (Int.toNat g*14+13) [.slice ma na oa] ∧
 Ix ma na c ∧
 (∃pa qa ra sa ta,
 zaa [] w ma (Int.toNat c*5) [.int .i64 pa,.bool qa,.int .i64 ra,.int .i64 sa,.int .i64 ta] ∧
 (∀b3,w.heap.size≤b3 →
 Ix hb ib g ∧
 (∃ua,
 zaa [] w hb (Int.toNat g*14+1) [.int .i64 ua] ∧
 Ix hb ib ua ∧
 (∃va wa xa,
 zaa [] w hb (Int.toNat ua*14+13) [.slice va wa xa] ∧
 Ix va wa c ∧
 (∃ya,
 zaa [] w va (Int.toNat c*5+0) [.int .i64 ya] ∧
 InR .i64 (ra - ya) ∧
 (∃za,
 zab [] Tryz.prog zbw #[.int .i64 x2,.int .i64 sa] w (.int .i64 za) ∧
 ((decide (ra - ya>za))=true →
 R (.bool false) w) ∧
 ((decide (ra - ya>za))=false →
 Ix hb ib g ∧
 (∃ab,
 zaa [] w hb (Int.toNat g*14+1) [.int .i64 ab] ∧
 la [.int .i64 ab]∧mu [.int .i64 ab]<mu [.int .i64 g])))))))))) ∧
 ((g != 0)=false →
 R (.bool true) w))))))))))))
theorem zyk (w0 w1O w1L w1C w2O w2L w2C w3O w3L w3C c):PuV (zv6 w0 w1O w1L w1C w2O w2L w2C w3O w3L w3C c) zi2 #[.agg #[.int .i64 w0,.slice w1O w1L w1C,.slice w2O w2L w2C,.slice w3O w3L w3C],.int .i64 c]:=pV [] false [(6,⟨[(7,.int .i64)],[],[1,2,5],[],[]⟩)] Tryz.func234 (by kernel_rfl) (by kernel_rfl)
def zzv (w0:Int) (ha:Option Addr) (ia ja:Nat) (ka:Option Addr) (la ma:Nat) (na:Option Addr) (oa pa:Nat) (c:Int) (w:World) (R:Value→World→Prop):Prop :=
 (∀b,w.heap.size≤b →
 Ix ha ia c ∧
 (∃x0 x1 x2 x3 x4,
 zaa [] w ha (Int.toNat c*5) [.bool x0,.int .i64 x1,.int .i64 x2,.int .i64 x3,.int .i64 x4] ∧
 (∀b1,w.heap.size≤b1 →
 (∃aa,
 zab [] Tryz.prog zbr #[.int .i64 x3] w (.bool aa) ∧
 (∃ba,
 ((!aa)=false→zab [] Tryz.prog zbr #[.int .i64 x4] w (.bool ba)) ∧
 (((!aa)||(!ba))=false→InR .i64 ((la:Int) - 1)) ∧
 (∃ca,
 (((!aa)||(!ba))=false→zab [] Tryz.prog zan #[.int .i64 x1,.int .i64 (-1),.int .i64 ((la:Int) - 1)] w (.bool ca)) ∧
 ((((!aa)||(!ba))||(!ca))=true →
 R (.bool false) w) ∧
 ((((!aa)||(!ba))||(!ca))=false →
 ((decide (x1<0))=true →
 R (.bool (x2==0)) w) ∧
 ((decide (x1<0))=false →
 (∃da,
 (x0=true→zab [] Tryz.prog zan #[.int .i64 x2,.int .i64 1,.int .i64 149] w (.bool da)) ∧
 ((x0&&da)=true→Ix ka la x1) ∧
 (∃ea,
 ((x0&&da)=true→zaa [] w ka (Int.toNat x1*9+2) [.int .i64 ea]) ∧
 (∃fa,
 (((x0&&da)&&(ea==c))=true→zab [] Tryz.prog zed #[.agg #[.int .i64 w0,.slice ha ia ja,.slice ka la ma,.slice na oa pa],.int .i64 x1] w (.bool fa)) ∧
 (∃ga,
 ((((x0&&da)&&(ea==c))&&fa)=true→zab [] Tryz.prog zi2 #[.agg #[.int .i64 w0,.slice ha ia ja,.slice ka la ma,.slice na oa pa],.int .i64 c] w (.bool ga)) ∧
 R (.bool ((((x0&&da)&&(ea==c))&&fa)&&ga)) w))))))))))))
theorem z08 (w0 w1O w1L w1C w2O w2L w2C w3O w3L w3C c):PuV (zzv w0 w1O w1L w1C w2O w2L w2C w3O w3L w3C c) zj1 #[.agg #[.int .i64 w0,.slice w1O w1L w1C,.slice w2O w2L w2C,.slice w3O w3L w3C],.int .i64 c]:=pV [] false [] Tryz.func172 (by kernel_rfl) (by kernel_rfl)
def zzt (w0:Int) (ua:Option Addr) (va wa:Nat) (xa:Option Addr) (ya za:Nat) (ab:Option Addr) (bb cb:Nat) (w:World) (R:Value→World→Prop):Prop :=
 (∀b,w.heap.size≤b →
 (∃aa,
 zab [] Tryz.prog zan #[.int .i64 w0,.int .i64 0,.int .i64 100000000000000000] w (.bool aa) ∧
 (∃ba,
 ((!aa)=false→zab [] Tryz.prog zan #[.int .i64 (va:Int),.int .i64 1,.int .i64 4] w (.bool ba)) ∧
 (∃ca,
 ((((!aa)||(!ba))||((ya:Int) != 12))=false→zab [] Tryz.prog zlg #[.slice ab bb cb] w (.bool ca)) ∧
 (∃da,
 (((((!aa)||(!ba))||((ya:Int) != 12))||(!ca))=false→zab [] Tryz.prog zjc #[.agg #[.int .i64 w0,.slice ua va wa,.slice xa ya za,.slice ab bb cb]] w (.int .i64 da)) ∧
 ((((((!aa)||(!ba))||((ya:Int) != 12))||(!ca))||(da==0))=true →
 R (.bool false) w) ∧
 ((((((!aa)||(!ba))||((ya:Int) != 12))||(!ca))||(da==0))=false →
 (∃(ea:List Value→Prop) (mu:List Value→Nat),ea [.int .i64 0] ∧
 ∀(k:Int),ea [.int .i64 k] →
 ((decide (k<(bb:Int)))=true →
 (∃fa,
 zab [] Tryz.prog zhu #[.agg #[.int .i64 w0,.slice ua va wa,.slice xa ya za,.slice ab bb cb],.int .i64 k] w (.bool fa) ∧
 ((!fa)=true →
 R (.bool false) w) ∧
 ((!fa)=false →
 InR .i64 (k+1) ∧
 ea [.int .i64 (k+1)]∧mu [.int .i64 (k+1)]<mu [.int .i64 k]))) ∧
 ((decide (k<(bb:Int)))=false →
 (∃(ga:List Value→Prop) (ha:List Value→Nat),ga [.int .i64 0] ∧
 ∀(t:Int),ga [.int .i64 t] →
 ((decide (t<(ya:Int)))=true →
 (∃ia,
 zab [] Tryz.prog zi3 #[.agg #[.int .i64 w0,.slice ua va wa,.slice xa ya za,.slice ab bb cb],.int .i64 t] w (.bool ia) ∧
 ((!ia)=true →
 R (.bool false) w) ∧
 ((!ia)=false →
 InR .i64 (t+1) ∧
 ga [.int .i64 (t+1)]∧ha [.int .i64 (t+1)]<ha [.int .i64 t]))) ∧
 ((decide (t<(ya:Int)))=false →
 (∃(ja:List Value→Prop) (ka:List Value→Nat),ja [.int .i64 0] ∧
 ∀(k1:Int),ja [.int .i64 k1] →
 ((decide (k1<(bb:Int)))=true →
 (∃(la:List Value→Prop) (ma:List Value→Nat),la [.int .i64 0] ∧
 ∀(c:Int),la [.int .i64 c] →
 Ix ab bb k1 ∧
 (∃na oa pa,
 zaa [] w ab (Int.toNat k1*14+13) [.slice na oa pa] ∧
 ((decide (c<(oa:Int)))=true →
 (∃qa,
 zab [] Tryz.prog zhv #[.agg #[.int .i64 w0,.slice ua va wa,.slice xa ya za,.slice ab bb cb],.int .i64 k1,.int .i64 c] w (.bool qa) ∧
 ((!qa)=true →
 R (.bool false) w) ∧
 ((!qa)=false →
 InR .i64 (c+1) ∧
 la [.int .i64 (c+1)]∧ma [.int .i64 (c+1)]<ma [.int .i64 c]))) ∧
 ((decide (c<(oa:Int)))=false →
 InR .i64 (k1+1) ∧
 ja [.int .i64 (k1+1)]∧ka [.int .i64 (k1+1)]<ka [.int .i64 k1])))) ∧
 ((decide (k1<(bb:Int)))=false →
 (∃(ra:List Value→Prop) (sa:List Value→Nat),ra [.int .i64 0] ∧
 ∀(c1:Int),ra [.int .i64 c1] →
 ((decide (c1<(va:Int)))=true →
 (∃ta,
 zab [] Tryz.prog zj1 #[.agg #[.int .i64 w0,.slice ua va wa,.slice xa ya za,.slice ab bb cb],.int .i64 c1] w (.bool ta) ∧
 ((!ta)=true →
 R (.bool false) w) ∧
 ((!ta)=false →
 InR .i64 (c1+1) ∧
 ra [.int .i64 (c1+1)]∧sa [.int .i64 (c1+1)]<sa [.int .i64 c1]))) ∧
 ((decide (c1<(va:Int)))=false →
 R (.bool true) w))))))))))))))
theorem z06 (w0 w1O w1L w1C w2O w2L w2C w3O w3L w3C):PuV (zzt w0 w1O w1L w1C w2O w2L w2C w3O w3L w3C) zg0 #[.agg #[.int .i64 w0,.slice w1O w1L w1C,.slice w2O w2L w2C,.slice w3O w3L w3C]]:=pV [] false [(4,⟨[(3,.int .i64)],[],[1],[],[]⟩),(9,⟨[(4,.int .i64)],[],[1],[],[]⟩),(14,⟨[(5,.int .i64)],[],[1],[],[]⟩),(17,⟨[(6,.int .i64)],[],[1,5],[],[]⟩),(22,⟨[(7,.int .i64)],[],[1],[],[]⟩)] Tryz.func102 (by kernel_rfl) (by kernel_rfl)
def z5x (b0 b1 b2:Int) (wa:Option Addr) (xa ya:Nat) (za:Option Addr) (ab bb:Nat) (w:World) (R:Value→World→Prop):Prop :=
 (∀b,w.heap.size≤b →
 (∀b5,w.heap.size≤b5 →
 (∀b6,w.heap.size≤b6 →
 (∃(aa:List Value→World→Prop) (ba:List Value→World→Nat),(∀ca,ExtX [] w ca→(∀bq∈([b,b5,b6]:List Nat),bq<ca.heap.size)→aa [.int .i64 0,.int .i64 b0,.int .i64 b1,.int .i64 b2,.slice none 0 0,.slice none 0 0] ca) ∧
 ∀(c1 l l1 l2:Int) (da:Option Addr) (ea fa:Nat) (ga:Option Addr) (ha ia:Nat) ja,(∀bq∈([b,b5,b6]:List Nat),bq<ja.heap.size)→aa [.int .i64 c1,.int .i64 l,.int .i64 l1,.int .i64 l2,.slice da ea fa,.slice ga ha ia] ja →
 ((decide (c1<(xa:Int)))=true →
 Ix wa xa c1 ∧
 (∃x1,
 zaa [b,b5,b6] ja wa (Int.toNat c1*1) [.int .i64 x1] ∧
 (∀b8,ja.heap.size≤b8 →
 (some (zkx,([.int .i64 l,.int .i64 l1,.int .i64 l2,.slice da ea fa,.slice ga ha ia]:List Value))=some (zkx,([.int .i64 l,.int .i64 l1,.int .i64 l2,.slice da ea fa,.slice ga ha ia]:List Value))) ∧
 (∀ka,ExtX [b,b5,b6] ja ka→(∀bq∈([b,b5,b6,b8]:List Nat),bq<ka.heap.size)→ka.heap[b8]? = some (Obj.cells ([.int .i64 x1]:List Value).toArray ty_int (0,0)) →
 (∃la ma na,
 ∃oa,(builtin .append #[zb5,zb5] zb5 #[false,false] #[.slice da ea fa,.slice (some (Addr.mk b8 0 none)) 1 1]).run Tryz.prog ka = .ok (.value (.slice la ma na)) oa∧Kept [b,b5,b6,b8] ka oa ∧
 Ix za ab c1 ∧
 (∃x2,
 zaa [b,b5,b6,b8] oa za (Int.toNat c1*1) [.bool x2] ∧
 (∀b9,oa.heap.size≤b9 →
 (some (zkx,([.int .i64 l,.int .i64 l1,.int .i64 l2,.slice la ma na,.slice ga ha ia]:List Value))=some (zkx,([.int .i64 l,.int .i64 l1,.int .i64 l2,.slice la ma na,.slice ga ha ia]:List Value))) ∧
 (∀pa,ExtX [b,b5,b6,b8] oa pa→(∀bq∈([b,b5,b6,b8,b9]:List Nat),bq<pa.heap.size)→pa.heap[b9]? = some (Obj.cells ([.bool x2]:List Value).toArray za2 (0,0)) →
 (∃qa ra sa,
 ∃ta,(builtin .append #[zcu,zcu] zcu #[false,false] #[.slice ga ha ia,.slice (some (Addr.mk b9 0 none)) 1 1]).run Tryz.prog pa = .ok (.value (.slice qa ra sa)) ta∧Kept [b,b5,b6,b8,b9] pa ta ∧
 InR .i64 (c1+1) ∧
 (∀ua,ExtX [b,b5,b6,b8,b9] ta ua→(∀bq∈([b,b5,b6,b8,b9]:List Nat),bq<ua.heap.size)→aa [.int .i64 (c1+1),.int .i64 l,.int .i64 l1,.int .i64 l2,.slice la ma na,.slice qa ra sa] ua∧ba [.int .i64 (c1+1),.int .i64 l,.int .i64 l1,.int .i64 l2,.slice la ma na,.slice qa ra sa] ua<ba [.int .i64 c1,.int .i64 l,.int .i64 l1,.int .i64 l2,.slice da ea fa,.slice ga ha ia] ja)))))))))) ∧
 ((decide (c1<(xa:Int)))=false →
 (∀va,ExtX [b,b5,b6] ja va→R (.agg #[.int .i64 l,.int .i64 l1,.int .i64 l2,.slice da ea fa,.slice ga ha ia]) va))))))
theorem z6d (b0 b1 b2 b3O b3L b3C b4O b4L b4C):EfV (z5x b0 b1 b2 b3O b3L b3C b4O b4L b4C) zi9 #[.agg #[.int .i64 b0,.int .i64 b1,.int .i64 b2,.slice b3O b3L b3C,.slice b4O b4L b4C]]:=eV [] false [(3,⟨[(4,.int .i64)],[(2,[.int .i64,.int .i64,.int .i64,.slice,.slice])],[1,2,3],[],[]⟩)] Tryz.func173 (by kernel_rfl) (by kernel_rfl)
def z51 (w0:Int) (gg:Option Addr) (hg ig:Nat) (jg:Option Addr) (kg lg:Nat) (mg:Option Addr) (ng og:Nat) (w:World) (R:Value→World→Prop):Prop :=
 (∀b,w.heap.size≤b →
 (∀b1,w.heap.size≤b1 →
 (∀b2,w.heap.size≤b2 →
 (∃(aa:List Value→World→Prop) (ba:List Value→World→Nat),(∀ca,ExtX [] w ca→(∀bq∈([b,b1,b2]:List Nat),bq<ca.heap.size)→aa [.int .i64 0,.int .i64 w0,.slice none 0 0,.slice none 0 0,.slice none 0 0] ca) ∧
 ∀(c1 l:Int) (da:Option Addr) (ea fa:Nat) (ga:Option Addr) (ha ia:Nat) (ja:Option Addr) (ka la:Nat) ma,(∀bq∈([b,b1,b2]:List Nat),bq<ma.heap.size)→aa [.int .i64 c1,.int .i64 l,.slice da ea fa,.slice ga ha ia,.slice ja ka la] ma →
 ((decide (c1<(hg:Int)))=true →
 Ix gg hg c1 ∧
 (∃na oa pa qa ra,
 zaa [b,b1,b2] ma gg (Int.toNat c1*5) [.bool na,.int .i64 oa,.int .i64 pa,.int .i64 qa,.int .i64 ra] ∧
 (∀b4,ma.heap.size≤b4 →
 (some (zak,([.int .i64 l,.slice da ea fa,.slice ga ha ia,.slice ja ka la]:List Value))=some (zak,([.int .i64 l,.slice da ea fa,.slice ga ha ia,.slice ja ka la]:List Value))) ∧
 (∀sa,ExtX [b,b1,b2] ma sa→(∀bq∈([b,b1,b2,b4]:List Nat),bq<sa.heap.size)→sa.heap[b4]? = some (Obj.cells ([.bool na,.int .i64 oa,.int .i64 pa,.int .i64 qa,.int .i64 ra]:List Value).toArray za1 (0,0)) →
 (∃ta ua va,
 ∃wa,(builtin .append #[zb0,zb0] zb0 #[false,false] #[.slice da ea fa,.slice (some (Addr.mk b4 0 none)) 1 1]).run Tryz.prog sa = .ok (.value (.slice ta ua va)) wa∧Kept [b,b1,b2,b4] sa wa ∧
 InR .i64 (c1+1) ∧
 (∀xa,ExtX [b,b1,b2,b4] wa xa→(∀bq∈([b,b1,b2,b4]:List Nat),bq<xa.heap.size)→aa [.int .i64 (c1+1),.int .i64 l,.slice ta ua va,.slice ga ha ia,.slice ja ka la] xa∧ba [.int .i64 (c1+1),.int .i64 l,.slice ta ua va,.slice ga ha ia,.slice ja ka la] xa<ba [.int .i64 c1,.int .i64 l,.slice da ea fa,.slice ga ha ia,.slice ja ka la] ma)))))) ∧
 ((decide (c1<(hg:Int)))=false →
 (∃(ya:List Value→World→Prop) (za:List Value→World→Nat),(∀ab,ExtX [b,b1,b2] ma ab→(∀bq∈([b,b1,b2]:List Nat),bq<ab.heap.size)→ya [.int .i64 0,.int .i64 l,.slice da ea fa,.slice ga ha ia,.slice ja ka la] ab) ∧
 ∀(t1 l4:Int) (bb:Option Addr) (cb db:Nat) (eb:Option Addr) (fb gb:Nat) (hb:Option Addr) (ib jb:Nat) kb,(∀bq∈([b,b1,b2]:List Nat),bq<kb.heap.size)→ya [.int .i64 t1,.int .i64 l4,.slice bb cb db,.slice eb fb gb,.slice hb ib jb] kb →
 ((decide (t1<(kg:Int)))=true →
 Ix jg kg t1 ∧
 (∃lb mb nb ob pb qb rb sb tb,
 zaa [b,b1,b2] kb jg (Int.toNat t1*9) [.int .i64 lb,.int .i64 mb,.int .i64 nb,.int .i64 ob,.int .i64 pb,.int .i64 qb,.int .i64 rb,.int .i64 sb,.int .i64 tb] ∧
 (∀b6,kb.heap.size≤b6 →
 (some (zak,([.int .i64 l4,.slice bb cb db,.slice eb fb gb,.slice hb ib jb]:List Value))=some (zak,([.int .i64 l4,.slice bb cb db,.slice eb fb gb,.slice hb ib jb]:List Value))) ∧
 (∀ub,ExtX [b,b1,b2] kb ub→(∀bq∈([b,b1,b2,b6]:List Nat),bq<ub.heap.size)→ub.heap[b6]? = some (Obj.cells ([.int .i64 lb,.int .i64 mb,.int .i64 nb,.int .i64 ob,.int .i64 pb,.int .i64 qb,.int .i64 rb,.int .i64 sb,.int .i64 tb]:List Value).toArray zap (0,0)) →
 (∃vb wb xb,
 ∃yb,(builtin .append #[zbt,zbt] zbt #[false,false] #[.slice eb fb gb,.slice (some (Addr.mk b6 0 none)) 1 1]).run Tryz.prog ub = .ok (.value (.slice vb wb xb)) yb∧Kept [b,b1,b2,b6] ub yb ∧
 InR .i64 (t1+1) ∧
 (∀zb,ExtX [b,b1,b2,b6] yb zb→(∀bq∈([b,b1,b2,b6]:List Nat),bq<zb.heap.size)→ya [.int .i64 (t1+1),.int .i64 l4,.slice bb cb db,.slice vb wb xb,.slice hb ib jb] zb∧za [.int .i64 (t1+1),.int .i64 l4,.slice bb cb db,.slice vb wb xb,.slice hb ib jb] zb<za [.int .i64 t1,.int .i64 l4,.slice bb cb db,.slice eb fb gb,.slice hb ib jb] kb)))))) ∧
 ((decide (t1<(kg:Int)))=false →
 (∃(ac:List Value→World→Prop) (bc:List Value→World→Nat),(∀cc,ExtX [b,b1,b2] kb cc→(∀bq∈([b,b1,b2]:List Nat),bq<cc.heap.size)→ac [.int .i64 0,.int .i64 l4,.slice bb cb db,.slice eb fb gb,.slice hb ib jb] cc) ∧
 ∀(k1 dc:Int) (ec:Option Addr) (fc gc:Nat) (hc:Option Addr) (ic jc:Nat) (kc:Option Addr) (lc mc:Nat) nc,(∀bq∈([b,b1,b2]:List Nat),bq<nc.heap.size)→ac [.int .i64 k1,.int .i64 dc,.slice ec fc gc,.slice hc ic jc,.slice kc lc mc] nc →
 ((decide (k1<(ng:Int)))=true →
 Ix mg ng k1 ∧
 (∃(oc:Bool) (pc:Int) (qc:ByteArray) (rc sc tc uc vc wc xc yc:Int) (zc:Option Addr) (ad bd:Nat) (cd:Option Addr) (dd ed:Nat) (fd:Option Addr) (gd hd:Nat),
 zaa [b,b1,b2] nc mg (Int.toNat k1*14) [.bool oc,.int .i64 pc,.string qc,.int .i64 rc,.int .i64 sc,.int .i64 tc,.int .i64 uc,.int .i64 vc,.int .i64 wc,.int .i64 xc,.int .i64 yc,.slice zc ad bd,.slice cd dd ed,.slice fd gd hd] ∧
 (∀id,nc.heap.size≤id →
 Ix mg ng k1 ∧
 (∃jd kd ld md nd od pd qd rd,
 zaa [b,b1,b2] nc mg (Int.toNat k1*14+8) [.int .i64 jd,.int .i64 kd,.int .i64 ld,.slice md nd od,.slice pd qd rd] ∧
 (∀sd,ExtX [b,b1,b2] nc sd→(∀bq∈([b,b1,b2,id]:List Nat),bq<sd.heap.size) →
 Calls Tryz.prog zi9 #[.agg #[.int .i64 jd,.int .i64 kd,.int .i64 ld,.slice md nd od,.slice pd qd rd]] sd fun e1 td =>
 (∃ud vd wd xd yd zd ae be ce,
 e1 = .returned (.agg #[.int .i64 ud,.int .i64 vd,.int .i64 wd,.slice xd yd zd,.slice ae be ce])∧Kept [b,b1,b2,id] sd td ∧
 (∃(de:List Value→World→Prop) (ee:List Value→World→Nat),(∀fe,ExtX [b,b1,b2,id] td fe→(∀bq∈([b,b1,b2,id]:List Nat),bq<fe.heap.size)→de [.int .i64 0,.bool oc,.int .i64 pc,.string qc,.int .i64 rc,.int .i64 sc,.int .i64 tc,.int .i64 uc,.int .i64 vc,.int .i64 ud,.int .i64 vd,.int .i64 wd,.slice xd yd zd,.slice ae be ce,.slice none 0 0] fe) ∧
 ∀(c4:Int) (he:Bool) (ie:Int) (je:ByteArray) (ke me oe pe qe re se te:Int) (ue:Option Addr) (ve we:Nat) (xe:Option Addr) (ye ze:Nat) (af:Option Addr) (bf cf:Nat) df,(∀bq∈([b,b1,b2,id]:List Nat),bq<df.heap.size)→de [.int .i64 c4,.bool he,.int .i64 ie,.string je,.int .i64 ke,.int .i64 me,.int .i64 oe,.int .i64 pe,.int .i64 qe,.int .i64 re,.int .i64 se,.int .i64 te,.slice ue ve we,.slice xe ye ze,.slice af bf cf] df →
 Ix mg ng k1 ∧
 (∃ef ff gf,
 zaa [b,b1,b2,id] df mg (Int.toNat k1*14+13) [.slice ef ff gf] ∧
 ((decide (c4<(ff:Int)))=true →
 Ix mg ng k1 ∧
 (∃hf jf kf,
 zaa [b,b1,b2,id] df mg (Int.toNat k1*14+13) [.slice hf jf kf] ∧
 Ix hf jf c4 ∧
 (∃lf mf nf pf qf,
 zaa [b,b1,b2,id] df hf (Int.toNat c4*5) [.int .i64 lf,.bool mf,.int .i64 nf,.int .i64 pf,.int .i64 qf] ∧
 (∀rf,df.heap.size≤rf →
 (some (zbg,([.bool he,.int .i64 ie,.string je,.int .i64 ke,.int .i64 me,.int .i64 oe,.int .i64 pe,.int .i64 qe,.int .i64 re,.int .i64 se,.int .i64 te,.slice ue ve we,.slice xe ye ze,.slice af bf cf]:List Value))=some (zbg,([.bool he,.int .i64 ie,.string je,.int .i64 ke,.int .i64 me,.int .i64 oe,.int .i64 pe,.int .i64 qe,.int .i64 re,.int .i64 se,.int .i64 te,.slice ue ve we,.slice xe ye ze,.slice af bf cf]:List Value))) ∧
 (∀sf,ExtX [b,b1,b2,id] df sf→(∀bq∈([b,b1,b2,id,rf]:List Nat),bq<sf.heap.size)→sf.heap[rf]? = some (Obj.cells ([.int .i64 lf,.bool mf,.int .i64 nf,.int .i64 pf,.int .i64 qf]:List Value).toArray za4 (0,0)) →
 (∃tf uf vf,
 ∃wf,(builtin .append #[zbk,zbk] zbk #[false,false] #[.slice af bf cf,.slice (some (Addr.mk rf 0 none)) 1 1]).run Tryz.prog sf = .ok (.value (.slice tf uf vf)) wf∧Kept [b,b1,b2,id,rf] sf wf ∧
 InR .i64 (c4+1) ∧
 (∀xf,ExtX [b,b1,b2,id,rf] wf xf→(∀bq∈([b,b1,b2,id,rf]:List Nat),bq<xf.heap.size)→de [.int .i64 (c4+1),.bool he,.int .i64 ie,.string je,.int .i64 ke,.int .i64 me,.int .i64 oe,.int .i64 pe,.int .i64 qe,.int .i64 re,.int .i64 se,.int .i64 te,.slice ue ve we,.slice xe ye ze,.slice tf uf vf] xf∧ee [.int .i64 (c4+1),.bool he,.int .i64 ie,.string je,.int .i64 ke,.int .i64 me,.int .i64 oe,.int .i64 pe,.int .i64 qe,.int .i64 re,.int .i64 se,.int .i64 te,.slice ue ve we,.slice xe ye ze,.slice tf uf vf] xf<ee [.int .i64 c4,.bool he,.int .i64 ie,.string je,.int .i64 ke,.int .i64 me,.int .i64 oe,.int .i64 pe,.int .i64 qe,.int .i64 re,.int .i64 se,.int .i64 te,.slice ue ve we,.slice xe ye ze,.slice af bf cf] df))))))) ∧
 ((decide (c4<(ff:Int)))=false →
 (∀yf,df.heap.size≤yf →
 (∀zf,ExtX [b,b1,b2,id] df zf→(∀bq∈([b,b1,b2,id,yf]:List Nat),bq<zf.heap.size)→zf.heap[yf]? = some (Obj.cells ([.bool he,.int .i64 ie,.string je,.int .i64 ke,.int .i64 me,.int .i64 oe,.int .i64 pe,.int .i64 qe,.int .i64 re,.int .i64 se,.int .i64 te,.slice ue ve we,.slice xe ye ze,.slice af bf cf]:List Value).toArray zbg (0,0)) →
 (∃ag bg cg,
 ∃dg,(builtin .append #[zar,zar] zar #[false,false] #[.slice kc lc mc,.slice (some (Addr.mk yf 0 none)) 1 1]).run Tryz.prog zf = .ok (.value (.slice ag bg cg)) dg∧Kept [b,b1,b2,id,yf] zf dg ∧
 InR .i64 (k1+1) ∧
 (∀eg,ExtX [b,b1,b2,id,yf] dg eg→(∀bq∈([b,b1,b2,id,yf]:List Nat),bq<eg.heap.size)→ac [.int .i64 (k1+1),.int .i64 dc,.slice ec fc gc,.slice hc ic jc,.slice ag bg cg] eg∧bc [.int .i64 (k1+1),.int .i64 dc,.slice ec fc gc,.slice hc ic jc,.slice ag bg cg] eg<bc [.int .i64 k1,.int .i64 dc,.slice ec fc gc,.slice hc ic jc,.slice kc lc mc] nc))))))))))))) ∧
 ((decide (k1<(ng:Int)))=false →
 (∀fg,ExtX [b,b1,b2] nc fg→R (.agg #[.int .i64 dc,.slice ec fc gc,.slice hc ic jc,.slice kc lc mc]) fg))))))))))
theorem z6g (w0 w1O w1L w1C w2O w2L w2C w3O w3L w3C):EfV (z51 w0 w1O w1L w1C w2O w2L w2C w3O w3L w3C) zmm #[.agg #[.int .i64 w0,.slice w1O w1L w1C,.slice w2O w2L w2C,.slice w3O w3L w3C]]:=eV [] false [(3,⟨[(4,.int .i64)],[(2,[.int .i64,.slice,.slice,.slice])],[1,2,3],[],[]⟩),(7,⟨[(5,.int .i64)],[(2,[.int .i64,.slice,.slice,.slice])],[1,2,3],[],[]⟩),(11,⟨[(6,.int .i64)],[(2,[.int .i64,.slice,.slice,.slice])],[1,2,3],[],[]⟩),(17,⟨[(8,.int .i64)],[(3,[.bool,.int .i64,.str,.int .i64,.int .i64,.int .i64,.int .i64,.int .i64,.int .i64,.int .i64,.int .i64,.slice,.slice,.slice])],[1,2,3,6,7],[],[]⟩)] Tryz.func103 (by kernel_rfl) (by kernel_rfl)
def z27 (n:Int) (w:World) (R:Value→World→Prop):Prop :=
 R (.bool (decide (n≤50000000000000000))) w
theorem z5a (n):PuV (z27 n) zbj #[.int .i64 n]:=pV [] false [] Tryz.func174 (by kernel_rfl) (by kernel_rfl)
def zt0 (w0:Int) (db:Option Addr) (eb fb:Nat) (gb:Option Addr) (hb ib:Nat) (jb:Option Addr) (kb lb:Nat) (w:World) (R:Value→World→Prop):Prop :=
 (∀b,w.heap.size≤b →
 (∃aa,
 zab [] Tryz.prog zg0 #[.agg #[.int .i64 w0,.slice db eb fb,.slice gb hb ib,.slice jb kb lb]] w (.bool aa) ∧
 (∃ba,
 ((!aa)=false→zab [] Tryz.prog zbj #[.int .i64 w0] w (.bool ba)) ∧
 (((!aa)||(!ba))=true →
 R (.bool false) w) ∧
 (((!aa)||(!ba))=false →
 (∃(ca:List Value→Prop) (mu:List Value→Nat),ca [.int .i64 0] ∧
 ∀(c:Int),ca [.int .i64 c] →
 ((decide (c<(eb:Int)))=true →
 Ix db eb c ∧
 (∃da,
 zaa [] w db (Int.toNat c*5+3) [.int .i64 da] ∧
 (∃ea,
 zab [] Tryz.prog zbj #[.int .i64 da] w (.bool ea) ∧
 ((!ea)=false→Ix db eb c) ∧
 (∃fa,
 ((!ea)=false→zaa [] w db (Int.toNat c*5+4) [.int .i64 fa]) ∧
 (∃ga,
 ((!ea)=false→zab [] Tryz.prog zbj #[.int .i64 fa] w (.bool ga)) ∧
 (((!ea)||(!ga))=true →
 R (.bool false) w) ∧
 (((!ea)||(!ga))=false →
 InR .i64 (c+1) ∧
 ca [.int .i64 (c+1)]∧mu [.int .i64 (c+1)]<mu [.int .i64 c])))))) ∧
 ((decide (c<(eb:Int)))=false →
 (∃(ha:List Value→Prop) (ia:List Value→Nat),ha [.int .i64 0] ∧
 ∀(t:Int),ha [.int .i64 t] →
 ((decide (t<(hb:Int)))=true →
 Ix gb hb t ∧
 (∃v,
 zaa [] w gb (Int.toNat t*9+5) [.int .i64 v] ∧
 (∃ja,
 zab [] Tryz.prog zbj #[.int .i64 v] w (.bool ja) ∧
 ((!ja)=false→Ix gb hb t) ∧
 (∃ka,
 ((!ja)=false→zaa [] w gb (Int.toNat t*9+6) [.int .i64 ka]) ∧
 (∃la,
 ((!ja)=false→zab [] Tryz.prog zbj #[.int .i64 ka] w (.bool la)) ∧
 (((!ja)||(!la))=false→Ix gb hb t) ∧
 (∃ma,
 (((!ja)||(!la))=false→zaa [] w gb (Int.toNat t*9+7) [.int .i64 ma]) ∧
 (∃na,
 (((!ja)||(!la))=false→zab [] Tryz.prog zbj #[.int .i64 ma] w (.bool na)) ∧
 ((((!ja)||(!la))||(!na))=true →
 R (.bool false) w) ∧
 ((((!ja)||(!la))||(!na))=false →
 InR .i64 (t+1) ∧
 ha [.int .i64 (t+1)]∧ia [.int .i64 (t+1)]<ia [.int .i64 t])))))))) ∧
 ((decide (t<(hb:Int)))=false →
 (∃(oa:List Value→Prop) (pa:List Value→Nat),oa [.int .i64 0] ∧
 ∀(k:Int),oa [.int .i64 k] →
 ((decide (k<(kb:Int)))=true →
 Ix jb kb k ∧
 (∃qa,
 zaa [] w jb (Int.toNat k*14+7) [.int .i64 qa] ∧
 (∃ra,
 zab [] Tryz.prog zbj #[.int .i64 qa] w (.bool ra) ∧
 ((!ra)=true →
 R (.bool false) w) ∧
 ((!ra)=false →
 (∃(sa:List Value→Prop) (ta:List Value→Nat),sa [.int .i64 0] ∧
 ∀(c1:Int),sa [.int .i64 c1] →
 Ix jb kb k ∧
 (∃ua va wa,
 zaa [] w jb (Int.toNat k*14+13) [.slice ua va wa] ∧
 ((decide (c1<(va:Int)))=true →
 Ix jb kb k ∧
 (∃xa ya za,
 zaa [] w jb (Int.toNat k*14+13) [.slice xa ya za] ∧
 Ix xa ya c1 ∧
 (∃x0 x1 x2 x3 x4,
 zaa [] w xa (Int.toNat c1*5) [.int .i64 x0,.bool x1,.int .i64 x2,.int .i64 x3,.int .i64 x4] ∧
 (∀b1,w.heap.size≤b1 →
 (∃ab,
 zab [] Tryz.prog zbj #[.int .i64 x0] w (.bool ab) ∧
 (∃bb,
 ((!ab)=false→zab [] Tryz.prog zbj #[.int .i64 x2] w (.bool bb)) ∧
 (∃cb,
 (((!ab)||(!bb))=false→zab [] Tryz.prog zbj #[.int .i64 x4] w (.bool cb)) ∧
 ((((!ab)||(!bb))||(!cb))=true →
 R (.bool false) w) ∧
 ((((!ab)||(!bb))||(!cb))=false →
 InR .i64 (c1+1) ∧
 sa [.int .i64 (c1+1)]∧ta [.int .i64 (c1+1)]<ta [.int .i64 c1])))))))) ∧
 ((decide (c1<(va:Int)))=false →
 InR .i64 (k+1) ∧
 oa [.int .i64 (k+1)]∧pa [.int .i64 (k+1)]<pa [.int .i64 k]))))))) ∧
 ((decide (k<(kb:Int)))=false →
 R (.bool true) w))))))))))
theorem zum (w0 w1O w1L w1C w2O w2L w2C w3O w3L w3C):PuV (zt0 w0 w1O w1L w1C w2O w2L w2C w3O w3L w3C) zht #[.agg #[.int .i64 w0,.slice w1O w1L w1C,.slice w2O w2L w2C,.slice w3O w3L w3C]]:=pV [] false [(4,⟨[(3,.int .i64)],[],[1],[],[]⟩),(9,⟨[(4,.int .i64)],[],[1],[],[]⟩),(14,⟨[(5,.int .i64)],[],[1],[],[]⟩),(19,⟨[(6,.int .i64)],[],[1,5],[],[]⟩)] Tryz.func104 (by kernel_rfl) (by kernel_rfl)
def z50 (w0:Int) (aa:Option Addr) (ba ca:Nat) (da:Option Addr) (ea fa:Nat) (ga:Option Addr) (ha ia:Nat) (c:Int) (w:World) (R:Value→World→Prop):Prop :=
 (∀b,w.heap.size≤b →
 (∀b1,w.heap.size≤b1 →
 Ix aa ba c ∧
 WrX [] w aa (Int.toNat c*5+1) 1 ∧
 Ix aa ba c ∧
 WrX [] (sto w aa (Int.toNat c*5+1) [.int .i64 (-1)]) aa (Int.toNat c*5+2) 1 ∧
 (∀wr,ExtX [] (sto (sto w aa (Int.toNat c*5+1) [.int .i64 (-1)]) aa (Int.toNat c*5+2) [.int .i64 0]) wr→R (.agg #[.int .i64 w0,.slice aa ba ca,.slice da ea fa,.slice ga ha ia]) wr)))
theorem z6f (w0 w1O w1L w1C w2O w2L w2C w3O w3L w3C c):EfV (z50 w0 w1O w1L w1C w2O w2L w2C w3O w3L w3C c) zg3 #[.agg #[.int .i64 w0,.slice w1O w1L w1C,.slice w2O w2L w2C,.slice w3O w3L w3C],.int .i64 c]:=eV [] false [] Tryz.func80 (by kernel_rfl) (by kernel_rfl)
def z5w (a b:Int) (w:World) (R:Value→World→Prop):Prop :=
 ((decide (a<b))=true →
 R (.int .i64 a) w) ∧
 ((decide (a<b))=false →
 R (.int .i64 b) w)
theorem z7c (a b):PuV (z5w a b) zg1 #[.int .i64 a,.int .i64 b]:=pV [] false [] Tryz.func177 (by kernel_rfl) (by kernel_rfl)
def z5v (a b:Int) (w:World) (R:Value→World→Prop):Prop :=
 ((decide (a>b))=true →
 R (.int .i64 a) w) ∧
 ((decide (a>b))=false →
 R (.int .i64 b) w)
theorem z7b (a b):PuV (z5v a b) zml #[.int .i64 a,.int .i64 b]:=pV [] false [] Tryz.func182 (by kernel_rfl) (by kernel_rfl)
def z2z (ea fa:Int) (w:World) (R:Value→World→Prop):Prop :=
 (∃aa,
 zab [] Tryz.prog zdd #[.int .i64 fa] w (.bool aa) ∧
 ((!aa)=true →
 R (.int .i64 0) w) ∧
 ((!aa)=false →
 (∃ba,
 zab [] Tryz.prog zml #[.int .i64 ea,.int .i64 0] w (.int .i64 ba) ∧
 (∃ca,
 zab [] Tryz.prog zgz #[.int .i64 fa] w (.int .i64 ca) ∧
 (∃da,
 zab [] Tryz.prog zg1 #[.int .i64 ba,.int .i64 ca] w (.int .i64 da) ∧
 R (.int .i64 da) w)))))
theorem z43 (lag weight):PuV (z2z lag weight) zle #[.int .i64 lag,.int .i64 weight]:=pV [] false [] Tryz.func118 (by kernel_rfl) (by kernel_rfl)
def zzx (w0:Int) (db:Option Addr) (eb fb:Nat) (gb:Option Addr) (hb ib:Nat) (jb:Option Addr) (kb lb:Nat) (c:Int) (w:World) (R:Value→World→Prop):Prop :=
 (∀b,w.heap.size≤b →
 (∀b1,w.heap.size≤b1 →
 (∃(aa:List Value→World→Prop) (mu:List Value→World→Nat),(∀wr,ExtX [] w wr→(∀bq∈([b,b1]:List Nat),bq<wr.heap.size)→aa [.int .i64 3] wr) ∧
 ∀(d:Int) wv,(∀bq∈([b,b1]:List Nat),bq<wv.heap.size)→aa [.int .i64 d] wv →
 ((decide (d>0))=true →
 (∃(ba:List Value→World→Prop) (ca:List Value→World→Nat),(∀da,ExtX [b,b1] wv da→(∀bq∈([b,b1]:List Nat),bq<da.heap.size)→ba [.int .i64 1] da) ∧
 ∀(k:Int) ea,(∀bq∈([b,b1]:List Nat),bq<ea.heap.size)→ba [.int .i64 k] ea →
 ((decide (k<(kb:Int)))=true →
 Ix jb kb k ∧
 (∃fa,
 zaa [b,b1] ea jb (Int.toNat k*14+0) [.bool fa] ∧
 (∃ga,
 ((!fa)=false→zab [b,b1] Tryz.prog zg2 #[.slice jb kb lb,.int .i64 k] ea (.int .i64 ga)) ∧
 (((!fa)||(ga != d))=true →
 InR .i64 (k+1) ∧
 (∀ha,ExtX [b,b1] ea ha→(∀bq∈([b,b1]:List Nat),bq<ha.heap.size)→ba [.int .i64 (k+1)] ha∧ca [.int .i64 (k+1)] ha<ca [.int .i64 k] ea)) ∧
 (((!fa)||(ga != d))=false →
 Ix jb kb k ∧
 (∃ia ja ka,
 zaa [b,b1] ea jb (Int.toNat k*14+13) [.slice ia ja ka] ∧
 Ix ia ja c ∧
 (∃x0 x1 x2 x3 x4,
 zaa [b,b1] ea ia (Int.toNat c*5) [.int .i64 x0,.bool x1,.int .i64 x2,.int .i64 x3,.int .i64 x4] ∧
 (∀b2,ea.heap.size≤b2 →
 (∃la,
 zab [b,b1] Tryz.prog zec #[.agg #[.int .i64 w0,.slice db eb fb,.slice gb hb ib,.slice jb kb lb],.int .i64 k,.int .i64 c] ea (.bool la) ∧
 (∃ma,
 (la=true→zab [b,b1] Tryz.prog zjb #[.agg #[.int .i64 w0,.slice db eb fb,.slice gb hb ib,.slice jb kb lb],.int .i64 k,.int .i64 c] ea (.bool ma)) ∧
 (((la&&(!ma))&&(!x1))=true →
 Ix jb kb k ∧
 (∃na,
 zaa [b,b1] ea jb (Int.toNat k*14+1) [.int .i64 na] ∧
 Ix jb kb na ∧
 (∃oa pa qa,
 zaa [b,b1] ea jb (Int.toNat na*14+13) [.slice oa pa qa] ∧
 Ix oa pa c ∧
 (∃ra,
 zaa [b,b1] ea oa (Int.toNat c*5+0) [.int .i64 ra] ∧
 InR .i64 (x2 - ra) ∧
 (∃sa,
 zab [b,b1] Tryz.prog zle #[.int .i64 (x2 - ra),.int .i64 x3] ea (.int .i64 sa) ∧
 InR .i64 (ra+sa) ∧
 Ix jb kb k ∧
 (∃ta ua va,
 zaa [b,b1] ea jb (Int.toNat k*14+13) [.slice ta ua va] ∧
 Ix ta ua c ∧
 WrX [b,b1] ea ta (Int.toNat c*5) 5 ∧
 InR .i64 (k+1) ∧
 (∀wa,ExtX [b,b1] (sto ea ta (Int.toNat c*5) [.int .i64 x0,.bool (la&&(!ma)),.int .i64 (ra+sa),.int .i64 x3,.int .i64 x4]) wa→(∀bq∈([b,b1,b2]:List Nat),bq<wa.heap.size)→ba [.int .i64 (k+1)] wa∧ca [.int .i64 (k+1)] wa<ca [.int .i64 k] ea))))))) ∧
 (((la&&(!ma))&&(!x1))=false →
 Ix jb kb k ∧
 (∃xa ya za,
 zaa [b,b1] ea jb (Int.toNat k*14+13) [.slice xa ya za] ∧
 Ix xa ya c ∧
 WrX [b,b1] ea xa (Int.toNat c*5) 5 ∧
 InR .i64 (k+1) ∧
 (∀ab,ExtX [b,b1] (sto ea xa (Int.toNat c*5) [.int .i64 x0,.bool (la&&(!ma)),.int .i64 x2,.int .i64 x3,.int .i64 x4]) ab→(∀bq∈([b,b1,b2]:List Nat),bq<ab.heap.size)→ba [.int .i64 (k+1)] ab∧ca [.int .i64 (k+1)] ab<ca [.int .i64 k] ea)))))))))))) ∧
 ((decide (k<(kb:Int)))=false →
 InR .i64 (d - 1) ∧
 (∀bb,ExtX [b,b1] ea bb→(∀bq∈([b,b1]:List Nat),bq<bb.heap.size)→aa [.int .i64 (d - 1)] bb∧mu [.int .i64 (d - 1)] bb<mu [.int .i64 d] wv)))) ∧
 ((decide (d>0))=false →
 (∀cb,ExtX [b,b1] wv cb→R (.agg #[.int .i64 w0,.slice db eb fb,.slice gb hb ib,.slice jb kb lb]) cb)))))
theorem zz7 (w0 w1O w1L w1C w2O w2L w2C w3O w3L w3C c):EfV (zzx w0 w1O w1L w1C w2O w2L w2C w3O w3L w3C c) zg5 #[.agg #[.int .i64 w0,.slice w1O w1L w1C,.slice w2O w2L w2C,.slice w3O w3L w3C],.int .i64 c]:=eV [] false [(2,⟨[(5,.int .i64)],[],[1,2,4],[],[]⟩),(5,⟨[(6,.int .i64)],[],[1,2,4,5],[],[]⟩)] Tryz.func120 (by kernel_rfl) (by kernel_rfl)
def z5y (b0 b1 b2:Int) (da:Option Addr) (ea fa:Nat) (ga:Option Addr) (ha ia:Nat) (w:World) (R:Value→World→Prop):Prop :=
 (∀b,w.heap.size≤b →
 (∀b5,w.heap.size≤b5 →
 (∃(aa:List Value→World→Prop) (mu:List Value→World→Nat),(∀wr,ExtX [] w wr→(∀bq∈([b,b5]:List Nat),bq<wr.heap.size)→aa [.int .i64 0] wr) ∧
 ∀(c:Int) wv,(∀bq∈([b,b5]:List Nat),bq<wv.heap.size)→aa [.int .i64 c] wv →
 ((decide (c<(ha:Int)))=true →
 Ix ga ha c ∧
 WrX [b,b5] wv ga (Int.toNat c*1) 1 ∧
 InR .i64 (c+1) ∧
 (∀ba,ExtX [b,b5] (sto wv ga (Int.toNat c*1) [.bool false]) ba→(∀bq∈([b,b5]:List Nat),bq<ba.heap.size)→aa [.int .i64 (c+1)] ba∧mu [.int .i64 (c+1)] ba<mu [.int .i64 c] wv)) ∧
 ((decide (c<(ha:Int)))=false →
 (∀ca,ExtX [b,b5] wv ca→R (.agg #[.int .i64 b0,.int .i64 b1,.int .i64 b2,.slice da ea fa,.slice ga ha ia]) ca)))))
theorem z6e (b0 b1 b2 b3O b3L b3C b4O b4L b4C):EfV (z5y b0 b1 b2 b3O b3L b3C b4O b4L b4C) zja #[.agg #[.int .i64 b0,.int .i64 b1,.int .i64 b2,.slice b3O b3L b3C,.slice b4O b4L b4C]]:=eV [] false [(2,⟨[(3,.int .i64)],[],[1,2],[],[]⟩)] Tryz.func235 (by kernel_rfl) (by kernel_rfl)
def z2x (b0 b1 b2:Int) (yb:Option Addr) (zb ac:Nat) (bc:Option Addr) (cc dc:Nat) (ec fc gc:Int) (w:World) (R:Value→World→Prop):Prop :=
 (∀b,w.heap.size≤b →
 (∀b5,w.heap.size≤b5 →
 (∀b6,w.heap.size≤b6 →
 (∃aa,
 zab [] Tryz.prog zh4 #[.agg #[.int .i64 b0,.int .i64 b1,.int .i64 b2,.slice yb zb ac,.slice bc cc dc]] w (.bool aa) ∧
 ((!aa)=true →
 (∀wr,ExtX [] w wr→R (.tuple #[.agg #[.int .i64 0,.int .i64 0,.int .i64 0,.slice none 0 0,.slice none 0 0],.int .i64 1]) wr)) ∧
 ((!aa)=false →
 (∀ba,ExtX [] w ba→(∀bq∈([b,b5,b6]:List Nat),bq<ba.heap.size) →
 Calls Tryz.prog zi9 #[.agg #[.int .i64 b0,.int .i64 b1,.int .i64 b2,.slice yb zb ac,.slice bc cc dc]] ba fun e wv =>
 (∃ca da ea fa ga ha ia ja ka,
 e = .returned (.agg #[.int .i64 ca,.int .i64 da,.int .i64 ea,.slice fa ga ha,.slice ia ja ka])∧Kept [b,b5,b6] ba wv ∧
 ((ec==4)=true →
 (∀la,ExtX [b,b5,b6] wv la→(∀bq∈([b,b5,b6]:List Nat),bq<la.heap.size) →
 (∃ma na oa,
 ∃pa,((Instr.makeSlice zb5 (.int .i64 (ja:Int)) (.int .i64 (ja:Int))):Sem Value).run Tryz.prog la = .ok (.slice ma na oa) pa∧Kept [b,b5,b6] la pa ∧
 (∀qa,ExtX [b,b5,b6] pa qa→(∀bq∈([b,b5,b6]:List Nat),bq<qa.heap.size) →
 Calls Tryz.prog zja #[.agg #[.int .i64 ca,.int .i64 ca,.int .i64 0,.slice ma na oa,.slice ia ja ka]] qa fun e1 ra =>
 (∃sa ta ua va wa xa ya za ab,
 e1 = .returned (.agg #[.int .i64 sa,.int .i64 ta,.int .i64 ua,.slice va wa xa,.slice ya za ab])∧Kept [b,b5,b6] qa ra ∧
 (∀bb,ExtX [b,b5,b6] ra bb→R (.tuple #[.agg #[.int .i64 sa,.int .i64 ta,.int .i64 ua,.slice va wa xa,.slice ya za ab],.int .i64 0]) bb)))))) ∧
 ((ec==4)=false →
 InR .i64 ((ga:Int) - 1) ∧
 (∃cb,
 zab [b,b5,b6] Tryz.prog zan #[.int .i64 fc,.int .i64 0,.int .i64 ((ga:Int) - 1)] wv (.bool cb) ∧
 ((!cb)=true →
 (∀db,ExtX [b,b5,b6] wv db→R (.tuple #[.agg #[.int .i64 ca,.int .i64 da,.int .i64 ea,.slice fa ga ha,.slice ia ja ka],.int .i64 1]) db)) ∧
 ((!cb)=false →
 ((ec==1)=true →
 Ix fa ga fc ∧
 (∃x,
 zaa [b,b5,b6] wv fa (Int.toNat fc*1) [.int .i64 x] ∧
 ((decide (x>0))=true →
 (∀eb,ExtX [b,b5,b6] wv eb→R (.tuple #[.agg #[.int .i64 ca,.int .i64 da,.int .i64 ea,.slice fa ga ha,.slice ia ja ka],.int .i64 0]) eb)) ∧
 ((decide (x>0))=false →
 (∃fb,
 zab [b,b5,b6] Tryz.prog zg1 #[.int .i64 20,.int .i64 da] wv (.int .i64 fb) ∧
 InR .i64 (da - fb) ∧
 Ix fa ga fc ∧
 WrX [b,b5,b6] wv fa (Int.toNat fc*1) 1 ∧
 Ix ia ja fc ∧
 WrX [b,b5,b6] (sto wv fa (Int.toNat fc*1) [.int .i64 fb]) ia (Int.toNat fc*1) 1 ∧
 ((fb==0)=true →
 (∀gb,ExtX [b,b5,b6] (sto (sto wv fa (Int.toNat fc*1) [.int .i64 fb]) ia (Int.toNat fc*1) [.bool (fb==0)]) gb→R (.tuple #[.agg #[.int .i64 ca,.int .i64 (da - fb),.int .i64 ea,.slice fa ga ha,.slice ia ja ka],.int .i64 2]) gb)) ∧
 ((fb==0)=false →
 (∀hb,ExtX [b,b5,b6] (sto (sto wv fa (Int.toNat fc*1) [.int .i64 fb]) ia (Int.toNat fc*1) [.bool (fb==0)]) hb→R (.tuple #[.agg #[.int .i64 ca,.int .i64 (da - fb),.int .i64 ea,.slice fa ga ha,.slice ia ja ka],.int .i64 0]) hb)))))) ∧
 ((ec==1)=false →
 ((ec==2)=true →
 ((decide (gc<1))=false→Ix fa ga fc) ∧
 (∃x1,
 ((decide (gc<1))=false→zaa [b,b5,b6] wv fa (Int.toNat fc*1) [.int .i64 x1]) ∧
 (((decide (gc<1))||(decide (gc>x1)))=true →
 (∀ib,ExtX [b,b5,b6] wv ib→R (.tuple #[.agg #[.int .i64 ca,.int .i64 da,.int .i64 ea,.slice fa ga ha,.slice ia ja ka],.int .i64 3]) ib)) ∧
 (((decide (gc<1))||(decide (gc>x1)))=false →
 Ix fa ga fc ∧
 (∃x2,
 zaa [b,b5,b6] wv fa (Int.toNat fc*1) [.int .i64 x2] ∧
 InR .i64 (x2 - gc) ∧
 Ix fa ga fc ∧
 WrX [b,b5,b6] wv fa (Int.toNat fc*1) 1 ∧
 InR .i64 (ea+gc) ∧
 (∀jb,ExtX [b,b5,b6] (sto wv fa (Int.toNat fc*1) [.int .i64 (x2 - gc)]) jb→R (.tuple #[.agg #[.int .i64 ca,.int .i64 da,.int .i64 (ea+gc),.slice fa ga ha,.slice ia ja ka],.int .i64 0]) jb))))) ∧
 ((ec==2)=false →
 ((ec==3)=true →
 Ix fa ga fc ∧
 (∃x3,
 zaa [b,b5,b6] wv fa (Int.toNat fc*1) [.int .i64 x3] ∧
 InR .i64 (da+x3) ∧
 Ix fa ga fc ∧
 WrX [b,b5,b6] wv fa (Int.toNat fc*1) 1 ∧
 ((decide (da+x3>0))=true →
 (∀kb,ExtX [b,b5,b6] (sto wv fa (Int.toNat fc*1) [.int .i64 0]) kb→(∀bq∈([b,b5,b6]:List Nat),bq<kb.heap.size) →
 Calls Tryz.prog zja #[.agg #[.int .i64 ca,.int .i64 (da+x3),.int .i64 ea,.slice fa ga ha,.slice ia ja ka]] kb fun e2 lb =>
 (∃mb nb ob pb qb rb sb tb ub,
 e2 = .returned (.agg #[.int .i64 mb,.int .i64 nb,.int .i64 ob,.slice pb qb rb,.slice sb tb ub])∧Kept [b,b5,b6] kb lb ∧
 (∀vb,ExtX [b,b5,b6] lb vb→R (.tuple #[.agg #[.int .i64 mb,.int .i64 nb,.int .i64 ob,.slice pb qb rb,.slice sb tb ub],.int .i64 0]) vb)))) ∧
 ((decide (da+x3>0))=false →
 (∀wb,ExtX [b,b5,b6] (sto wv fa (Int.toNat fc*1) [.int .i64 0]) wb→R (.tuple #[.agg #[.int .i64 ca,.int .i64 (da+x3),.int .i64 ea,.slice fa ga ha,.slice ia ja ka],.int .i64 0]) wb)))) ∧
 ((ec==3)=false →
 (∀xb,ExtX [b,b5,b6] wv xb→R (.tuple #[.agg #[.int .i64 ca,.int .i64 da,.int .i64 ea,.slice fa ga ha,.slice ia ja ka],.int .i64 1]) xb))))))))))))))
theorem z3p (b0 b1 b2 b3O b3L b3C b4O b4L b4C op0 op1 op2):EfV (z2x b0 b1 b2 b3O b3L b3C b4O b4L b4C op0 op1 op2) zek #[.agg #[.int .i64 b0,.int .i64 b1,.int .i64 b2,.slice b3O b3L b3C,.slice b4O b4L b4C],.agg #[.int .i64 op0,.int .i64 op1,.int .i64 op2]]:=eV [] false [] Tryz.func176 (by kernel_rfl) (by kernel_rfl)
def z26 (w0:Int) (lb:Option Addr) (mb nb:Nat) (ob:Option Addr) (pb qb:Nat) (rb:Option Addr) (sb tb:Nat) (w:World) (R:Value→World→Prop):Prop :=
 (∀b,w.heap.size≤b →
 (∀b1,w.heap.size≤b1 →
 (∃(aa:List Value→World→Prop) (mu:List Value→World→Nat),(∀wr,ExtX [] w wr→(∀bq∈([b,b1]:List Nat),bq<wr.heap.size)→aa [.int .i64 0] wr) ∧
 ∀(k:Int) wv,(∀bq∈([b,b1]:List Nat),bq<wv.heap.size)→aa [.int .i64 k] wv →
 ((decide (k<(sb:Int)))=true →
 Ix rb sb k ∧
 (∃ba,
 zaa [b,b1] wv rb (Int.toNat k*14+0) [.bool ba] ∧
 ((!ba)=false→Ix rb sb k) ∧
 (∃ca,
 ((!ba)=false→zaa [b,b1] wv rb (Int.toNat k*14+8+0) [.int .i64 ca]) ∧
 (((!ba)||(ca==0))=true →
 InR .i64 (k+1) ∧
 (∀da,ExtX [b,b1] wv da→(∀bq∈([b,b1]:List Nat),bq<da.heap.size)→aa [.int .i64 (k+1)] da∧mu [.int .i64 (k+1)] da<mu [.int .i64 k] wv)) ∧
 (((!ba)||(ca==0))=false →
 (∃(ea:List Value→World→Prop) (fa:List Value→World→Nat),(∀ga,ExtX [b,b1] wv ga→(∀bq∈([b,b1]:List Nat),bq<ga.heap.size)→ea [.int .i64 0] ga) ∧
 ∀(c:Int) ha,(∀bq∈([b,b1]:List Nat),bq<ha.heap.size)→ea [.int .i64 c] ha →
 ((decide (c<(mb:Int)))=true →
 Ix rb sb k ∧
 (∃ia ja ka,
 zaa [b,b1] ha rb (Int.toNat k*14+8+3) [.slice ia ja ka] ∧
 Ix ia ja c ∧
 (∃x,
 zaa [b,b1] ha ia (Int.toNat c*1) [.int .i64 x] ∧
 (∃la,
 ((decide (x>0))=true→zab [b,b1] Tryz.prog zec #[.agg #[.int .i64 w0,.slice lb mb nb,.slice ob pb qb,.slice rb sb tb],.int .i64 k,.int .i64 c] ha (.bool la)) ∧
 (((decide (x>0))&&(!la))=true →
 Ix rb sb k ∧
 (∃ma na oa pa qa ra sa ta ua,
 zaa [b,b1] ha rb (Int.toNat k*14+8) [.int .i64 ma,.int .i64 na,.int .i64 oa,.slice pa qa ra,.slice sa ta ua] ∧
 (∀va,ExtX [b,b1] ha va→(∀bq∈([b,b1]:List Nat),bq<va.heap.size) →
 Calls Tryz.prog zek #[.agg #[.int .i64 ma,.int .i64 na,.int .i64 oa,.slice pa qa ra,.slice sa ta ua],.agg #[.int .i64 3,.int .i64 c,.int .i64 0]] va fun e wa =>
 (∃xa ya za ab bb cb db eb fb gb,
 e = .returned (.tuple #[.agg #[.int .i64 xa,.int .i64 ya,.int .i64 za,.slice ab bb cb,.slice db eb fb],.int .i64 gb])∧Kept [b,b1] va wa ∧
 (∀b2,wa.heap.size≤b2 →
 Ix rb sb k ∧
 WrX [b,b1] wa rb (Int.toNat k*14+8) 5 ∧
 InR .i64 (c+1) ∧
 (∀hb,ExtX [b,b1] (sto wa rb (Int.toNat k*14+8) [.int .i64 xa,.int .i64 ya,.int .i64 za,.slice ab bb cb,.slice db eb fb]) hb→(∀bq∈([b,b1,b2]:List Nat),bq<hb.heap.size)→ea [.int .i64 (c+1)] hb∧fa [.int .i64 (c+1)] hb<fa [.int .i64 c] ha)))))) ∧
 (((decide (x>0))&&(!la))=false →
 InR .i64 (c+1) ∧
 (∀ib,ExtX [b,b1] ha ib→(∀bq∈([b,b1]:List Nat),bq<ib.heap.size)→ea [.int .i64 (c+1)] ib∧fa [.int .i64 (c+1)] ib<fa [.int .i64 c] ha)))))) ∧
 ((decide (c<(mb:Int)))=false →
 InR .i64 (k+1) ∧
 (∀jb,ExtX [b,b1] ha jb→(∀bq∈([b,b1]:List Nat),bq<jb.heap.size)→aa [.int .i64 (k+1)] jb∧mu [.int .i64 (k+1)] jb<mu [.int .i64 k] wv))))))) ∧
 ((decide (k<(sb:Int)))=false →
 (∀kb,ExtX [b,b1] wv kb→R (.agg #[.int .i64 w0,.slice lb mb nb,.slice ob pb qb,.slice rb sb tb]) kb)))))
theorem z3q (w0 w1O w1L w1C w2O w2L w2C w3O w3L w3C):EfV (z26 w0 w1O w1L w1C w2O w2L w2C w3O w3L w3C) zli #[.agg #[.int .i64 w0,.slice w1O w1L w1C,.slice w2O w2L w2C,.slice w3O w3L w3C]]:=eV [] false [(2,⟨[(3,.int .i64)],[],[1,2],[],[]⟩),(6,⟨[(4,.int .i64)],[],[1,2,3],[],[]⟩)] Tryz.func121 (by kernel_rfl) (by kernel_rfl)
def zzw (w0:Int) (qa:Option Addr) (ra sa:Nat) (ta:Option Addr) (ua va:Nat) (wa:Option Addr) (xa ya:Nat) (g c:Int) (w:World) (R:Value→World→Prop):Prop :=
 (∀b,w.heap.size≤b →
 (∃(aa:List Value→Prop) (mu:List Value→Nat),aa [.int .i64 0,.bool false,.int .i64 0] ∧
 ∀(ba:Int) (ca:Bool) (t:Int),aa [.int .i64 ba,.bool ca,.int .i64 t] →
 ((decide (t<(ua:Int)))=true →
 Ix ta ua t ∧
 (∃x0 x1 x2 x3 x4 x5 x6 x7 x8,
 zaa [] w ta (Int.toNat t*9) [.int .i64 x0,.int .i64 x1,.int .i64 x2,.int .i64 x3,.int .i64 x4,.int .i64 x5,.int .i64 x6,.int .i64 x7,.int .i64 x8] ∧
 (∀b1,w.heap.size≤b1 →
 (((((x0==1)&&(x1==g))&&(x2==c))&&((!ca)||(decide (x5<ba))))=true →
 InR .i64 (t+1) ∧
 aa [.int .i64 x5,.bool true,.int .i64 (t+1)]∧mu [.int .i64 x5,.bool true,.int .i64 (t+1)]<mu [.int .i64 ba,.bool ca,.int .i64 t]) ∧
 (((((x0==1)&&(x1==g))&&(x2==c))&&((!ca)||(decide (x5<ba))))=false →
 InR .i64 (t+1) ∧
 aa [.int .i64 ba,.bool ca,.int .i64 (t+1)]∧mu [.int .i64 ba,.bool ca,.int .i64 (t+1)]<mu [.int .i64 ba,.bool ca,.int .i64 t])))) ∧
 ((decide (t<(ua:Int)))=false →
 (∃(da:List Value→Prop) (ea:List Value→Nat),da [.int .i64 ba,.bool ca,.int .i64 1] ∧
 ∀(fa:Int) (ga:Bool) (h:Int),da [.int .i64 fa,.bool ga,.int .i64 h] →
 ((decide (h<(xa:Int)))=true →
 Ix wa xa h ∧
 (∃ha,
 zaa [] w wa (Int.toNat h*14+0) [.bool ha] ∧
 (ha=true→Ix wa xa h) ∧
 (∃ia,
 (ha=true→zaa [] w wa (Int.toNat h*14+1) [.int .i64 ia]) ∧
 (∃ja,
 ((ha&&(ia==g))=true→zab [] Tryz.prog zde #[.agg #[.int .i64 w0,.slice qa ra sa,.slice ta ua va,.slice wa xa ya],.int .i64 h,.int .i64 c] w (.bool ja)) ∧
 ((!ga)=false→(((ha&&(ia==g))&&ja)=true→Ix wa xa h)) ∧
 (∃ka la ma,
 ((!ga)=false→(((ha&&(ia==g))&&ja)=true→zaa [] w wa (Int.toNat h*14+13) [.slice ka la ma])) ∧
 ((!ga)=false→(((ha&&(ia==g))&&ja)=true→Ix ka la c)) ∧
 (∃v,
 ((!ga)=false→(((ha&&(ia==g))&&ja)=true→zaa [] w ka (Int.toNat c*5+2) [.int .i64 v])) ∧
 ((((ha&&(ia==g))&&ja)&&((!ga)||(decide (v<fa))))=true →
 Ix wa xa h ∧
 (∃na oa pa,
 zaa [] w wa (Int.toNat h*14+13) [.slice na oa pa] ∧
 Ix na oa c ∧
 (∃v1,
 zaa [] w na (Int.toNat c*5+2) [.int .i64 v1] ∧
 InR .i64 (h+1) ∧
 da [.int .i64 v1,.bool true,.int .i64 (h+1)]∧ea [.int .i64 v1,.bool true,.int .i64 (h+1)]<ea [.int .i64 fa,.bool ga,.int .i64 h]))) ∧
 ((((ha&&(ia==g))&&ja)&&((!ga)||(decide (v<fa))))=false →
 InR .i64 (h+1) ∧
 da [.int .i64 fa,.bool ga,.int .i64 (h+1)]∧ea [.int .i64 fa,.bool ga,.int .i64 (h+1)]<ea [.int .i64 fa,.bool ga,.int .i64 h]))))))) ∧
 ((decide (h<(xa:Int)))=false →
 R (.tuple #[.int .i64 fa,.bool ga]) w)))))
theorem z09 (w0 w1O w1L w1C w2O w2L w2C w3O w3L w3C g c):PuV (zzw w0 w1O w1L w1C w2O w2L w2C w3O w3L w3C g c) zg4 #[.agg #[.int .i64 w0,.slice w1O w1L w1C,.slice w2O w2L w2C,.slice w3O w3L w3C],.int .i64 g,.int .i64 c]:=pV [] false [(4,⟨[(8,.int .i64),(9,.bool),(10,.int .i64)],[],[1,2,3],[],[]⟩),(11,⟨[(8,.int .i64),(9,.bool),(12,.int .i64)],[],[1,2,3],[],[]⟩)] Tryz.func200 (by kernel_rfl) (by kernel_rfl)
def zv1 (w0:Int) (pa:Option Addr) (qa ra:Nat) (sa:Option Addr) (ta ua:Nat) (va:Option Addr) (wa xa:Nat) (c:Int) (w:World) (R:Value→World→Prop):Prop :=
 (∀b,w.heap.size≤b →
 (∀b1,w.heap.size≤b1 →
 (∃(aa:List Value→World→Prop) (mu:List Value→World→Nat),(∀wr,ExtX [] w wr→(∀bq∈([b,b1]:List Nat),bq<wr.heap.size)→aa [.int .i64 0] wr) ∧
 ∀(k:Int) wv,(∀bq∈([b,b1]:List Nat),bq<wv.heap.size)→aa [.int .i64 k] wv →
 ((decide (k<(wa:Int)))=true →
 Ix va wa k ∧
 (∃ba,
 zaa [b,b1] wv va (Int.toNat k*14+0) [.bool ba] ∧
 ((!ba)=true →
 InR .i64 (k+1) ∧
 (∀ca,ExtX [b,b1] wv ca→(∀bq∈([b,b1]:List Nat),bq<ca.heap.size)→aa [.int .i64 (k+1)] ca∧mu [.int .i64 (k+1)] ca<mu [.int .i64 k] wv)) ∧
 ((!ba)=false →
 (∃da ea,
 zab [b,b1] Tryz.prog zg4 #[.agg #[.int .i64 w0,.slice pa qa ra,.slice sa ta ua,.slice va wa xa],.int .i64 k,.int .i64 c] wv (.tuple #[.int .i64 da,.bool ea]) ∧
 (ea=true→Ix va wa k) ∧
 (∃fa ga ha,
 (ea=true→zaa [b,b1] wv va (Int.toNat k*14+13) [.slice fa ga ha]) ∧
 (ea=true→Ix fa ga c) ∧
 (∃ia,
 (ea=true→zaa [b,b1] wv fa (Int.toNat c*5+0) [.int .i64 ia]) ∧
 ((ea&&(decide (da>ia)))=true →
 Ix va wa k ∧
 (∃ja ka la,
 zaa [b,b1] wv va (Int.toNat k*14+13) [.slice ja ka la] ∧
 Ix ja ka c ∧
 WrX [b,b1] wv ja (Int.toNat c*5+0) 1 ∧
 InR .i64 (k+1) ∧
 (∀ma,ExtX [b,b1] (sto wv ja (Int.toNat c*5+0) [.int .i64 da]) ma→(∀bq∈([b,b1]:List Nat),bq<ma.heap.size)→aa [.int .i64 (k+1)] ma∧mu [.int .i64 (k+1)] ma<mu [.int .i64 k] wv))) ∧
 ((ea&&(decide (da>ia)))=false →
 InR .i64 (k+1) ∧
 (∀na,ExtX [b,b1] wv na→(∀bq∈([b,b1]:List Nat),bq<na.heap.size)→aa [.int .i64 (k+1)] na∧mu [.int .i64 (k+1)] na<mu [.int .i64 k] wv)))))))) ∧
 ((decide (k<(wa:Int)))=false →
 (∀oa,ExtX [b,b1] wv oa→R (.agg #[.int .i64 w0,.slice pa qa ra,.slice sa ta ua,.slice va wa xa]) oa)))))
theorem zwv (w0 w1O w1L w1C w2O w2L w2C w3O w3L w3C c):EfV (zv1 w0 w1O w1L w1C w2O w2L w2C w3O w3L w3C c) zi1 #[.agg #[.int .i64 w0,.slice w1O w1L w1C,.slice w2O w2L w2C,.slice w3O w3L w3C],.int .i64 c]:=eV [] false [(2,⟨[(5,.int .i64)],[],[1,2,4],[],[]⟩)] Tryz.func122 (by kernel_rfl) (by kernel_rfl)
def zv5 (w0:Int) (pd:Option Addr) (qd rd:Nat) (sd:Option Addr) (td ud:Nat) (vd:Option Addr) (wd xd:Nat) (w:World) (R:Value→World→Prop):Prop :=
 (∀b,w.heap.size≤b →
 (∀b1,w.heap.size≤b1 →
 (∃(aa:List Value→World→Prop) (ba:List Value→World→Nat),(∀ca,ExtX [] w ca→(∀bq∈([b,b1]:List Nat),bq<ca.heap.size)→aa [.int .i64 0,.int .i64 w0,.slice pd qd rd,.slice sd td ud,.slice vd wd xd] ca) ∧
 ∀(c1 l:Int) (da:Option Addr) (ea fa:Nat) (ga:Option Addr) (ha ia:Nat) (ja:Option Addr) (ka la:Nat) ma,(∀bq∈([b,b1]:List Nat),bq<ma.heap.size)→aa [.int .i64 c1,.int .i64 l,.slice da ea fa,.slice ga ha ia,.slice ja ka la] ma →
 ((decide (c1<(ea:Int)))=true →
 (∀na,ExtX [b,b1] ma na→(∀bq∈([b,b1]:List Nat),bq<na.heap.size) →
 Calls Tryz.prog zg5 #[.agg #[.int .i64 l,.slice da ea fa,.slice ga ha ia,.slice ja ka la],.int .i64 c1] na fun e1 oa =>
 (∃pa qa ra sa ta ua va wa xa ya,
 e1 = .returned (.agg #[.int .i64 pa,.slice qa ra sa,.slice ta ua va,.slice wa xa ya])∧Kept [b,b1] na oa ∧
 InR .i64 (c1+1) ∧
 (∀za,ExtX [b,b1] oa za→(∀bq∈([b,b1]:List Nat),bq<za.heap.size)→aa [.int .i64 (c1+1),.int .i64 pa,.slice qa ra sa,.slice ta ua va,.slice wa xa ya] za∧ba [.int .i64 (c1+1),.int .i64 pa,.slice qa ra sa,.slice ta ua va,.slice wa xa ya] za<ba [.int .i64 c1,.int .i64 l,.slice da ea fa,.slice ga ha ia,.slice ja ka la] ma)))) ∧
 ((decide (c1<(ea:Int)))=false →
 (∀ab,ExtX [b,b1] ma ab→(∀bq∈([b,b1]:List Nat),bq<ab.heap.size) →
 Calls Tryz.prog zli #[.agg #[.int .i64 l,.slice da ea fa,.slice ga ha ia,.slice ja ka la]] ab fun e2 bb =>
 (∃cb db eb fb gb hb ib jb kb lb,
 e2 = .returned (.agg #[.int .i64 cb,.slice db eb fb,.slice gb hb ib,.slice jb kb lb])∧Kept [b,b1] ab bb ∧
 (∃(mb:List Value→World→Prop) (nb:List Value→World→Nat),(∀ob,ExtX [b,b1] bb ob→(∀bq∈([b,b1]:List Nat),bq<ob.heap.size)→mb [.int .i64 0,.int .i64 cb,.slice db eb fb,.slice gb hb ib,.slice jb kb lb] ob) ∧
 ∀(c3 l4:Int) (pb:Option Addr) (qb rb:Nat) (sb:Option Addr) (tb ub:Nat) (vb:Option Addr) (wb xb:Nat) yb,(∀bq∈([b,b1]:List Nat),bq<yb.heap.size)→mb [.int .i64 c3,.int .i64 l4,.slice pb qb rb,.slice sb tb ub,.slice vb wb xb] yb →
 ((decide (c3<(qb:Int)))=true →
 (∀zb,ExtX [b,b1] yb zb→(∀bq∈([b,b1]:List Nat),bq<zb.heap.size) →
 Calls Tryz.prog zg5 #[.agg #[.int .i64 l4,.slice pb qb rb,.slice sb tb ub,.slice vb wb xb],.int .i64 c3] zb fun e4 ac =>
 (∃bc cc dc ec fc gc hc ic jc kc,
 e4 = .returned (.agg #[.int .i64 bc,.slice cc dc ec,.slice fc gc hc,.slice ic jc kc])∧Kept [b,b1] zb ac ∧
 (∀lc,ExtX [b,b1] ac lc→(∀bq∈([b,b1]:List Nat),bq<lc.heap.size) →
 Calls Tryz.prog zi1 #[.agg #[.int .i64 bc,.slice cc dc ec,.slice fc gc hc,.slice ic jc kc],.int .i64 c3] lc fun e5 mc =>
 (∃nc oc pc qc rc sc tc uc vc wc,
 e5 = .returned (.agg #[.int .i64 nc,.slice oc pc qc,.slice rc sc tc,.slice uc vc wc])∧Kept [b,b1] lc mc ∧
 Ix oc pc c3 ∧
 (∃xc,
 zaa [b,b1] mc oc (Int.toNat c3*5+1) [.int .i64 xc] ∧
 ((decide (xc≥0))=true→Ix rc sc xc) ∧
 (∃yc,
 ((decide (xc≥0))=true→zaa [b,b1] mc rc (Int.toNat xc*9+2) [.int .i64 yc]) ∧
 (∃zc,
 ((yc != c3)=false→((decide (xc≥0))=true→zab [b,b1] Tryz.prog zed #[.agg #[.int .i64 nc,.slice oc pc qc,.slice rc sc tc,.slice uc vc wc],.int .i64 xc] mc (.bool zc))) ∧
 (((decide (xc≥0))&&((yc != c3)||(!zc)))=true →
 (∀ad,ExtX [b,b1] mc ad→(∀bq∈([b,b1]:List Nat),bq<ad.heap.size) →
 Calls Tryz.prog zg3 #[.agg #[.int .i64 nc,.slice oc pc qc,.slice rc sc tc,.slice uc vc wc],.int .i64 c3] ad fun e6 bd =>
 (∃cd dd ed fd gd hd id jd kd ld,
 e6 = .returned (.agg #[.int .i64 cd,.slice dd ed fd,.slice gd hd id,.slice jd kd ld])∧Kept [b,b1] ad bd ∧
 InR .i64 (c3+1) ∧
 (∀md,ExtX [b,b1] bd md→(∀bq∈([b,b1]:List Nat),bq<md.heap.size)→mb [.int .i64 (c3+1),.int .i64 cd,.slice dd ed fd,.slice gd hd id,.slice jd kd ld] md∧nb [.int .i64 (c3+1),.int .i64 cd,.slice dd ed fd,.slice gd hd id,.slice jd kd ld] md<nb [.int .i64 c3,.int .i64 l4,.slice pb qb rb,.slice sb tb ub,.slice vb wb xb] yb)))) ∧
 (((decide (xc≥0))&&((yc != c3)||(!zc)))=false →
 InR .i64 (c3+1) ∧
 (∀nd,ExtX [b,b1] mc nd→(∀bq∈([b,b1]:List Nat),bq<nd.heap.size)→mb [.int .i64 (c3+1),.int .i64 nc,.slice oc pc qc,.slice rc sc tc,.slice uc vc wc] nd∧nb [.int .i64 (c3+1),.int .i64 nc,.slice oc pc qc,.slice rc sc tc,.slice uc vc wc] nd<nb [.int .i64 c3,.int .i64 l4,.slice pb qb rb,.slice sb tb ub,.slice vb wb xb] yb)))))))))) ∧
 ((decide (c3<(qb:Int)))=false →
 (∀od,ExtX [b,b1] yb od→R (.agg #[.int .i64 l4,.slice pb qb rb,.slice sb tb ub,.slice vb wb xb]) od)))))))))
theorem zww (w0 w1O w1L w1C w2O w2L w2C w3O w3L w3C):EfV (zv5 w0 w1O w1L w1C w2O w2L w2C w3O w3L w3C) zee #[.agg #[.int .i64 w0,.slice w1O w1L w1C,.slice w2O w2L w2C,.slice w3O w3L w3C]]:=eV [] false [(2,⟨[(3,.int .i64)],[(0,[.int .i64,.slice,.slice,.slice])],[1,2],[],[]⟩),(7,⟨[(4,.int .i64)],[(0,[.int .i64,.slice,.slice,.slice])],[1,2],[],[]⟩)] Tryz.func41 (by kernel_rfl) (by kernel_rfl)
def z5u (a0:Bool) (a1 a2 a3 a4:Int) (w:World) (R:Value→World→Prop):Prop :=
 (∀b,w.heap.size≤b →
 (∀b1,w.heap.size≤b1 →
 (∀b2,w.heap.size≤b2 →
 R (.agg #[.bool a0,.int .i64 a1,.int .i64 a2,.int .i64 a3,.int .i64 a4]) w)))
theorem z7a (a0 a1 a2 a3 a4):PuV (z5u a0 a1 a2 a3 a4) zmk #[.agg #[.bool a0,.int .i64 a1,.int .i64 a2,.int .i64 a3,.int .i64 a4]]:=pV [] false [] Tryz.func124 (by kernel_rfl) (by kernel_rfl)
def z2u (aO:Option Addr) (aL aC:Nat) (w:World) (R:Value→World→Prop):Prop :=
 (∀wr,ExtX [] w wr→(∀bq∈([]:List Nat),bq<wr.heap.size) →
 (∃aa ba ca,
 ∃wv,((Instr.makeSlice zb0 (.int .i64 (aL:Int)) (.int .i64 (aL:Int))):Sem Value).run Tryz.prog wr = .ok (.slice aa ba ca) wv∧Kept [] wr wv ∧
 (∃(da:List Value→World→Prop) (mu:List Value→World→Nat),(∀ea,ExtX [] wv ea→(∀bq∈([]:List Nat),bq<ea.heap.size)→da [.int .i64 0] ea) ∧
 ∀(i:Int) fa,(∀bq∈([]:List Nat),bq<fa.heap.size)→da [.int .i64 i] fa →
 ((decide (i<(aL:Int)))=true →
 Ix aO aL i ∧
 (∃x0 x1 x2 x3 x4,
 zaa [] fa aO (Int.toNat i*5) [.bool x0,.int .i64 x1,.int .i64 x2,.int .i64 x3,.int .i64 x4] ∧
 (∃ga ha ia ja ka,
 zab [] Tryz.prog zmk #[.agg #[.bool x0,.int .i64 x1,.int .i64 x2,.int .i64 x3,.int .i64 x4]] fa (.agg #[.bool ga,.int .i64 ha,.int .i64 ia,.int .i64 ja,.int .i64 ka]) ∧
 Ix aa ba i ∧
 WrX [] fa aa (Int.toNat i*5) 5 ∧
 InR .i64 (i+1) ∧
 (∀la,ExtX [] (sto fa aa (Int.toNat i*5) [.bool ga,.int .i64 ha,.int .i64 ia,.int .i64 ja,.int .i64 ka]) la→(∀bq∈([]:List Nat),bq<la.heap.size)→da [.int .i64 (i+1)] la∧mu [.int .i64 (i+1)] la<mu [.int .i64 i] fa)))) ∧
 ((decide (i<(aL:Int)))=false →
 (∀ma,ExtX [] fa ma→R (.slice aa ba ca) ma)))))
theorem z3n (aO aL aC):EfV (z2u aO aL aC) zlb #[.slice aO aL aC]:=eV [] false [(3,⟨[(4,.int .i64)],[],[0,3],[],[]⟩)] Tryz.func42 (by kernel_rfl) (by kernel_rfl)
def z2w (a0 a1 a2 a3 a4 a5 a6 a7 a8:Int) (w:World) (R:Value→World→Prop):Prop :=
 (∀b,w.heap.size≤b →
 (∀b1,w.heap.size≤b1 →
 (∀b2,w.heap.size≤b2 →
 R (.agg #[.int .i64 a0,.int .i64 a1,.int .i64 a2,.int .i64 a3,.int .i64 a4,.int .i64 a5,.int .i64 a6,.int .i64 a7,.int .i64 a8]) w)))
theorem z41 (a0 a1 a2 a3 a4 a5 a6 a7 a8):PuV (z2w a0 a1 a2 a3 a4 a5 a6 a7 a8) zld #[.agg #[.int .i64 a0,.int .i64 a1,.int .i64 a2,.int .i64 a3,.int .i64 a4,.int .i64 a5,.int .i64 a6,.int .i64 a7,.int .i64 a8]]:=pV [] false [] Tryz.func125 (by kernel_rfl) (by kernel_rfl)
def zzo (aO:Option Addr) (aL aC:Nat) (w:World) (R:Value→World→Prop):Prop :=
 (∀wr,ExtX [] w wr→(∀bq∈([]:List Nat),bq<wr.heap.size) →
 (∃aa ba ca,
 ∃wv,((Instr.makeSlice zbt (.int .i64 (aL:Int)) (.int .i64 (aL:Int))):Sem Value).run Tryz.prog wr = .ok (.slice aa ba ca) wv∧Kept [] wr wv ∧
 (∃(da:List Value→World→Prop) (mu:List Value→World→Nat),(∀ea,ExtX [] wv ea→(∀bq∈([]:List Nat),bq<ea.heap.size)→da [.int .i64 0] ea) ∧
 ∀(i:Int) fa,(∀bq∈([]:List Nat),bq<fa.heap.size)→da [.int .i64 i] fa →
 ((decide (i<(aL:Int)))=true →
 Ix aO aL i ∧
 (∃x0 x1 x2 x3 x4 x5 x6 x7 x8,
 zaa [] fa aO (Int.toNat i*9) [.int .i64 x0,.int .i64 x1,.int .i64 x2,.int .i64 x3,.int .i64 x4,.int .i64 x5,.int .i64 x6,.int .i64 x7,.int .i64 x8] ∧
 (∃ga ha ia ja ka la ma na oa,
 zab [] Tryz.prog zld #[.agg #[.int .i64 x0,.int .i64 x1,.int .i64 x2,.int .i64 x3,.int .i64 x4,.int .i64 x5,.int .i64 x6,.int .i64 x7,.int .i64 x8]] fa (.agg #[.int .i64 ga,.int .i64 ha,.int .i64 ia,.int .i64 ja,.int .i64 ka,.int .i64 la,.int .i64 ma,.int .i64 na,.int .i64 oa]) ∧
 Ix aa ba i ∧
 WrX [] fa aa (Int.toNat i*9) 9 ∧
 InR .i64 (i+1) ∧
 (∀pa,ExtX [] (sto fa aa (Int.toNat i*9) [.int .i64 ga,.int .i64 ha,.int .i64 ia,.int .i64 ja,.int .i64 ka,.int .i64 la,.int .i64 ma,.int .i64 na,.int .i64 oa]) pa→(∀bq∈([]:List Nat),bq<pa.heap.size)→da [.int .i64 (i+1)] pa∧mu [.int .i64 (i+1)] pa<mu [.int .i64 i] fa)))) ∧
 ((decide (i<(aL:Int)))=false →
 (∀qa,ExtX [] fa qa→R (.slice aa ba ca) qa)))))
theorem zz5 (aO aL aC):EfV (zzo aO aL aC) zj0 #[.slice aO aL aC]:=eV [] false [(3,⟨[(4,.int .i64)],[],[0,3],[],[]⟩)] Tryz.func43 (by kernel_rfl) (by kernel_rfl)
def z2v (aO:Option Addr) (aL aC:Nat) (w:World) (R:Value→World→Prop):Prop :=
 (∀wr,ExtX [] w wr→(∀bq∈([]:List Nat),bq<wr.heap.size) →
 (∃aa ba ca,
 ∃wv,((Instr.makeSlice zb5 (.int .i64 (aL:Int)) (.int .i64 (aL:Int))):Sem Value).run Tryz.prog wr = .ok (.slice aa ba ca) wv∧Kept [] wr wv ∧
 (∃(da:List Value→World→Prop) (mu:List Value→World→Nat),(∀ea,ExtX [] wv ea→(∀bq∈([]:List Nat),bq<ea.heap.size)→da [.int .i64 0] ea) ∧
 ∀(i:Int) fa,(∀bq∈([]:List Nat),bq<fa.heap.size)→da [.int .i64 i] fa →
 ((decide (i<(aL:Int)))=true →
 Ix aO aL i ∧
 (∃x,
 zaa [] fa aO (Int.toNat i*1) [.int .i64 x] ∧
 Ix aa ba i ∧
 WrX [] fa aa (Int.toNat i*1) 1 ∧
 InR .i64 (i+1) ∧
 (∀ga,ExtX [] (sto fa aa (Int.toNat i*1) [.int .i64 x]) ga→(∀bq∈([]:List Nat),bq<ga.heap.size)→da [.int .i64 (i+1)] ga∧mu [.int .i64 (i+1)] ga<mu [.int .i64 i] fa))) ∧
 ((decide (i<(aL:Int)))=false →
 (∀ha,ExtX [] fa ha→R (.slice aa ba ca) ha)))))
theorem z3o (aO aL aC):EfV (z2v aO aL aC) zlc #[.slice aO aL aC]:=eV [] false [(3,⟨[(4,.int .i64)],[],[0,3],[],[]⟩)] Tryz.func245 (by kernel_rfl) (by kernel_rfl)
def zzl (aO:Option Addr) (aL aC:Nat) (w:World) (R:Value→World→Prop):Prop :=
 (∀wr,ExtX [] w wr→(∀bq∈([]:List Nat),bq<wr.heap.size) →
 (∃aa ba ca,
 ∃wv,((Instr.makeSlice zcu (.int .i64 (aL:Int)) (.int .i64 (aL:Int))):Sem Value).run Tryz.prog wr = .ok (.slice aa ba ca) wv∧Kept [] wr wv ∧
 (∃(da:List Value→World→Prop) (mu:List Value→World→Nat),(∀ea,ExtX [] wv ea→(∀bq∈([]:List Nat),bq<ea.heap.size)→da [.int .i64 0] ea) ∧
 ∀(i:Int) fa,(∀bq∈([]:List Nat),bq<fa.heap.size)→da [.int .i64 i] fa →
 ((decide (i<(aL:Int)))=true →
 Ix aO aL i ∧
 (∃x,
 zaa [] fa aO (Int.toNat i*1) [.bool x] ∧
 Ix aa ba i ∧
 WrX [] fa aa (Int.toNat i*1) 1 ∧
 InR .i64 (i+1) ∧
 (∀ga,ExtX [] (sto fa aa (Int.toNat i*1) [.bool x]) ga→(∀bq∈([]:List Nat),bq<ga.heap.size)→da [.int .i64 (i+1)] ga∧mu [.int .i64 (i+1)] ga<mu [.int .i64 i] fa))) ∧
 ((decide (i<(aL:Int)))=false →
 (∀ha,ExtX [] fa ha→R (.slice aa ba ca) ha)))))
theorem zz3 (aO aL aC):EfV (zzl aO aL aC) zjx #[.slice aO aL aC]:=eV [] false [(3,⟨[(4,.int .i64)],[],[0,3],[],[]⟩)] Tryz.func246 (by kernel_rfl) (by kernel_rfl)
def z2t (a0 a1 a2:Int) (ja:Option Addr) (ka la:Nat) (ma:Option Addr) (na oa:Nat) (w:World) (R:Value→World→Prop):Prop :=
 (∀b,w.heap.size≤b →
 (∀b1,w.heap.size≤b1 →
 (∀b2,w.heap.size≤b2 →
 (∀wr,ExtX [] w wr→(∀bq∈([b,b1,b2]:List Nat),bq<wr.heap.size) →
 Calls Tryz.prog zlc #[.slice ja ka la] wr fun e wv =>
 (∃aa ba ca,
 e = .returned (.slice aa ba ca)∧Kept [b,b1,b2] wr wv ∧
 (∀da,ExtX [b,b1,b2] wv da→(∀bq∈([b,b1,b2]:List Nat),bq<da.heap.size) →
 Calls Tryz.prog zjx #[.slice ma na oa] da fun e1 ea =>
 (∃fa ga ha,
 e1 = .returned (.slice fa ga ha)∧Kept [b,b1,b2] da ea ∧
 (∀ia,ExtX [b,b1,b2] ea ia→R (.agg #[.int .i64 a0,.int .i64 a1,.int .i64 a2,.slice aa ba ca,.slice fa ga ha]) ia))))))))
theorem z3m (a0 a1 a2 a3O a3L a3C a4O a4L a4C):EfV (z2t a0 a1 a2 a3O a3L a3C a4O a4L a4C) zla #[.agg #[.int .i64 a0,.int .i64 a1,.int .i64 a2,.slice a3O a3L a3C,.slice a4O a4L a4C]]:=eV [] false [] Tryz.func202 (by kernel_rfl) (by kernel_rfl)
def zzn (a0:Int) (a1:Bool) (a2 a3 a4:Int) (w:World) (R:Value→World→Prop):Prop :=
 (∀b,w.heap.size≤b →
 (∀b1,w.heap.size≤b1 →
 (∀b2,w.heap.size≤b2 →
 R (.agg #[.int .i64 a0,.bool a1,.int .i64 a2,.int .i64 a3,.int .i64 a4]) w)))
theorem z02 (a0 a1 a2 a3 a4):PuV (zzn a0 a1 a2 a3 a4) zjz #[.agg #[.int .i64 a0,.bool a1,.int .i64 a2,.int .i64 a3,.int .i64 a4]]:=pV [] false [] Tryz.func247 (by kernel_rfl) (by kernel_rfl)
def zvv (aO:Option Addr) (aL aC:Nat) (w:World) (R:Value→World→Prop):Prop :=
 (∀wr,ExtX [] w wr→(∀bq∈([]:List Nat),bq<wr.heap.size) →
 (∃aa ba ca,
 ∃wv,((Instr.makeSlice zbk (.int .i64 (aL:Int)) (.int .i64 (aL:Int))):Sem Value).run Tryz.prog wr = .ok (.slice aa ba ca) wv∧Kept [] wr wv ∧
 (∃(da:List Value→World→Prop) (mu:List Value→World→Nat),(∀ea,ExtX [] wv ea→(∀bq∈([]:List Nat),bq<ea.heap.size)→da [.int .i64 0] ea) ∧
 ∀(i:Int) fa,(∀bq∈([]:List Nat),bq<fa.heap.size)→da [.int .i64 i] fa →
 ((decide (i<(aL:Int)))=true →
 Ix aO aL i ∧
 (∃x0 x1 x2 x3 x4,
 zaa [] fa aO (Int.toNat i*5) [.int .i64 x0,.bool x1,.int .i64 x2,.int .i64 x3,.int .i64 x4] ∧
 (∃ga ha ia ja ka,
 zab [] Tryz.prog zjz #[.agg #[.int .i64 x0,.bool x1,.int .i64 x2,.int .i64 x3,.int .i64 x4]] fa (.agg #[.int .i64 ga,.bool ha,.int .i64 ia,.int .i64 ja,.int .i64 ka]) ∧
 Ix aa ba i ∧
 WrX [] fa aa (Int.toNat i*5) 5 ∧
 InR .i64 (i+1) ∧
 (∀la,ExtX [] (sto fa aa (Int.toNat i*5) [.int .i64 ga,.bool ha,.int .i64 ia,.int .i64 ja,.int .i64 ka]) la→(∀bq∈([]:List Nat),bq<la.heap.size)→da [.int .i64 (i+1)] la∧mu [.int .i64 (i+1)] la<mu [.int .i64 i] fa)))) ∧
 ((decide (i<(aL:Int)))=false →
 (∀ma,ExtX [] fa ma→R (.slice aa ba ca) ma)))))
theorem zwt (aO aL aC):EfV (zvv aO aL aC) ziz #[.slice aO aL aC]:=eV [] false [(3,⟨[(4,.int .i64)],[],[0,3],[],[]⟩)] Tryz.func203 (by kernel_rfl) (by kernel_rfl)
end Go.Proofs.YthhmnlcimojhlaaGreatDoor
namespace Go.Proofs.YthhmnlcimojhlaaGreatDoor
open Go.RowKit
set_option linter.unusedVariables false
set_option maxRecDepth 100000
set_option maxHeartbeats 1600000
def zzm (a0:Bool) (a1:Int) (a2:ByteArray) (a3 a4 a5 a6 a7 a8 a9 pa:Int) (qa:Option Addr) (ra sa:Nat) (ta:Option Addr) (ua va:Nat) (wa:Option Addr) (xa ya:Nat) (w:World) (R:Value→World→Prop):Prop :=
 (∀b,w.heap.size≤b →
 (∀b1,w.heap.size≤b1 →
 (∀b2,w.heap.size≤b2 →
 (∀wr,ExtX [] w wr→(∀bq∈([b,b1,b2]:List Nat),bq<wr.heap.size) →
 Calls Tryz.prog zla #[.agg #[.int .i64 a8,.int .i64 a9,.int .i64 pa,.slice qa ra sa,.slice ta ua va]] wr fun e wv =>
 (∃aa ba ca da ea fa ga ha ia,
 e = .returned (.agg #[.int .i64 aa,.int .i64 ba,.int .i64 ca,.slice da ea fa,.slice ga ha ia])∧Kept [b,b1,b2] wr wv ∧
 (∀ja,ExtX [b,b1,b2] wv ja→(∀bq∈([b,b1,b2]:List Nat),bq<ja.heap.size) →
 Calls Tryz.prog ziz #[.slice wa xa ya] ja fun e1 ka =>
 (∃la ma na,
 e1 = .returned (.slice la ma na)∧Kept [b,b1,b2] ja ka ∧
 (∀oa,ExtX [b,b1,b2] ka oa→R (.agg #[.bool a0,.int .i64 a1,.string a2,.int .i64 a3,.int .i64 a4,.int .i64 a5,.int .i64 a6,.int .i64 a7,.int .i64 aa,.int .i64 ba,.int .i64 ca,.slice da ea fa,.slice ga ha ia,.slice la ma na]) oa))))))))
theorem zz4 (a0 a1 a2 a3 a4 a5 a6 a7 a8 a9 a10 a11O a11L a11C a12O a12L a12C a13O a13L a13C):EfV (zzm a0 a1 a2 a3 a4 a5 a6 a7 a8 a9 a10 a11O a11L a11C a12O a12L a12C a13O a13L a13C) zjy #[.agg #[.bool a0,.int .i64 a1,.string a2,.int .i64 a3,.int .i64 a4,.int .i64 a5,.int .i64 a6,.int .i64 a7,.int .i64 a8,.int .i64 a9,.int .i64 a10,.slice a11O a11L a11C,.slice a12O a12L a12C,.slice a13O a13L a13C]]:=eV [] false [] Tryz.func126 (by kernel_rfl) (by kernel_rfl)
def zvu (aO:Option Addr) (aL aC:Nat) (w:World) (R:Value→World→Prop):Prop :=
 (∀wr,ExtX [] w wr→(∀bq∈([]:List Nat),bq<wr.heap.size) →
 (∃aa ba ca,
 ∃wv,((Instr.makeSlice zar (.int .i64 (aL:Int)) (.int .i64 (aL:Int))):Sem Value).run Tryz.prog wr = .ok (.slice aa ba ca) wv∧Kept [] wr wv ∧
 (∃(da:List Value→World→Prop) (mu:List Value→World→Nat),(∀ea,ExtX [] wv ea→(∀bq∈([]:List Nat),bq<ea.heap.size)→da [.int .i64 0] ea) ∧
 ∀(i:Int) fa,(∀bq∈([]:List Nat),bq<fa.heap.size)→da [.int .i64 i] fa →
 ((decide (i<(aL:Int)))=true →
 Ix aO aL i ∧
 (∃(x0:Bool) (x1:Int) (x2:ByteArray) (x3 x4 x5 x6 x7 x8 x9 ga:Int) (ha:Option Addr) (ia ja:Nat) (ka:Option Addr) (la ma:Nat) (na:Option Addr) (oa pa:Nat),
 zaa [] fa aO (Int.toNat i*14) [.bool x0,.int .i64 x1,.string x2,.int .i64 x3,.int .i64 x4,.int .i64 x5,.int .i64 x6,.int .i64 x7,.int .i64 x8,.int .i64 x9,.int .i64 ga,.slice ha ia ja,.slice ka la ma,.slice na oa pa] ∧
 (∀qa,ExtX [] fa qa→(∀bq∈([]:List Nat),bq<qa.heap.size) →
 Calls Tryz.prog zjy #[.agg #[.bool x0,.int .i64 x1,.string x2,.int .i64 x3,.int .i64 x4,.int .i64 x5,.int .i64 x6,.int .i64 x7,.int .i64 x8,.int .i64 x9,.int .i64 ga,.slice ha ia ja,.slice ka la ma,.slice na oa pa]] qa fun e ra =>
 (∃(sa:Bool) (ta:Int) (ua:ByteArray) (va wa xa ya za ab bb cb:Int) (db:Option Addr) (eb fb:Nat) (gb:Option Addr) (hb ib:Nat) (jb:Option Addr) (kb lb:Nat),
 e = .returned (.agg #[.bool sa,.int .i64 ta,.string ua,.int .i64 va,.int .i64 wa,.int .i64 xa,.int .i64 ya,.int .i64 za,.int .i64 ab,.int .i64 bb,.int .i64 cb,.slice db eb fb,.slice gb hb ib,.slice jb kb lb])∧Kept [] qa ra ∧
 Ix aa ba i ∧
 WrX [] ra aa (Int.toNat i*14) 14 ∧
 InR .i64 (i+1) ∧
 (∀mb,ExtX [] (sto ra aa (Int.toNat i*14) [.bool sa,.int .i64 ta,.string ua,.int .i64 va,.int .i64 wa,.int .i64 xa,.int .i64 ya,.int .i64 za,.int .i64 ab,.int .i64 bb,.int .i64 cb,.slice db eb fb,.slice gb hb ib,.slice jb kb lb]) mb→(∀bq∈([]:List Nat),bq<mb.heap.size)→da [.int .i64 (i+1)] mb∧mu [.int .i64 (i+1)] mb<mu [.int .i64 i] fa))))) ∧
 ((decide (i<(aL:Int)))=false →
 (∀nb,ExtX [] fa nb→R (.slice aa ba ca) nb)))))
theorem zws (aO aL aC):EfV (zvu aO aL aC) ziy #[.slice aO aL aC]:=eV [] false [(3,⟨[(4,.int .i64)],[],[0,3],[],[]⟩)] Tryz.func44 (by kernel_rfl) (by kernel_rfl)
def zzp (a0:Int) (oa:Option Addr) (pa qa:Nat) (ra:Option Addr) (sa ta:Nat) (ua:Option Addr) (va wa:Nat) (w:World) (R:Value→World→Prop):Prop :=
 (∀b,w.heap.size≤b →
 (∀b1,w.heap.size≤b1 →
 (∀b2,w.heap.size≤b2 →
 (∀wr,ExtX [] w wr→(∀bq∈([b,b1,b2]:List Nat),bq<wr.heap.size) →
 Calls Tryz.prog zlb #[.slice oa pa qa] wr fun e wv =>
 (∃aa ba ca,
 e = .returned (.slice aa ba ca)∧Kept [b,b1,b2] wr wv ∧
 (∀da,ExtX [b,b1,b2] wv da→(∀bq∈([b,b1,b2]:List Nat),bq<da.heap.size) →
 Calls Tryz.prog zj0 #[.slice ra sa ta] da fun e1 ea =>
 (∃fa ga ha,
 e1 = .returned (.slice fa ga ha)∧Kept [b,b1,b2] da ea ∧
 (∀ia,ExtX [b,b1,b2] ea ia→(∀bq∈([b,b1,b2]:List Nat),bq<ia.heap.size) →
 Calls Tryz.prog ziy #[.slice ua va wa] ia fun e2 ja =>
 (∃ka la ma,
 e2 = .returned (.slice ka la ma)∧Kept [b,b1,b2] ia ja ∧
 (∀na,ExtX [b,b1,b2] ja na→R (.agg #[.int .i64 a0,.slice aa ba ca,.slice fa ga ha,.slice ka la ma]) na))))))))))
theorem zz6 (a0 a1O a1L a1C a2O a2L a2C a3O a3L a3C):EfV (zzp a0 a1O a1L a1C a2O a2L a2C a3O a3L a3C) zc0 #[.agg #[.int .i64 a0,.slice a1O a1L a1C,.slice a2O a2L a2C,.slice a3O a3L a3C]]:=eV [] false [] Tryz.func14 (by kernel_rfl) (by kernel_rfl)
def zpu (wv:Option Addr) (w:World) (R:Value→World→Prop):Prop :=
 wv.isSome=true ∧
 (∃aa ba ca,
 zaa [] w wv (0+1) [.slice aa ba ca] ∧
 (∃(da:List Value→Prop) (mu:List Value→Nat),da [.int .i64 0,.int .i64 0] ∧
 ∀(ea x:Int),da [.int .i64 ea,.int .i64 x] →
 ((decide (x<(ba:Int)))=true →
 Ix aa ba x ∧
 (∃x0 x1 x2 x3 x4,
 zaa [] w aa (Int.toNat x*5) [.bool x0,.int .i64 x1,.int .i64 x2,.int .i64 x3,.int .i64 x4] ∧
 (∀b,w.heap.size≤b →
 (x0=true →
 (0≤x∧InR .i64 (1*2 ^ (min (Int.toNat x) 64))) ∧
 InR .i64 (x+1) ∧
 da [.int .i64 (BitI .or .i64 ea (1*2 ^ (min (Int.toNat x) 64))),.int .i64 (x+1)]∧mu [.int .i64 (BitI .or .i64 ea (1*2 ^ (min (Int.toNat x) 64))),.int .i64 (x+1)]<mu [.int .i64 ea,.int .i64 x]) ∧
 (x0=false →
 InR .i64 (x+1) ∧
 da [.int .i64 ea,.int .i64 (x+1)]∧mu [.int .i64 ea,.int .i64 (x+1)]<mu [.int .i64 ea,.int .i64 x])))) ∧
 ((decide (x<(ba:Int)))=false →
 R (.int .i64 ea) w)))
theorem zp8 (wv):PuV (zpu wv) zcm #[.pointer wv]:=pV [] false [(3,⟨[(3,.int .i64),(11,.int .i64)],[],[9,10],[],[]⟩)] Tryz.func94 (by kernel_rfl) (by kernel_rfl)
def zpc (n aa ba:Int) (w:World) (R:Value→World→Prop):Prop :=
 R (.bool ((decide (n≥aa))&&(decide (n≤ba)))) w
theorem z0s (n least most):PuV (zpc n least most) zaf #[.int .i64 n,.int .i64 least,.int .i64 most]:=pV [] false [] Tryz.func128 (by kernel_rfl) (by kernel_rfl)
def z2l (ca:Option Addr) (da ea:Nat) (w:World) (R:Value→World→Prop):Prop :=
 (∃(aa:List Value→Prop) (mu:List Value→Nat),aa [.int .i64 0] ∧
 ∀(x:Int),aa [.int .i64 x] →
 ((decide (x<(da:Int)))=true →
 Ix ca da x ∧
 (∃x1,
 zaa [] w ca (Int.toNat x*1) [.int .i64 x1] ∧
 (∃ba,
 zab [] Tryz.prog zaf #[.int .i64 x1,.int .i64 0,.int .i64 100000000000000000] w (.bool ba) ∧
 ((!ba)=true →
 R (.bool false) w) ∧
 ((!ba)=false →
 InR .i64 (x+1) ∧
 aa [.int .i64 (x+1)]∧mu [.int .i64 (x+1)]<mu [.int .i64 x])))) ∧
 ((decide (x<(da:Int)))=false →
 R (.bool true) w))
theorem z4t (timesO timesL timesC):PuV (z2l timesO timesL timesC) zbq #[.slice timesO timesL timesC]:=pV [] false [(2,⟨[(7,.int .i64)],[],[5,6],[],[]⟩)] Tryz.func253 (by kernel_rfl) (by kernel_rfl)
def ztp (lO:Option Addr) (lL lC:Nat) (g:Int) (w:World) (R:Value→World→Prop):Prop :=
 InR .i64 ((lL:Int) - 1) ∧
 (∃aa,
 zab [] Tryz.prog zaf #[.int .i64 g,.int .i64 0,.int .i64 ((lL:Int) - 1)] w (.bool aa) ∧
 (aa=true→Ix lO lL g) ∧
 (∃ba,
 (aa=true→zaa [] w lO (Int.toNat g*14+0) [.bool ba]) ∧
 R (.bool (aa&&ba)) w))
theorem zuh (lO lL lC g):PuV (ztp lO lL lC g) zfe #[.slice lO lL lC,.int .i64 g]:=pV [] false [] Tryz.func83 (by kernel_rfl) (by kernel_rfl)
end Go.Proofs.YthhmnlcimojhlaaGreatDoor
