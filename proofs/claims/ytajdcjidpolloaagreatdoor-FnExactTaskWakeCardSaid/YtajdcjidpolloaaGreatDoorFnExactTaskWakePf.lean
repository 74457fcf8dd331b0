/- Part 6 of what the law FnExactTaskWake needs: the engine, the functions' propositions, the contracts. -/
import Derived.Test.YtajdcjidpolloaaGreatDoorFnExactTaskWakePe
import Derived.ChangeArms
namespace Go.Proofs.YtajdcjidpolloaaGreatDoor
open Go.RowKit Go.ChangeShapes
set_option linter.unusedVariables false
set_option linter.unusedSimpArgs false
section
variable {H:Type} {en:TypeId×Value→H} {P:Program} {w:World} {base:Nat} {spare:Nat→Bool} {held:Bool} {fuel:Nat} {t:TypeId} {cs:List Value} {x:DataW H×List MemPlace}
def structFs (P:Program) (t:TypeId):Array Field:=match P.underlying t with
 | some (.struct fs)=>fs
 | _ => #[]
theorem tr_struct {l:List (TypeId×Nat)} (hu:P.underlying t=some (.struct (structFs P t))) (hl:(structFs P t).toList.map (fun f=>(f.type,f.offset))=l)
  (h:DataW.trod en P w base spare held fuel t cs=some x):cs.length=P.cellsOf t∧∀p∈l,∃n y,DataW.trod en P w base spare held n p.1 ((cs.drop p.2).take (P.cellsOf p.1))=some y:=by
 obtain ⟨xs,n,_,_,hlen,hxs,hf⟩:=DataW.trod_struct hu h
 refine ⟨hlen,fun p hp => ?_⟩
 rw [←hl] at hp
 obtain ⟨f,hfm,rfl⟩:=List.mem_map.1 hp
 obtain ⟨i,hi⟩:=List.getElem?_of_mem hfm
 have hi':(structFs P t)[i]? = some f:=by simpa using hi
 have hlt:i<xs.length:=by
  have:=(Array.getElem?_eq_some_iff.1 hi').1
  omega
 refine ⟨n,xs[i],?_⟩
 have:=hf i f hi'
 rw [List.getElem?_eq_getElem hlt] at this
 exact this
theorem tr_slice {e:TypeId} (hu:P.underlying t=some (.slice e)) (h:DataW.trod en P w base spare held fuel t cs=some x) :
  ∃(o:Option Addr) (len cap:Nat),cs=[.slice o len cap]∧len≤cap∧cap≤maxLen∧∀i,i<len→∃a n y ec,o=some a∧w.cells? base (a.add (i*P.cellsOf e)) (P.cellsOf e)=some ec∧DataW.trod en P w base spare held n e ec=some y:=by
 rcases DataW.trod_slice hu h with ⟨rfl,_⟩ | ⟨a,len,cap,elems,rest,n,_,rfl,_,_,hl,hm,hlen,hel,_,_⟩
 ·exact ⟨none,0,0,rfl,Nat.le_refl _,Nat.zero_le _,fun i hi=>absurd hi (Nat.not_lt_zero i)⟩
 ·refine ⟨some a,len,cap,rfl,hl,hm,fun i hi => ?_⟩
  have h1:=hel i hi
  rw [List.getElem?_eq_getElem (by omega),Option.bind_eq_some_iff] at h1
  obtain ⟨ec,h2,h3⟩:=h1
  exact ⟨a,n,_,ec,rfl,h2,h3⟩
theorem list_of {α:Type} [Inhabited α] {R:Nat→α→Prop}:∀(n:Nat),(∀i,i<n→∃a,R i a)→∃l:List α,l.length=n∧∀i,i<n→R i (l.getD i default)
 | 0,_=>⟨[],rfl,fun i hi=>absurd hi (Nat.not_lt_zero i)⟩
 | n+1,h=>by
  obtain ⟨l,hl,hr⟩:=list_of n fun i hi=>h i (by omega)
  obtain ⟨a,ha⟩:=h n (by omega)
  refine ⟨l++[a],by simp [hl],fun i hi => ?_⟩
  by_cases hin:i<n
  ·have:=hr i hin
   rw [List.getD_eq_getElem?_getD] at this ⊢
   rwa [List.getElem?_append_left (by omega)]
  ·have:i=n:=by omega
   subst this
   rw [List.getD_eq_getElem?_getD,List.getElem?_append_right (by omega),hl]
   simpa using ha
theorem rd_of {α:Type} [Inhabited α] {enc:α→List Value} {Q:α→Prop} {z:Nat} {e:TypeId} (hu:P.underlying t=some (.slice e)) (hz:P.cellsOf e=z)
  (each:∀ec n y,DataW.trod en P w base spare held n e ec=some y→∃a:α,ec=enc a∧Q a) (h:DataW.trod en P w base spare held fuel t cs=some x) :
  ∃(o:Option Addr) (cap:Nat) (l:List α),cs=[.slice o l.length cap]∧l.length≤cap∧cap≤maxLen∧Rd enc z [] w o l∧∀i:Int,0≤i→i<(l.length:Int)→Q (gi l i):=by
 obtain ⟨o,len,cap,rfl,h1,h2,h3⟩:=tr_slice hu h
 rw [hz] at h3
 obtain ⟨l,hl,hr⟩:=list_of (R:=fun i a=>CellsX [] w o (i*z) (enc a)∧Q a) len fun i hi=>by
  obtain ⟨ad,n,y,ec,ho,hc,ht⟩:=h3 i hi
  obtain ⟨a,rfl,hq⟩:=each ec n y ht
  refine ⟨a,cellsX_mk fun j v hj => ?_,hq⟩
  obtain ⟨_,hlen,hcell⟩:=World.cells?_some hc
  have hjl:j<z:=by
   have:=(List.getElem?_eq_some_iff.1 hj).1
   omega
  refine ⟨ad,ho,by simp,?_⟩
  have:=hcell j hjl
  rw [add_add'] at this
  rw [this]; exact hj
 subst hl
 refine ⟨o,cap,l,rfl,h1,h2,fun i h0 hi => ?_,fun i h0 hi => ?_⟩
 ·exact (hr i.toNat (by omega)).1
 ·exact (hr i.toNat (by omega)).2
theorem wf_i64 {n:Int} (h:(Lit.int .i64 n).wf=true):InR .i64 n:=by
 simpa [Lit.wf,IntKind.min,IntKind.max,IntKind.signed,IntKind.bits,InR] using h
theorem tr_i {t:TypeId} (hu:P.underlying t=some (.int .i64)) (h:DataW.trod en P w base spare held fuel t cs=some x):∃n:Int,cs=[.int .i64 n]∧InR .i64 n:=by
 obtain ⟨n,h1,_,h2⟩:=DataW.trod_int hu h
 exact ⟨n,h1,wf_i64 h2⟩
theorem tr_b {t:TypeId} (hu:P.underlying t=some .bool) (h:DataW.trod en P w base spare held fuel t cs=some x):∃b:Bool,cs=[.bool b]:=by
 obtain ⟨b,h1,_⟩:=DataW.trod_bool hu h
 exact ⟨b,h1⟩
theorem tr_s {t:TypeId} (hu:P.underlying t=some .string) (h:DataW.trod en P w base spare held fuel t cs=some x):∃s:ByteArray,cs=[.string s]∧s.size≤maxLen:=by
 obtain ⟨s,h1,_,h2⟩:=DataW.trod_string hu h
 exact ⟨s,h1,h2⟩
end
theorem len4 {l:List Value} (h:l.length=4):∃a0 a1 a2 a3,l=[a0,a1,a2,a3]:=by
 match l,h with
 | [a0,a1,a2,a3],_=>exact ⟨a0,a1,a2,a3,rfl⟩
theorem len5 {l:List Value} (h:l.length=5):∃a0 a1 a2 a3 a4,l=[a0,a1,a2,a3,a4]:=by
 match l,h with
 | [a0,a1,a2,a3,a4],_=>exact ⟨a0,a1,a2,a3,a4,rfl⟩
theorem len9 {l:List Value} (h:l.length=9):∃a0 a1 a2 a3 a4 a5 a6 a7 a8,l=[a0,a1,a2,a3,a4,a5,a6,a7,a8]:=by
 match l,h with
 | [a0,a1,a2,a3,a4,a5,a6,a7,a8],_=>exact ⟨a0,a1,a2,a3,a4,a5,a6,a7,a8,rfl⟩
theorem len14 {l:List Value} (h:l.length=14):∃a0 a1 a2 a3 a4 a5 a6 a7 a8 a9 a10 a11 a12 a13,l=[a0,a1,a2,a3,a4,a5,a6,a7,a8,a9,a10,a11,a12,a13]:=by
 match l,h with
 | [a0,a1,a2,a3,a4,a5,a6,a7,a8,a9,a10,a11,a12,a13],_=>exact ⟨a0,a1,a2,a3,a4,a5,a6,a7,a8,a9,a10,a11,a12,a13,rfl⟩
theorem u_int:Tryz.prog.underlying ty_int=some (.int .i64):=by kernel_rfl
theorem u_bool:Tryz.prog.underlying ty_bool=some .bool:=by kernel_rfl
theorem c_int:Tryz.prog.cellsOf ty_int=1:=by kernel_rfl
theorem c_bool:Tryz.prog.cellsOf ty_bool=1:=by kernel_rfl
theorem u_sl_int:Tryz.prog.underlying ty_sl_int=some (.slice ty_int):=by kernel_rfl
theorem u_sl_bool:Tryz.prog.underlying ty_sl_bool=some (.slice ty_bool):=by kernel_rfl
theorem c_sl_int:Tryz.prog.cellsOf ty_sl_int=1:=by kernel_rfl
theorem c_sl_bool:Tryz.prog.cellsOf ty_sl_bool=1:=by kernel_rfl
theorem elt_Int:Elt Tryz.prog encI 1 ty_int 8 (0:Int):=elt_of (by kernel_rfl) fun _=>rfl
theorem elt_Bool:Elt Tryz.prog encB 1 ty_bool 1 (false:Bool):=elt_of (by kernel_rfl) fun _=>rfl
end Go.Proofs.YtajdcjidpolloaaGreatDoor
namespace Go.Proofs.YtajdcjidpolloaaGreatDoor
open Go.RowKit Go.ChangeShapes
set_option linter.unusedVariables false
set_option linter.unusedSimpArgs false
section
variable {H:Type} {en:TypeId×Value→H} {w:World} {base:Nat} {spare:Nat→Bool} {held:Bool} {fuel:Nat} {cs:List Value} {x:DataW H×List MemPlace}
theorem u_string:Tryz.prog.underlying ty_string=some .string:=by kernel_rfl
theorem c_string:Tryz.prog.cellsOf ty_string=1:=by kernel_rfl
theorem u_sl_lShelf:Tryz.prog.underlying ty_sl_laws_Shelf=some (.slice ty_laws_Shelf):=by kernel_rfl
theorem c_sl_lShelf:Tryz.prog.cellsOf ty_sl_laws_Shelf=1:=by kernel_rfl
theorem u_lShelf:Tryz.prog.underlying ty_laws_Shelf=some (.struct (structFs Tryz.prog ty_laws_Shelf)):=by kernel_rfl
theorem f_lShelf:(structFs Tryz.prog ty_laws_Shelf).toList.map (fun f=>(f.type,f.offset))=[(ty_int,0),(ty_bool,1),(ty_int,2),(ty_int,3),(ty_int,4)]:=by kernel_rfl
theorem c_lShelf:Tryz.prog.cellsOf ty_laws_Shelf=5:=by kernel_rfl
theorem u_lBand:Tryz.prog.underlying ty_laws_Band=some (.struct (structFs Tryz.prog ty_laws_Band)):=by kernel_rfl
theorem f_lBand:(structFs Tryz.prog ty_laws_Band).toList.map (fun f=>(f.type,f.offset))=[(ty_int,0),(ty_int,1),(ty_int,2),(ty_sl_int,3),(ty_sl_bool,4)]:=by kernel_rfl
theorem c_lBand:Tryz.prog.cellsOf ty_laws_Band=5:=by kernel_rfl
theorem u_lGroup:Tryz.prog.underlying ty_laws_Group=some (.struct (structFs Tryz.prog ty_laws_Group)):=by kernel_rfl
theorem f_lGroup:(structFs Tryz.prog ty_laws_Group).toList.map (fun f=>(f.type,f.offset))=[(ty_bool,0),(ty_int,1),(ty_string,2),(ty_int,3),(ty_int,4),(ty_int,5),(ty_int,6),(ty_int,7),(ty_laws_Band,8),(ty_sl_laws_Shelf,13)]:=by kernel_rfl
theorem c_lGroup:Tryz.prog.cellsOf ty_laws_Group=14:=by kernel_rfl
theorem u_sl_lGroup:Tryz.prog.underlying ty_sl_laws_Group=some (.slice ty_laws_Group):=by kernel_rfl
theorem op_ints (h:DataW.trod en Tryz.prog w base spare held fuel ty_sl_int cs=some x):∃(o:Option Addr) (cap:Nat) (l:List Int),cs=[.slice o l.length cap]∧l.length≤cap∧cap≤maxLen∧RdI [] w o l∧∀i:Int,0≤i→i<(l.length:Int)→InR .i64 (gi l i) :=
 rd_of u_sl_int c_int (fun _ _ _ h=>by obtain ⟨n,h1,h2⟩:=tr_i u_int h; exact ⟨n,h1,h2⟩) h
theorem op_bools (h:DataW.trod en Tryz.prog w base spare held fuel ty_sl_bool cs=some x):∃(o:Option Addr) (cap:Nat) (l:List Bool),cs=[.slice o l.length cap]∧l.length≤cap∧cap≤maxLen∧RdB [] w o l:=by
 obtain ⟨o,cap,l,h1,h2,h3,h4,_⟩:=rd_of (Q:=fun _=>True) u_sl_bool c_bool (fun _ _ _ h=>by obtain ⟨n,h1⟩:=tr_b u_bool h; exact ⟨n,h1,trivial⟩) h
 exact ⟨o,cap,l,h1,h2,h3,h4⟩
theorem op_shelf (h:DataW.trod en Tryz.prog w base spare held fuel ty_laws_Shelf cs=some x):∃s:Shf,cs=encS s:=by
 obtain ⟨hl,hp⟩:=tr_struct u_lShelf f_lShelf h
 rw [c_lShelf] at hl
 obtain ⟨a,b,c,d,e,rfl⟩:=len5 hl
 ·skip
  obtain ⟨_,_,h1⟩:=hp (ty_int,0) (by simp)
  obtain ⟨_,_,h2⟩:=hp (ty_bool,1) (by simp)
  obtain ⟨_,_,h3⟩:=hp (ty_int,2) (by simp)
  obtain ⟨_,_,h4⟩:=hp (ty_int,3) (by simp)
  obtain ⟨_,_,h5⟩:=hp (ty_int,4) (by simp)
  obtain ⟨n1,e1,_⟩:=tr_i u_int h1
  obtain ⟨n2,e2⟩:=tr_b u_bool h2
  obtain ⟨n3,e3,_⟩:=tr_i u_int h3
  obtain ⟨n4,e4,_⟩:=tr_i u_int h4
  obtain ⟨n5,e5,_⟩:=tr_i u_int h5
  simp only [c_int,c_bool,List.drop,List.take,List.cons.injEq,and_true] at e1 e2 e3 e4 e5
  subst e1; subst e2; subst e3; subst e4; subst e5
  exact ⟨⟨n1,n2,n3,n4,n5⟩,rfl⟩
theorem op_shelves (h:DataW.trod en Tryz.prog w base spare held fuel ty_sl_laws_Shelf cs=some x):∃(o:Option Addr) (cap:Nat) (l:List Shf),cs=[.slice o l.length cap]∧l.length≤cap∧cap≤maxLen∧RdS [] w o l:=by
 obtain ⟨o,cap,l,h1,h2,h3,h4,_⟩:=rd_of (Q:=fun _=>True) u_sl_lShelf c_lShelf (fun _ _ _ h=>by obtain ⟨n,h1⟩:=op_shelf h; exact ⟨n,h1,trivial⟩) h
 exact ⟨o,cap,l,h1,h2,h3,h4⟩
structure FitG (g:Grp):Prop where
 nm:g.name.size≤maxLen
 nx:InR .i64 g.next
 lo:g.band.locals.length≤maxLen
 dr:g.band.dry.length≤maxLen
 sh:g.shelves.length≤maxLen
theorem op_group (h:DataW.trod en Tryz.prog w base spare held fuel ty_laws_Group cs=some x) :
  ∃p:Grp×MG,cs=encG p.1 p.2∧FitG p.1∧RdI [] w p.2.lO p.1.band.locals∧RdB [] w p.2.dO p.1.band.dry∧RdS [] w p.2.sO p.1.shelves:=by
 obtain ⟨hl,hp⟩:=tr_struct u_lGroup f_lGroup h
 rw [c_lGroup] at hl
 obtain ⟨a0,a1,a2,a3,a4,a5,a6,a7,a8,a9,a10,a11,a12,a13,rfl⟩:=len14 hl
 ·skip
  obtain ⟨_,_,h0⟩:=hp (ty_bool,0) (by simp)
  obtain ⟨_,_,h1⟩:=hp (ty_int,1) (by simp)
  obtain ⟨_,_,h2⟩:=hp (ty_string,2) (by simp)
  obtain ⟨_,_,h3⟩:=hp (ty_int,3) (by simp)
  obtain ⟨_,_,h4⟩:=hp (ty_int,4) (by simp)
  obtain ⟨_,_,h5⟩:=hp (ty_int,5) (by simp)
  obtain ⟨_,_,h6⟩:=hp (ty_int,6) (by simp)
  obtain ⟨_,_,h7⟩:=hp (ty_int,7) (by simp)
  obtain ⟨_,_,h8⟩:=hp (ty_laws_Band,8) (by simp)
  obtain ⟨_,_,h9⟩:=hp (ty_sl_laws_Shelf,13) (by simp)
  obtain ⟨n0,e0⟩:=tr_b u_bool h0
  obtain ⟨n1,e1,_⟩:=tr_i u_int h1
  obtain ⟨n2,e2,b2⟩:=tr_s u_string h2
  obtain ⟨n3,e3,_⟩:=tr_i u_int h3
  obtain ⟨n4,e4,_⟩:=tr_i u_int h4
  obtain ⟨n5,e5,_⟩:=tr_i u_int h5
  obtain ⟨n6,e6,b6⟩:=tr_i u_int h6
  obtain ⟨n7,e7,_⟩:=tr_i u_int h7
  obtain ⟨_,hb⟩:=tr_struct u_lBand f_lBand h8
  obtain ⟨_,_,k0⟩:=hb (ty_int,0) (by simp)
  obtain ⟨_,_,k1⟩:=hb (ty_int,1) (by simp)
  obtain ⟨_,_,k2⟩:=hb (ty_int,2) (by simp)
  obtain ⟨_,_,k3⟩:=hb (ty_sl_int,3) (by simp)
  obtain ⟨_,_,k4⟩:=hb (ty_sl_bool,4) (by simp)
  obtain ⟨m0,f0,_⟩:=tr_i u_int k0
  obtain ⟨m1,f1,_⟩:=tr_i u_int k1
  obtain ⟨m2,f2,_⟩:=tr_i u_int k2
  obtain ⟨o3,c3,l3,f3,b3a,b3b,r3,_⟩:=op_ints k3
  obtain ⟨o4,c4,l4,f4,b4a,b4b,r4⟩:=op_bools k4
  obtain ⟨o5,c5,l5,f5,b5a,b5b,r5⟩:=op_shelves h9
  simp only [c_int,c_bool,c_string,c_sl_lShelf,c_lBand,c_sl_int,c_sl_bool,List.drop,List.take,List.cons.injEq,and_true] at e0 e1 e2 e3 e4 e5 e6 e7 f0 f1 f2 f3 f4 f5
  subst e0; subst e1; subst e2; subst e3; subst e4; subst e5; subst e6; subst e7; subst f0; subst f1; subst f2; subst f3; subst f4; subst f5
  exact ⟨(⟨n0,n1,n2,n3,n4,n5,n6,n7,⟨m0,m1,m2,l3,l4⟩,l5⟩,⟨o3,c3,o4,c4,o5,c5⟩),rfl,⟨b2,b6,by show l3.length≤_; omega,by show l4.length≤_; omega,by show l5.length≤_; omega⟩,r3,r4,r5⟩
theorem op_groups (h:DataW.trod en Tryz.prog w base spare held fuel ty_sl_laws_Group cs=some x) :
  ∃(o:Option Addr) (cap:Nat) (gs:List Grp) (ms:Nat→MG),cs=[.slice o gs.length cap]∧gs.length≤cap∧cap≤maxLen∧RdG [] w o gs ms∧∀i:Int,0≤i→i<(gs.length:Int)→FitG (gi gs i):=by
 obtain ⟨o,cap,l,h1,h2,h3,h4,h5⟩:=rd_of (enc:=fun p:Grp×MG=>encG p.1 p.2) u_sl_lGroup c_lGroup (fun _ _ _ h=>op_group h) h
 have e:∀i:Int,0≤i→i<(l.length:Int)→gi (l.map (·.1)) i=(gi l i).1:=fun i h0 hi=>by
  obtain ⟨k,rfl⟩:=Int.eq_ofNat_of_zero_le h0
  rw [gi_lt (by simp; omega),gi_lt (by omega)]; simp
 refine ⟨o,cap,l.map (·.1),fun k=>(gi l (k:Int)).2,by simpa using h1,by simpa using h2,h3,⟨fun i h0 hi => ?_,fun i h0 hi => ?_,fun i h0 hi => ?_,fun i h0 hi => ?_⟩,fun i h0 hi => ?_⟩
 all_goals
  rw [List.length_map] at hi
  rw [e i h0 hi]
  have ek:((i.toNat:Nat):Int)=i:=by omega
  try rw [ek]
 ·exact h4 i h0 hi
 ·exact (h5 i h0 hi).2.1
 ·exact (h5 i h0 hi).2.2.1
 ·exact (h5 i h0 hi).2.2.2
 ·exact (h5 i h0 hi).1
end
end Go.Proofs.YtajdcjidpolloaaGreatDoor
namespace Go.Proofs.YtajdcjidpolloaaGreatDoor
open Go.RowKit
set_option linter.unusedVariables false
set_option maxRecDepth 100000
set_option maxHeartbeats 1600000
def V_laws_szCpuS (aO:Option Addr) (aL aC:Nat) (leftv:Int) (w:World) (R:Value→World→Prop):Prop :=
 InR .i64 (leftv - (aL:Int)) ∧
 ((decide (leftv - (aL:Int)<0))=true →
 R (.int .i64 (-1)) w) ∧
 ((decide (leftv - (aL:Int)<0))=false →
 R (.int .i64 (leftv - (aL:Int))) w)
theorem p_laws_szCpuS (aO aL aC leftv):PuV (V_laws_szCpuS aO aL aC leftv) fn_laws_szCpuS #[.slice aO aL aC,.int .i64 leftv]:=pV [] false [] Tryz.func23 (by kernel_rfl) (by kernel_rfl)
def V_laws_szTaskS (aO:Option Addr) (aL aC:Nat) (leftv:Int) (w:World) (R:Value→World→Prop):Prop :=
 InR .i64 (leftv - (aL:Int)) ∧
 ((decide (leftv - (aL:Int)<0))=true →
 R (.int .i64 (-1)) w) ∧
 ((decide (leftv - (aL:Int)<0))=false →
 R (.int .i64 (leftv - (aL:Int))) w)
theorem p_laws_szTaskS (aO aL aC leftv):PuV (V_laws_szTaskS aO aL aC leftv) fn_laws_szTaskS #[.slice aO aL aC,.int .i64 leftv]:=pV [] false [] Tryz.func24 (by kernel_rfl) (by kernel_rfl)
def V_laws_szIntS (aO:Option Addr) (aL aC:Nat) (leftv:Int) (w:World) (R:Value→World→Prop):Prop :=
 InR .i64 (leftv - (aL:Int)) ∧
 ((decide (leftv - (aL:Int)<0))=true →
 R (.int .i64 (-1)) w) ∧
 ((decide (leftv - (aL:Int)<0))=false →
 R (.int .i64 (leftv - (aL:Int))) w)
theorem p_laws_szIntS (aO aL aC leftv):PuV (V_laws_szIntS aO aL aC leftv) fn_laws_szIntS #[.slice aO aL aC,.int .i64 leftv]:=pV [] false [] Tryz.func223 (by kernel_rfl) (by kernel_rfl)
def V_laws_szBoolS (aO:Option Addr) (aL aC:Nat) (leftv:Int) (w:World) (R:Value→World→Prop):Prop :=
 InR .i64 (leftv - (aL:Int)) ∧
 ((decide (leftv - (aL:Int)<0))=true →
 R (.int .i64 (-1)) w) ∧
 ((decide (leftv - (aL:Int)<0))=false →
 R (.int .i64 (leftv - (aL:Int))) w)
theorem p_laws_szBoolS (aO aL aC leftv):PuV (V_laws_szBoolS aO aL aC leftv) fn_laws_szBoolS #[.slice aO aL aC,.int .i64 leftv]:=pV [] false [] Tryz.func224 (by kernel_rfl) (by kernel_rfl)
def V_laws_szBand (a0 a1 a2:Int) (a3O:Option Addr) (a3L a3C:Nat) (a4O:Option Addr) (a4L a4C:Nat) (leftv:Int) (w:World) (R:Value→World→Prop):Prop :=
 (∀b,w.heap.size≤b →
 (∃szIntS,
 PureX [] Tryz.prog fn_laws_szIntS #[.slice a3O a3L a3C,.int .i64 leftv] w (.int .i64 szIntS) ∧
 ((decide (szIntS<0))=true →
 R (.int .i64 (-1)) w) ∧
 ((decide (szIntS<0))=false →
 (∃szBool,
 PureX [] Tryz.prog fn_laws_szBoolS #[.slice a4O a4L a4C,.int .i64 szIntS] w (.int .i64 szBool) ∧
 ((decide (szBool<0))=true →
 R (.int .i64 (-1)) w) ∧
 ((decide (szBool<0))=false →
 R (.int .i64 szBool) w)))))
theorem p_laws_szBand (a0 a1 a2 a3O a3L a3C a4O a4L a4C leftv):PuV (V_laws_szBand a0 a1 a2 a3O a3L a3C a4O a4L a4C leftv) fn_laws_szBand #[.agg #[.int .i64 a0,.int .i64 a1,.int .i64 a2,.slice a3O a3L a3C,.slice a4O a4L a4C],.int .i64 leftv]:=pV [] false [] Tryz.func173 (by kernel_rfl) (by kernel_rfl)
def V_laws_szShelfS (aO:Option Addr) (aL aC:Nat) (leftv:Int) (w:World) (R:Value→World→Prop):Prop :=
 InR .i64 (leftv - (aL:Int)) ∧
 ((decide (leftv - (aL:Int)<0))=true →
 R (.int .i64 (-1)) w) ∧
 ((decide (leftv - (aL:Int)<0))=false →
 R (.int .i64 (leftv - (aL:Int))) w)
theorem p_laws_szShelfS (aO aL aC leftv):PuV (V_laws_szShelfS aO aL aC leftv) fn_laws_szShelfS #[.slice aO aL aC,.int .i64 leftv]:=pV [] false [] Tryz.func174 (by kernel_rfl) (by kernel_rfl)
def V_laws_szGroup (a0:Bool) (a1:Int) (a2:ByteArray) (a3 a4 a5 a6 a7 a8 a9 a10:Int) (a11O:Option Addr) (a11L a11C:Nat) (a12O:Option Addr) (a12L a12C:Nat) (a13O:Option Addr) (a13L a13C:Nat) (leftv:Int) (w:World) (R:Value→World→Prop):Prop :=
 (∀b,w.heap.size≤b →
 InR .i64 (leftv - (a2.size:Int)) ∧
 ((decide (leftv - (a2.size:Int)<0))=true →
 R (.int .i64 (-1)) w) ∧
 ((decide (leftv - (a2.size:Int)<0))=false →
 (∃szBand,
 PureX [] Tryz.prog fn_laws_szBand #[.agg #[.int .i64 a8,.int .i64 a9,.int .i64 a10,.slice a11O a11L a11C,.slice a12O a12L a12C],.int .i64 (leftv - (a2.size:Int))] w (.int .i64 szBand) ∧
 ((decide (szBand<0))=true →
 R (.int .i64 (-1)) w) ∧
 ((decide (szBand<0))=false →
 (∃szShel,
 PureX [] Tryz.prog fn_laws_szShelfS #[.slice a13O a13L a13C,.int .i64 szBand] w (.int .i64 szShel) ∧
 ((decide (szShel<0))=true →
 R (.int .i64 (-1)) w) ∧
 ((decide (szShel<0))=false →
 R (.int .i64 szShel) w))))))
theorem p_laws_szGroup (a0 a1 a2 a3 a4 a5 a6 a7 a8 a9 a10 a11O a11L a11C a12O a12L a12C a13O a13L a13C leftv):PuV (V_laws_szGroup a0 a1 a2 a3 a4 a5 a6 a7 a8 a9 a10 a11O a11L a11C a12O a12L a12C a13O a13L a13C leftv) fn_laws_szGroup #[.agg #[.bool a0,.int .i64 a1,.string a2,.int .i64 a3,.int .i64 a4,.int .i64 a5,.int .i64 a6,.int .i64 a7,.int .i64 a8,.int .i64 a9,.int .i64 a10,.slice a11O a11L a11C,.slice a12O a12L a12C,.slice a13O a13L a13C],.int .i64 leftv]:=pV [] false [] Tryz.func97 (by kernel_rfl) (by kernel_rfl)
def V_laws_szGroupS (aO:Option Addr) (aL aC:Nat) (leftv:Int) (w:World) (R:Value→World→Prop):Prop :=
 InR .i64 (leftv - (aL:Int)) ∧
 ((decide (leftv - (aL:Int)<0))=true →
 R (.int .i64 (-1)) w) ∧
 ((decide (leftv - (aL:Int)<0))=false →
 (∃(xInv:List Value→Prop) (mu:List Value→Nat),xInv [.int .i64 (leftv - (aL:Int)),.int .i64 0] ∧
 ∀(leftv1 i:Int),xInv [.int .i64 leftv1,.int .i64 i] →
 ((decide (i<(aL:Int)))=true →
 Ix aO aL i ∧
 (∃(x0:Bool) (x1:Int) (x2:ByteArray) (x3 x4 x5 x6 x7 x8 x9 x10:Int) (x11O:Option Addr) (x11L x11C:Nat) (x12O:Option Addr) (x12L x12C:Nat) (x13O:Option Addr) (x13L x13C:Nat),
 CellsX [] w aO (Int.toNat i*14) [.bool x0,.int .i64 x1,.string x2,.int .i64 x3,.int .i64 x4,.int .i64 x5,.int .i64 x6,.int .i64 x7,.int .i64 x8,.int .i64 x9,.int .i64 x10,.slice x11O x11L x11C,.slice x12O x12L x12C,.slice x13O x13L x13C] ∧
 (∃szGrou,
 PureX [] Tryz.prog fn_laws_szGroup #[.agg #[.bool x0,.int .i64 x1,.string x2,.int .i64 x3,.int .i64 x4,.int .i64 x5,.int .i64 x6,.int .i64 x7,.int .i64 x8,.int .i64 x9,.int .i64 x10,.slice x11O x11L x11C,.slice x12O x12L x12C,.slice x13O x13L x13C],.int .i64 leftv1] w (.int .i64 szGrou) ∧
 ((decide (szGrou<0))=true →
 R (.int .i64 (-1)) w) ∧
 ((decide (szGrou<0))=false →
 InR .i64 (i+1) ∧
 xInv [.int .i64 szGrou,.int .i64 (i+1)]∧mu [.int .i64 szGrou,.int .i64 (i+1)]<mu [.int .i64 leftv1,.int .i64 i])))) ∧
 ((decide (i<(aL:Int)))=false →
 R (.int .i64 leftv1) w)))
theorem p_laws_szGroupS (aO aL aC leftv):PuV (V_laws_szGroupS aO aL aC leftv) fn_laws_szGroupS #[.slice aO aL aC,.int .i64 leftv]:=pV [] false [(5,⟨[(1,.int .i64),(5,.int .i64)],[],[0],[],[]⟩)] Tryz.func25 (by kernel_rfl) (by kernel_rfl)
def V_laws_szWorld (a0:Int) (a1O:Option Addr) (a1L a1C:Nat) (a2O:Option Addr) (a2L a2C:Nat) (a3O:Option Addr) (a3L a3C:Nat) (leftv:Int) (w:World) (R:Value→World→Prop):Prop :=
 (∀b,w.heap.size≤b →
 (∃szCpuS,
 PureX [] Tryz.prog fn_laws_szCpuS #[.slice a1O a1L a1C,.int .i64 leftv] w (.int .i64 szCpuS) ∧
 ((decide (szCpuS<0))=true →
 R (.int .i64 (-1)) w) ∧
 ((decide (szCpuS<0))=false →
 (∃szTask,
 PureX [] Tryz.prog fn_laws_szTaskS #[.slice a2O a2L a2C,.int .i64 szCpuS] w (.int .i64 szTask) ∧
 ((decide (szTask<0))=true →
 R (.int .i64 (-1)) w) ∧
 ((decide (szTask<0))=false →
 (∃szGrou,
 PureX [] Tryz.prog fn_laws_szGroupS #[.slice a3O a3L a3C,.int .i64 szTask] w (.int .i64 szGrou) ∧
 ((decide (szGrou<0))=true →
 R (.int .i64 (-1)) w) ∧
 ((decide (szGrou<0))=false →
 R (.int .i64 szGrou) w)))))))
theorem p_laws_szWorld (a0 a1O a1L a1C a2O a2L a2C a3O a3L a3C leftv):PuV (V_laws_szWorld a0 a1O a1L a1C a2O a2L a2C a3O a3L a3C leftv) fn_laws_szWorld #[.agg #[.int .i64 a0,.slice a1O a1L a1C,.slice a2O a2L a2C,.slice a3O a3L a3C],.int .i64 leftv]:=pV [] false [] Tryz.func8 (by kernel_rfl) (by kernel_rfl)
def V_spec_l1In (n low high:Int) (w:World) (R:Value→World→Prop):Prop :=
 R (.bool ((decide (n≥low))&&(decide (n≤high)))) w
theorem p_spec_l1In (n low high):PuV (V_spec_l1In n low high) fn_spec_l1In #[.int .i64 n,.int .i64 low,.int .i64 high]:=pV [] false [] Tryz.func27 (by kernel_rfl) (by kernel_rfl)
def V_spec_l8Ups (w0:Int) (w1O:Option Addr) (w1L w1C:Nat) (w2O:Option Addr) (w2L w2C:Nat) (w3O:Option Addr) (w3L w3C:Nat) (w:World) (R:Value→World→Prop):Prop :=
 (∀b,w.heap.size≤b →
 (∃(xInv:List Value→Prop) (mu:List Value→Nat),xInv [.int .i64 0,.int .i64 0] ∧
 ∀(m c:Int),xInv [.int .i64 m,.int .i64 c] →
 ((decide (c<(w1L:Int)))=true →
 Ix w1O w1L c ∧
 (∃up,
 CellsX [] w w1O (Int.toNat c*5+0) [.bool up] ∧
 (up=true →
 InR .u64 c ∧
 (0≤c∧InR .i64 (1*2 ^ (min (Int.toNat c) 64))) ∧
 InR .i64 (m+(1*2 ^ (min (Int.toNat c) 64))) ∧
 InR .i64 (c+1) ∧
 xInv [.int .i64 (m+(1*2 ^ (min (Int.toNat c) 64))),.int .i64 (c+1)]∧mu [.int .i64 (m+(1*2 ^ (min (Int.toNat c) 64))),.int .i64 (c+1)]<mu [.int .i64 m,.int .i64 c]) ∧
 (up=false →
 InR .i64 (c+1) ∧
 xInv [.int .i64 m,.int .i64 (c+1)]∧mu [.int .i64 m,.int .i64 (c+1)]<mu [.int .i64 m,.int .i64 c]))) ∧
 ((decide (c<(w1L:Int)))=false →
 R (.int .i64 m) w)))
theorem p_spec_l8Ups (w0 w1O w1L w1C w2O w2L w2C w3O w3L w3C):PuV (V_spec_l8Ups w0 w1O w1L w1C w2O w2L w2C w3O w3L w3C) fn_spec_l8Ups #[.agg #[.int .i64 w0,.slice w1O w1L w1C,.slice w2O w2L w2C,.slice w3O w3L w3C]]:=pV [] false [(3,⟨[(3,.int .i64),(4,.int .i64)],[],[1],[],[]⟩)] Tryz.func29 (by kernel_rfl) (by kernel_rfl)
def V_spec_l6Used (lO:Option Addr) (lL lC:Nat) (g:Int) (w:World) (R:Value→World→Prop):Prop :=
 (((decide (g≥0))&&(decide (g<(lL:Int))))=true→Ix lO lL g) ∧
 (∃used,
 (((decide (g≥0))&&(decide (g<(lL:Int))))=true→CellsX [] w lO (Int.toNat g*14+0) [.bool used]) ∧
 R (.bool (((decide (g≥0))&&(decide (g<(lL:Int))))&&used)) w)
theorem p_spec_l6Used (lO lL lC g):PuV (V_spec_l6Used lO lL lC g) fn_spec_l6Used #[.slice lO lL lC,.int .i64 g]:=pV [] false [] Tryz.func78 (by kernel_rfl) (by kernel_rfl)
def V_spec_l6Depth (lO:Option Addr) (lL lC:Nat) (g:Int) (w:World) (R:Value→World→Prop):Prop :=
 (∃(xInv:List Value→Prop) (mu:List Value→Nat),xInv [.int .i64 g,.int .i64 0] ∧
 ∀(g1 n:Int),xInv [.int .i64 g1,.int .i64 n] →
 ((decide (n≤(lL:Int)))=true →
 (∃l6Used,
 PureX [] Tryz.prog fn_spec_l6Used #[.slice lO lL lC,.int .i64 g1] w (.bool l6Used) ∧
 ((!l6Used)=true →
 R (.int .i64 (-1)) w) ∧
 ((!l6Used)=false →
 ((g1==0)=true →
 R (.int .i64 n) w) ∧
 ((g1==0)=false →
 Ix lO lL g1 ∧
 (∃parent,
 CellsX [] w lO (Int.toNat g1*14+1) [.int .i64 parent] ∧
 InR .i64 (n+1) ∧
 xInv [.int .i64 parent,.int .i64 (n+1)]∧mu [.int .i64 parent,.int .i64 (n+1)]<mu [.int .i64 g1,.int .i64 n]))))) ∧
 ((decide (n≤(lL:Int)))=false →
 R (.int .i64 (-1)) w))
theorem p_spec_l6Depth (lO lL lC g):PuV (V_spec_l6Depth lO lL lC g) fn_spec_l6Depth #[.slice lO lL lC,.int .i64 g]:=pV [] false [(2,⟨[(1,.int .i64),(5,.int .i64)],[],[0],[],[]⟩)] Tryz.func175 (by kernel_rfl) (by kernel_rfl)
def V_spec_l6File (s:ByteArray) (w:World) (R:Value→World→Prop):Prop :=
 R (.bool (((((strEq s (ByteArray.mk [119,101,105,103,104,116].toArray))||(strEq s (ByteArray.mk [109,97,120].toArray)))||(strEq s (ByteArray.mk [99,112,117,115].toArray)))||(strEq s (ByteArray.mk [112,114,111,99,115].toArray)))||(strEq s (ByteArray.mk [115,116,97,116].toArray)))) w
theorem p_spec_l6File (s):PuV (V_spec_l6File s) fn_spec_l6File #[.string s]:=pV [] false [] Tryz.func244 (by kernel_rfl) (by kernel_rfl)
def V_spec_NameOk (s:ByteArray) (w:World) (R:Value→World→Prop):Prop :=
 (∃l1In,
 PureX [] Tryz.prog fn_spec_l1In #[.int .i64 (s.size:Int),.int .i64 1,.int .i64 8] w (.bool l1In) ∧
 (∃l6File,
 ((!l1In)=false→PureX [] Tryz.prog fn_spec_l6File #[.string s] w (.bool l6File)) ∧
 (((!l1In)||l6File)=true →
 R (.bool false) w) ∧
 (((!l1In)||l6File)=false →
 (∃(xInv:List Value→Prop) (mu:List Value→Nat),xInv [.int .i64 0] ∧
 ∀(i:Int),xInv [.int .i64 i] →
 ((decide (i<(s.size:Int)))=true →
 (0≤i∧i<(s.size:Int)) ∧
 ((decide (strAt s i≥97))=true→(0≤i∧i<(s.size:Int))) ∧
 (((decide (strAt s i≥97))&&(decide (strAt s i≤122)))=false→(0≤i∧i<(s.size:Int))) ∧
 ((decide (strAt s i≥48))=true→(((decide (strAt s i≥97))&&(decide (strAt s i≤122)))=false→(0≤i∧i<(s.size:Int)))) ∧
 ((!(((decide (strAt s i≥97))&&(decide (strAt s i≤122)))||((decide (strAt s i≥48))&&(decide (strAt s i≤57)))))=true →
 R (.bool false) w) ∧
 ((!(((decide (strAt s i≥97))&&(decide (strAt s i≤122)))||((decide (strAt s i≥48))&&(decide (strAt s i≤57)))))=false →
 InR .i64 (i+1) ∧
 xInv [.int .i64 (i+1)]∧mu [.int .i64 (i+1)]<mu [.int .i64 i])) ∧
 ((decide (i<(s.size:Int)))=false →
 R (.bool true) w)))))
theorem p_spec_NameOk (s):PuV (V_spec_NameOk s) fn_spec_NameOk #[.string s]:=pV [] false [(4,⟨[(3,.int .i64)],[],[0],[],[]⟩)] Tryz.func213 (by kernel_rfl) (by kernel_rfl)
def V_spec_TreeOk (lO:Option Addr) (lL lC:Nat) (w:World) (R:Value→World→Prop):Prop :=
 (((lL:Int) != 8)=false→Ix lO lL 0) ∧
 (∃used,
 (((lL:Int) != 8)=false→CellsX [] w lO (Int.toNat 0*14+0) [.bool used]) ∧
 ((((lL:Int) != 8)||(!used))=false→Ix lO lL 0) ∧
 (∃parent,
 ((((lL:Int) != 8)||(!used))=false→CellsX [] w lO (Int.toNat 0*14+1) [.int .i64 parent]) ∧
 (((((lL:Int) != 8)||(!used))||(parent != (-1)))=false→Ix lO lL 0) ∧
 (∃(name:ByteArray),
 (((((lL:Int) != 8)||(!used))||(parent != (-1)))=false→CellsX [] w lO (Int.toNat 0*14+2) [.string name]) ∧
 ((((((lL:Int) != 8)||(!used))||(parent != (-1)))||(!strEq name (ByteArray.mk [].toArray)))=true →
 R (.bool false) w) ∧
 ((((((lL:Int) != 8)||(!used))||(parent != (-1)))||(!strEq name (ByteArray.mk [].toArray)))=false →
 (∃(xInv:List Value→Prop) (mu:List Value→Nat),xInv [.int .i64 1] ∧
 ∀(g:Int),xInv [.int .i64 g] →
 ((decide (g<(lL:Int)))=true →
 Ix lO lL g ∧
 (∃used1,
 CellsX [] w lO (Int.toNat g*14+0) [.bool used1] ∧
 ((!used1)=true →
 InR .i64 (g+1) ∧
 xInv [.int .i64 (g+1)]∧mu [.int .i64 (g+1)]<mu [.int .i64 g]) ∧
 ((!used1)=false →
 Ix lO lL g ∧
 (∃(name1:ByteArray),
 CellsX [] w lO (Int.toNat g*14+2) [.string name1] ∧
 (∃xNameOk,
 PureX [] Tryz.prog fn_spec_NameOk #[.string name1] w (.bool xNameOk) ∧
 (∃l6Dept,
 ((!xNameOk)=false→PureX [] Tryz.prog fn_spec_l6Depth #[.slice lO lL lC,.int .i64 g] w (.int .i64 l6Dept)) ∧
 (∃l1In,
 ((!xNameOk)=false→PureX [] Tryz.prog fn_spec_l1In #[.int .i64 l6Dept,.int .i64 1,.int .i64 3] w (.bool l1In)) ∧
 (((!xNameOk)||(!l1In))=true →
 R (.bool false) w) ∧
 (((!xNameOk)||(!l1In))=false →
 (∃(xInv1:List Value→Prop) (mu1:List Value→Nat),xInv1 [.int .i64 1] ∧
 ∀(h:Int),xInv1 [.int .i64 h] →
 ((decide (h<g))=true →
 Ix lO lL h ∧
 (∃used2,
 CellsX [] w lO (Int.toNat h*14+0) [.bool used2] ∧
 (used2=true→Ix lO lL h) ∧
 (∃parent1,
 (used2=true→CellsX [] w lO (Int.toNat h*14+1) [.int .i64 parent1]) ∧
 (used2=true→Ix lO lL g) ∧
 (∃parent2,
 (used2=true→CellsX [] w lO (Int.toNat g*14+1) [.int .i64 parent2]) ∧
 ((used2&&(parent1==parent2))=true→Ix lO lL h) ∧
 (∃(name2:ByteArray),
 ((used2&&(parent1==parent2))=true→CellsX [] w lO (Int.toNat h*14+2) [.string name2]) ∧
 ((used2&&(parent1==parent2))=true→Ix lO lL g) ∧
 (∃(name3:ByteArray),
 ((used2&&(parent1==parent2))=true→CellsX [] w lO (Int.toNat g*14+2) [.string name3]) ∧
 (((used2&&(parent1==parent2))&&(strEq name2 name3))=true →
 R (.bool false) w) ∧
 (((used2&&(parent1==parent2))&&(strEq name2 name3))=false →
 InR .i64 (h+1) ∧
 xInv1 [.int .i64 (h+1)]∧mu1 [.int .i64 (h+1)]<mu1 [.int .i64 h]))))))) ∧
 ((decide (h<g))=false →
 InR .i64 (g+1) ∧
 xInv [.int .i64 (g+1)]∧mu [.int .i64 (g+1)]<mu [.int .i64 g])))))))))) ∧
 ((decide (g<(lL:Int)))=false →
 R (.bool true) w))))))
theorem p_spec_TreeOk (lO lL lC):PuV (V_spec_TreeOk lO lL lC) fn_spec_TreeOk #[.slice lO lL lC]:=pV [] false [(4,⟨[(3,.int .i64)],[],[0],[],[]⟩),(10,⟨[(4,.int .i64)],[],[0,3],[],[]⟩)] Tryz.func160 (by kernel_rfl) (by kernel_rfl)
def V_spec_MaskOk (m:Int) (w:World) (R:Value→World→Prop):Prop :=
 (∃l1In,
 PureX [] Tryz.prog fn_spec_l1In #[.int .i64 m,.int .i64 0,.int .i64 15] w (.bool l1In) ∧
 R (.bool l1In) w)
theorem p_spec_MaskOk (m):PuV (V_spec_MaskOk m) fn_spec_MaskOk #[.int .i64 m]:=pV [] false [] Tryz.func77 (by kernel_rfl) (by kernel_rfl)
def V_spec_l1Weight (wv:Int) (w:World) (R:Value→World→Prop):Prop :=
 (∃l1In,
 PureX [] Tryz.prog fn_spec_l1In #[.int .i64 wv,.int .i64 1,.int .i64 20] w (.bool l1In) ∧
 R (.bool l1In) w)
theorem p_spec_l1Weight (wv):PuV (V_spec_l1Weight wv) fn_spec_l1Weight #[.int .i64 wv]:=pV [] false [] Tryz.func206 (by kernel_rfl) (by kernel_rfl)
def V_spec_l8NoBand (b0 b1 b2:Int) (b3O:Option Addr) (b3L b3C:Nat) (b4O:Option Addr) (b4L b4C:Nat) (w:World) (R:Value→World→Prop):Prop :=
 (∀b,w.heap.size≤b →
 R (.bool (((((b0==0)&&(b1==0))&&(b2==0))&&((b3L:Int)==0))&&((b4L:Int)==0))) w)
theorem p_spec_l8NoBand (b0 b1 b2 b3O b3L b3C b4O b4L b4C):PuV (V_spec_l8NoBand b0 b1 b2 b3O b3L b3C b4O b4L b4C) fn_spec_l8NoBand #[.agg #[.int .i64 b0,.int .i64 b1,.int .i64 b2,.slice b3O b3L b3C,.slice b4O b4L b4C]]:=pV [] false [] Tryz.func214 (by kernel_rfl) (by kernel_rfl)
def V_spec_l4Time (v:Int) (w:World) (R:Value→World→Prop):Prop :=
 (∃l1In,
 PureX [] Tryz.prog fn_spec_l1In #[.int .i64 v,.int .i64 0,.int .i64 100000000000000000] w (.bool l1In) ∧
 R (.bool l1In) w)
theorem p_spec_l4Time (v):PuV (V_spec_l4Time v) fn_spec_l4Time #[.int .i64 v]:=pV [] false [] Tryz.func215 (by kernel_rfl) (by kernel_rfl)
def V_spec_BandOk (b0 b1 b2:Int) (b3O:Option Addr) (b3L b3C:Nat) (b4O:Option Addr) (b4L b4C:Nat) (w:World) (R:Value→World→Prop):Prop :=
 (∀b,w.heap.size≤b →
 (∃l1In,
 PureX [] Tryz.prog fn_spec_l1In #[.int .i64 b0,.int .i64 1,.int .i64 10000] w (.bool l1In) ∧
 (∃l1In1,
 ((!l1In)=false→PureX [] Tryz.prog fn_spec_l1In #[.int .i64 (b3L:Int),.int .i64 1,.int .i64 4] w (.bool l1In1)) ∧
 (∃l1In2,
 ((((!l1In)||(!l1In1))||((b4L:Int) != (b3L:Int)))=false→PureX [] Tryz.prog fn_spec_l1In #[.int .i64 b1,.int .i64 0,.int .i64 b0] w (.bool l1In2)) ∧
 (∃l1In3,
 (((((!l1In)||(!l1In1))||((b4L:Int) != (b3L:Int)))||(!l1In2))=false→PureX [] Tryz.prog fn_spec_l1In #[.int .i64 b2,.int .i64 0,.int .i64 b0] w (.bool l1In3)) ∧
 ((((((!l1In)||(!l1In1))||((b4L:Int) != (b3L:Int)))||(!l1In2))||(!l1In3))=true →
 R (.bool false) w) ∧
 ((((((!l1In)||(!l1In1))||((b4L:Int) != (b3L:Int)))||(!l1In2))||(!l1In3))=false →
 InR .i64 (b1+b2) ∧
 (∃(xInv:List Value→Prop) (mu:List Value→Nat),xInv [.int .i64 (b1+b2),.int .i64 0] ∧
 ∀(sum c:Int),xInv [.int .i64 sum,.int .i64 c] →
 ((decide (c<(b3L:Int)))=true →
 Ix b3O b3L c ∧
 (∃x,
 CellsX [] w b3O (Int.toNat c*1) [.int .i64 x] ∧
 (∃l1In4,
 PureX [] Tryz.prog fn_spec_l1In #[.int .i64 x,.int .i64 0,.int .i64 b0] w (.bool l1In4) ∧
 ((!l1In4)=false→Ix b4O b4L c) ∧
 (∃x1,
 ((!l1In4)=false→CellsX [] w b4O (Int.toNat c*1) [.bool x1]) ∧
 (x1=true→((!l1In4)=false→Ix b3O b3L c)) ∧
 (∃x2,
 (x1=true→((!l1In4)=false→CellsX [] w b3O (Int.toNat c*1) [.int .i64 x2])) ∧
 (((!l1In4)||(x1&&((decide (x2>0))||(decide (b1>0)))))=true →
 R (.bool false) w) ∧
 (((!l1In4)||(x1&&((decide (x2>0))||(decide (b1>0)))))=false →
 Ix b3O b3L c ∧
 (∃x3,
 CellsX [] w b3O (Int.toNat c*1) [.int .i64 x3] ∧
 InR .i64 (sum+x3) ∧
 InR .i64 (c+1) ∧
 xInv [.int .i64 (sum+x3),.int .i64 (c+1)]∧mu [.int .i64 (sum+x3),.int .i64 (c+1)]<mu [.int .i64 sum,.int .i64 c]))))))) ∧
 ((decide (c<(b3L:Int)))=false →
 R (.bool (sum==b0)) w))))))))
theorem p_spec_BandOk (b0 b1 b2 b3O b3L b3C b4O b4L b4C):PuV (V_spec_BandOk b0 b1 b2 b3O b3L b3C b4O b4L b4C) fn_spec_BandOk #[.agg #[.int .i64 b0,.int .i64 b1,.int .i64 b2,.slice b3O b3L b3C,.slice b4O b4L b4C]]:=pV [] false [(5,⟨[(3,.int .i64),(4,.int .i64)],[],[1],[],[]⟩)] Tryz.func216 (by kernel_rfl) (by kernel_rfl)
def V_spec_l8GroupOk (w0:Int) (w1O:Option Addr) (w1L w1C:Nat) (w2O:Option Addr) (w2L w2C:Nat) (w3O:Option Addr) (w3L w3C:Nat) (k:Int) (w:World) (R:Value→World→Prop):Prop :=
 (∀b,w.heap.size≤b →
 Ix w3O w3L k ∧
 (∃(x0:Bool) (x1:Int) (x2:ByteArray) (x3 x4 x5 x6 x7 x8 x9 x10:Int) (x11O:Option Addr) (x11L x11C:Nat) (x12O:Option Addr) (x12L x12C:Nat) (x13O:Option Addr) (x13L x13C:Nat),
 CellsX [] w w3O (Int.toNat k*14) [.bool x0,.int .i64 x1,.string x2,.int .i64 x3,.int .i64 x4,.int .i64 x5,.int .i64 x6,.int .i64 x7,.int .i64 x8,.int .i64 x9,.int .i64 x10,.slice x11O x11L x11C,.slice x12O x12L x12C,.slice x13O x13L x13C] ∧
 (∀b1,w.heap.size≤b1 →
 ((!x0)=true →
 (∃l8NoBa,
 (((((((((x1==0)&&(strEq x2 (ByteArray.mk [].toArray)))&&(x3==0))&&(x4==0))&&(x5==0))&&(x6==0))&&(x7==0))&&((x13L:Int)==0))=true→PureX [] Tryz.prog fn_spec_l8NoBand #[.agg #[.int .i64 x8,.int .i64 x9,.int .i64 x10,.slice x11O x11L x11C,.slice x12O x12L x12C]] w (.bool l8NoBa)) ∧
 R (.bool (((((((((x1==0)&&(strEq x2 (ByteArray.mk [].toArray)))&&(x3==0))&&(x4==0))&&(x5==0))&&(x6==0))&&(x7==0))&&((x13L:Int)==0))&&l8NoBa)) w)) ∧
 ((!x0)=false →
 (∃l1Weig,
 PureX [] Tryz.prog fn_spec_l1Weight #[.int .i64 x3] w (.bool l1Weig) ∧
 (∃xMaskOk,
 ((!l1Weig)=false→PureX [] Tryz.prog fn_spec_MaskOk #[.int .i64 x4] w (.bool xMaskOk)) ∧
 (∃l4Time,
 ((((!l1Weig)||(!xMaskOk))||(x4==0))=false→PureX [] Tryz.prog fn_spec_l4Time #[.int .i64 x7] w (.bool l4Time)) ∧
 ((((((!l1Weig)||(!xMaskOk))||(x4==0))||(!l4Time))||((x13L:Int) != (w1L:Int)))=true →
 R (.bool false) w) ∧
 ((((((!l1Weig)||(!xMaskOk))||(x4==0))||(!l4Time))||((x13L:Int) != (w1L:Int)))=false →
 (((k==0)&&(((x3 != 10)||(x4 != 15))||(x8 != 0)))=true →
 R (.bool false) w) ∧
 (((k==0)&&(((x3 != 10)||(x4 != 15))||(x8 != 0)))=false →
 ((x8==0)=true →
 (∃l8NoBa1,
 PureX [] Tryz.prog fn_spec_l8NoBand #[.agg #[.int .i64 x8,.int .i64 x9,.int .i64 x10,.slice x11O x11L x11C,.slice x12O x12L x12C]] w (.bool l8NoBa1) ∧
 R (.bool ((l8NoBa1&&(x5==0))&&(x6==0))) w)) ∧
 ((x8==0)=false →
 (∃xBandOk,
 PureX [] Tryz.prog fn_spec_BandOk #[.agg #[.int .i64 x8,.int .i64 x9,.int .i64 x10,.slice x11O x11L x11C,.slice x12O x12L x12C]] w (.bool xBandOk) ∧
 (∃l1In,
 ((xBandOk&&((x11L:Int)==(w1L:Int)))=true→PureX [] Tryz.prog fn_spec_l1In #[.int .i64 x5,.int .i64 1,.int .i64 1000] w (.bool l1In)) ∧
 ((((xBandOk&&((x11L:Int)==(w1L:Int)))&&l1In)&&(decide (x6>w0)))=true→InR .i64 (x6 - w0)) ∧
 R (.bool ((((xBandOk&&((x11L:Int)==(w1L:Int)))&&l1In)&&(decide (x6>w0)))&&(decide (x6 - w0≤x5)))) w))))))))))))
theorem p_spec_l8GroupOk (w0 w1O w1L w1C w2O w2L w2C w3O w3L w3C k):PuV (V_spec_l8GroupOk w0 w1O w1L w1C w2O w2L w2C w3O w3L w3C k) fn_spec_l8GroupOk #[.agg #[.int .i64 w0,.slice w1O w1L w1C,.slice w2O w2L w2C,.slice w3O w3L w3C],.int .i64 k]:=pV [] false [] Tryz.func161 (by kernel_rfl) (by kernel_rfl)
def V_spec_MaskHas (m cpu:Int) (w:World) (R:Value→World→Prop):Prop :=
 (∃xMaskOk,
 PureX [] Tryz.prog fn_spec_MaskOk #[.int .i64 m] w (.bool xMaskOk) ∧
 (∃l1In,
 (xMaskOk=true→PureX [] Tryz.prog fn_spec_l1In #[.int .i64 cpu,.int .i64 0,.int .i64 3] w (.bool l1In)) ∧
 ((xMaskOk&&l1In)=true→InR .u64 cpu) ∧
 ((xMaskOk&&l1In)=true→0≤cpu) ∧
 ((xMaskOk&&l1In)=true→(2:Int)≠0) ∧
 R (.bool ((xMaskOk&&l1In)&&((Int.tmod (Int.fdiv m (2 ^ (min (Int.toNat cpu) 64))) 2)==1))) w))
theorem p_spec_MaskHas (m cpu):PuV (V_spec_MaskHas m cpu) fn_spec_MaskHas #[.int .i64 m,.int .i64 cpu]:=pV [] false [] Tryz.func98 (by kernel_rfl) (by kernel_rfl)
def V_spec_MaskAnd (a b:Int) (w:World) (R:Value→World→Prop):Prop :=
 (∃xMaskOk,
 PureX [] Tryz.prog fn_spec_MaskOk #[.int .i64 a] w (.bool xMaskOk) ∧
 (∃xMaskOk1,
 ((!xMaskOk)=false→PureX [] Tryz.prog fn_spec_MaskOk #[.int .i64 b] w (.bool xMaskOk1)) ∧
 (((!xMaskOk)||(!xMaskOk1))=true →
 R (.int .i64 0) w) ∧
 (((!xMaskOk)||(!xMaskOk1))=false →
 (∃(xInv:List Value→Prop) (mu:List Value→Nat),xInv [.int .i64 0,.int .i64 0] ∧
 ∀(m c:Int),xInv [.int .i64 m,.int .i64 c] →
 ((decide (c<4))=true →
 (∃xMaskHa,
 PureX [] Tryz.prog fn_spec_MaskHas #[.int .i64 a,.int .i64 c] w (.bool xMaskHa) ∧
 (∃xMaskHa1,
 (xMaskHa=true→PureX [] Tryz.prog fn_spec_MaskHas #[.int .i64 b,.int .i64 c] w (.bool xMaskHa1)) ∧
 ((xMaskHa&&xMaskHa1)=true →
 InR .u64 c ∧
 (0≤c∧InR .i64 (1*2 ^ (min (Int.toNat c) 64))) ∧
 InR .i64 (m+(1*2 ^ (min (Int.toNat c) 64))) ∧
 InR .i64 (c+1) ∧
 xInv [.int .i64 (m+(1*2 ^ (min (Int.toNat c) 64))),.int .i64 (c+1)]∧mu [.int .i64 (m+(1*2 ^ (min (Int.toNat c) 64))),.int .i64 (c+1)]<mu [.int .i64 m,.int .i64 c]) ∧
 ((xMaskHa&&xMaskHa1)=false →
 InR .i64 (c+1) ∧
 xInv [.int .i64 m,.int .i64 (c+1)]∧mu [.int .i64 m,.int .i64 (c+1)]<mu [.int .i64 m,.int .i64 c])))) ∧
 ((decide (c<4))=false →
 R (.int .i64 m) w)))))
theorem p_spec_MaskAnd (a b):PuV (V_spec_MaskAnd a b) fn_spec_MaskAnd #[.int .i64 a,.int .i64 b]:=pV [] false [(5,⟨[(5,.int .i64),(6,.int .i64)],[],[0,1],[],[]⟩)] Tryz.func128 (by kernel_rfl) (by kernel_rfl)
def V_spec_l8Pins (w0:Int) (w1O:Option Addr) (w1L w1C:Nat) (w2O:Option Addr) (w2L w2C:Nat) (w3O:Option Addr) (w3L w3C:Nat) (g:Int) (w:World) (R:Value→World→Prop):Prop :=
 (∀b,w.heap.size≤b →
 Ix w3O w3L g ∧
 (∃cpus,
 CellsX [] w w3O (Int.toNat g*14+4) [.int .i64 cpus] ∧
 (∃(xInv:List Value→Prop) (mu:List Value→Nat),xInv [.int .i64 g,.int .i64 cpus] ∧
 ∀(g1 m:Int),xInv [.int .i64 g1,.int .i64 m] →
 ((g1 != 0)=true →
 Ix w3O w3L g1 ∧
 (∃parent,
 CellsX [] w w3O (Int.toNat g1*14+1) [.int .i64 parent] ∧
 Ix w3O w3L parent ∧
 (∃cpus1,
 CellsX [] w w3O (Int.toNat parent*14+4) [.int .i64 cpus1] ∧
 (∃xMaskAn,
 PureX [] Tryz.prog fn_spec_MaskAnd #[.int .i64 m,.int .i64 cpus1] w (.int .i64 xMaskAn) ∧
 xInv [.int .i64 parent,.int .i64 xMaskAn]∧mu [.int .i64 parent,.int .i64 xMaskAn]<mu [.int .i64 g1,.int .i64 m])))) ∧
 ((g1 != 0)=false →
 R (.int .i64 m) w))))
theorem p_spec_l8Pins (w0 w1O w1L w1C w2O w2L w2C w3O w3L w3C g):PuV (V_spec_l8Pins w0 w1O w1L w1C w2O w2L w2C w3O w3L w3C g) fn_spec_l8Pins #[.agg #[.int .i64 w0,.slice w1O w1L w1C,.slice w2O w2L w2C,.slice w3O w3L w3C],.int .i64 g]:=pV [] false [(2,⟨[(1,.int .i64),(5,.int .i64)],[],[2],[],[]⟩)] Tryz.func129 (by kernel_rfl) (by kernel_rfl)
def V_spec_l8Where (w0:Int) (w1O:Option Addr) (w1L w1C:Nat) (w2O:Option Addr) (w2L w2C:Nat) (w3O:Option Addr) (w3L w3C:Nat) (g mask:Int) (w:World) (R:Value→World→Prop):Prop :=
 (∀b,w.heap.size≤b →
 (∃l8Ups,
 PureX [] Tryz.prog fn_spec_l8Ups #[.agg #[.int .i64 w0,.slice w1O w1L w1C,.slice w2O w2L w2C,.slice w3O w3L w3C]] w (.int .i64 l8Ups) ∧
 (∃l8Pins,
 PureX [] Tryz.prog fn_spec_l8Pins #[.agg #[.int .i64 w0,.slice w1O w1L w1C,.slice w2O w2L w2C,.slice w3O w3L w3C],.int .i64 g] w (.int .i64 l8Pins) ∧
 (∃xMaskAn,
 PureX [] Tryz.prog fn_spec_MaskAnd #[.int .i64 l8Pins,.int .i64 l8Ups] w (.int .i64 xMaskAn) ∧
 (∃xMaskAn1,
 PureX [] Tryz.prog fn_spec_MaskAnd #[.int .i64 mask,.int .i64 xMaskAn] w (.int .i64 xMaskAn1) ∧
 ((xMaskAn1 != 0)=true →
 R (.int .i64 xMaskAn1) w) ∧
 ((xMaskAn1 != 0)=false →
 ((xMaskAn != 0)=true →
 R (.int .i64 xMaskAn) w) ∧
 ((xMaskAn != 0)=false →
 R (.int .i64 l8Ups) w)))))))
theorem p_spec_l8Where (w0 w1O w1L w1C w2O w2L w2C w3O w3L w3C g mask):PuV (V_spec_l8Where w0 w1O w1L w1C w2O w2L w2C w3O w3L w3C g mask) fn_spec_l8Where #[.agg #[.int .i64 w0,.slice w1O w1L w1C,.slice w2O w2L w2C,.slice w3O w3L w3C],.int .i64 g,.int .i64 mask]:=pV [] false [] Tryz.func57 (by kernel_rfl) (by kernel_rfl)
def V_spec_WeightOf (nice:Int) (w:World) (R:Value→World→Prop):Prop :=
 (∃l1In,
 PureX [] Tryz.prog fn_spec_l1In #[.int .i64 nice,.int .i64 (-10),.int .i64 9] w (.bool l1In) ∧
 ((!l1In)=true →
 R (.int .i64 0) w) ∧
 ((!l1In)=false →
 InR .i64 (10 - nice) ∧
 R (.int .i64 (10 - nice)) w))
theorem p_spec_WeightOf (nice):PuV (V_spec_WeightOf nice) fn_spec_WeightOf #[.int .i64 nice]:=pV [] false [] Tryz.func76 (by kernel_rfl) (by kernel_rfl)
def V_spec_VirtualStep (units weight:Int) (w:World) (R:Value→World→Prop):Prop :=
 (∃l1Weig,
 PureX [] Tryz.prog fn_spec_l1Weight #[.int .i64 weight] w (.bool l1Weig) ∧
 (∃l1In,
 ((!l1Weig)=false→PureX [] Tryz.prog fn_spec_l1In #[.int .i64 units,.int .i64 0,.int .i64 100000000] w (.bool l1In)) ∧
 (((!l1Weig)||(!l1In))=true →
 R (.int .i64 0) w) ∧
 (((!l1Weig)||(!l1In))=false →
 (weight≠0∧InR .i64 (Int.tdiv 232792560 weight)) ∧
 InR .i64 (units*(Int.tdiv 232792560 weight)) ∧
 R (.int .i64 (units*(Int.tdiv 232792560 weight))) w)))
theorem p_spec_VirtualStep (units weight):PuV (V_spec_VirtualStep units weight) fn_spec_VirtualStep #[.int .i64 units,.int .i64 weight]:=pV [] false [] Tryz.func170 (by kernel_rfl) (by kernel_rfl)
def V_spec_LagMost (weight:Int) (w:World) (R:Value→World→Prop):Prop :=
 (∃xVirtua,
 PureX [] Tryz.prog fn_spec_VirtualStep #[.int .i64 149,.int .i64 weight] w (.int .i64 xVirtua) ∧
 R (.int .i64 xVirtua) w)
theorem p_spec_LagMost (weight):PuV (V_spec_LagMost weight) fn_spec_LagMost #[.int .i64 weight]:=pV [] false [] Tryz.func207 (by kernel_rfl) (by kernel_rfl)
def V_spec_l8Stand (v floor weight:Int) (w:World) (R:Value→World→Prop):Prop :=
 (∃d,
 ((decide (v≥floor))=true→(∀wq,((do eqGuard .sub ty_int (.tmp 11) (.tmp 12) (.int .i64 v) (.int .i64 floor); binOp .sub ty_int (.int .i64 v) (.int .i64 floor)):Sem Value).run Tryz.prog wq = .ok (.int .i64 d) wq)) ∧
 (∃xLagMos,
 ((decide (v≥floor))=true→PureX [] Tryz.prog fn_spec_LagMost #[.int .i64 weight] w (.int .i64 xLagMos)) ∧
 R (.bool ((decide (v≥floor))&&(decide (d≤xLagMos)))) w))
theorem p_spec_l8Stand (v floor weight):PuV (V_spec_l8Stand v floor weight) fn_spec_l8Stand #[.int .i64 v,.int .i64 floor,.int .i64 weight]:=pV [] true [] Tryz.func217 (by kernel_rfl) (by kernel_rfl)
def V_spec_l8TaskOk (w0:Int) (w1O:Option Addr) (w1L w1C:Nat) (w2O:Option Addr) (w2L w2C:Nat) (w3O:Option Addr) (w3L w3C:Nat) (t:Int) (w:World) (R:Value→World→Prop):Prop :=
 (∀b,w.heap.size≤b →
 Ix w2O w2L t ∧
 (∃x0 x1 x2 x3 x4 x5 x6 x7 x8,
 CellsX [] w w2O (Int.toNat t*9) [.int .i64 x0,.int .i64 x1,.int .i64 x2,.int .i64 x3,.int .i64 x4,.int .i64 x5,.int .i64 x6,.int .i64 x7,.int .i64 x8] ∧
 (∀b1,w.heap.size≤b1 →
 ((x0==0)=true →
 (∃eq,
 (∀wq,((do eqGuard .eql ty_impl_Task (.tmp 14) (.tmp 15) (.agg #[.int .i64 x0,.int .i64 x1,.int .i64 x2,.int .i64 x3,.int .i64 x4,.int .i64 x5,.int .i64 x6,.int .i64 x7,.int .i64 x8]) (.agg #[.int .i64 0,.int .i64 0,.int .i64 0,.int .i64 0,.int .i64 0,.int .i64 0,.int .i64 0,.int .i64 0,.int .i64 0]); binOp .eql ty_impl_Task (.agg #[.int .i64 x0,.int .i64 x1,.int .i64 x2,.int .i64 x3,.int .i64 x4,.int .i64 x5,.int .i64 x6,.int .i64 x7,.int .i64 x8]) (.agg #[.int .i64 0,.int .i64 0,.int .i64 0,.int .i64 0,.int .i64 0,.int .i64 0,.int .i64 0,.int .i64 0,.int .i64 0])):Sem Value).run Tryz.prog wq = .ok (.bool eq) wq) ∧
 R (.bool eq) w)) ∧
 ((x0==0)=false →
 (∃l6Used,
 (((x0 != 1)&&(x0 != 2))=false→PureX [] Tryz.prog fn_spec_l6Used #[.slice w3O w3L w3C,.int .i64 x1] w (.bool l6Used)) ∧
 (∃xWeight,
 ((((x0 != 1)&&(x0 != 2))||(!l6Used))=false→PureX [] Tryz.prog fn_spec_WeightOf #[.int .i64 x3] w (.int .i64 xWeight)) ∧
 (∃xMaskOk,
 (((((x0 != 1)&&(x0 != 2))||(!l6Used))||(xWeight==0))=false→PureX [] Tryz.prog fn_spec_MaskOk #[.int .i64 x4] w (.bool xMaskOk)) ∧
 (((((((x0 != 1)&&(x0 != 2))||(!l6Used))||(xWeight==0))||(!xMaskOk))||(x4==0))=true →
 R (.bool false) w) ∧
 (((((((x0 != 1)&&(x0 != 2))||(!l6Used))||(xWeight==0))||(!xMaskOk))||(x4==0))=false →
 (∃l4Time,
 PureX [] Tryz.prog fn_spec_l4Time #[.int .i64 x5] w (.bool l4Time) ∧
 (∃l4Time1,
 ((!l4Time)=false→PureX [] Tryz.prog fn_spec_l4Time #[.int .i64 x6] w (.bool l4Time1)) ∧
 (∃l4Time2,
 (((!l4Time)||(!l4Time1))=false→PureX [] Tryz.prog fn_spec_l4Time #[.int .i64 x7] w (.bool l4Time2)) ∧
 (∃l1In,
 ((((!l4Time)||(!l4Time1))||(!l4Time2))=false→PureX [] Tryz.prog fn_spec_l1In #[.int .i64 x8,.int .i64 0,.int .i64 8000000] w (.bool l1In)) ∧
 (∃l8Wher,
 (((((!l4Time)||(!l4Time1))||(!l4Time2))||(!l1In))=false→PureX [] Tryz.prog fn_spec_l8Where #[.agg #[.int .i64 w0,.slice w1O w1L w1C,.slice w2O w2L w2C,.slice w3O w3L w3C],.int .i64 x1,.int .i64 x4] w (.int .i64 l8Wher)) ∧
 (∃xMaskHa,
 (((((!l4Time)||(!l4Time1))||(!l4Time2))||(!l1In))=false→PureX [] Tryz.prog fn_spec_MaskHas #[.int .i64 l8Wher,.int .i64 x2] w (.bool xMaskHa)) ∧
 ((((((!l4Time)||(!l4Time1))||(!l4Time2))||(!l1In))||(!xMaskHa))=true →
 R (.bool false) w) ∧
 ((((((!l4Time)||(!l4Time1))||(!l4Time2))||(!l1In))||(!xMaskHa))=false →
 ((x0==2)=false→Ix w3O w3L x1) ∧
 (∃shelvesO shelvesL shelvesC,
 ((x0==2)=false→CellsX [] w w3O (Int.toNat x1*14+13) [.slice shelvesO shelvesL shelvesC]) ∧
 ((x0==2)=false→Ix shelvesO shelvesL x2) ∧
 (∃floor,
 ((x0==2)=false→CellsX [] w shelvesO (Int.toNat x2*5+0) [.int .i64 floor]) ∧
 (∃xWeight1,
 ((x0==2)=false→PureX [] Tryz.prog fn_spec_WeightOf #[.int .i64 x3] w (.int .i64 xWeight1)) ∧
 (∃l8Stan,
 ((x0==2)=false→PureX [] Tryz.prog fn_spec_l8Stand #[.int .i64 x5,.int .i64 floor,.int .i64 xWeight1] w (.bool l8Stan)) ∧
 R (.bool ((x0==2)||l8Stan)) w)))))))))))))))))))
theorem p_spec_l8TaskOk (w0 w1O w1L w1C w2O w2L w2C w3O w3L w3C t):PuV (V_spec_l8TaskOk w0 w1O w1L w1C w2O w2L w2C w3O w3L w3C t) fn_spec_l8TaskOk #[.agg #[.int .i64 w0,.slice w1O w1L w1C,.slice w2O w2L w2C,.slice w3O w3L w3C],.int .i64 t]:=pV [] false [] Tryz.func162 (by kernel_rfl) (by kernel_rfl)
def V_spec_l8Queued (w0:Int) (w1O:Option Addr) (w1L w1C:Nat) (w2O:Option Addr) (w2L w2C:Nat) (w3O:Option Addr) (w3L w3C:Nat) (g c:Int) (w:World) (R:Value→World→Prop):Prop :=
 (∀b,w.heap.size≤b →
 Ix w3O w3L g ∧
 (∃shelvesO shelvesL shelvesC,
 CellsX [] w w3O (Int.toNat g*14+13) [.slice shelvesO shelvesL shelvesC] ∧
 Ix shelvesO shelvesL c ∧
 (∃onv,
 CellsX [] w shelvesO (Int.toNat c*5+1) [.bool onv] ∧
 R (.bool onv) w)))
theorem p_spec_l8Queued (w0 w1O w1L w1C w2O w2L w2C w3O w3L w3C g c):PuV (V_spec_l8Queued w0 w1O w1L w1C w2O w2L w2C w3O w3L w3C g c) fn_spec_l8Queued #[.agg #[.int .i64 w0,.slice w1O w1L w1C,.slice w2O w2L w2C,.slice w3O w3L w3C],.int .i64 g,.int .i64 c]:=pV [] false [] Tryz.func179 (by kernel_rfl) (by kernel_rfl)
def V_spec_l8Active (w0:Int) (w1O:Option Addr) (w1L w1C:Nat) (w2O:Option Addr) (w2L w2C:Nat) (w3O:Option Addr) (w3L w3C:Nat) (g c:Int) (w:World) (R:Value→World→Prop):Prop :=
 (∀b,w.heap.size≤b →
 (∃(xInv:List Value→Prop) (mu:List Value→Nat),xInv [.int .i64 0] ∧
 ∀(t:Int),xInv [.int .i64 t] →
 ((decide (t<(w2L:Int)))=true →
 Ix w2O w2L t ∧
 (∃state,
 CellsX [] w w2O (Int.toNat t*9+0) [.int .i64 state] ∧
 ((state==1)=true→Ix w2O w2L t) ∧
 (∃group,
 ((state==1)=true→CellsX [] w w2O (Int.toNat t*9+1) [.int .i64 group]) ∧
 (((state==1)&&(group==g))=true→Ix w2O w2L t) ∧
 (∃cpu,
 (((state==1)&&(group==g))=true→CellsX [] w w2O (Int.toNat t*9+2) [.int .i64 cpu]) ∧
 ((((state==1)&&(group==g))&&(cpu==c))=true →
 R (.bool true) w) ∧
 ((((state==1)&&(group==g))&&(cpu==c))=false →
 InR .i64 (t+1) ∧
 xInv [.int .i64 (t+1)]∧mu [.int .i64 (t+1)]<mu [.int .i64 t]))))) ∧
 ((decide (t<(w2L:Int)))=false →
 (∃(xInv1:List Value→Prop) (mu1:List Value→Nat),xInv1 [.int .i64 1] ∧
 ∀(h:Int),xInv1 [.int .i64 h] →
 ((decide (h<(w3L:Int)))=true →
 Ix w3O w3L h ∧
 (∃used,
 CellsX [] w w3O (Int.toNat h*14+0) [.bool used] ∧
 (used=true→Ix w3O w3L h) ∧
 (∃parent,
 (used=true→CellsX [] w w3O (Int.toNat h*14+1) [.int .i64 parent]) ∧
 (∃l8Queu,
 ((used&&(parent==g))=true→PureX [] Tryz.prog fn_spec_l8Queued #[.agg #[.int .i64 w0,.slice w1O w1L w1C,.slice w2O w2L w2C,.slice w3O w3L w3C],.int .i64 h,.int .i64 c] w (.bool l8Queu)) ∧
 (((used&&(parent==g))&&l8Queu)=true →
 R (.bool true) w) ∧
 (((used&&(parent==g))&&l8Queu)=false →
 InR .i64 (h+1) ∧
 xInv1 [.int .i64 (h+1)]∧mu1 [.int .i64 (h+1)]<mu1 [.int .i64 h]))))) ∧
 ((decide (h<(w3L:Int)))=false →
 R (.bool false) w)))))
theorem p_spec_l8Active (w0 w1O w1L w1C w2O w2L w2C w3O w3L w3C g c):PuV (V_spec_l8Active w0 w1O w1L w1C w2O w2L w2C w3O w3L w3C g c) fn_spec_l8Active #[.agg #[.int .i64 w0,.slice w1O w1L w1C,.slice w2O w2L w2C,.slice w3O w3L w3C],.int .i64 g,.int .i64 c]:=pV [] false [(2,⟨[(7,.int .i64)],[],[1,2,3],[],[]⟩),(7,⟨[(8,.int .i64)],[],[1,2,3],[],[]⟩)] Tryz.func176 (by kernel_rfl) (by kernel_rfl)
def V_spec_l8Dry (w0:Int) (w1O:Option Addr) (w1L w1C:Nat) (w2O:Option Addr) (w2L w2C:Nat) (w3O:Option Addr) (w3L w3C:Nat) (g c:Int) (w:World) (R:Value→World→Prop):Prop :=
 (∀b,w.heap.size≤b →
 Ix w3O w3L g ∧
 (∃band0 band1 band2 band3O band3L band3C band4O band4L band4C,
 CellsX [] w w3O (Int.toNat g*14+8) [.int .i64 band0,.int .i64 band1,.int .i64 band2,.slice band3O band3L band3C,.slice band4O band4L band4C] ∧
 (∀b1,w.heap.size≤b1 →
 ((decide (band0>0))=true→Ix band4O band4L c) ∧
 (∃x,
 ((decide (band0>0))=true→CellsX [] w band4O (Int.toNat c*1) [.bool x]) ∧
 R (.bool ((decide (band0>0))&&x)) w))))
theorem p_spec_l8Dry (w0 w1O w1L w1C w2O w2L w2C w3O w3L w3C g c):PuV (V_spec_l8Dry w0 w1O w1L w1C w2O w2L w2C w3O w3L w3C g c) fn_spec_l8Dry #[.agg #[.int .i64 w0,.slice w1O w1L w1C,.slice w2O w2L w2C,.slice w3O w3L w3C],.int .i64 g,.int .i64 c]:=pV [] false [] Tryz.func177 (by kernel_rfl) (by kernel_rfl)
def V_spec_l8ShelfOk (w0:Int) (w1O:Option Addr) (w1L w1C:Nat) (w2O:Option Addr) (w2L w2C:Nat) (w3O:Option Addr) (w3L w3C:Nat) (k c:Int) (w:World) (R:Value→World→Prop):Prop :=
 (∀b,w.heap.size≤b →
 Ix w3O w3L k ∧
 (∃(x0:Bool) (x1:Int) (x2:ByteArray) (x3 x4 x5 x6 x7 x8 x9 x10:Int) (x11O:Option Addr) (x11L x11C:Nat) (x12O:Option Addr) (x12L x12C:Nat) (x13O:Option Addr) (x13L x13C:Nat),
 CellsX [] w w3O (Int.toNat k*14) [.bool x0,.int .i64 x1,.string x2,.int .i64 x3,.int .i64 x4,.int .i64 x5,.int .i64 x6,.int .i64 x7,.int .i64 x8,.int .i64 x9,.int .i64 x10,.slice x11O x11L x11C,.slice x12O x12L x12C,.slice x13O x13L x13C] ∧
 (∀b1,w.heap.size≤b1 →
 Ix x13O x13L c ∧
 (∃x01 x14 x21 x31 x41,
 CellsX [] w x13O (Int.toNat c*5) [.int .i64 x01,.bool x14,.int .i64 x21,.int .i64 x31,.int .i64 x41] ∧
 (∀b2,w.heap.size≤b2 →
 (∃l4Time,
 PureX [] Tryz.prog fn_spec_l4Time #[.int .i64 x01] w (.bool l4Time) ∧
 (∃l4Time1,
 ((!l4Time)=false→PureX [] Tryz.prog fn_spec_l4Time #[.int .i64 x21] w (.bool l4Time1)) ∧
 (∃l4Time2,
 (((!l4Time)||(!l4Time1))=false→PureX [] Tryz.prog fn_spec_l4Time #[.int .i64 x41] w (.bool l4Time2)) ∧
 (∃l1Weig,
 ((((!l4Time)||(!l4Time1))||(!l4Time2))=false→PureX [] Tryz.prog fn_spec_l1Weight #[.int .i64 x31] w (.bool l1Weig)) ∧
 (((((!l4Time)||(!l4Time1))||(!l4Time2))||(!l1Weig))=true →
 R (.bool false) w) ∧
 (((((!l4Time)||(!l4Time1))||(!l4Time2))||(!l1Weig))=false →
 ((k==0)=true →
 R (.bool (((!x14)&&(x21==0))&&(x31==10))) w) ∧
 ((k==0)=false →
 (∃l8Acti,
 PureX [] Tryz.prog fn_spec_l8Active #[.agg #[.int .i64 w0,.slice w1O w1L w1C,.slice w2O w2L w2C,.slice w3O w3L w3C],.int .i64 k,.int .i64 c] w (.bool l8Acti) ∧
 (∃l8Dry,
 (l8Acti=true→PureX [] Tryz.prog fn_spec_l8Dry #[.agg #[.int .i64 w0,.slice w1O w1L w1C,.slice w2O w2L w2C,.slice w3O w3L w3C],.int .i64 k,.int .i64 c] w (.bool l8Dry)) ∧
 ((!(x14==(l8Acti&&(!l8Dry))))=true →
 R (.bool false) w) ∧
 ((!(x14==(l8Acti&&(!l8Dry))))=false →
 ((!x14)=false→Ix w3O w3L x1) ∧
 (∃shelvesO shelvesL shelvesC,
 ((!x14)=false→CellsX [] w w3O (Int.toNat x1*14+13) [.slice shelvesO shelvesL shelvesC]) ∧
 ((!x14)=false→Ix shelvesO shelvesL c) ∧
 (∃floor,
 ((!x14)=false→CellsX [] w shelvesO (Int.toNat c*5+0) [.int .i64 floor]) ∧
 (∃l8Stan,
 ((!x14)=false→PureX [] Tryz.prog fn_spec_l8Stand #[.int .i64 x21,.int .i64 floor,.int .i64 x31] w (.bool l8Stan)) ∧
 R (.bool ((!x14)||l8Stan)) w)))))))))))))))))
theorem p_spec_l8ShelfOk (w0 w1O w1L w1C w2O w2L w2C w3O w3L w3C k c):PuV (V_spec_l8ShelfOk w0 w1O w1L w1C w2O w2L w2C w3O w3L w3C k c) fn_spec_l8ShelfOk #[.agg #[.int .i64 w0,.slice w1O w1L w1C,.slice w2O w2L w2C,.slice w3O w3L w3C],.int .i64 k,.int .i64 c]:=pV [] false [] Tryz.func163 (by kernel_rfl) (by kernel_rfl)
def V_spec_l8InLine (w0:Int) (w1O:Option Addr) (w1L w1C:Nat) (w2O:Option Addr) (w2L w2C:Nat) (w3O:Option Addr) (w3L w3C:Nat) (t:Int) (w:World) (R:Value→World→Prop):Prop :=
 (∀b,w.heap.size≤b →
 Ix w2O w2L t ∧
 (∃x0 x1 x2 x3 x4 x5 x6 x7 x8,
 CellsX [] w w2O (Int.toNat t*9) [.int .i64 x0,.int .i64 x1,.int .i64 x2,.int .i64 x3,.int .i64 x4,.int .i64 x5,.int .i64 x6,.int .i64 x7,.int .i64 x8] ∧
 (∀b1,w.heap.size≤b1 →
 ((x0 != 1)=true →
 R (.bool false) w) ∧
 ((x0 != 1)=false →
 (∃(xInv:List Value→Prop) (mu:List Value→Nat),xInv [.int .i64 x1] ∧
 ∀(g:Int),xInv [.int .i64 g] →
 ((g != 0)=true →
 (∃l8Queu,
 PureX [] Tryz.prog fn_spec_l8Queued #[.agg #[.int .i64 w0,.slice w1O w1L w1C,.slice w2O w2L w2C,.slice w3O w3L w3C],.int .i64 g,.int .i64 x2] w (.bool l8Queu) ∧
 ((!l8Queu)=true →
 R (.bool false) w) ∧
 ((!l8Queu)=false →
 Ix w3O w3L g ∧
 (∃parent,
 CellsX [] w w3O (Int.toNat g*14+1) [.int .i64 parent] ∧
 xInv [.int .i64 parent]∧mu [.int .i64 parent]<mu [.int .i64 g])))) ∧
 ((g != 0)=false →
 R (.bool true) w))))))
theorem p_spec_l8InLine (w0 w1O w1L w1C w2O w2L w2C w3O w3L w3C t):PuV (V_spec_l8InLine w0 w1O w1L w1C w2O w2L w2C w3O w3L w3C t) fn_spec_l8InLine #[.agg #[.int .i64 w0,.slice w1O w1L w1C,.slice w2O w2L w2C,.slice w3O w3L w3C],.int .i64 t]:=pV [] false [(5,⟨[(6,.int .i64)],[],[2,5],[],[]⟩)] Tryz.func102 (by kernel_rfl) (by kernel_rfl)
def V_spec_l8Stayed (w0:Int) (w1O:Option Addr) (w1L w1C:Nat) (w2O:Option Addr) (w2L w2C:Nat) (w3O:Option Addr) (w3L w3C:Nat) (c:Int) (w:World) (R:Value→World→Prop):Prop :=
 (∀b,w.heap.size≤b →
 Ix w1O w1L c ∧
 (∃x0 x1 x2 x3 x4,
 CellsX [] w w1O (Int.toNat c*5) [.bool x0,.int .i64 x1,.int .i64 x2,.int .i64 x3,.int .i64 x4] ∧
 (∀b1,w.heap.size≤b1 →
 Ix w2O w2L x1 ∧
 (∃x01 x11 x21 x31 x41 x5 x6 x7 x8,
 CellsX [] w w2O (Int.toNat x1*9) [.int .i64 x01,.int .i64 x11,.int .i64 x21,.int .i64 x31,.int .i64 x41,.int .i64 x5,.int .i64 x6,.int .i64 x7,.int .i64 x8] ∧
 (∀b2,w.heap.size≤b2 →
 Ix w3O w3L x11 ∧
 (∃shelvesO shelvesL shelvesC,
 CellsX [] w w3O (Int.toNat x11*14+13) [.slice shelvesO shelvesL shelvesC] ∧
 Ix shelvesO shelvesL c ∧
 (∃floor,
 CellsX [] w shelvesO (Int.toNat c*5+0) [.int .i64 floor] ∧
 InR .i64 (x5 - floor) ∧
 (∃xWeight,
 PureX [] Tryz.prog fn_spec_WeightOf #[.int .i64 x31] w (.int .i64 xWeight) ∧
 (∃xVirtua,
 PureX [] Tryz.prog fn_spec_VirtualStep #[.int .i64 x2,.int .i64 xWeight] w (.int .i64 xVirtua) ∧
 ((decide (x5 - floor>xVirtua))=true →
 R (.bool false) w) ∧
 ((decide (x5 - floor>xVirtua))=false →
 (∃(xInv:List Value→Prop) (mu:List Value→Nat),xInv [.int .i64 x11] ∧
 ∀(g:Int),xInv [.int .i64 g] →
 ((g != 0)=true →
 Ix w3O w3L g ∧
 (∃shelves1O shelves1L shelves1C,
 CellsX [] w w3O (Int.toNat g*14+13) [.slice shelves1O shelves1L shelves1C] ∧
 Ix shelves1O shelves1L c ∧
 (∃x02 x12 x22 x32 x42,
 CellsX [] w shelves1O (Int.toNat c*5) [.int .i64 x02,.bool x12,.int .i64 x22,.int .i64 x32,.int .i64 x42] ∧
 (∀b3,w.heap.size≤b3 →
 Ix w3O w3L g ∧
 (∃parent,
 CellsX [] w w3O (Int.toNat g*14+1) [.int .i64 parent] ∧
 Ix w3O w3L parent ∧
 (∃shelves2O shelves2L shelves2C,
 CellsX [] w w3O (Int.toNat parent*14+13) [.slice shelves2O shelves2L shelves2C] ∧
 Ix shelves2O shelves2L c ∧
 (∃floor1,
 CellsX [] w shelves2O (Int.toNat c*5+0) [.int .i64 floor1] ∧
 InR .i64 (x22 - floor1) ∧
 (∃xVirtua1,
 PureX [] Tryz.prog fn_spec_VirtualStep #[.int .i64 x2,.int .i64 x32] w (.int .i64 xVirtua1) ∧
 ((decide (x22 - floor1>xVirtua1))=true →
 R (.bool false) w) ∧
 ((decide (x22 - floor1>xVirtua1))=false →
 Ix w3O w3L g ∧
 (∃parent1,
 CellsX [] w w3O (Int.toNat g*14+1) [.int .i64 parent1] ∧
 xInv [.int .i64 parent1]∧mu [.int .i64 parent1]<mu [.int .i64 g])))))))))) ∧
 ((g != 0)=false →
 R (.bool true) w))))))))))))
theorem p_spec_l8Stayed (w0 w1O w1L w1C w2O w2L w2C w3O w3L w3C c):PuV (V_spec_l8Stayed w0 w1O w1L w1C w2O w2L w2C w3O w3L w3C c) fn_spec_l8Stayed #[.agg #[.int .i64 w0,.slice w1O w1L w1C,.slice w2O w2L w2C,.slice w3O w3L w3C],.int .i64 c]:=pV [] false [(6,⟨[(7,.int .i64)],[],[1,2,5],[],[]⟩)] Tryz.func218 (by kernel_rfl) (by kernel_rfl)
def V_spec_l8CpuOk (w0:Int) (w1O:Option Addr) (w1L w1C:Nat) (w2O:Option Addr) (w2L w2C:Nat) (w3O:Option Addr) (w3L w3C:Nat) (c:Int) (w:World) (R:Value→World→Prop):Prop :=
 (∀b,w.heap.size≤b →
 Ix w1O w1L c ∧
 (∃x0 x1 x2 x3 x4,
 CellsX [] w w1O (Int.toNat c*5) [.bool x0,.int .i64 x1,.int .i64 x2,.int .i64 x3,.int .i64 x4] ∧
 (∀b1,w.heap.size≤b1 →
 (∃l4Time,
 PureX [] Tryz.prog fn_spec_l4Time #[.int .i64 x3] w (.bool l4Time) ∧
 (∃l4Time1,
 ((!l4Time)=false→PureX [] Tryz.prog fn_spec_l4Time #[.int .i64 x4] w (.bool l4Time1)) ∧
 (((!l4Time)||(!l4Time1))=false→InR .i64 ((w2L:Int) - 1)) ∧
 (∃l1In,
 (((!l4Time)||(!l4Time1))=false→PureX [] Tryz.prog fn_spec_l1In #[.int .i64 x1,.int .i64 (-1),.int .i64 ((w2L:Int) - 1)] w (.bool l1In)) ∧
 ((((!l4Time)||(!l4Time1))||(!l1In))=true →
 R (.bool false) w) ∧
 ((((!l4Time)||(!l4Time1))||(!l1In))=false →
 ((decide (x1<0))=true →
 R (.bool (x2==0)) w) ∧
 ((decide (x1<0))=false →
 (∃l1In1,
 (x0=true→PureX [] Tryz.prog fn_spec_l1In #[.int .i64 x2,.int .i64 1,.int .i64 149] w (.bool l1In1)) ∧
 ((x0&&l1In1)=true→Ix w2O w2L x1) ∧
 (∃cpu,
 ((x0&&l1In1)=true→CellsX [] w w2O (Int.toNat x1*9+2) [.int .i64 cpu]) ∧
 (∃l8InLi,
 (((x0&&l1In1)&&(cpu==c))=true→PureX [] Tryz.prog fn_spec_l8InLine #[.agg #[.int .i64 w0,.slice w1O w1L w1C,.slice w2O w2L w2C,.slice w3O w3L w3C],.int .i64 x1] w (.bool l8InLi)) ∧
 (∃l8Stay,
 ((((x0&&l1In1)&&(cpu==c))&&l8InLi)=true→PureX [] Tryz.prog fn_spec_l8Stayed #[.agg #[.int .i64 w0,.slice w1O w1L w1C,.slice w2O w2L w2C,.slice w3O w3L w3C],.int .i64 c] w (.bool l8Stay)) ∧
 R (.bool ((((x0&&l1In1)&&(cpu==c))&&l8InLi)&&l8Stay)) w))))))))))))
theorem p_spec_l8CpuOk (w0 w1O w1L w1C w2O w2L w2C w3O w3L w3C c):PuV (V_spec_l8CpuOk w0 w1O w1L w1C w2O w2L w2C w3O w3L w3C c) fn_spec_l8CpuOk #[.agg #[.int .i64 w0,.slice w1O w1L w1C,.slice w2O w2L w2C,.slice w3O w3L w3C],.int .i64 c]:=pV [] false [] Tryz.func164 (by kernel_rfl) (by kernel_rfl)
def V_spec_WorldOk (w0:Int) (w1O:Option Addr) (w1L w1C:Nat) (w2O:Option Addr) (w2L w2C:Nat) (w3O:Option Addr) (w3L w3C:Nat) (w:World) (R:Value→World→Prop):Prop :=
 (∀b,w.heap.size≤b →
 (∃l1In,
 PureX [] Tryz.prog fn_spec_l1In #[.int .i64 w0,.int .i64 0,.int .i64 100000000000000000] w (.bool l1In) ∧
 (∃l1In1,
 ((!l1In)=false→PureX [] Tryz.prog fn_spec_l1In #[.int .i64 (w1L:Int),.int .i64 1,.int .i64 4] w (.bool l1In1)) ∧
 (∃xTreeOk,
 ((((!l1In)||(!l1In1))||((w2L:Int) != 12))=false→PureX [] Tryz.prog fn_spec_TreeOk #[.slice w3O w3L w3C] w (.bool xTreeOk)) ∧
 (∃l8Ups,
 (((((!l1In)||(!l1In1))||((w2L:Int) != 12))||(!xTreeOk))=false→PureX [] Tryz.prog fn_spec_l8Ups #[.agg #[.int .i64 w0,.slice w1O w1L w1C,.slice w2O w2L w2C,.slice w3O w3L w3C]] w (.int .i64 l8Ups)) ∧
 ((((((!l1In)||(!l1In1))||((w2L:Int) != 12))||(!xTreeOk))||(l8Ups==0))=true →
 R (.bool false) w) ∧
 ((((((!l1In)||(!l1In1))||((w2L:Int) != 12))||(!xTreeOk))||(l8Ups==0))=false →
 (∃(xInv:List Value→Prop) (mu:List Value→Nat),xInv [.int .i64 0] ∧
 ∀(k:Int),xInv [.int .i64 k] →
 ((decide (k<(w3L:Int)))=true →
 (∃l8Grou,
 PureX [] Tryz.prog fn_spec_l8GroupOk #[.agg #[.int .i64 w0,.slice w1O w1L w1C,.slice w2O w2L w2C,.slice w3O w3L w3C],.int .i64 k] w (.bool l8Grou) ∧
 ((!l8Grou)=true →
 R (.bool false) w) ∧
 ((!l8Grou)=false →
 InR .i64 (k+1) ∧
 xInv [.int .i64 (k+1)]∧mu [.int .i64 (k+1)]<mu [.int .i64 k]))) ∧
 ((decide (k<(w3L:Int)))=false →
 (∃(xInv1:List Value→Prop) (mu1:List Value→Nat),xInv1 [.int .i64 0] ∧
 ∀(t:Int),xInv1 [.int .i64 t] →
 ((decide (t<(w2L:Int)))=true →
 (∃l8Task,
 PureX [] Tryz.prog fn_spec_l8TaskOk #[.agg #[.int .i64 w0,.slice w1O w1L w1C,.slice w2O w2L w2C,.slice w3O w3L w3C],.int .i64 t] w (.bool l8Task) ∧
 ((!l8Task)=true →
 R (.bool false) w) ∧
 ((!l8Task)=false →
 InR .i64 (t+1) ∧
 xInv1 [.int .i64 (t+1)]∧mu1 [.int .i64 (t+1)]<mu1 [.int .i64 t]))) ∧
 ((decide (t<(w2L:Int)))=false →
 (∃(xInv2:List Value→Prop) (mu2:List Value→Nat),xInv2 [.int .i64 0] ∧
 ∀(k1:Int),xInv2 [.int .i64 k1] →
 ((decide (k1<(w3L:Int)))=true →
 (∃(xInv3:List Value→Prop) (mu3:List Value→Nat),xInv3 [.int .i64 0] ∧
 ∀(c:Int),xInv3 [.int .i64 c] →
 Ix w3O w3L k1 ∧
 (∃shelvesO shelvesL shelvesC,
 CellsX [] w w3O (Int.toNat k1*14+13) [.slice shelvesO shelvesL shelvesC] ∧
 ((decide (c<(shelvesL:Int)))=true →
 (∃l8Shel,
 PureX [] Tryz.prog fn_spec_l8ShelfOk #[.agg #[.int .i64 w0,.slice w1O w1L w1C,.slice w2O w2L w2C,.slice w3O w3L w3C],.int .i64 k1,.int .i64 c] w (.bool l8Shel) ∧
 ((!l8Shel)=true →
 R (.bool false) w) ∧
 ((!l8Shel)=false →
 InR .i64 (c+1) ∧
 xInv3 [.int .i64 (c+1)]∧mu3 [.int .i64 (c+1)]<mu3 [.int .i64 c]))) ∧
 ((decide (c<(shelvesL:Int)))=false →
 InR .i64 (k1+1) ∧
 xInv2 [.int .i64 (k1+1)]∧mu2 [.int .i64 (k1+1)]<mu2 [.int .i64 k1])))) ∧
 ((decide (k1<(w3L:Int)))=false →
 (∃(xInv4:List Value→Prop) (mu4:List Value→Nat),xInv4 [.int .i64 0] ∧
 ∀(c1:Int),xInv4 [.int .i64 c1] →
 ((decide (c1<(w1L:Int)))=true →
 (∃l8CpuO,
 PureX [] Tryz.prog fn_spec_l8CpuOk #[.agg #[.int .i64 w0,.slice w1O w1L w1C,.slice w2O w2L w2C,.slice w3O w3L w3C],.int .i64 c1] w (.bool l8CpuO) ∧
 ((!l8CpuO)=true →
 R (.bool false) w) ∧
 ((!l8CpuO)=false →
 InR .i64 (c1+1) ∧
 xInv4 [.int .i64 (c1+1)]∧mu4 [.int .i64 (c1+1)]<mu4 [.int .i64 c1]))) ∧
 ((decide (c1<(w1L:Int)))=false →
 R (.bool true) w))))))))))))))
theorem p_spec_WorldOk (w0 w1O w1L w1C w2O w2L w2C w3O w3L w3C):PuV (V_spec_WorldOk w0 w1O w1L w1C w2O w2L w2C w3O w3L w3C) fn_spec_WorldOk #[.agg #[.int .i64 w0,.slice w1O w1L w1C,.slice w2O w2L w2C,.slice w3O w3L w3C]]:=pV [] false [(4,⟨[(3,.int .i64)],[],[1],[],[]⟩),(9,⟨[(4,.int .i64)],[],[1],[],[]⟩),(14,⟨[(5,.int .i64)],[],[1],[],[]⟩),(17,⟨[(6,.int .i64)],[],[1,5],[],[]⟩),(22,⟨[(7,.int .i64)],[],[1],[],[]⟩)] Tryz.func87 (by kernel_rfl) (by kernel_rfl)
def V_spec_l5Own (b0 b1 b2:Int) (b3O:Option Addr) (b3L b3C:Nat) (b4O:Option Addr) (b4L b4C:Nat) (w:World) (R:Value→World→Prop):Prop :=
 (∀b,w.heap.size≤b →
 (∀b5,w.heap.size≤b5 →
 (∀b6,w.heap.size≤b6 →
 (∃(xInv1:List Value→World→Prop) (mu1:List Value→World→Nat),(∀wr2,ExtX [] w wr2→(∀bq∈([b,b5,b6]:List Nat),bq<wr2.heap.size)→xInv1 [.int .i64 0,.int .i64 b0,.int .i64 b1,.int .i64 b2,.slice none 0 0,.slice none 0 0] wr2) ∧
 ∀(c1 l l1 l2:Int) (l3O:Option Addr) (l3L l3C:Nat) (l4O:Option Addr) (l4L l4C:Nat) wv2,(∀bq∈([b,b5,b6]:List Nat),bq<wv2.heap.size)→xInv1 [.int .i64 c1,.int .i64 l,.int .i64 l1,.int .i64 l2,.slice l3O l3L l3C,.slice l4O l4L l4C] wv2 →
 ((decide (c1<(b3L:Int)))=true →
 Ix b3O b3L c1 ∧
 (∃x1,
 CellsX [b,b5,b6] wv2 b3O (Int.toNat c1*1) [.int .i64 x1] ∧
 (∀b8,wv2.heap.size≤b8 →
 (some (ty_impl_Band,([.int .i64 l,.int .i64 l1,.int .i64 l2,.slice l3O l3L l3C,.slice l4O l4L l4C]:List Value))=some (ty_impl_Band,([.int .i64 l,.int .i64 l1,.int .i64 l2,.slice l3O l3L l3C,.slice l4O l4L l4C]:List Value))) ∧
 (∀wr3,ExtX [b,b5,b6] wv2 wr3→(∀bq∈([b,b5,b6,b8]:List Nat),bq<wr3.heap.size)→wr3.heap[b8]? = some (Obj.cells ([.int .i64 x1]:List Value).toArray ty_int (0,0)) →
 (∃ap1O ap1L ap1C,
 ∃wv3,(builtin .append #[ty_sl_int,ty_sl_int] ty_sl_int #[false,false] #[.slice l3O l3L l3C,.slice (some (Addr.mk b8 0 none)) 1 1]).run Tryz.prog wr3 = .ok (.value (.slice ap1O ap1L ap1C)) wv3∧Kept [b,b5,b6,b8] wr3 wv3 ∧
 Ix b4O b4L c1 ∧
 (∃x2,
 CellsX [b,b5,b6,b8] wv3 b4O (Int.toNat c1*1) [.bool x2] ∧
 (∀b9,wv3.heap.size≤b9 →
 (some (ty_impl_Band,([.int .i64 l,.int .i64 l1,.int .i64 l2,.slice ap1O ap1L ap1C,.slice l4O l4L l4C]:List Value))=some (ty_impl_Band,([.int .i64 l,.int .i64 l1,.int .i64 l2,.slice ap1O ap1L ap1C,.slice l4O l4L l4C]:List Value))) ∧
 (∀wr4,ExtX [b,b5,b6,b8] wv3 wr4→(∀bq∈([b,b5,b6,b8,b9]:List Nat),bq<wr4.heap.size)→wr4.heap[b9]? = some (Obj.cells ([.bool x2]:List Value).toArray ty_bool (0,0)) →
 (∃ap2O ap2L ap2C,
 ∃wv4,(builtin .append #[ty_sl_bool,ty_sl_bool] ty_sl_bool #[false,false] #[.slice l4O l4L l4C,.slice (some (Addr.mk b9 0 none)) 1 1]).run Tryz.prog wr4 = .ok (.value (.slice ap2O ap2L ap2C)) wv4∧Kept [b,b5,b6,b8,b9] wr4 wv4 ∧
 InR .i64 (c1+1) ∧
 (∀wr5,ExtX [b,b5,b6,b8,b9] wv4 wr5→(∀bq∈([b,b5,b6,b8,b9]:List Nat),bq<wr5.heap.size)→xInv1 [.int .i64 (c1+1),.int .i64 l,.int .i64 l1,.int .i64 l2,.slice ap1O ap1L ap1C,.slice ap2O ap2L ap2C] wr5∧mu1 [.int .i64 (c1+1),.int .i64 l,.int .i64 l1,.int .i64 l2,.slice ap1O ap1L ap1C,.slice ap2O ap2L ap2C] wr5<mu1 [.int .i64 c1,.int .i64 l,.int .i64 l1,.int .i64 l2,.slice l3O l3L l3C,.slice l4O l4L l4C] wv2)))))))))) ∧
 ((decide (c1<(b3L:Int)))=false →
 (∀wr6,ExtX [b,b5,b6] wv2 wr6→R (.agg #[.int .i64 l,.int .i64 l1,.int .i64 l2,.slice l3O l3L l3C,.slice l4O l4L l4C]) wr6))))))
theorem e_spec_l5Own (b0 b1 b2 b3O b3L b3C b4O b4L b4C):EfV (V_spec_l5Own b0 b1 b2 b3O b3L b3C b4O b4L b4C) fn_spec_l5Own #[.agg #[.int .i64 b0,.int .i64 b1,.int .i64 b2,.slice b3O b3L b3C,.slice b4O b4L b4C]]:=eV [] false [(3,⟨[(4,.int .i64)],[(2,[.int .i64,.int .i64,.int .i64,.slice,.slice])],[1,2,3],[],[]⟩)] Tryz.func165 (by kernel_rfl) (by kernel_rfl)
def V_spec_l8Own (w0:Int) (w1O:Option Addr) (w1L w1C:Nat) (w2O:Option Addr) (w2L w2C:Nat) (w3O:Option Addr) (w3L w3C:Nat) (w:World) (R:Value→World→Prop):Prop :=
 (∀b,w.heap.size≤b →
 (∀b1,w.heap.size≤b1 →
 (∀b2,w.heap.size≤b2 →
 (∃(xInv1:List Value→World→Prop) (mu1:List Value→World→Nat),(∀wr2,ExtX [] w wr2→(∀bq∈([b,b1,b2]:List Nat),bq<wr2.heap.size)→xInv1 [.int .i64 0,.int .i64 w0,.slice none 0 0,.slice none 0 0,.slice none 0 0] wr2) ∧
 ∀(c1 l:Int) (l1O:Option Addr) (l1L l1C:Nat) (l2O:Option Addr) (l2L l2C:Nat) (l3O:Option Addr) (l3L l3C:Nat) wv2,(∀bq∈([b,b1,b2]:List Nat),bq<wv2.heap.size)→xInv1 [.int .i64 c1,.int .i64 l,.slice l1O l1L l1C,.slice l2O l2L l2C,.slice l3O l3L l3C] wv2 →
 ((decide (c1<(w1L:Int)))=true →
 Ix w1O w1L c1 ∧
 (∃x01 x11 x21 x31 x41,
 CellsX [b,b1,b2] wv2 w1O (Int.toNat c1*5) [.bool x01,.int .i64 x11,.int .i64 x21,.int .i64 x31,.int .i64 x41] ∧
 (∀b4,wv2.heap.size≤b4 →
 (some (ty_impl_World,([.int .i64 l,.slice l1O l1L l1C,.slice l2O l2L l2C,.slice l3O l3L l3C]:List Value))=some (ty_impl_World,([.int .i64 l,.slice l1O l1L l1C,.slice l2O l2L l2C,.slice l3O l3L l3C]:List Value))) ∧
 (∀wr3,ExtX [b,b1,b2] wv2 wr3→(∀bq∈([b,b1,b2,b4]:List Nat),bq<wr3.heap.size)→wr3.heap[b4]? = some (Obj.cells ([.bool x01,.int .i64 x11,.int .i64 x21,.int .i64 x31,.int .i64 x41]:List Value).toArray ty_impl_Cpu (0,0)) →
 (∃ap1O ap1L ap1C,
 ∃wv3,(builtin .append #[ty_sl_impl_Cpu,ty_sl_impl_Cpu] ty_sl_impl_Cpu #[false,false] #[.slice l1O l1L l1C,.slice (some (Addr.mk b4 0 none)) 1 1]).run Tryz.prog wr3 = .ok (.value (.slice ap1O ap1L ap1C)) wv3∧Kept [b,b1,b2,b4] wr3 wv3 ∧
 InR .i64 (c1+1) ∧
 (∀wr4,ExtX [b,b1,b2,b4] wv3 wr4→(∀bq∈([b,b1,b2,b4]:List Nat),bq<wr4.heap.size)→xInv1 [.int .i64 (c1+1),.int .i64 l,.slice ap1O ap1L ap1C,.slice l2O l2L l2C,.slice l3O l3L l3C] wr4∧mu1 [.int .i64 (c1+1),.int .i64 l,.slice ap1O ap1L ap1C,.slice l2O l2L l2C,.slice l3O l3L l3C] wr4<mu1 [.int .i64 c1,.int .i64 l,.slice l1O l1L l1C,.slice l2O l2L l2C,.slice l3O l3L l3C] wv2)))))) ∧
 ((decide (c1<(w1L:Int)))=false →
 (∃(xInv3:List Value→World→Prop) (mu3:List Value→World→Nat),(∀wr7,ExtX [b,b1,b2] wv2 wr7→(∀bq∈([b,b1,b2]:List Nat),bq<wr7.heap.size)→xInv3 [.int .i64 0,.int .i64 l,.slice l1O l1L l1C,.slice l2O l2L l2C,.slice l3O l3L l3C] wr7) ∧
 ∀(t1 l4:Int) (l5O:Option Addr) (l5L l5C:Nat) (l6O:Option Addr) (l6L l6C:Nat) (l7O:Option Addr) (l7L l7C:Nat) wv6,(∀bq∈([b,b1,b2]:List Nat),bq<wv6.heap.size)→xInv3 [.int .i64 t1,.int .i64 l4,.slice l5O l5L l5C,.slice l6O l6L l6C,.slice l7O l7L l7C] wv6 →
 ((decide (t1<(w2L:Int)))=true →
 Ix w2O w2L t1 ∧
 (∃x03 x13 x23 x33 x43 x51 x61 x71 x81,
 CellsX [b,b1,b2] wv6 w2O (Int.toNat t1*9) [.int .i64 x03,.int .i64 x13,.int .i64 x23,.int .i64 x33,.int .i64 x43,.int .i64 x51,.int .i64 x61,.int .i64 x71,.int .i64 x81] ∧
 (∀b6,wv6.heap.size≤b6 →
 (some (ty_impl_World,([.int .i64 l4,.slice l5O l5L l5C,.slice l6O l6L l6C,.slice l7O l7L l7C]:List Value))=some (ty_impl_World,([.int .i64 l4,.slice l5O l5L l5C,.slice l6O l6L l6C,.slice l7O l7L l7C]:List Value))) ∧
 (∀wr8,ExtX [b,b1,b2] wv6 wr8→(∀bq∈([b,b1,b2,b6]:List Nat),bq<wr8.heap.size)→wr8.heap[b6]? = some (Obj.cells ([.int .i64 x03,.int .i64 x13,.int .i64 x23,.int .i64 x33,.int .i64 x43,.int .i64 x51,.int .i64 x61,.int .i64 x71,.int .i64 x81]:List Value).toArray ty_impl_Task (0,0)) →
 (∃ap3O ap3L ap3C,
 ∃wv7,(builtin .append #[ty_sl_impl_Task,ty_sl_impl_Task] ty_sl_impl_Task #[false,false] #[.slice l6O l6L l6C,.slice (some (Addr.mk b6 0 none)) 1 1]).run Tryz.prog wr8 = .ok (.value (.slice ap3O ap3L ap3C)) wv7∧Kept [b,b1,b2,b6] wr8 wv7 ∧
 InR .i64 (t1+1) ∧
 (∀wr9,ExtX [b,b1,b2,b6] wv7 wr9→(∀bq∈([b,b1,b2,b6]:List Nat),bq<wr9.heap.size)→xInv3 [.int .i64 (t1+1),.int .i64 l4,.slice l5O l5L l5C,.slice ap3O ap3L ap3C,.slice l7O l7L l7C] wr9∧mu3 [.int .i64 (t1+1),.int .i64 l4,.slice l5O l5L l5C,.slice ap3O ap3L ap3C,.slice l7O l7L l7C] wr9<mu3 [.int .i64 t1,.int .i64 l4,.slice l5O l5L l5C,.slice l6O l6L l6C,.slice l7O l7L l7C] wv6)))))) ∧
 ((decide (t1<(w2L:Int)))=false →
 (∃(xInv7:List Value→World→Prop) (mu7:List Value→World→Nat),(∀wr18,ExtX [b,b1,b2] wv6 wr18→(∀bq∈([b,b1,b2]:List Nat),bq<wr18.heap.size)→xInv7 [.int .i64 0,.int .i64 l4,.slice l5O l5L l5C,.slice l6O l6L l6C,.slice l7O l7L l7C] wr18) ∧
 ∀(k1 l22:Int) (l23O:Option Addr) (l23L l23C:Nat) (l24O:Option Addr) (l24L l24C:Nat) (l25O:Option Addr) (l25L l25C:Nat) wv15,(∀bq∈([b,b1,b2]:List Nat),bq<wv15.heap.size)→xInv7 [.int .i64 k1,.int .i64 l22,.slice l23O l23L l23C,.slice l24O l24L l24C,.slice l25O l25L l25C] wv15 →
 ((decide (k1<(w3L:Int)))=true →
 Ix w3O w3L k1 ∧
 (∃(x07:Bool) (x17:Int) (x27:ByteArray) (x37 x47 x53 x63 x73 x83 x91 x101:Int) (x112O:Option Addr) (x112L x112C:Nat) (x122O:Option Addr) (x122L x122C:Nat) (x132O:Option Addr) (x132L x132C:Nat),
 CellsX [b,b1,b2] wv15 w3O (Int.toNat k1*14) [.bool x07,.int .i64 x17,.string x27,.int .i64 x37,.int .i64 x47,.int .i64 x53,.int .i64 x63,.int .i64 x73,.int .i64 x83,.int .i64 x91,.int .i64 x101,.slice x112O x112L x112C,.slice x122O x122L x122C,.slice x132O x132L x132C] ∧
 (∀b11,wv15.heap.size≤b11 →
 Ix w3O w3L k1 ∧
 (∃band01 band11 band21 band31O band31L band31C band41O band41L band41C,
 CellsX [b,b1,b2] wv15 w3O (Int.toNat k1*14+8) [.int .i64 band01,.int .i64 band11,.int .i64 band21,.slice band31O band31L band31C,.slice band41O band41L band41C] ∧
 (∀wr19,ExtX [b,b1,b2] wv15 wr19→(∀bq∈([b,b1,b2,b11]:List Nat),bq<wr19.heap.size) →
 Calls Tryz.prog fn_spec_l5Own #[.agg #[.int .i64 band01,.int .i64 band11,.int .i64 band21,.slice band31O band31L band31C,.slice band41O band41L band41C]] wr19 fun e1 wv16 =>
 (∃l5Own5 l5Own6 l5Own7 l5Own8O l5Own8L l5Own8C l5Own9O l5Own9L l5Own9C,
 e1 = .returned (.agg #[.int .i64 l5Own5,.int .i64 l5Own6,.int .i64 l5Own7,.slice l5Own8O l5Own8L l5Own8C,.slice l5Own9O l5Own9L l5Own9C])∧Kept [b,b1,b2,b11] wr19 wv16 ∧
 (∃(xInv8:List Value→World→Prop) (mu8:List Value→World→Nat),(∀wr20,ExtX [b,b1,b2,b11] wv16 wr20→(∀bq∈([b,b1,b2,b11]:List Nat),bq<wr20.heap.size)→xInv8 [.int .i64 0,.bool x07,.int .i64 x17,.string x27,.int .i64 x37,.int .i64 x47,.int .i64 x53,.int .i64 x63,.int .i64 x73,.int .i64 l5Own5,.int .i64 l5Own6,.int .i64 l5Own7,.slice l5Own8O l5Own8L l5Own8C,.slice l5Own9O l5Own9L l5Own9C,.slice none 0 0] wr20) ∧
 ∀(c4:Int) (l26:Bool) (l27:Int) (l28:ByteArray) (l29 l30 l31 l32 l33 l34 l35 l36:Int) (l37O:Option Addr) (l37L l37C:Nat) (l38O:Option Addr) (l38L l38C:Nat) (l39O:Option Addr) (l39L l39C:Nat) wv17,(∀bq∈([b,b1,b2,b11]:List Nat),bq<wv17.heap.size)→xInv8 [.int .i64 c4,.bool l26,.int .i64 l27,.string l28,.int .i64 l29,.int .i64 l30,.int .i64 l31,.int .i64 l32,.int .i64 l33,.int .i64 l34,.int .i64 l35,.int .i64 l36,.slice l37O l37L l37C,.slice l38O l38L l38C,.slice l39O l39L l39C] wv17 →
 Ix w3O w3L k1 ∧
 (∃shelves4O shelves4L shelves4C,
 CellsX [b,b1,b2,b11] wv17 w3O (Int.toNat k1*14+13) [.slice shelves4O shelves4L shelves4C] ∧
 ((decide (c4<(shelves4L:Int)))=true →
 Ix w3O w3L k1 ∧
 (∃shelves5O shelves5L shelves5C,
 CellsX [b,b1,b2,b11] wv17 w3O (Int.toNat k1*14+13) [.slice shelves5O shelves5L shelves5C] ∧
 Ix shelves5O shelves5L c4 ∧
 (∃x08 x18 x28 x38 x48,
 CellsX [b,b1,b2,b11] wv17 shelves5O (Int.toNat c4*5) [.int .i64 x08,.bool x18,.int .i64 x28,.int .i64 x38,.int .i64 x48] ∧
 (∀b12,wv17.heap.size≤b12 →
 (some (ty_impl_Group,([.bool l26,.int .i64 l27,.string l28,.int .i64 l29,.int .i64 l30,.int .i64 l31,.int .i64 l32,.int .i64 l33,.int .i64 l34,.int .i64 l35,.int .i64 l36,.slice l37O l37L l37C,.slice l38O l38L l38C,.slice l39O l39L l39C]:List Value))=some (ty_impl_Group,([.bool l26,.int .i64 l27,.string l28,.int .i64 l29,.int .i64 l30,.int .i64 l31,.int .i64 l32,.int .i64 l33,.int .i64 l34,.int .i64 l35,.int .i64 l36,.slice l37O l37L l37C,.slice l38O l38L l38C,.slice l39O l39L l39C]:List Value))) ∧
 (∀wr21,ExtX [b,b1,b2,b11] wv17 wr21→(∀bq∈([b,b1,b2,b11,b12]:List Nat),bq<wr21.heap.size)→wr21.heap[b12]? = some (Obj.cells ([.int .i64 x08,.bool x18,.int .i64 x28,.int .i64 x38,.int .i64 x48]:List Value).toArray ty_impl_Shelf (0,0)) →
 (∃ap7O ap7L ap7C,
 ∃wv18,(builtin .append #[ty_sl_impl_Shelf,ty_sl_impl_Shelf] ty_sl_impl_Shelf #[false,false] #[.slice l39O l39L l39C,.slice (some (Addr.mk b12 0 none)) 1 1]).run Tryz.prog wr21 = .ok (.value (.slice ap7O ap7L ap7C)) wv18∧Kept [b,b1,b2,b11,b12] wr21 wv18 ∧
 InR .i64 (c4+1) ∧
 (∀wr22,ExtX [b,b1,b2,b11,b12] wv18 wr22→(∀bq∈([b,b1,b2,b11,b12]:List Nat),bq<wr22.heap.size)→xInv8 [.int .i64 (c4+1),.bool l26,.int .i64 l27,.string l28,.int .i64 l29,.int .i64 l30,.int .i64 l31,.int .i64 l32,.int .i64 l33,.int .i64 l34,.int .i64 l35,.int .i64 l36,.slice l37O l37L l37C,.slice l38O l38L l38C,.slice ap7O ap7L ap7C] wr22∧mu8 [.int .i64 (c4+1),.bool l26,.int .i64 l27,.string l28,.int .i64 l29,.int .i64 l30,.int .i64 l31,.int .i64 l32,.int .i64 l33,.int .i64 l34,.int .i64 l35,.int .i64 l36,.slice l37O l37L l37C,.slice l38O l38L l38C,.slice ap7O ap7L ap7C] wr22<mu8 [.int .i64 c4,.bool l26,.int .i64 l27,.string l28,.int .i64 l29,.int .i64 l30,.int .i64 l31,.int .i64 l32,.int .i64 l33,.int .i64 l34,.int .i64 l35,.int .i64 l36,.slice l37O l37L l37C,.slice l38O l38L l38C,.slice l39O l39L l39C] wv17))))))) ∧
 ((decide (c4<(shelves4L:Int)))=false →
 (∀b13,wv17.heap.size≤b13 →
 (∀wr23,ExtX [b,b1,b2,b11] wv17 wr23→(∀bq∈([b,b1,b2,b11,b13]:List Nat),bq<wr23.heap.size)→wr23.heap[b13]? = some (Obj.cells ([.bool l26,.int .i64 l27,.string l28,.int .i64 l29,.int .i64 l30,.int .i64 l31,.int .i64 l32,.int .i64 l33,.int .i64 l34,.int .i64 l35,.int .i64 l36,.slice l37O l37L l37C,.slice l38O l38L l38C,.slice l39O l39L l39C]:List Value).toArray ty_impl_Group (0,0)) →
 (∃ap8O ap8L ap8C,
 ∃wv19,(builtin .append #[ty_sl_impl_Group,ty_sl_impl_Group] ty_sl_impl_Group #[false,false] #[.slice l25O l25L l25C,.slice (some (Addr.mk b13 0 none)) 1 1]).run Tryz.prog wr23 = .ok (.value (.slice ap8O ap8L ap8C)) wv19∧Kept [b,b1,b2,b11,b13] wr23 wv19 ∧
 InR .i64 (k1+1) ∧
 (∀wr24,ExtX [b,b1,b2,b11,b13] wv19 wr24→(∀bq∈([b,b1,b2,b11,b13]:List Nat),bq<wr24.heap.size)→xInv7 [.int .i64 (k1+1),.int .i64 l22,.slice l23O l23L l23C,.slice l24O l24L l24C,.slice ap8O ap8L ap8C] wr24∧mu7 [.int .i64 (k1+1),.int .i64 l22,.slice l23O l23L l23C,.slice l24O l24L l24C,.slice ap8O ap8L ap8C] wr24<mu7 [.int .i64 k1,.int .i64 l22,.slice l23O l23L l23C,.slice l24O l24L l24C,.slice l25O l25L l25C] wv15))))))))))))) ∧
 ((decide (k1<(w3L:Int)))=false →
 (∀wr25,ExtX [b,b1,b2] wv15 wr25→R (.agg #[.int .i64 l22,.slice l23O l23L l23C,.slice l24O l24L l24C,.slice l25O l25L l25C]) wr25))))))))))
theorem e_spec_l8Own (w0 w1O w1L w1C w2O w2L w2C w3O w3L w3C):EfV (V_spec_l8Own w0 w1O w1L w1C w2O w2L w2C w3O w3L w3C) fn_spec_l8Own #[.agg #[.int .i64 w0,.slice w1O w1L w1C,.slice w2O w2L w2C,.slice w3O w3L w3C]]:=eV [] false [(3,⟨[(4,.int .i64)],[(2,[.int .i64,.slice,.slice,.slice])],[1,2,3],[],[]⟩),(7,⟨[(5,.int .i64)],[(2,[.int .i64,.slice,.slice,.slice])],[1,2,3],[],[]⟩),(11,⟨[(6,.int .i64)],[(2,[.int .i64,.slice,.slice,.slice])],[1,2,3],[],[]⟩),(17,⟨[(8,.int .i64)],[(3,[.bool,.int .i64,.str,.int .i64,.int .i64,.int .i64,.int .i64,.int .i64,.int .i64,.int .i64,.int .i64,.slice,.slice,.slice])],[1,2,3,6,7],[],[]⟩)] Tryz.func88 (by kernel_rfl) (by kernel_rfl)
def V_spec_l8Half (n:Int) (w:World) (R:Value→World→Prop):Prop :=
 R (.bool (decide (n≤50000000000000000))) w
theorem p_spec_l8Half (n):PuV (V_spec_l8Half n) fn_spec_l8Half #[.int .i64 n]:=pV [] false [] Tryz.func166 (by kernel_rfl) (by kernel_rfl)
def V_spec_WorldRoom (w0:Int) (w1O:Option Addr) (w1L w1C:Nat) (w2O:Option Addr) (w2L w2C:Nat) (w3O:Option Addr) (w3L w3C:Nat) (w:World) (R:Value→World→Prop):Prop :=
 (∀b,w.heap.size≤b →
 (∃xWorldO,
 PureX [] Tryz.prog fn_spec_WorldOk #[.agg #[.int .i64 w0,.slice w1O w1L w1C,.slice w2O w2L w2C,.slice w3O w3L w3C]] w (.bool xWorldO) ∧
 (∃l8Half,
 ((!xWorldO)=false→PureX [] Tryz.prog fn_spec_l8Half #[.int .i64 w0] w (.bool l8Half)) ∧
 (((!xWorldO)||(!l8Half))=true →
 R (.bool false) w) ∧
 (((!xWorldO)||(!l8Half))=false →
 (∃(xInv:List Value→Prop) (mu:List Value→Nat),xInv [.int .i64 0] ∧
 ∀(c:Int),xInv [.int .i64 c] →
 ((decide (c<(w1L:Int)))=true →
 Ix w1O w1L c ∧
 (∃busy,
 CellsX [] w w1O (Int.toNat c*5+3) [.int .i64 busy] ∧
 (∃l8Half1,
 PureX [] Tryz.prog fn_spec_l8Half #[.int .i64 busy] w (.bool l8Half1) ∧
 ((!l8Half1)=false→Ix w1O w1L c) ∧
 (∃idle,
 ((!l8Half1)=false→CellsX [] w w1O (Int.toNat c*5+4) [.int .i64 idle]) ∧
 (∃l8Half2,
 ((!l8Half1)=false→PureX [] Tryz.prog fn_spec_l8Half #[.int .i64 idle] w (.bool l8Half2)) ∧
 (((!l8Half1)||(!l8Half2))=true →
 R (.bool false) w) ∧
 (((!l8Half1)||(!l8Half2))=false →
 InR .i64 (c+1) ∧
 xInv [.int .i64 (c+1)]∧mu [.int .i64 (c+1)]<mu [.int .i64 c])))))) ∧
 ((decide (c<(w1L:Int)))=false →
 (∃(xInv1:List Value→Prop) (mu1:List Value→Nat),xInv1 [.int .i64 0] ∧
 ∀(t:Int),xInv1 [.int .i64 t] →
 ((decide (t<(w2L:Int)))=true →
 Ix w2O w2L t ∧
 (∃v,
 CellsX [] w w2O (Int.toNat t*9+5) [.int .i64 v] ∧
 (∃l8Half3,
 PureX [] Tryz.prog fn_spec_l8Half #[.int .i64 v] w (.bool l8Half3) ∧
 ((!l8Half3)=false→Ix w2O w2L t) ∧
 (∃sum,
 ((!l8Half3)=false→CellsX [] w w2O (Int.toNat t*9+6) [.int .i64 sum]) ∧
 (∃l8Half4,
 ((!l8Half3)=false→PureX [] Tryz.prog fn_spec_l8Half #[.int .i64 sum] w (.bool l8Half4)) ∧
 (((!l8Half3)||(!l8Half4))=false→Ix w2O w2L t) ∧
 (∃used,
 (((!l8Half3)||(!l8Half4))=false→CellsX [] w w2O (Int.toNat t*9+7) [.int .i64 used]) ∧
 (∃l8Half5,
 (((!l8Half3)||(!l8Half4))=false→PureX [] Tryz.prog fn_spec_l8Half #[.int .i64 used] w (.bool l8Half5)) ∧
 ((((!l8Half3)||(!l8Half4))||(!l8Half5))=true →
 R (.bool false) w) ∧
 ((((!l8Half3)||(!l8Half4))||(!l8Half5))=false →
 InR .i64 (t+1) ∧
 xInv1 [.int .i64 (t+1)]∧mu1 [.int .i64 (t+1)]<mu1 [.int .i64 t])))))))) ∧
 ((decide (t<(w2L:Int)))=false →
 (∃(xInv2:List Value→Prop) (mu2:List Value→Nat),xInv2 [.int .i64 0] ∧
 ∀(k:Int),xInv2 [.int .i64 k] →
 ((decide (k<(w3L:Int)))=true →
 Ix w3O w3L k ∧
 (∃sum1,
 CellsX [] w w3O (Int.toNat k*14+7) [.int .i64 sum1] ∧
 (∃l8Half6,
 PureX [] Tryz.prog fn_spec_l8Half #[.int .i64 sum1] w (.bool l8Half6) ∧
 ((!l8Half6)=true →
 R (.bool false) w) ∧
 ((!l8Half6)=false →
 (∃(xInv3:List Value→Prop) (mu3:List Value→Nat),xInv3 [.int .i64 0] ∧
 ∀(c1:Int),xInv3 [.int .i64 c1] →
 Ix w3O w3L k ∧
 (∃shelvesO shelvesL shelvesC,
 CellsX [] w w3O (Int.toNat k*14+13) [.slice shelvesO shelvesL shelvesC] ∧
 ((decide (c1<(shelvesL:Int)))=true →
 Ix w3O w3L k ∧
 (∃shelves1O shelves1L shelves1C,
 CellsX [] w w3O (Int.toNat k*14+13) [.slice shelves1O shelves1L shelves1C] ∧
 Ix shelves1O shelves1L c1 ∧
 (∃x0 x1 x2 x3 x4,
 CellsX [] w shelves1O (Int.toNat c1*5) [.int .i64 x0,.bool x1,.int .i64 x2,.int .i64 x3,.int .i64 x4] ∧
 (∀b1,w.heap.size≤b1 →
 (∃l8Half7,
 PureX [] Tryz.prog fn_spec_l8Half #[.int .i64 x0] w (.bool l8Half7) ∧
 (∃l8Half8,
 ((!l8Half7)=false→PureX [] Tryz.prog fn_spec_l8Half #[.int .i64 x2] w (.bool l8Half8)) ∧
 (∃l8Half9,
 (((!l8Half7)||(!l8Half8))=false→PureX [] Tryz.prog fn_spec_l8Half #[.int .i64 x4] w (.bool l8Half9)) ∧
 ((((!l8Half7)||(!l8Half8))||(!l8Half9))=true →
 R (.bool false) w) ∧
 ((((!l8Half7)||(!l8Half8))||(!l8Half9))=false →
 InR .i64 (c1+1) ∧
 xInv3 [.int .i64 (c1+1)]∧mu3 [.int .i64 (c1+1)]<mu3 [.int .i64 c1])))))))) ∧
 ((decide (c1<(shelvesL:Int)))=false →
 InR .i64 (k+1) ∧
 xInv2 [.int .i64 (k+1)]∧mu2 [.int .i64 (k+1)]<mu2 [.int .i64 k]))))))) ∧
 ((decide (k<(w3L:Int)))=false →
 R (.bool true) w))))))))))
theorem p_spec_WorldRoom (w0 w1O w1L w1C w2O w2L w2C w3O w3L w3C):PuV (V_spec_WorldRoom w0 w1O w1L w1C w2O w2L w2C w3O w3L w3C) fn_spec_WorldRoom #[.agg #[.int .i64 w0,.slice w1O w1L w1C,.slice w2O w2L w2C,.slice w3O w3L w3C]]:=pV [] false [(4,⟨[(3,.int .i64)],[],[1],[],[]⟩),(9,⟨[(4,.int .i64)],[],[1],[],[]⟩),(14,⟨[(5,.int .i64)],[],[1],[],[]⟩),(19,⟨[(6,.int .i64)],[],[1,5],[],[]⟩)] Tryz.func89 (by kernel_rfl) (by kernel_rfl)
def V_spec_l10Begin (w0:Int) (w1O:Option Addr) (w1L w1C:Nat) (w2O:Option Addr) (w2L w2C:Nat) (w3O:Option Addr) (w3L w3C:Nat) (w:World) (R:Value→World→Prop):Prop :=
 (∀b,w.heap.size≤b →
 (∀b1,w.heap.size≤b1 →
 (∃xWorldO,
 PureX [] Tryz.prog fn_spec_WorldOk #[.agg #[.int .i64 w0,.slice w1O w1L w1C,.slice w2O w2L w2C,.slice w3O w3L w3C]] w (.bool xWorldO) ∧
 ((!xWorldO)=true →
 (∀wr,ExtX [] w wr→R (.tuple #[.agg #[.int .i64 0,.slice none 0 0,.slice none 0 0,.slice none 0 0],.int .i64 1]) wr)) ∧
 ((!xWorldO)=false →
 (∀wr1,ExtX [] w wr1→(∀bq∈([b,b1]:List Nat),bq<wr1.heap.size) →
 Calls Tryz.prog fn_spec_l8Own #[.agg #[.int .i64 w0,.slice w1O w1L w1C,.slice w2O w2L w2C,.slice w3O w3L w3C]] wr1 fun e wv =>
 (∃l8Own l8Own1O l8Own1L l8Own1C l8Own2O l8Own2L l8Own2C l8Own3O l8Own3L l8Own3C,
 e = .returned (.agg #[.int .i64 l8Own,.slice l8Own1O l8Own1L l8Own1C,.slice l8Own2O l8Own2L l8Own2C,.slice l8Own3O l8Own3L l8Own3C])∧Kept [b,b1] wr1 wv ∧
 (∃xWorldR,
 PureX [b,b1] Tryz.prog fn_spec_WorldRoom #[.agg #[.int .i64 l8Own,.slice l8Own1O l8Own1L l8Own1C,.slice l8Own2O l8Own2L l8Own2C,.slice l8Own3O l8Own3L l8Own3C]] wv (.bool xWorldR) ∧
 ((!xWorldR)=true →
 (∀wr2,ExtX [b,b1] wv wr2→R (.tuple #[.agg #[.int .i64 l8Own,.slice l8Own1O l8Own1L l8Own1C,.slice l8Own2O l8Own2L l8Own2C,.slice l8Own3O l8Own3L l8Own3C],.int .i64 10]) wr2)) ∧
 ((!xWorldR)=false →
 (∀wr3,ExtX [b,b1] wv wr3→R (.tuple #[.agg #[.int .i64 l8Own,.slice l8Own1O l8Own1L l8Own1C,.slice l8Own2O l8Own2L l8Own2C,.slice l8Own3O l8Own3L l8Own3C],.int .i64 0]) wr3)))))))))
theorem e_spec_l10Begin (w0 w1O w1L w1C w2O w2L w2C w3O w3L w3C):EfV (V_spec_l10Begin w0 w1O w1L w1C w2O w2L w2C w3O w3L w3C) fn_spec_l10Begin #[.agg #[.int .i64 w0,.slice w1O w1L w1C,.slice w2O w2L w2C,.slice w3O w3L w3C]]:=eV [] false [] Tryz.func26 (by kernel_rfl) (by kernel_rfl)
def V_spec_l8End (w0:Int) (w1O:Option Addr) (w1L w1C:Nat) (w2O:Option Addr) (w2L w2C:Nat) (w3O:Option Addr) (w3L w3C:Nat) (c:Int) (w:World) (R:Value→World→Prop):Prop :=
 (∀b,w.heap.size≤b →
 (∀b1,w.heap.size≤b1 →
 Ix w1O w1L c ∧
 WrX [] w w1O (Int.toNat c*5+1) 1 ∧
 Ix w1O w1L c ∧
 WrX [] (sto w w1O (Int.toNat c*5+1) [.int .i64 (-1)]) w1O (Int.toNat c*5+2) 1 ∧
 (∀wr,ExtX [] (sto (sto w w1O (Int.toNat c*5+1) [.int .i64 (-1)]) w1O (Int.toNat c*5+2) [.int .i64 0]) wr→R (.agg #[.int .i64 w0,.slice w1O w1L w1C,.slice w2O w2L w2C,.slice w3O w3L w3C]) wr)))
theorem e_spec_l8End (w0 w1O w1L w1C w2O w2L w2C w3O w3L w3C c):EfV (V_spec_l8End w0 w1O w1L w1C w2O w2L w2C w3O w3L w3C c) fn_spec_l8End #[.agg #[.int .i64 w0,.slice w1O w1L w1C,.slice w2O w2L w2C,.slice w3O w3L w3C],.int .i64 c]:=eV [] false [] Tryz.func30 (by kernel_rfl) (by kernel_rfl)
def V_spec_l1Max (a b:Int) (w:World) (R:Value→World→Prop):Prop :=
 ((decide (a>b))=true →
 R (.int .i64 a) w) ∧
 ((decide (a>b))=false →
 R (.int .i64 b) w)
theorem p_spec_l1Max (a b):PuV (V_spec_l1Max a b) fn_spec_l1Max #[.int .i64 a,.int .i64 b]:=pV [] false [] Tryz.func144 (by kernel_rfl) (by kernel_rfl)
def V_spec_l1Min (a b:Int) (w:World) (R:Value→World→Prop):Prop :=
 ((decide (a<b))=true →
 R (.int .i64 a) w) ∧
 ((decide (a<b))=false →
 R (.int .i64 b) w)
theorem p_spec_l1Min (a b):PuV (V_spec_l1Min a b) fn_spec_l1Min #[.int .i64 a,.int .i64 b]:=pV [] false [] Tryz.func169 (by kernel_rfl) (by kernel_rfl)
def V_spec_LagCut (lag weight:Int) (w:World) (R:Value→World→Prop):Prop :=
 (∃l1Weig,
 PureX [] Tryz.prog fn_spec_l1Weight #[.int .i64 weight] w (.bool l1Weig) ∧
 ((!l1Weig)=true →
 R (.int .i64 0) w) ∧
 ((!l1Weig)=false →
 (∃l1Max,
 PureX [] Tryz.prog fn_spec_l1Max #[.int .i64 lag,.int .i64 0] w (.int .i64 l1Max) ∧
 (∃xLagMos,
 PureX [] Tryz.prog fn_spec_LagMost #[.int .i64 weight] w (.int .i64 xLagMos) ∧
 (∃l1Min,
 PureX [] Tryz.prog fn_spec_l1Min #[.int .i64 l1Max,.int .i64 xLagMos] w (.int .i64 l1Min) ∧
 R (.int .i64 l1Min) w)))))
theorem p_spec_LagCut (lag weight):PuV (V_spec_LagCut lag weight) fn_spec_LagCut #[.int .i64 lag,.int .i64 weight]:=pV [] false [] Tryz.func141 (by kernel_rfl) (by kernel_rfl)
def V_spec_l8Lines (w0:Int) (w1O:Option Addr) (w1L w1C:Nat) (w2O:Option Addr) (w2L w2C:Nat) (w3O:Option Addr) (w3L w3C:Nat) (c:Int) (w:World) (R:Value→World→Prop):Prop :=
 (∀b,w.heap.size≤b →
 (∀b1,w.heap.size≤b1 →
 (∃(xInv:List Value→World→Prop) (mu:List Value→World→Nat),(∀wr,ExtX [] w wr→(∀bq∈([b,b1]:List Nat),bq<wr.heap.size)→xInv [.int .i64 3] wr) ∧
 ∀(d:Int) wv,(∀bq∈([b,b1]:List Nat),bq<wv.heap.size)→xInv [.int .i64 d] wv →
 ((decide (d>0))=true →
 (∃(xInv1:List Value→World→Prop) (mu1:List Value→World→Nat),(∀wr1,ExtX [b,b1] wv wr1→(∀bq∈([b,b1]:List Nat),bq<wr1.heap.size)→xInv1 [.int .i64 1] wr1) ∧
 ∀(k:Int) wv1,(∀bq∈([b,b1]:List Nat),bq<wv1.heap.size)→xInv1 [.int .i64 k] wv1 →
 ((decide (k<(w3L:Int)))=true →
 Ix w3O w3L k ∧
 (∃used,
 CellsX [b,b1] wv1 w3O (Int.toNat k*14+0) [.bool used] ∧
 (∃l6Dept,
 ((!used)=false→PureX [b,b1] Tryz.prog fn_spec_l6Depth #[.slice w3O w3L w3C,.int .i64 k] wv1 (.int .i64 l6Dept)) ∧
 (((!used)||(l6Dept != d))=true →
 InR .i64 (k+1) ∧
 (∀wr2,ExtX [b,b1] wv1 wr2→(∀bq∈([b,b1]:List Nat),bq<wr2.heap.size)→xInv1 [.int .i64 (k+1)] wr2∧mu1 [.int .i64 (k+1)] wr2<mu1 [.int .i64 k] wv1)) ∧
 (((!used)||(l6Dept != d))=false →
 Ix w3O w3L k ∧
 (∃shelvesO shelvesL shelvesC,
 CellsX [b,b1] wv1 w3O (Int.toNat k*14+13) [.slice shelvesO shelvesL shelvesC] ∧
 Ix shelvesO shelvesL c ∧
 (∃x0 x1 x2 x3 x4,
 CellsX [b,b1] wv1 shelvesO (Int.toNat c*5) [.int .i64 x0,.bool x1,.int .i64 x2,.int .i64 x3,.int .i64 x4] ∧
 (∀b2,wv1.heap.size≤b2 →
 (∃l8Acti,
 PureX [b,b1] Tryz.prog fn_spec_l8Active #[.agg #[.int .i64 w0,.slice w1O w1L w1C,.slice w2O w2L w2C,.slice w3O w3L w3C],.int .i64 k,.int .i64 c] wv1 (.bool l8Acti) ∧
 (∃l8Dry,
 (l8Acti=true→PureX [b,b1] Tryz.prog fn_spec_l8Dry #[.agg #[.int .i64 w0,.slice w1O w1L w1C,.slice w2O w2L w2C,.slice w3O w3L w3C],.int .i64 k,.int .i64 c] wv1 (.bool l8Dry)) ∧
 (((l8Acti&&(!l8Dry))&&(!x1))=true →
 Ix w3O w3L k ∧
 (∃parent,
 CellsX [b,b1] wv1 w3O (Int.toNat k*14+1) [.int .i64 parent] ∧
 Ix w3O w3L parent ∧
 (∃shelves1O shelves1L shelves1C,
 CellsX [b,b1] wv1 w3O (Int.toNat parent*14+13) [.slice shelves1O shelves1L shelves1C] ∧
 Ix shelves1O shelves1L c ∧
 (∃floor,
 CellsX [b,b1] wv1 shelves1O (Int.toNat c*5+0) [.int .i64 floor] ∧
 InR .i64 (x2 - floor) ∧
 (∃xLagCut,
 PureX [b,b1] Tryz.prog fn_spec_LagCut #[.int .i64 (x2 - floor),.int .i64 x3] wv1 (.int .i64 xLagCut) ∧
 InR .i64 (floor+xLagCut) ∧
 Ix w3O w3L k ∧
 (∃shelves2O shelves2L shelves2C,
 CellsX [b,b1] wv1 w3O (Int.toNat k*14+13) [.slice shelves2O shelves2L shelves2C] ∧
 Ix shelves2O shelves2L c ∧
 WrX [b,b1] wv1 shelves2O (Int.toNat c*5) 5 ∧
 InR .i64 (k+1) ∧
 (∀wr3,ExtX [b,b1] (sto wv1 shelves2O (Int.toNat c*5) [.int .i64 x0,.bool (l8Acti&&(!l8Dry)),.int .i64 (floor+xLagCut),.int .i64 x3,.int .i64 x4]) wr3→(∀bq∈([b,b1,b2]:List Nat),bq<wr3.heap.size)→xInv1 [.int .i64 (k+1)] wr3∧mu1 [.int .i64 (k+1)] wr3<mu1 [.int .i64 k] wv1))))))) ∧
 (((l8Acti&&(!l8Dry))&&(!x1))=false →
 Ix w3O w3L k ∧
 (∃shelves3O shelves3L shelves3C,
 CellsX [b,b1] wv1 w3O (Int.toNat k*14+13) [.slice shelves3O shelves3L shelves3C] ∧
 Ix shelves3O shelves3L c ∧
 WrX [b,b1] wv1 shelves3O (Int.toNat c*5) 5 ∧
 InR .i64 (k+1) ∧
 (∀wr4,ExtX [b,b1] (sto wv1 shelves3O (Int.toNat c*5) [.int .i64 x0,.bool (l8Acti&&(!l8Dry)),.int .i64 x2,.int .i64 x3,.int .i64 x4]) wr4→(∀bq∈([b,b1,b2]:List Nat),bq<wr4.heap.size)→xInv1 [.int .i64 (k+1)] wr4∧mu1 [.int .i64 (k+1)] wr4<mu1 [.int .i64 k] wv1)))))))))))) ∧
 ((decide (k<(w3L:Int)))=false →
 InR .i64 (d - 1) ∧
 (∀wr5,ExtX [b,b1] wv1 wr5→(∀bq∈([b,b1]:List Nat),bq<wr5.heap.size)→xInv [.int .i64 (d - 1)] wr5∧mu [.int .i64 (d - 1)] wr5<mu [.int .i64 d] wv)))) ∧
 ((decide (d>0))=false →
 (∀wr6,ExtX [b,b1] wv wr6→R (.agg #[.int .i64 w0,.slice w1O w1L w1C,.slice w2O w2L w2C,.slice w3O w3L w3C]) wr6)))))
theorem e_spec_l8Lines (w0 w1O w1L w1C w2O w2L w2C w3O w3L w3C c):EfV (V_spec_l8Lines w0 w1O w1L w1C w2O w2L w2C w3O w3L w3C c) fn_spec_l8Lines #[.agg #[.int .i64 w0,.slice w1O w1L w1C,.slice w2O w2L w2C,.slice w3O w3L w3C],.int .i64 c]:=eV [] false [(2,⟨[(5,.int .i64)],[],[1,2,4],[],[]⟩),(5,⟨[(6,.int .i64)],[],[1,2,4,5],[],[]⟩)] Tryz.func99 (by kernel_rfl) (by kernel_rfl)
def V_spec_l5Wet (b0 b1 b2:Int) (b3O:Option Addr) (b3L b3C:Nat) (b4O:Option Addr) (b4L b4C:Nat) (w:World) (R:Value→World→Prop):Prop :=
 (∀b,w.heap.size≤b →
 (∀b5,w.heap.size≤b5 →
 (∃(xInv:List Value→World→Prop) (mu:List Value→World→Nat),(∀wr,ExtX [] w wr→(∀bq∈([b,b5]:List Nat),bq<wr.heap.size)→xInv [.int .i64 0] wr) ∧
 ∀(c:Int) wv,(∀bq∈([b,b5]:List Nat),bq<wv.heap.size)→xInv [.int .i64 c] wv →
 ((decide (c<(b4L:Int)))=true →
 Ix b4O b4L c ∧
 WrX [b,b5] wv b4O (Int.toNat c*1) 1 ∧
 InR .i64 (c+1) ∧
 (∀wr1,ExtX [b,b5] (sto wv b4O (Int.toNat c*1) [.bool false]) wr1→(∀bq∈([b,b5]:List Nat),bq<wr1.heap.size)→xInv [.int .i64 (c+1)] wr1∧mu [.int .i64 (c+1)] wr1<mu [.int .i64 c] wv)) ∧
 ((decide (c<(b4L:Int)))=false →
 (∀wr2,ExtX [b,b5] wv wr2→R (.agg #[.int .i64 b0,.int .i64 b1,.int .i64 b2,.slice b3O b3L b3C,.slice b4O b4L b4C]) wr2)))))
theorem e_spec_l5Wet (b0 b1 b2 b3O b3L b3C b4O b4L b4C):EfV (V_spec_l5Wet b0 b1 b2 b3O b3L b3C b4O b4L b4C) fn_spec_l5Wet #[.agg #[.int .i64 b0,.int .i64 b1,.int .i64 b2,.slice b3O b3L b3C,.slice b4O b4L b4C]]:=eV [] false [(2,⟨[(3,.int .i64)],[],[1,2],[],[]⟩)] Tryz.func219 (by kernel_rfl) (by kernel_rfl)
def V_spec_BandDo (b0 b1 b2:Int) (b3O:Option Addr) (b3L b3C:Nat) (b4O:Option Addr) (b4L b4C:Nat) (op0 op1 op2:Int) (w:World) (R:Value→World→Prop):Prop :=
 (∀b,w.heap.size≤b →
 (∀b5,w.heap.size≤b5 →
 (∀b6,w.heap.size≤b6 →
 (∃xBandOk,
 PureX [] Tryz.prog fn_spec_BandOk #[.agg #[.int .i64 b0,.int .i64 b1,.int .i64 b2,.slice b3O b3L b3C,.slice b4O b4L b4C]] w (.bool xBandOk) ∧
 ((!xBandOk)=true →
 (∀wr,ExtX [] w wr→R (.tuple #[.agg #[.int .i64 0,.int .i64 0,.int .i64 0,.slice none 0 0,.slice none 0 0],.int .i64 1]) wr)) ∧
 ((!xBandOk)=false →
 (∀wr1,ExtX [] w wr1→(∀bq∈([b,b5,b6]:List Nat),bq<wr1.heap.size) →
 Calls Tryz.prog fn_spec_l5Own #[.agg #[.int .i64 b0,.int .i64 b1,.int .i64 b2,.slice b3O b3L b3C,.slice b4O b4L b4C]] wr1 fun e wv =>
 (∃l5Own l5Own1 l5Own2 l5Own3O l5Own3L l5Own3C l5Own4O l5Own4L l5Own4C,
 e = .returned (.agg #[.int .i64 l5Own,.int .i64 l5Own1,.int .i64 l5Own2,.slice l5Own3O l5Own3L l5Own3C,.slice l5Own4O l5Own4L l5Own4C])∧Kept [b,b5,b6] wr1 wv ∧
 ((op0==4)=true →
 (∀wr2,ExtX [b,b5,b6] wv wr2→(∀bq∈([b,b5,b6]:List Nat),bq<wr2.heap.size) →
 (∃mkO mkL mkC,
 ∃wv1,((Instr.makeSlice ty_sl_int (.int .i64 (l5Own4L:Int)) (.int .i64 (l5Own4L:Int))):Sem Value).run Tryz.prog wr2 = .ok (.slice mkO mkL mkC) wv1∧Kept [b,b5,b6] wr2 wv1 ∧
 (∀wr3,ExtX [b,b5,b6] wv1 wr3→(∀bq∈([b,b5,b6]:List Nat),bq<wr3.heap.size) →
 Calls Tryz.prog fn_spec_l5Wet #[.agg #[.int .i64 l5Own,.int .i64 l5Own,.int .i64 0,.slice mkO mkL mkC,.slice l5Own4O l5Own4L l5Own4C]] wr3 fun e1 wv2 =>
 (∃l5Wet l5Wet1 l5Wet2 l5Wet3O l5Wet3L l5Wet3C l5Wet4O l5Wet4L l5Wet4C,
 e1 = .returned (.agg #[.int .i64 l5Wet,.int .i64 l5Wet1,.int .i64 l5Wet2,.slice l5Wet3O l5Wet3L l5Wet3C,.slice l5Wet4O l5Wet4L l5Wet4C])∧Kept [b,b5,b6] wr3 wv2 ∧
 (∀wr4,ExtX [b,b5,b6] wv2 wr4→R (.tuple #[.agg #[.int .i64 l5Wet,.int .i64 l5Wet1,.int .i64 l5Wet2,.slice l5Wet3O l5Wet3L l5Wet3C,.slice l5Wet4O l5Wet4L l5Wet4C],.int .i64 0]) wr4)))))) ∧
 ((op0==4)=false →
 InR .i64 ((l5Own3L:Int) - 1) ∧
 (∃l1In,
 PureX [b,b5,b6] Tryz.prog fn_spec_l1In #[.int .i64 op1,.int .i64 0,.int .i64 ((l5Own3L:Int) - 1)] wv (.bool l1In) ∧
 ((!l1In)=true →
 (∀wr5,ExtX [b,b5,b6] wv wr5→R (.tuple #[.agg #[.int .i64 l5Own,.int .i64 l5Own1,.int .i64 l5Own2,.slice l5Own3O l5Own3L l5Own3C,.slice l5Own4O l5Own4L l5Own4C],.int .i64 1]) wr5)) ∧
 ((!l1In)=false →
 ((op0==1)=true →
 Ix l5Own3O l5Own3L op1 ∧
 (∃x,
 CellsX [b,b5,b6] wv l5Own3O (Int.toNat op1*1) [.int .i64 x] ∧
 ((decide (x>0))=true →
 (∀wr6,ExtX [b,b5,b6] wv wr6→R (.tuple #[.agg #[.int .i64 l5Own,.int .i64 l5Own1,.int .i64 l5Own2,.slice l5Own3O l5Own3L l5Own3C,.slice l5Own4O l5Own4L l5Own4C],.int .i64 0]) wr6)) ∧
 ((decide (x>0))=false →
 (∃l1Min,
 PureX [b,b5,b6] Tryz.prog fn_spec_l1Min #[.int .i64 20,.int .i64 l5Own1] wv (.int .i64 l1Min) ∧
 InR .i64 (l5Own1 - l1Min) ∧
 Ix l5Own3O l5Own3L op1 ∧
 WrX [b,b5,b6] wv l5Own3O (Int.toNat op1*1) 1 ∧
 Ix l5Own4O l5Own4L op1 ∧
 WrX [b,b5,b6] (sto wv l5Own3O (Int.toNat op1*1) [.int .i64 l1Min]) l5Own4O (Int.toNat op1*1) 1 ∧
 ((l1Min==0)=true →
 (∀wr7,ExtX [b,b5,b6] (sto (sto wv l5Own3O (Int.toNat op1*1) [.int .i64 l1Min]) l5Own4O (Int.toNat op1*1) [.bool (l1Min==0)]) wr7→R (.tuple #[.agg #[.int .i64 l5Own,.int .i64 (l5Own1 - l1Min),.int .i64 l5Own2,.slice l5Own3O l5Own3L l5Own3C,.slice l5Own4O l5Own4L l5Own4C],.int .i64 2]) wr7)) ∧
 ((l1Min==0)=false →
 (∀wr8,ExtX [b,b5,b6] (sto (sto wv l5Own3O (Int.toNat op1*1) [.int .i64 l1Min]) l5Own4O (Int.toNat op1*1) [.bool (l1Min==0)]) wr8→R (.tuple #[.agg #[.int .i64 l5Own,.int .i64 (l5Own1 - l1Min),.int .i64 l5Own2,.slice l5Own3O l5Own3L l5Own3C,.slice l5Own4O l5Own4L l5Own4C],.int .i64 0]) wr8)))))) ∧
 ((op0==1)=false →
 ((op0==2)=true →
 ((decide (op2<1))=false→Ix l5Own3O l5Own3L op1) ∧
 (∃x1,
 ((decide (op2<1))=false→CellsX [b,b5,b6] wv l5Own3O (Int.toNat op1*1) [.int .i64 x1]) ∧
 (((decide (op2<1))||(decide (op2>x1)))=true →
 (∀wr9,ExtX [b,b5,b6] wv wr9→R (.tuple #[.agg #[.int .i64 l5Own,.int .i64 l5Own1,.int .i64 l5Own2,.slice l5Own3O l5Own3L l5Own3C,.slice l5Own4O l5Own4L l5Own4C],.int .i64 3]) wr9)) ∧
 (((decide (op2<1))||(decide (op2>x1)))=false →
 Ix l5Own3O l5Own3L op1 ∧
 (∃x2,
 CellsX [b,b5,b6] wv l5Own3O (Int.toNat op1*1) [.int .i64 x2] ∧
 InR .i64 (x2 - op2) ∧
 Ix l5Own3O l5Own3L op1 ∧
 WrX [b,b5,b6] wv l5Own3O (Int.toNat op1*1) 1 ∧
 InR .i64 (l5Own2+op2) ∧
 (∀wr10,ExtX [b,b5,b6] (sto wv l5Own3O (Int.toNat op1*1) [.int .i64 (x2 - op2)]) wr10→R (.tuple #[.agg #[.int .i64 l5Own,.int .i64 l5Own1,.int .i64 (l5Own2+op2),.slice l5Own3O l5Own3L l5Own3C,.slice l5Own4O l5Own4L l5Own4C],.int .i64 0]) wr10))))) ∧
 ((op0==2)=false →
 ((op0==3)=true →
 Ix l5Own3O l5Own3L op1 ∧
 (∃x3,
 CellsX [b,b5,b6] wv l5Own3O (Int.toNat op1*1) [.int .i64 x3] ∧
 InR .i64 (l5Own1+x3) ∧
 Ix l5Own3O l5Own3L op1 ∧
 WrX [b,b5,b6] wv l5Own3O (Int.toNat op1*1) 1 ∧
 ((decide (l5Own1+x3>0))=true →
 (∀wr11,ExtX [b,b5,b6] (sto wv l5Own3O (Int.toNat op1*1) [.int .i64 0]) wr11→(∀bq∈([b,b5,b6]:List Nat),bq<wr11.heap.size) →
 Calls Tryz.prog fn_spec_l5Wet #[.agg #[.int .i64 l5Own,.int .i64 (l5Own1+x3),.int .i64 l5Own2,.slice l5Own3O l5Own3L l5Own3C,.slice l5Own4O l5Own4L l5Own4C]] wr11 fun e2 wv3 =>
 (∃l5Wet5 l5Wet6 l5Wet7 l5Wet8O l5Wet8L l5Wet8C l5Wet9O l5Wet9L l5Wet9C,
 e2 = .returned (.agg #[.int .i64 l5Wet5,.int .i64 l5Wet6,.int .i64 l5Wet7,.slice l5Wet8O l5Wet8L l5Wet8C,.slice l5Wet9O l5Wet9L l5Wet9C])∧Kept [b,b5,b6] wr11 wv3 ∧
 (∀wr12,ExtX [b,b5,b6] wv3 wr12→R (.tuple #[.agg #[.int .i64 l5Wet5,.int .i64 l5Wet6,.int .i64 l5Wet7,.slice l5Wet8O l5Wet8L l5Wet8C,.slice l5Wet9O l5Wet9L l5Wet9C],.int .i64 0]) wr12)))) ∧
 ((decide (l5Own1+x3>0))=false →
 (∀wr13,ExtX [b,b5,b6] (sto wv l5Own3O (Int.toNat op1*1) [.int .i64 0]) wr13→R (.tuple #[.agg #[.int .i64 l5Own,.int .i64 (l5Own1+x3),.int .i64 l5Own2,.slice l5Own3O l5Own3L l5Own3C,.slice l5Own4O l5Own4L l5Own4C],.int .i64 0]) wr13)))) ∧
 ((op0==3)=false →
 (∀wr14,ExtX [b,b5,b6] wv wr14→R (.tuple #[.agg #[.int .i64 l5Own,.int .i64 l5Own1,.int .i64 l5Own2,.slice l5Own3O l5Own3L l5Own3C,.slice l5Own4O l5Own4L l5Own4C],.int .i64 1]) wr14))))))))))))))
theorem e_spec_BandDo (b0 b1 b2 b3O b3L b3C b4O b4L b4C op0 op1 op2):EfV (V_spec_BandDo b0 b1 b2 b3O b3L b3C b4O b4L b4C op0 op1 op2) fn_spec_BandDo #[.agg #[.int .i64 b0,.int .i64 b1,.int .i64 b2,.slice b3O b3L b3C,.slice b4O b4L b4C],.agg #[.int .i64 op0,.int .i64 op1,.int .i64 op2]]:=eV [] false [] Tryz.func168 (by kernel_rfl) (by kernel_rfl)
def V_spec_l8Give (w0:Int) (w1O:Option Addr) (w1L w1C:Nat) (w2O:Option Addr) (w2L w2C:Nat) (w3O:Option Addr) (w3L w3C:Nat) (w:World) (R:Value→World→Prop):Prop :=
 (∀b,w.heap.size≤b →
 (∀b1,w.heap.size≤b1 →
 (∃(xInv:List Value→World→Prop) (mu:List Value→World→Nat),(∀wr,ExtX [] w wr→(∀bq∈([b,b1]:List Nat),bq<wr.heap.size)→xInv [.int .i64 0] wr) ∧
 ∀(k:Int) wv,(∀bq∈([b,b1]:List Nat),bq<wv.heap.size)→xInv [.int .i64 k] wv →
 ((decide (k<(w3L:Int)))=true →
 Ix w3O w3L k ∧
 (∃used,
 CellsX [b,b1] wv w3O (Int.toNat k*14+0) [.bool used] ∧
 ((!used)=false→Ix w3O w3L k) ∧
 (∃quota,
 ((!used)=false→CellsX [b,b1] wv w3O (Int.toNat k*14+8+0) [.int .i64 quota]) ∧
 (((!used)||(quota==0))=true →
 InR .i64 (k+1) ∧
 (∀wr1,ExtX [b,b1] wv wr1→(∀bq∈([b,b1]:List Nat),bq<wr1.heap.size)→xInv [.int .i64 (k+1)] wr1∧mu [.int .i64 (k+1)] wr1<mu [.int .i64 k] wv)) ∧
 (((!used)||(quota==0))=false →
 (∃(xInv1:List Value→World→Prop) (mu1:List Value→World→Nat),(∀wr2,ExtX [b,b1] wv wr2→(∀bq∈([b,b1]:List Nat),bq<wr2.heap.size)→xInv1 [.int .i64 0] wr2) ∧
 ∀(c:Int) wv1,(∀bq∈([b,b1]:List Nat),bq<wv1.heap.size)→xInv1 [.int .i64 c] wv1 →
 ((decide (c<(w1L:Int)))=true →
 Ix w3O w3L k ∧
 (∃localsO localsL localsC,
 CellsX [b,b1] wv1 w3O (Int.toNat k*14+8+3) [.slice localsO localsL localsC] ∧
 Ix localsO localsL c ∧
 (∃x,
 CellsX [b,b1] wv1 localsO (Int.toNat c*1) [.int .i64 x] ∧
 (∃l8Acti,
 ((decide (x>0))=true→PureX [b,b1] Tryz.prog fn_spec_l8Active #[.agg #[.int .i64 w0,.slice w1O w1L w1C,.slice w2O w2L w2C,.slice w3O w3L w3C],.int .i64 k,.int .i64 c] wv1 (.bool l8Acti)) ∧
 (((decide (x>0))&&(!l8Acti))=true →
 Ix w3O w3L k ∧
 (∃band0 band1 band2 band3O band3L band3C band4O band4L band4C,
 CellsX [b,b1] wv1 w3O (Int.toNat k*14+8) [.int .i64 band0,.int .i64 band1,.int .i64 band2,.slice band3O band3L band3C,.slice band4O band4L band4C] ∧
 (∀wr3,ExtX [b,b1] wv1 wr3→(∀bq∈([b,b1]:List Nat),bq<wr3.heap.size) →
 Calls Tryz.prog fn_spec_BandDo #[.agg #[.int .i64 band0,.int .i64 band1,.int .i64 band2,.slice band3O band3L band3C,.slice band4O band4L band4C],.agg #[.int .i64 3,.int .i64 c,.int .i64 0]] wr3 fun e wv2 =>
 (∃xBandDo xBandDo1 xBandDo2 xBandDo3O xBandDo3L xBandDo3C xBandDo4O xBandDo4L xBandDo4C xBandDo5,
 e = .returned (.tuple #[.agg #[.int .i64 xBandDo,.int .i64 xBandDo1,.int .i64 xBandDo2,.slice xBandDo3O xBandDo3L xBandDo3C,.slice xBandDo4O xBandDo4L xBandDo4C],.int .i64 xBandDo5])∧Kept [b,b1] wr3 wv2 ∧
 (∀b2,wv2.heap.size≤b2 →
 Ix w3O w3L k ∧
 WrX [b,b1] wv2 w3O (Int.toNat k*14+8) 5 ∧
 InR .i64 (c+1) ∧
 (∀wr4,ExtX [b,b1] (sto wv2 w3O (Int.toNat k*14+8) [.int .i64 xBandDo,.int .i64 xBandDo1,.int .i64 xBandDo2,.slice xBandDo3O xBandDo3L xBandDo3C,.slice xBandDo4O xBandDo4L xBandDo4C]) wr4→(∀bq∈([b,b1,b2]:List Nat),bq<wr4.heap.size)→xInv1 [.int .i64 (c+1)] wr4∧mu1 [.int .i64 (c+1)] wr4<mu1 [.int .i64 c] wv1)))))) ∧
 (((decide (x>0))&&(!l8Acti))=false →
 InR .i64 (c+1) ∧
 (∀wr5,ExtX [b,b1] wv1 wr5→(∀bq∈([b,b1]:List Nat),bq<wr5.heap.size)→xInv1 [.int .i64 (c+1)] wr5∧mu1 [.int .i64 (c+1)] wr5<mu1 [.int .i64 c] wv1)))))) ∧
 ((decide (c<(w1L:Int)))=false →
 InR .i64 (k+1) ∧
 (∀wr6,ExtX [b,b1] wv1 wr6→(∀bq∈([b,b1]:List Nat),bq<wr6.heap.size)→xInv [.int .i64 (k+1)] wr6∧mu [.int .i64 (k+1)] wr6<mu [.int .i64 k] wv))))))) ∧
 ((decide (k<(w3L:Int)))=false →
 (∀wr7,ExtX [b,b1] wv wr7→R (.agg #[.int .i64 w0,.slice w1O w1L w1C,.slice w2O w2L w2C,.slice w3O w3L w3C]) wr7)))))
theorem e_spec_l8Give (w0 w1O w1L w1C w2O w2L w2C w3O w3L w3C):EfV (V_spec_l8Give w0 w1O w1L w1C w2O w2L w2C w3O w3L w3C) fn_spec_l8Give #[.agg #[.int .i64 w0,.slice w1O w1L w1C,.slice w2O w2L w2C,.slice w3O w3L w3C]]:=eV [] false [(2,⟨[(3,.int .i64)],[],[1,2],[],[]⟩),(6,⟨[(4,.int .i64)],[],[1,2,3],[],[]⟩)] Tryz.func100 (by kernel_rfl) (by kernel_rfl)
def V_spec_l8Least (w0:Int) (w1O:Option Addr) (w1L w1C:Nat) (w2O:Option Addr) (w2L w2C:Nat) (w3O:Option Addr) (w3L w3C:Nat) (g c:Int) (w:World) (R:Value→World→Prop):Prop :=
 (∀b,w.heap.size≤b →
 (∃(xInv:List Value→Prop) (mu:List Value→Nat),xInv [.int .i64 0,.bool false,.int .i64 0] ∧
 ∀(best:Int) (somev:Bool) (t:Int),xInv [.int .i64 best,.bool somev,.int .i64 t] →
 ((decide (t<(w2L:Int)))=true →
 Ix w2O w2L t ∧
 (∃x0 x1 x2 x3 x4 x5 x6 x7 x8,
 CellsX [] w w2O (Int.toNat t*9) [.int .i64 x0,.int .i64 x1,.int .i64 x2,.int .i64 x3,.int .i64 x4,.int .i64 x5,.int .i64 x6,.int .i64 x7,.int .i64 x8] ∧
 (∀b1,w.heap.size≤b1 →
 (((((x0==1)&&(x1==g))&&(x2==c))&&((!somev)||(decide (x5<best))))=true →
 InR .i64 (t+1) ∧
 xInv [.int .i64 x5,.bool true,.int .i64 (t+1)]∧mu [.int .i64 x5,.bool true,.int .i64 (t+1)]<mu [.int .i64 best,.bool somev,.int .i64 t]) ∧
 (((((x0==1)&&(x1==g))&&(x2==c))&&((!somev)||(decide (x5<best))))=false →
 InR .i64 (t+1) ∧
 xInv [.int .i64 best,.bool somev,.int .i64 (t+1)]∧mu [.int .i64 best,.bool somev,.int .i64 (t+1)]<mu [.int .i64 best,.bool somev,.int .i64 t])))) ∧
 ((decide (t<(w2L:Int)))=false →
 (∃(xInv1:List Value→Prop) (mu1:List Value→Nat),xInv1 [.int .i64 best,.bool somev,.int .i64 1] ∧
 ∀(best1:Int) (somev1:Bool) (h:Int),xInv1 [.int .i64 best1,.bool somev1,.int .i64 h] →
 ((decide (h<(w3L:Int)))=true →
 Ix w3O w3L h ∧
 (∃used,
 CellsX [] w w3O (Int.toNat h*14+0) [.bool used] ∧
 (used=true→Ix w3O w3L h) ∧
 (∃parent,
 (used=true→CellsX [] w w3O (Int.toNat h*14+1) [.int .i64 parent]) ∧
 (∃l8Queu,
 ((used&&(parent==g))=true→PureX [] Tryz.prog fn_spec_l8Queued #[.agg #[.int .i64 w0,.slice w1O w1L w1C,.slice w2O w2L w2C,.slice w3O w3L w3C],.int .i64 h,.int .i64 c] w (.bool l8Queu)) ∧
 ((!somev1)=false→(((used&&(parent==g))&&l8Queu)=true→Ix w3O w3L h)) ∧
 (∃shelvesO shelvesL shelvesC,
 ((!somev1)=false→(((used&&(parent==g))&&l8Queu)=true→CellsX [] w w3O (Int.toNat h*14+13) [.slice shelvesO shelvesL shelvesC])) ∧
 ((!somev1)=false→(((used&&(parent==g))&&l8Queu)=true→Ix shelvesO shelvesL c)) ∧
 (∃v,
 ((!somev1)=false→(((used&&(parent==g))&&l8Queu)=true→CellsX [] w shelvesO (Int.toNat c*5+2) [.int .i64 v])) ∧
 ((((used&&(parent==g))&&l8Queu)&&((!somev1)||(decide (v<best1))))=true →
 Ix w3O w3L h ∧
 (∃shelves1O shelves1L shelves1C,
 CellsX [] w w3O (Int.toNat h*14+13) [.slice shelves1O shelves1L shelves1C] ∧
 Ix shelves1O shelves1L c ∧
 (∃v1,
 CellsX [] w shelves1O (Int.toNat c*5+2) [.int .i64 v1] ∧
 InR .i64 (h+1) ∧
 xInv1 [.int .i64 v1,.bool true,.int .i64 (h+1)]∧mu1 [.int .i64 v1,.bool true,.int .i64 (h+1)]<mu1 [.int .i64 best1,.bool somev1,.int .i64 h]))) ∧
 ((((used&&(parent==g))&&l8Queu)&&((!somev1)||(decide (v<best1))))=false →
 InR .i64 (h+1) ∧
 xInv1 [.int .i64 best1,.bool somev1,.int .i64 (h+1)]∧mu1 [.int .i64 best1,.bool somev1,.int .i64 (h+1)]<mu1 [.int .i64 best1,.bool somev1,.int .i64 h]))))))) ∧
 ((decide (h<(w3L:Int)))=false →
 R (.tuple #[.int .i64 best1,.bool somev1]) w)))))
theorem p_spec_l8Least (w0 w1O w1L w1C w2O w2L w2C w3O w3L w3C g c):PuV (V_spec_l8Least w0 w1O w1L w1C w2O w2L w2C w3O w3L w3C g c) fn_spec_l8Least #[.agg #[.int .i64 w0,.slice w1O w1L w1C,.slice w2O w2L w2C,.slice w3O w3L w3C],.int .i64 g,.int .i64 c]:=pV [] false [(4,⟨[(8,.int .i64),(9,.bool),(10,.int .i64)],[],[1,2,3],[],[]⟩),(11,⟨[(8,.int .i64),(9,.bool),(12,.int .i64)],[],[1,2,3],[],[]⟩)] Tryz.func178 (by kernel_rfl) (by kernel_rfl)
def V_spec_l8Floors (w0:Int) (w1O:Option Addr) (w1L w1C:Nat) (w2O:Option Addr) (w2L w2C:Nat) (w3O:Option Addr) (w3L w3C:Nat) (c:Int) (w:World) (R:Value→World→Prop):Prop :=
 (∀b,w.heap.size≤b →
 (∀b1,w.heap.size≤b1 →
 (∃(xInv:List Value→World→Prop) (mu:List Value→World→Nat),(∀wr,ExtX [] w wr→(∀bq∈([b,b1]:List Nat),bq<wr.heap.size)→xInv [.int .i64 0] wr) ∧
 ∀(k:Int) wv,(∀bq∈([b,b1]:List Nat),bq<wv.heap.size)→xInv [.int .i64 k] wv →
 ((decide (k<(w3L:Int)))=true →
 Ix w3O w3L k ∧
 (∃used,
 CellsX [b,b1] wv w3O (Int.toNat k*14+0) [.bool used] ∧
 ((!used)=true →
 InR .i64 (k+1) ∧
 (∀wr1,ExtX [b,b1] wv wr1→(∀bq∈([b,b1]:List Nat),bq<wr1.heap.size)→xInv [.int .i64 (k+1)] wr1∧mu [.int .i64 (k+1)] wr1<mu [.int .i64 k] wv)) ∧
 ((!used)=false →
 (∃l8Leas l8Leas1,
 PureX [b,b1] Tryz.prog fn_spec_l8Least #[.agg #[.int .i64 w0,.slice w1O w1L w1C,.slice w2O w2L w2C,.slice w3O w3L w3C],.int .i64 k,.int .i64 c] wv (.tuple #[.int .i64 l8Leas,.bool l8Leas1]) ∧
 (l8Leas1=true→Ix w3O w3L k) ∧
 (∃shelvesO shelvesL shelvesC,
 (l8Leas1=true→CellsX [b,b1] wv w3O (Int.toNat k*14+13) [.slice shelvesO shelvesL shelvesC]) ∧
 (l8Leas1=true→Ix shelvesO shelvesL c) ∧
 (∃floor,
 (l8Leas1=true→CellsX [b,b1] wv shelvesO (Int.toNat c*5+0) [.int .i64 floor]) ∧
 ((l8Leas1&&(decide (l8Leas>floor)))=true →
 Ix w3O w3L k ∧
 (∃shelves1O shelves1L shelves1C,
 CellsX [b,b1] wv w3O (Int.toNat k*14+13) [.slice shelves1O shelves1L shelves1C] ∧
 Ix shelves1O shelves1L c ∧
 WrX [b,b1] wv shelves1O (Int.toNat c*5+0) 1 ∧
 InR .i64 (k+1) ∧
 (∀wr2,ExtX [b,b1] (sto wv shelves1O (Int.toNat c*5+0) [.int .i64 l8Leas]) wr2→(∀bq∈([b,b1]:List Nat),bq<wr2.heap.size)→xInv [.int .i64 (k+1)] wr2∧mu [.int .i64 (k+1)] wr2<mu [.int .i64 k] wv))) ∧
 ((l8Leas1&&(decide (l8Leas>floor)))=false →
 InR .i64 (k+1) ∧
 (∀wr3,ExtX [b,b1] wv wr3→(∀bq∈([b,b1]:List Nat),bq<wr3.heap.size)→xInv [.int .i64 (k+1)] wr3∧mu [.int .i64 (k+1)] wr3<mu [.int .i64 k] wv)))))))) ∧
 ((decide (k<(w3L:Int)))=false →
 (∀wr4,ExtX [b,b1] wv wr4→R (.agg #[.int .i64 w0,.slice w1O w1L w1C,.slice w2O w2L w2C,.slice w3O w3L w3C]) wr4)))))
theorem e_spec_l8Floors (w0 w1O w1L w1C w2O w2L w2C w3O w3L w3C c):EfV (V_spec_l8Floors w0 w1O w1L w1C w2O w2L w2C w3O w3L w3C c) fn_spec_l8Floors #[.agg #[.int .i64 w0,.slice w1O w1L w1C,.slice w2O w2L w2C,.slice w3O w3L w3C],.int .i64 c]:=eV [] false [(2,⟨[(5,.int .i64)],[],[1,2,4],[],[]⟩)] Tryz.func101 (by kernel_rfl) (by kernel_rfl)
def V_spec_l8Settle (w0:Int) (w1O:Option Addr) (w1L w1C:Nat) (w2O:Option Addr) (w2L w2C:Nat) (w3O:Option Addr) (w3L w3C:Nat) (w:World) (R:Value→World→Prop):Prop :=
 (∀b,w.heap.size≤b →
 (∀b1,w.heap.size≤b1 →
 (∃(xInv1:List Value→World→Prop) (mu1:List Value→World→Nat),(∀wr2,ExtX [] w wr2→(∀bq∈([b,b1]:List Nat),bq<wr2.heap.size)→xInv1 [.int .i64 0,.int .i64 w0,.slice w1O w1L w1C,.slice w2O w2L w2C,.slice w3O w3L w3C] wr2) ∧
 ∀(c1 l:Int) (l1O:Option Addr) (l1L l1C:Nat) (l2O:Option Addr) (l2L l2C:Nat) (l3O:Option Addr) (l3L l3C:Nat) wv2,(∀bq∈([b,b1]:List Nat),bq<wv2.heap.size)→xInv1 [.int .i64 c1,.int .i64 l,.slice l1O l1L l1C,.slice l2O l2L l2C,.slice l3O l3L l3C] wv2 →
 ((decide (c1<(l1L:Int)))=true →
 (∀wr3,ExtX [b,b1] wv2 wr3→(∀bq∈([b,b1]:List Nat),bq<wr3.heap.size) →
 Calls Tryz.prog fn_spec_l8Lines #[.agg #[.int .i64 l,.slice l1O l1L l1C,.slice l2O l2L l2C,.slice l3O l3L l3C],.int .i64 c1] wr3 fun e1 wv3 =>
 (∃l8Line4 l8Line5O l8Line5L l8Line5C l8Line6O l8Line6L l8Line6C l8Line7O l8Line7L l8Line7C,
 e1 = .returned (.agg #[.int .i64 l8Line4,.slice l8Line5O l8Line5L l8Line5C,.slice l8Line6O l8Line6L l8Line6C,.slice l8Line7O l8Line7L l8Line7C])∧Kept [b,b1] wr3 wv3 ∧
 InR .i64 (c1+1) ∧
 (∀wr4,ExtX [b,b1] wv3 wr4→(∀bq∈([b,b1]:List Nat),bq<wr4.heap.size)→xInv1 [.int .i64 (c1+1),.int .i64 l8Line4,.slice l8Line5O l8Line5L l8Line5C,.slice l8Line6O l8Line6L l8Line6C,.slice l8Line7O l8Line7L l8Line7C] wr4∧mu1 [.int .i64 (c1+1),.int .i64 l8Line4,.slice l8Line5O l8Line5L l8Line5C,.slice l8Line6O l8Line6L l8Line6C,.slice l8Line7O l8Line7L l8Line7C] wr4<mu1 [.int .i64 c1,.int .i64 l,.slice l1O l1L l1C,.slice l2O l2L l2C,.slice l3O l3L l3C] wv2)))) ∧
 ((decide (c1<(l1L:Int)))=false →
 (∀wr5,ExtX [b,b1] wv2 wr5→(∀bq∈([b,b1]:List Nat),bq<wr5.heap.size) →
 Calls Tryz.prog fn_spec_l8Give #[.agg #[.int .i64 l,.slice l1O l1L l1C,.slice l2O l2L l2C,.slice l3O l3L l3C]] wr5 fun e2 wv4 =>
 (∃l8Give l8Give1O l8Give1L l8Give1C l8Give2O l8Give2L l8Give2C l8Give3O l8Give3L l8Give3C,
 e2 = .returned (.agg #[.int .i64 l8Give,.slice l8Give1O l8Give1L l8Give1C,.slice l8Give2O l8Give2L l8Give2C,.slice l8Give3O l8Give3L l8Give3C])∧Kept [b,b1] wr5 wv4 ∧
 (∃(xInv3:List Value→World→Prop) (mu3:List Value→World→Nat),(∀wr8,ExtX [b,b1] wv4 wr8→(∀bq∈([b,b1]:List Nat),bq<wr8.heap.size)→xInv3 [.int .i64 0,.int .i64 l8Give,.slice l8Give1O l8Give1L l8Give1C,.slice l8Give2O l8Give2L l8Give2C,.slice l8Give3O l8Give3L l8Give3C] wr8) ∧
 ∀(c3 l4:Int) (l5O:Option Addr) (l5L l5C:Nat) (l6O:Option Addr) (l6L l6C:Nat) (l7O:Option Addr) (l7L l7C:Nat) wv7,(∀bq∈([b,b1]:List Nat),bq<wv7.heap.size)→xInv3 [.int .i64 c3,.int .i64 l4,.slice l5O l5L l5C,.slice l6O l6L l6C,.slice l7O l7L l7C] wv7 →
 ((decide (c3<(l5L:Int)))=true →
 (∀wr9,ExtX [b,b1] wv7 wr9→(∀bq∈([b,b1]:List Nat),bq<wr9.heap.size) →
 Calls Tryz.prog fn_spec_l8Lines #[.agg #[.int .i64 l4,.slice l5O l5L l5C,.slice l6O l6L l6C,.slice l7O l7L l7C],.int .i64 c3] wr9 fun e4 wv8 =>
 (∃l8Line12 l8Line13O l8Line13L l8Line13C l8Line14O l8Line14L l8Line14C l8Line15O l8Line15L l8Line15C,
 e4 = .returned (.agg #[.int .i64 l8Line12,.slice l8Line13O l8Line13L l8Line13C,.slice l8Line14O l8Line14L l8Line14C,.slice l8Line15O l8Line15L l8Line15C])∧Kept [b,b1] wr9 wv8 ∧
 (∀wr10,ExtX [b,b1] wv8 wr10→(∀bq∈([b,b1]:List Nat),bq<wr10.heap.size) →
 Calls Tryz.prog fn_spec_l8Floors #[.agg #[.int .i64 l8Line12,.slice l8Line13O l8Line13L l8Line13C,.slice l8Line14O l8Line14L l8Line14C,.slice l8Line15O l8Line15L l8Line15C],.int .i64 c3] wr10 fun e5 wv9 =>
 (∃l8Floo l8Floo1O l8Floo1L l8Floo1C l8Floo2O l8Floo2L l8Floo2C l8Floo3O l8Floo3L l8Floo3C,
 e5 = .returned (.agg #[.int .i64 l8Floo,.slice l8Floo1O l8Floo1L l8Floo1C,.slice l8Floo2O l8Floo2L l8Floo2C,.slice l8Floo3O l8Floo3L l8Floo3C])∧Kept [b,b1] wr10 wv9 ∧
 Ix l8Floo1O l8Floo1L c3 ∧
 (∃cur,
 CellsX [b,b1] wv9 l8Floo1O (Int.toNat c3*5+1) [.int .i64 cur] ∧
 ((decide (cur≥0))=true→Ix l8Floo2O l8Floo2L cur) ∧
 (∃cpu,
 ((decide (cur≥0))=true→CellsX [b,b1] wv9 l8Floo2O (Int.toNat cur*9+2) [.int .i64 cpu]) ∧
 (∃l8InLi,
 ((cpu != c3)=false→((decide (cur≥0))=true→PureX [b,b1] Tryz.prog fn_spec_l8InLine #[.agg #[.int .i64 l8Floo,.slice l8Floo1O l8Floo1L l8Floo1C,.slice l8Floo2O l8Floo2L l8Floo2C,.slice l8Floo3O l8Floo3L l8Floo3C],.int .i64 cur] wv9 (.bool l8InLi))) ∧
 (((decide (cur≥0))&&((cpu != c3)||(!l8InLi)))=true →
 (∀wr11,ExtX [b,b1] wv9 wr11→(∀bq∈([b,b1]:List Nat),bq<wr11.heap.size) →
 Calls Tryz.prog fn_spec_l8End #[.agg #[.int .i64 l8Floo,.slice l8Floo1O l8Floo1L l8Floo1C,.slice l8Floo2O l8Floo2L l8Floo2C,.slice l8Floo3O l8Floo3L l8Floo3C],.int .i64 c3] wr11 fun e6 wv10 =>
 (∃l8End l8End1O l8End1L l8End1C l8End2O l8End2L l8End2C l8End3O l8End3L l8End3C,
 e6 = .returned (.agg #[.int .i64 l8End,.slice l8End1O l8End1L l8End1C,.slice l8End2O l8End2L l8End2C,.slice l8End3O l8End3L l8End3C])∧Kept [b,b1] wr11 wv10 ∧
 InR .i64 (c3+1) ∧
 (∀wr12,ExtX [b,b1] wv10 wr12→(∀bq∈([b,b1]:List Nat),bq<wr12.heap.size)→xInv3 [.int .i64 (c3+1),.int .i64 l8End,.slice l8End1O l8End1L l8End1C,.slice l8End2O l8End2L l8End2C,.slice l8End3O l8End3L l8End3C] wr12∧mu3 [.int .i64 (c3+1),.int .i64 l8End,.slice l8End1O l8End1L l8End1C,.slice l8End2O l8End2L l8End2C,.slice l8End3O l8End3L l8End3C] wr12<mu3 [.int .i64 c3,.int .i64 l4,.slice l5O l5L l5C,.slice l6O l6L l6C,.slice l7O l7L l7C] wv7)))) ∧
 (((decide (cur≥0))&&((cpu != c3)||(!l8InLi)))=false →
 InR .i64 (c3+1) ∧
 (∀wr13,ExtX [b,b1] wv9 wr13→(∀bq∈([b,b1]:List Nat),bq<wr13.heap.size)→xInv3 [.int .i64 (c3+1),.int .i64 l8Floo,.slice l8Floo1O l8Floo1L l8Floo1C,.slice l8Floo2O l8Floo2L l8Floo2C,.slice l8Floo3O l8Floo3L l8Floo3C] wr13∧mu3 [.int .i64 (c3+1),.int .i64 l8Floo,.slice l8Floo1O l8Floo1L l8Floo1C,.slice l8Floo2O l8Floo2L l8Floo2C,.slice l8Floo3O l8Floo3L l8Floo3C] wr13<mu3 [.int .i64 c3,.int .i64 l4,.slice l5O l5L l5C,.slice l6O l6L l6C,.slice l7O l7L l7C] wv7)))))))))) ∧
 ((decide (c3<(l5L:Int)))=false →
 (∀wr14,ExtX [b,b1] wv7 wr14→R (.agg #[.int .i64 l4,.slice l5O l5L l5C,.slice l6O l6L l6C,.slice l7O l7L l7C]) wr14)))))))))
theorem e_spec_l8Settle (w0 w1O w1L w1C w2O w2L w2C w3O w3L w3C):EfV (V_spec_l8Settle w0 w1O w1L w1C w2O w2L w2C w3O w3L w3C) fn_spec_l8Settle #[.agg #[.int .i64 w0,.slice w1O w1L w1C,.slice w2O w2L w2C,.slice w3O w3L w3C]]:=eV [] false [(2,⟨[(3,.int .i64)],[(0,[.int .i64,.slice,.slice,.slice])],[1,2],[],[]⟩),(7,⟨[(4,.int .i64)],[(0,[.int .i64,.slice,.slice,.slice])],[1,2],[],[]⟩)] Tryz.func31 (by kernel_rfl) (by kernel_rfl)
def V_spec_l10Lag (w0:Int) (w1O:Option Addr) (w1L w1C:Nat) (w2O:Option Addr) (w2L w2C:Nat) (w3O:Option Addr) (w3L w3C:Nat) (t:Int) (w:World) (R:Value→World→Prop):Prop :=
 (∀b,w.heap.size≤b →
 Ix w2O w2L t ∧
 (∃x0 x1 x2 x3 x4 x5 x6 x7 x8,
 CellsX [] w w2O (Int.toNat t*9) [.int .i64 x0,.int .i64 x1,.int .i64 x2,.int .i64 x3,.int .i64 x4,.int .i64 x5,.int .i64 x6,.int .i64 x7,.int .i64 x8] ∧
 (∀b1,w.heap.size≤b1 →
 Ix w3O w3L x1 ∧
 (∃shelvesO shelvesL shelvesC,
 CellsX [] w w3O (Int.toNat x1*14+13) [.slice shelvesO shelvesL shelvesC] ∧
 Ix shelvesO shelvesL x2 ∧
 (∃floor,
 CellsX [] w shelvesO (Int.toNat x2*5+0) [.int .i64 floor] ∧
 InR .i64 (x5 - floor) ∧
 (∃xWeight,
 PureX [] Tryz.prog fn_spec_WeightOf #[.int .i64 x3] w (.int .i64 xWeight) ∧
 (∃xLagCut,
 PureX [] Tryz.prog fn_spec_LagCut #[.int .i64 (x5 - floor),.int .i64 xWeight] w (.int .i64 xLagCut) ∧
 R (.int .i64 xLagCut) w)))))))
theorem p_spec_l10Lag (w0 w1O w1L w1C w2O w2L w2C w3O w3L w3C t):PuV (V_spec_l10Lag w0 w1O w1L w1C w2O w2L w2C w3O w3L w3C t) fn_spec_l10Lag #[.agg #[.int .i64 w0,.slice w1O w1L w1C,.slice w2O w2L w2C,.slice w3O w3L w3C],.int .i64 t]:=pV [] false [] Tryz.func130 (by kernel_rfl) (by kernel_rfl)
def V_spec_l10Put (w0:Int) (w1O:Option Addr) (w1L w1C:Nat) (w2O:Option Addr) (w2L w2C:Nat) (w3O:Option Addr) (w3L w3C:Nat) (t g c:Int) (w:World) (R:Value→World→Prop):Prop :=
 (∀b,w.heap.size≤b →
 (∀b1,w.heap.size≤b1 →
 (∃l10Lag,
 PureX [] Tryz.prog fn_spec_l10Lag #[.agg #[.int .i64 w0,.slice w1O w1L w1C,.slice w2O w2L w2C,.slice w3O w3L w3C],.int .i64 t] w (.int .i64 l10Lag) ∧
 Ix w2O w2L t ∧
 (∃x0 x1 x2 x3 x4 x5 x6 x7 x8,
 CellsX [] w w2O (Int.toNat t*9) [.int .i64 x0,.int .i64 x1,.int .i64 x2,.int .i64 x3,.int .i64 x4,.int .i64 x5,.int .i64 x6,.int .i64 x7,.int .i64 x8] ∧
 (∀b2,w.heap.size≤b2 →
 Ix w3O w3L g ∧
 (∃shelvesO shelvesL shelvesC,
 CellsX [] w w3O (Int.toNat g*14+13) [.slice shelvesO shelvesL shelvesC] ∧
 Ix shelvesO shelvesL c ∧
 (∃floor,
 CellsX [] w shelvesO (Int.toNat c*5+0) [.int .i64 floor] ∧
 InR .i64 (floor+l10Lag) ∧
 Ix w2O w2L t ∧
 WrX [] w w2O (Int.toNat t*9) 9 ∧
 ((x0==1)=true →
 (∀wr,ExtX [] (sto w w2O (Int.toNat t*9) [.int .i64 x0,.int .i64 g,.int .i64 c,.int .i64 x3,.int .i64 x4,.int .i64 (floor+l10Lag),.int .i64 x6,.int .i64 x7,.int .i64 x8]) wr→(∀bq∈([b,b1,b2]:List Nat),bq<wr.heap.size) →
 Calls Tryz.prog fn_spec_l8End #[.agg #[.int .i64 w0,.slice w1O w1L w1C,.slice w2O w2L w2C,.slice w3O w3L w3C],.int .i64 c] wr fun e wv =>
 (∃l8End l8End1O l8End1L l8End1C l8End2O l8End2L l8End2C l8End3O l8End3L l8End3C,
 e = .returned (.agg #[.int .i64 l8End,.slice l8End1O l8End1L l8End1C,.slice l8End2O l8End2L l8End2C,.slice l8End3O l8End3L l8End3C])∧Kept [b,b1,b2] wr wv ∧
 (∀wr1,ExtX [b,b1,b2] wv wr1→R (.agg #[.int .i64 l8End,.slice l8End1O l8End1L l8End1C,.slice l8End2O l8End2L l8End2C,.slice l8End3O l8End3L l8End3C]) wr1)))) ∧
 ((x0==1)=false →
 (∀wr2,ExtX [] (sto w w2O (Int.toNat t*9) [.int .i64 x0,.int .i64 g,.int .i64 c,.int .i64 x3,.int .i64 x4,.int .i64 (floor+l10Lag),.int .i64 x6,.int .i64 x7,.int .i64 x8]) wr2→R (.agg #[.int .i64 w0,.slice w1O w1L w1C,.slice w2O w2L w2C,.slice w3O w3L w3C]) wr2)))))))))
theorem e_spec_l10Put (w0 w1O w1L w1C w2O w2L w2C w3O w3L w3C t g c):EfV (V_spec_l10Put w0 w1O w1L w1C w2O w2L w2C w3O w3L w3C t g c) fn_spec_l10Put #[.agg #[.int .i64 w0,.slice w1O w1L w1C,.slice w2O w2L w2C,.slice w3O w3L w3C],.int .i64 t,.int .i64 g,.int .i64 c]:=eV [] false [] Tryz.func58 (by kernel_rfl) (by kernel_rfl)
def V_laws_toCpu (a0:Bool) (a1 a2 a3 a4:Int) (w:World) (R:Value→World→Prop):Prop :=
 (∀b,w.heap.size≤b →
 (∀b1,w.heap.size≤b1 →
 (∀b2,w.heap.size≤b2 →
 R (.agg #[.bool a0,.int .i64 a1,.int .i64 a2,.int .i64 a3,.int .i64 a4]) w)))
theorem p_laws_toCpu (a0 a1 a2 a3 a4):PuV (V_laws_toCpu a0 a1 a2 a3 a4) fn_laws_toCpu #[.agg #[.bool a0,.int .i64 a1,.int .i64 a2,.int .i64 a3,.int .i64 a4]]:=pV [] false [] Tryz.func104 (by kernel_rfl) (by kernel_rfl)
def V_laws_toCpuS (aO:Option Addr) (aL aC:Nat) (w:World) (R:Value→World→Prop):Prop :=
 (∀wr,ExtX [] w wr→(∀bq∈([]:List Nat),bq<wr.heap.size) →
 (∃mkO mkL mkC,
 ∃wv,((Instr.makeSlice ty_sl_impl_Cpu (.int .i64 (aL:Int)) (.int .i64 (aL:Int))):Sem Value).run Tryz.prog wr = .ok (.slice mkO mkL mkC) wv∧Kept [] wr wv ∧
 (∃(xInv:List Value→World→Prop) (mu:List Value→World→Nat),(∀wr1,ExtX [] wv wr1→(∀bq∈([]:List Nat),bq<wr1.heap.size)→xInv [.int .i64 0] wr1) ∧
 ∀(i:Int) wv1,(∀bq∈([]:List Nat),bq<wv1.heap.size)→xInv [.int .i64 i] wv1 →
 ((decide (i<(aL:Int)))=true →
 Ix aO aL i ∧
 (∃x0 x1 x2 x3 x4,
 CellsX [] wv1 aO (Int.toNat i*5) [.bool x0,.int .i64 x1,.int .i64 x2,.int .i64 x3,.int .i64 x4] ∧
 (∃toCpu toCpu1 toCpu2 toCpu3 toCpu4,
 PureX [] Tryz.prog fn_laws_toCpu #[.agg #[.bool x0,.int .i64 x1,.int .i64 x2,.int .i64 x3,.int .i64 x4]] wv1 (.agg #[.bool toCpu,.int .i64 toCpu1,.int .i64 toCpu2,.int .i64 toCpu3,.int .i64 toCpu4]) ∧
 Ix mkO mkL i ∧
 WrX [] wv1 mkO (Int.toNat i*5) 5 ∧
 InR .i64 (i+1) ∧
 (∀wr2,ExtX [] (sto wv1 mkO (Int.toNat i*5) [.bool toCpu,.int .i64 toCpu1,.int .i64 toCpu2,.int .i64 toCpu3,.int .i64 toCpu4]) wr2→(∀bq∈([]:List Nat),bq<wr2.heap.size)→xInv [.int .i64 (i+1)] wr2∧mu [.int .i64 (i+1)] wr2<mu [.int .i64 i] wv1)))) ∧
 ((decide (i<(aL:Int)))=false →
 (∀wr3,ExtX [] wv1 wr3→R (.slice mkO mkL mkC) wr3)))))
theorem e_laws_toCpuS (aO aL aC):EfV (V_laws_toCpuS aO aL aC) fn_laws_toCpuS #[.slice aO aL aC]:=eV [] false [(3,⟨[(4,.int .i64)],[],[0,3],[],[]⟩)] Tryz.func33 (by kernel_rfl) (by kernel_rfl)
def V_laws_toTask (a0 a1 a2 a3 a4 a5 a6 a7 a8:Int) (w:World) (R:Value→World→Prop):Prop :=
 (∀b,w.heap.size≤b →
 (∀b1,w.heap.size≤b1 →
 (∀b2,w.heap.size≤b2 →
 R (.agg #[.int .i64 a0,.int .i64 a1,.int .i64 a2,.int .i64 a3,.int .i64 a4,.int .i64 a5,.int .i64 a6,.int .i64 a7,.int .i64 a8]) w)))
theorem p_laws_toTask (a0 a1 a2 a3 a4 a5 a6 a7 a8):PuV (V_laws_toTask a0 a1 a2 a3 a4 a5 a6 a7 a8) fn_laws_toTask #[.agg #[.int .i64 a0,.int .i64 a1,.int .i64 a2,.int .i64 a3,.int .i64 a4,.int .i64 a5,.int .i64 a6,.int .i64 a7,.int .i64 a8]]:=pV [] false [] Tryz.func105 (by kernel_rfl) (by kernel_rfl)
def V_laws_toTaskS (aO:Option Addr) (aL aC:Nat) (w:World) (R:Value→World→Prop):Prop :=
 (∀wr,ExtX [] w wr→(∀bq∈([]:List Nat),bq<wr.heap.size) →
 (∃mkO mkL mkC,
 ∃wv,((Instr.makeSlice ty_sl_impl_Task (.int .i64 (aL:Int)) (.int .i64 (aL:Int))):Sem Value).run Tryz.prog wr = .ok (.slice mkO mkL mkC) wv∧Kept [] wr wv ∧
 (∃(xInv:List Value→World→Prop) (mu:List Value→World→Nat),(∀wr1,ExtX [] wv wr1→(∀bq∈([]:List Nat),bq<wr1.heap.size)→xInv [.int .i64 0] wr1) ∧
 ∀(i:Int) wv1,(∀bq∈([]:List Nat),bq<wv1.heap.size)→xInv [.int .i64 i] wv1 →
 ((decide (i<(aL:Int)))=true →
 Ix aO aL i ∧
 (∃x0 x1 x2 x3 x4 x5 x6 x7 x8,
 CellsX [] wv1 aO (Int.toNat i*9) [.int .i64 x0,.int .i64 x1,.int .i64 x2,.int .i64 x3,.int .i64 x4,.int .i64 x5,.int .i64 x6,.int .i64 x7,.int .i64 x8] ∧
 (∃toTask toTask1 toTask2 toTask3 toTask4 toTask5 toTask6 toTask7 toTask8,
 PureX [] Tryz.prog fn_laws_toTask #[.agg #[.int .i64 x0,.int .i64 x1,.int .i64 x2,.int .i64 x3,.int .i64 x4,.int .i64 x5,.int .i64 x6,.int .i64 x7,.int .i64 x8]] wv1 (.agg #[.int .i64 toTask,.int .i64 toTask1,.int .i64 toTask2,.int .i64 toTask3,.int .i64 toTask4,.int .i64 toTask5,.int .i64 toTask6,.int .i64 toTask7,.int .i64 toTask8]) ∧
 Ix mkO mkL i ∧
 WrX [] wv1 mkO (Int.toNat i*9) 9 ∧
 InR .i64 (i+1) ∧
 (∀wr2,ExtX [] (sto wv1 mkO (Int.toNat i*9) [.int .i64 toTask,.int .i64 toTask1,.int .i64 toTask2,.int .i64 toTask3,.int .i64 toTask4,.int .i64 toTask5,.int .i64 toTask6,.int .i64 toTask7,.int .i64 toTask8]) wr2→(∀bq∈([]:List Nat),bq<wr2.heap.size)→xInv [.int .i64 (i+1)] wr2∧mu [.int .i64 (i+1)] wr2<mu [.int .i64 i] wv1)))) ∧
 ((decide (i<(aL:Int)))=false →
 (∀wr3,ExtX [] wv1 wr3→R (.slice mkO mkL mkC) wr3)))))
theorem e_laws_toTaskS (aO aL aC):EfV (V_laws_toTaskS aO aL aC) fn_laws_toTaskS #[.slice aO aL aC]:=eV [] false [(3,⟨[(4,.int .i64)],[],[0,3],[],[]⟩)] Tryz.func34 (by kernel_rfl) (by kernel_rfl)
def V_laws_toIntS (aO:Option Addr) (aL aC:Nat) (w:World) (R:Value→World→Prop):Prop :=
 (∀wr,ExtX [] w wr→(∀bq∈([]:List Nat),bq<wr.heap.size) →
 (∃mkO mkL mkC,
 ∃wv,((Instr.makeSlice ty_sl_int (.int .i64 (aL:Int)) (.int .i64 (aL:Int))):Sem Value).run Tryz.prog wr = .ok (.slice mkO mkL mkC) wv∧Kept [] wr wv ∧
 (∃(xInv:List Value→World→Prop) (mu:List Value→World→Nat),(∀wr1,ExtX [] wv wr1→(∀bq∈([]:List Nat),bq<wr1.heap.size)→xInv [.int .i64 0] wr1) ∧
 ∀(i:Int) wv1,(∀bq∈([]:List Nat),bq<wv1.heap.size)→xInv [.int .i64 i] wv1 →
 ((decide (i<(aL:Int)))=true →
 Ix aO aL i ∧
 (∃x,
 CellsX [] wv1 aO (Int.toNat i*1) [.int .i64 x] ∧
 Ix mkO mkL i ∧
 WrX [] wv1 mkO (Int.toNat i*1) 1 ∧
 InR .i64 (i+1) ∧
 (∀wr2,ExtX [] (sto wv1 mkO (Int.toNat i*1) [.int .i64 x]) wr2→(∀bq∈([]:List Nat),bq<wr2.heap.size)→xInv [.int .i64 (i+1)] wr2∧mu [.int .i64 (i+1)] wr2<mu [.int .i64 i] wv1))) ∧
 ((decide (i<(aL:Int)))=false →
 (∀wr3,ExtX [] wv1 wr3→R (.slice mkO mkL mkC) wr3)))))
theorem e_laws_toIntS (aO aL aC):EfV (V_laws_toIntS aO aL aC) fn_laws_toIntS #[.slice aO aL aC]:=eV [] false [(3,⟨[(4,.int .i64)],[],[0,3],[],[]⟩)] Tryz.func225 (by kernel_rfl) (by kernel_rfl)
def V_laws_toBoolS (aO:Option Addr) (aL aC:Nat) (w:World) (R:Value→World→Prop):Prop :=
 (∀wr,ExtX [] w wr→(∀bq∈([]:List Nat),bq<wr.heap.size) →
 (∃mkO mkL mkC,
 ∃wv,((Instr.makeSlice ty_sl_bool (.int .i64 (aL:Int)) (.int .i64 (aL:Int))):Sem Value).run Tryz.prog wr = .ok (.slice mkO mkL mkC) wv∧Kept [] wr wv ∧
 (∃(xInv:List Value→World→Prop) (mu:List Value→World→Nat),(∀wr1,ExtX [] wv wr1→(∀bq∈([]:List Nat),bq<wr1.heap.size)→xInv [.int .i64 0] wr1) ∧
 ∀(i:Int) wv1,(∀bq∈([]:List Nat),bq<wv1.heap.size)→xInv [.int .i64 i] wv1 →
 ((decide (i<(aL:Int)))=true →
 Ix aO aL i ∧
 (∃x,
 CellsX [] wv1 aO (Int.toNat i*1) [.bool x] ∧
 Ix mkO mkL i ∧
 WrX [] wv1 mkO (Int.toNat i*1) 1 ∧
 InR .i64 (i+1) ∧
 (∀wr2,ExtX [] (sto wv1 mkO (Int.toNat i*1) [.bool x]) wr2→(∀bq∈([]:List Nat),bq<wr2.heap.size)→xInv [.int .i64 (i+1)] wr2∧mu [.int .i64 (i+1)] wr2<mu [.int .i64 i] wv1))) ∧
 ((decide (i<(aL:Int)))=false →
 (∀wr3,ExtX [] wv1 wr3→R (.slice mkO mkL mkC) wr3)))))
theorem e_laws_toBoolS (aO aL aC):EfV (V_laws_toBoolS aO aL aC) fn_laws_toBoolS #[.slice aO aL aC]:=eV [] false [(3,⟨[(4,.int .i64)],[],[0,3],[],[]⟩)] Tryz.func226 (by kernel_rfl) (by kernel_rfl)
def V_laws_toBand (a0 a1 a2:Int) (a3O:Option Addr) (a3L a3C:Nat) (a4O:Option Addr) (a4L a4C:Nat) (w:World) (R:Value→World→Prop):Prop :=
 (∀b,w.heap.size≤b →
 (∀b1,w.heap.size≤b1 →
 (∀b2,w.heap.size≤b2 →
 (∀wr,ExtX [] w wr→(∀bq∈([b,b1,b2]:List Nat),bq<wr.heap.size) →
 Calls Tryz.prog fn_laws_toIntS #[.slice a3O a3L a3C] wr fun e wv =>
 (∃toIntSO toIntSL toIntSC,
 e = .returned (.slice toIntSO toIntSL toIntSC)∧Kept [b,b1,b2] wr wv ∧
 (∀wr1,ExtX [b,b1,b2] wv wr1→(∀bq∈([b,b1,b2]:List Nat),bq<wr1.heap.size) →
 Calls Tryz.prog fn_laws_toBoolS #[.slice a4O a4L a4C] wr1 fun e1 wv1 =>
 (∃toBoolO toBoolL toBoolC,
 e1 = .returned (.slice toBoolO toBoolL toBoolC)∧Kept [b,b1,b2] wr1 wv1 ∧
 (∀wr2,ExtX [b,b1,b2] wv1 wr2→R (.agg #[.int .i64 a0,.int .i64 a1,.int .i64 a2,.slice toIntSO toIntSL toIntSC,.slice toBoolO toBoolL toBoolC]) wr2))))))))
theorem e_laws_toBand (a0 a1 a2 a3O a3L a3C a4O a4L a4C):EfV (V_laws_toBand a0 a1 a2 a3O a3L a3C a4O a4L a4C) fn_laws_toBand #[.agg #[.int .i64 a0,.int .i64 a1,.int .i64 a2,.slice a3O a3L a3C,.slice a4O a4L a4C]]:=eV [] false [] Tryz.func180 (by kernel_rfl) (by kernel_rfl)
def V_laws_toShelf (a0:Int) (a1:Bool) (a2 a3 a4:Int) (w:World) (R:Value→World→Prop):Prop :=
 (∀b,w.heap.size≤b →
 (∀b1,w.heap.size≤b1 →
 (∀b2,w.heap.size≤b2 →
 R (.agg #[.int .i64 a0,.bool a1,.int .i64 a2,.int .i64 a3,.int .i64 a4]) w)))
theorem p_laws_toShelf (a0 a1 a2 a3 a4):PuV (V_laws_toShelf a0 a1 a2 a3 a4) fn_laws_toShelf #[.agg #[.int .i64 a0,.bool a1,.int .i64 a2,.int .i64 a3,.int .i64 a4]]:=pV [] false [] Tryz.func227 (by kernel_rfl) (by kernel_rfl)
end Go.Proofs.YtajdcjidpolloaaGreatDoor
namespace Go.Proofs.YtajdcjidpolloaaGreatDoor
open Go.RowKit
set_option linter.unusedVariables false
set_option maxRecDepth 100000
set_option maxHeartbeats 1600000
def V_laws_toShelfS (aO:Option Addr) (aL aC:Nat) (w:World) (R:Value→World→Prop):Prop :=
 (∀wr,ExtX [] w wr→(∀bq∈([]:List Nat),bq<wr.heap.size) →
 (∃mkO mkL mkC,
 ∃wv,((Instr.makeSlice ty_sl_impl_Shelf (.int .i64 (aL:Int)) (.int .i64 (aL:Int))):Sem Value).run Tryz.prog wr = .ok (.slice mkO mkL mkC) wv∧Kept [] wr wv ∧
 (∃(xInv:List Value→World→Prop) (mu:List Value→World→Nat),(∀wr1,ExtX [] wv wr1→(∀bq∈([]:List Nat),bq<wr1.heap.size)→xInv [.int .i64 0] wr1) ∧
 ∀(i:Int) wv1,(∀bq∈([]:List Nat),bq<wv1.heap.size)→xInv [.int .i64 i] wv1 →
 ((decide (i<(aL:Int)))=true →
 Ix aO aL i ∧
 (∃x0 x1 x2 x3 x4,
 CellsX [] wv1 aO (Int.toNat i*5) [.int .i64 x0,.bool x1,.int .i64 x2,.int .i64 x3,.int .i64 x4] ∧
 (∃toShel toShel1 toShel2 toShel3 toShel4,
 PureX [] Tryz.prog fn_laws_toShelf #[.agg #[.int .i64 x0,.bool x1,.int .i64 x2,.int .i64 x3,.int .i64 x4]] wv1 (.agg #[.int .i64 toShel,.bool toShel1,.int .i64 toShel2,.int .i64 toShel3,.int .i64 toShel4]) ∧
 Ix mkO mkL i ∧
 WrX [] wv1 mkO (Int.toNat i*5) 5 ∧
 InR .i64 (i+1) ∧
 (∀wr2,ExtX [] (sto wv1 mkO (Int.toNat i*5) [.int .i64 toShel,.bool toShel1,.int .i64 toShel2,.int .i64 toShel3,.int .i64 toShel4]) wr2→(∀bq∈([]:List Nat),bq<wr2.heap.size)→xInv [.int .i64 (i+1)] wr2∧mu [.int .i64 (i+1)] wr2<mu [.int .i64 i] wv1)))) ∧
 ((decide (i<(aL:Int)))=false →
 (∀wr3,ExtX [] wv1 wr3→R (.slice mkO mkL mkC) wr3)))))
theorem e_laws_toShelfS (aO aL aC):EfV (V_laws_toShelfS aO aL aC) fn_laws_toShelfS #[.slice aO aL aC]:=eV [] false [(3,⟨[(4,.int .i64)],[],[0,3],[],[]⟩)] Tryz.func181 (by kernel_rfl) (by kernel_rfl)
def V_laws_toGroup (a0:Bool) (a1:Int) (a2:ByteArray) (a3 a4 a5 a6 a7 a8 a9 a10:Int) (a11O:Option Addr) (a11L a11C:Nat) (a12O:Option Addr) (a12L a12C:Nat) (a13O:Option Addr) (a13L a13C:Nat) (w:World) (R:Value→World→Prop):Prop :=
 (∀b,w.heap.size≤b →
 (∀b1,w.heap.size≤b1 →
 (∀b2,w.heap.size≤b2 →
 (∀wr,ExtX [] w wr→(∀bq∈([b,b1,b2]:List Nat),bq<wr.heap.size) →
 Calls Tryz.prog fn_laws_toBand #[.agg #[.int .i64 a8,.int .i64 a9,.int .i64 a10,.slice a11O a11L a11C,.slice a12O a12L a12C]] wr fun e wv =>
 (∃toBand toBand1 toBand2 toBand3O toBand3L toBand3C toBand4O toBand4L toBand4C,
 e = .returned (.agg #[.int .i64 toBand,.int .i64 toBand1,.int .i64 toBand2,.slice toBand3O toBand3L toBand3C,.slice toBand4O toBand4L toBand4C])∧Kept [b,b1,b2] wr wv ∧
 (∀wr1,ExtX [b,b1,b2] wv wr1→(∀bq∈([b,b1,b2]:List Nat),bq<wr1.heap.size) →
 Calls Tryz.prog fn_laws_toShelfS #[.slice a13O a13L a13C] wr1 fun e1 wv1 =>
 (∃toShelO toShelL toShelC,
 e1 = .returned (.slice toShelO toShelL toShelC)∧Kept [b,b1,b2] wr1 wv1 ∧
 (∀wr2,ExtX [b,b1,b2] wv1 wr2→R (.agg #[.bool a0,.int .i64 a1,.string a2,.int .i64 a3,.int .i64 a4,.int .i64 a5,.int .i64 a6,.int .i64 a7,.int .i64 toBand,.int .i64 toBand1,.int .i64 toBand2,.slice toBand3O toBand3L toBand3C,.slice toBand4O toBand4L toBand4C,.slice toShelO toShelL toShelC]) wr2))))))))
theorem e_laws_toGroup (a0 a1 a2 a3 a4 a5 a6 a7 a8 a9 a10 a11O a11L a11C a12O a12L a12C a13O a13L a13C):EfV (V_laws_toGroup a0 a1 a2 a3 a4 a5 a6 a7 a8 a9 a10 a11O a11L a11C a12O a12L a12C a13O a13L a13C) fn_laws_toGroup #[.agg #[.bool a0,.int .i64 a1,.string a2,.int .i64 a3,.int .i64 a4,.int .i64 a5,.int .i64 a6,.int .i64 a7,.int .i64 a8,.int .i64 a9,.int .i64 a10,.slice a11O a11L a11C,.slice a12O a12L a12C,.slice a13O a13L a13C]]:=eV [] false [] Tryz.func106 (by kernel_rfl) (by kernel_rfl)
def V_laws_toGroupS (aO:Option Addr) (aL aC:Nat) (w:World) (R:Value→World→Prop):Prop :=
 (∀wr,ExtX [] w wr→(∀bq∈([]:List Nat),bq<wr.heap.size) →
 (∃mkO mkL mkC,
 ∃wv,((Instr.makeSlice ty_sl_impl_Group (.int .i64 (aL:Int)) (.int .i64 (aL:Int))):Sem Value).run Tryz.prog wr = .ok (.slice mkO mkL mkC) wv∧Kept [] wr wv ∧
 (∃(xInv:List Value→World→Prop) (mu:List Value→World→Nat),(∀wr1,ExtX [] wv wr1→(∀bq∈([]:List Nat),bq<wr1.heap.size)→xInv [.int .i64 0] wr1) ∧
 ∀(i:Int) wv1,(∀bq∈([]:List Nat),bq<wv1.heap.size)→xInv [.int .i64 i] wv1 →
 ((decide (i<(aL:Int)))=true →
 Ix aO aL i ∧
 (∃(x0:Bool) (x1:Int) (x2:ByteArray) (x3 x4 x5 x6 x7 x8 x9 x10:Int) (x11O:Option Addr) (x11L x11C:Nat) (x12O:Option Addr) (x12L x12C:Nat) (x13O:Option Addr) (x13L x13C:Nat),
 CellsX [] wv1 aO (Int.toNat i*14) [.bool x0,.int .i64 x1,.string x2,.int .i64 x3,.int .i64 x4,.int .i64 x5,.int .i64 x6,.int .i64 x7,.int .i64 x8,.int .i64 x9,.int .i64 x10,.slice x11O x11L x11C,.slice x12O x12L x12C,.slice x13O x13L x13C] ∧
 (∀wr2,ExtX [] wv1 wr2→(∀bq∈([]:List Nat),bq<wr2.heap.size) →
 Calls Tryz.prog fn_laws_toGroup #[.agg #[.bool x0,.int .i64 x1,.string x2,.int .i64 x3,.int .i64 x4,.int .i64 x5,.int .i64 x6,.int .i64 x7,.int .i64 x8,.int .i64 x9,.int .i64 x10,.slice x11O x11L x11C,.slice x12O x12L x12C,.slice x13O x13L x13C]] wr2 fun e wv2 =>
 (∃(toGrou:Bool) (toGrou1:Int) (toGrou2:ByteArray) (toGrou3 toGrou4 toGrou5 toGrou6 toGrou7 toGrou8 toGrou9 toGrou10:Int) (toGrou11O:Option Addr) (toGrou11L toGrou11C:Nat) (toGrou12O:Option Addr) (toGrou12L toGrou12C:Nat) (toGrou13O:Option Addr) (toGrou13L toGrou13C:Nat),
 e = .returned (.agg #[.bool toGrou,.int .i64 toGrou1,.string toGrou2,.int .i64 toGrou3,.int .i64 toGrou4,.int .i64 toGrou5,.int .i64 toGrou6,.int .i64 toGrou7,.int .i64 toGrou8,.int .i64 toGrou9,.int .i64 toGrou10,.slice toGrou11O toGrou11L toGrou11C,.slice toGrou12O toGrou12L toGrou12C,.slice toGrou13O toGrou13L toGrou13C])∧Kept [] wr2 wv2 ∧
 Ix mkO mkL i ∧
 WrX [] wv2 mkO (Int.toNat i*14) 14 ∧
 InR .i64 (i+1) ∧
 (∀wr3,ExtX [] (sto wv2 mkO (Int.toNat i*14) [.bool toGrou,.int .i64 toGrou1,.string toGrou2,.int .i64 toGrou3,.int .i64 toGrou4,.int .i64 toGrou5,.int .i64 toGrou6,.int .i64 toGrou7,.int .i64 toGrou8,.int .i64 toGrou9,.int .i64 toGrou10,.slice toGrou11O toGrou11L toGrou11C,.slice toGrou12O toGrou12L toGrou12C,.slice toGrou13O toGrou13L toGrou13C]) wr3→(∀bq∈([]:List Nat),bq<wr3.heap.size)→xInv [.int .i64 (i+1)] wr3∧mu [.int .i64 (i+1)] wr3<mu [.int .i64 i] wv1))))) ∧
 ((decide (i<(aL:Int)))=false →
 (∀wr4,ExtX [] wv1 wr4→R (.slice mkO mkL mkC) wr4)))))
theorem e_laws_toGroupS (aO aL aC):EfV (V_laws_toGroupS aO aL aC) fn_laws_toGroupS #[.slice aO aL aC]:=eV [] false [(3,⟨[(4,.int .i64)],[],[0,3],[],[]⟩)] Tryz.func35 (by kernel_rfl) (by kernel_rfl)
def V_laws_toWorld (a0:Int) (a1O:Option Addr) (a1L a1C:Nat) (a2O:Option Addr) (a2L a2C:Nat) (a3O:Option Addr) (a3L a3C:Nat) (w:World) (R:Value→World→Prop):Prop :=
 (∀b,w.heap.size≤b →
 (∀b1,w.heap.size≤b1 →
 (∀b2,w.heap.size≤b2 →
 (∀wr,ExtX [] w wr→(∀bq∈([b,b1,b2]:List Nat),bq<wr.heap.size) →
 Calls Tryz.prog fn_laws_toCpuS #[.slice a1O a1L a1C] wr fun e wv =>
 (∃toCpuSO toCpuSL toCpuSC,
 e = .returned (.slice toCpuSO toCpuSL toCpuSC)∧Kept [b,b1,b2] wr wv ∧
 (∀wr1,ExtX [b,b1,b2] wv wr1→(∀bq∈([b,b1,b2]:List Nat),bq<wr1.heap.size) →
 Calls Tryz.prog fn_laws_toTaskS #[.slice a2O a2L a2C] wr1 fun e1 wv1 =>
 (∃toTaskO toTaskL toTaskC,
 e1 = .returned (.slice toTaskO toTaskL toTaskC)∧Kept [b,b1,b2] wr1 wv1 ∧
 (∀wr2,ExtX [b,b1,b2] wv1 wr2→(∀bq∈([b,b1,b2]:List Nat),bq<wr2.heap.size) →
 Calls Tryz.prog fn_laws_toGroupS #[.slice a3O a3L a3C] wr2 fun e2 wv2 =>
 (∃toGrouO toGrouL toGrouC,
 e2 = .returned (.slice toGrouO toGrouL toGrouC)∧Kept [b,b1,b2] wr2 wv2 ∧
 (∀wr3,ExtX [b,b1,b2] wv2 wr3→R (.agg #[.int .i64 a0,.slice toCpuSO toCpuSL toCpuSC,.slice toTaskO toTaskL toTaskC,.slice toGrouO toGrouL toGrouC]) wr3))))))))))
theorem e_laws_toWorld (a0 a1O a1L a1C a2O a2L a2C a3O a3L a3C):EfV (V_laws_toWorld a0 a1O a1L a1C a2O a2L a2C a3O a3L a3C) fn_laws_toWorld #[.agg #[.int .i64 a0,.slice a1O a1L a1C,.slice a2O a2L a2C,.slice a3O a3L a3C]]:=eV [] false [] Tryz.func10 (by kernel_rfl) (by kernel_rfl)
end Go.Proofs.YtajdcjidpolloaaGreatDoor
