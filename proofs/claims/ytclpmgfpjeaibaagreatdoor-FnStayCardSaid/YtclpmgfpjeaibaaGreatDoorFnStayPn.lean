/- Part 14 of what the law FnStay needs: the engine, the functions' propositions, the contracts. -/
import Derived.Test.YtclpmgfpjeaibaaGreatDoorFnStayPm
import Derived.Test.YtclpmgfpjeaibaaGreatDoorRows
import Derived.ChangeSame
import Derived.ChangeVars
import Derived.JoinedOf
import Derived.LaidLaws
import Derived.LaidHandle
import Derived.Stop.Joined
namespace Go.Proofs.YtclpmgfpjeaibaaGreatDoor
open Go.ChangeShapes Go.WideShapes Go.RowKit
set_option linter.unusedVariables false
set_option linter.unusedSimpArgs false
set_option maxRecDepth 100000
abbrev laidE : List (String × DataW Unit) := [("errors.errorType", Rows.laid_errors_errorType)]
theorem zaht : Tryz.prog.globalNamed "errors.errorType" = some 0 := by kernel_rfl
theorem zahu : (Tryz.prog.cutTypes.find? (·.1 == "internal/reflectlite.rtype")).map (·.2) = some 160 := by kernel_rfl
theorem zabn:Tryz.prog.types.size=205:=by kernel_rfl
theorem z7m:((List.range 205).filter fun t=>Tryz.prog.rowNamed t [101,114,114,111,114])=[103]:=by kernel_rfl
theorem z7l:typeHandle Tryz.prog 103 = .pointer (some ⟨1,103,none⟩):=by kernel_rfl
theorem glob_of_laid {W:World} (h:laidMetH Tryz.prog laidE W):zp2 W:=by
 have h':laidMet Tryz.prog [] W/\handlesMet Tryz.prog laidE W:=h
 obtain ⟨name,u,ty,e1,e2,e3,e4,e5⟩:=h'.2 _ (List.mem_singleton.2 rfl)
 have en:name=[101,114,114,111,114]:=(Option.some.inj e1).symm
 subst en
 obtain rfl:=Option.some.inj (zahu.symm.trans e2)
 have hm:ty∈(List.range 205).filter fun t=>Tryz.prog.rowNamed t [101,114,114,111,114]:=List.mem_filter.2 ⟨List.mem_range.2 (by rw [<-zabn]; exact e3),e4⟩
 rw [z7m] at hm
 obtain rfl:=List.mem_singleton.1 hm
 rw [z7l] at e5
 unfold zp2
 simpa using World.var?_cell zaht e5 0
noncomputable def laidWorld (os:Os):World:=
 let w0:=World.holding Tryz.prog os ⟨#[],#[],[]⟩
 { w0 with heap:=w0.heap.modify 0 fun
   | .cells _ t frozen=>.cells #[.iface 160 (.agg #[.pointer (some ⟨1,103,none⟩)])] t frozen
   | o=>o }
theorem laidWorld_met (os:Os) (args:Array Value):laidMetH Tryz.prog laidE ((laidWorld os).forCall (fun _ _=>0) ⟨#[],args,[]⟩).memory:=
 laidMetH_of_parts (laidMet_nil _ _) (by kernel_rfl)
end Go.Proofs.YtclpmgfpjeaibaaGreatDoor
namespace Go.Proofs.YtclpmgfpjeaibaaGreatDoor
open Go.RowKit
set_option linter.unusedVariables false
set_option linter.unusedSimpArgs false
set_option maxRecDepth 10000
def z1s (c:Option Addr) (L:Nat) (w:World):Prop:=∀i<L,∃(a:Addr) (x:Int),c=some a/\0<=x/\x<=255/\w.cell? (a.add i)=some (.int .u8 x)
theorem z1s.ext {c:Option Addr} {L:Nat} {w w':World} (h:z1s c L w) (hx:ExtX [] w w'):z1s c L w':=fun i hi=>by
 obtain ⟨a,x,ha,h1,h2,h3⟩:=h i hi
 obtain ⟨a',e,_,h''⟩:=(show ziq [] w c i (.int .u8 x) from ⟨a,ha,by simp,h3⟩).ext hx
 rw [ha] at e; cases e; exact ⟨a,x,ha,h1,h2,h''⟩
structure RS (rb:Nat) (c:Option Addr) (L N:Nat) (bs:List Nat) (w:World):Prop where
 rd:Rdr rb c L N w
 nb:rb∉bs
 oc:∀a,c=some a->a.block∉bs\/L=0
section
variable {rb:Nat} {c:Option Addr} {L N:Nat} {bs cs:List Nat} {w w':World} {b:Nat}
theorem RS.step (h:RS rb c L N bs w) (hx:ExtX bs w w'):RS rb c L N bs w':=⟨h.rd.ext hx h.nb h.oc,h.nb,h.oc⟩
theorem RS.call0 (h:RS rb c L N bs w) (hx:ExtX [] w w'):RS rb c L N bs w':=⟨h.rd.ext0 hx,h.nb,h.oc⟩
theorem RS.add (h:RS rb c L N bs w) (hb:w.heap.size<=b):RS rb c L N (bs++[b]) w:=⟨h.rd,fun hm=>by
 rcases List.mem_append.1 hm with hm | hm
 ·exact h.nb hm
 ·have:rb=b:=by simpa using hm
  have:=h.rd.lt
  omega,fun a ha=>by
 rcases h.oc a ha with h1 | h1
 ·rcases h.rd.ltc a ha with h2 | h2
  ·refine .inl fun hm => ?_
   rcases List.mem_append.1 hm with hm | hm
   ·exact h1 hm
   ·have:a.block=b:=by simpa using hm
    omega
  ·exact .inr h2
 ·exact .inr h1⟩
theorem RS.put (h:RS rb c L N bs w) (hx:ExtX bs w w') (hb:w.heap.size<=b):RS rb c L N (bs++[b]) w':=⟨(h.step hx).rd,(h.add hb).nb,(h.add hb).oc⟩
theorem RS.sub (h:RS rb c L N bs w) (hs:∀x∈cs,x∈bs):RS rb c L N cs w:=⟨h.rd,fun hm=>h.nb (hs _ hm),fun a ha=>by
 rcases h.oc a ha with h1 | h1
 ·exact .inl fun hm=>h1 (hs _ hm)
 ·exact .inr h1⟩
theorem RS.upd {M:Nat} (h:RS rb c L N bs w) (k:Rdr rb c L M w'):RS rb c L M bs w':=⟨k,h.nb,h.oc⟩
theorem RS.mono {M:Nat} (h:RS rb c L N bs w) (hm:N<=M):RS rb c L M bs w:=⟨h.rd.mono hm,h.nb,h.oc⟩
theorem Sc.stepB {w0:World} (h:Sc w0 (rb::bs) w) (hx:ExtX bs w w'):Sc w0 (rb::bs) w':=h.step (hx.mono fun _ hm=>List.mem_cons_of_mem _ hm)
theorem Sc.stepR {w0:World} (h:Sc w0 (rb::bs) w) (hx:ExtX [rb] w w'):Sc w0 (rb::bs) w':=h.step (hx.mono fun x hm=>by
 have:x=rb:=by simpa using hm
 subst this; simp)
theorem Sc.putB {w0:World} (h:Sc w0 (rb::bs) w) (hx:ExtX bs w w') (hb:w.heap.size<=b):Sc w0 (rb::(bs++[b])) w':=h.put (hx.mono fun _ hm=>List.mem_cons_of_mem _ hm) hb
theorem zag3 (h:RS rb c L N bs w) (hx:ExtX [rb] w w') (hs:∀x∈bs,x<w.heap.size):Kept bs w w':=zn8 hx hs fun x hm hm'=>by
 have:x=rb:=by simpa using hm
 subst this; exact h.nb hm'
end
section
variable {α:Type} {enc:α->List Value} {z:Nat} {ty:TypeId} {base rb:Nat} {bs:List Nat} {w w':World} {o:Option Addr} {cap:Nat} {l:List α} {b:Nat}
end
theorem zaah {c:Option Addr} {L C:Nat} {w:World} (h:z1s c L w) (hC:L<=C) :
  Calls Tryz.prog zju #[.slice c L C] w fun e w'=>∃b c' L',e = .returned (.pointer (some ⟨b,0,none⟩))/\w.heap.size<=b/\Rdr b c' L' 0 w'/\ExtX [] w w'/\∀a',c'=some a'->L'=0\/(0<L/\∃a,c=some a/\a'.block=a.block):=by
 refine (zzn c L C (R:=fun v w'=>∃b c' L',v = .pointer (some ⟨b,0,none⟩)/\w.heap.size<=b/\Rdr b c' L' 0 w'/\ExtX [] w w'/\∀a',c'=some a'->L'=0\/(0<L/\∃a,c=some a/\a'.block=a.block)) ?_).mono fun e w' ⟨v,he,b,c',L',hv,h1,h2,h3⟩=>⟨b,c',L',by rw [he,hv],h1,h2,h3⟩
 refine ⟨fun hlt=>⟨⟨by omega,by omega,by have:=of_decide_eq_true hlt; omega⟩,fun b wb hx hb hh _ wr hy=>⟨b,if C=Int.toNat 0 then c else c.map (·.add (Int.toNat 0*1)),Int.toNat 2000 - Int.toNat 0,rfl,hb,?_,hx.trans hy,fun a' ha' => ?_⟩⟩,fun hlt b wb hx hb hh _ wr hy=>⟨b,c,L,rfl,hb,?_,hx.trans hy,fun a' ha' => ?_⟩⟩
 ·refine Rdr.ext0 ⟨⟨_,0,hh,by omega,by omega⟩,fun i hi => ?_⟩ hy
  have hlt:=of_decide_eq_true hlt
  obtain ⟨a,x,ha,h1,h2,h3⟩:=h.ext hx i (by have:i<2000 - 0:=hi; omega)
  obtain ⟨a0,x0,ha0,_,_,h30⟩:=h i (by have:i<2000 - 0:=hi; omega)
  have hlt2:=World.block_lt_of_cell? w _ h30
  rw [zb2] at hlt2
  rw [ha] at ha0; cases ha0
  rw [if_neg (show ¬C=Int.toNat 0 from fun e=>by have:C=0:=e; omega),ha]
  refine ⟨a.add 0,x,rfl,by rw [zb2]; omega,h1,h2,?_⟩
  rw [zf6,Nat.zero_add]; exact h3
 ·have hlt:=of_decide_eq_true hlt
  refine .inr ⟨by omega,?_⟩
  rw [if_neg (show ¬C=Int.toNat 0 from fun e=>by have:C=0:=e; omega)] at ha'
  cases c with
  | none=>cases ha'
  | some a=>
   simp only [Option.map_some,Option.some.injEq] at ha'
   exact ⟨a,rfl,by rw [<-ha',zb2]⟩
 ·refine Rdr.ext0 ⟨⟨_,0,hh,by omega,by omega⟩,fun i hi => ?_⟩ hy
  obtain ⟨a,x,ha,h1,h2,h3⟩:=h.ext hx i hi
  obtain ⟨a0,x0,ha0,_,_,h30⟩:=h i hi
  have hlt2:=World.block_lt_of_cell? w _ h30
  rw [zb2] at hlt2
  rw [ha] at ha0; cases ha0
  exact ⟨a,x,ha,by omega,h1,h2,h3⟩
 ·rcases Nat.eq_zero_or_pos L with h0 | h0
  ·exact .inl h0
  ·exact .inr ⟨h0,a',ha',rfl⟩
theorem zh8 {a:Array Value} {i j:Nat} {v:Value} (h:i≠j):(a.setIfInBounds i v).getD j undef=a.getD j undef:=by
 rw [Array.getD_eq_getD_getElem?,Array.getD_eq_getD_getElem?,Array.getElem?_setIfInBounds_ne h]
def mkC (k:Int):Cpu:=⟨Int.tmod (k) 3==0,k+1,k+1+1,k+1+1+1,k+1+1+1+1⟩
end Go.Proofs.YtclpmgfpjeaibaaGreatDoor
