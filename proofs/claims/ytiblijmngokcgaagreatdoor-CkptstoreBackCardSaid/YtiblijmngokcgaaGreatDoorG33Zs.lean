import Derived.Test.YtiblijmngokcgaaGreatDoorMacZs
import Derived.Test.YtiblijmngokcgaaGreatDoorG32Zs
import Derived.Test.YtiblijmngokcgaaGreatDoorG18Zs
import Derived.Test.YtiblijmngokcgaaGreatDoorG24Zs
namespace Go.Proofs.YtiblijmngokcgaaGreatDoor
open Go.RowKit
set_option maxRecDepth 100000
set_option linter.unusedVariables false
set_option linter.unusedSimpArgs false
theorem eT {w:World} {V o:Nat} {i s k:Int} {nm:ByteArray} {z y:Int} (h:w.heap[V]? =some (.cells #[.string (ByteArray.mk #[120]),.int .i64 0,.int .i64 i,.string (ByteArray.mk #[97]),.int .i64 s,.int .i64 0,.string (ByteArray.mk #[121]),.int .i64 0,.int .i64 0,.string (ByteArray.mk #[122]),.int .i64 0,.int .i64 k,.string (ByteArray.mk #[98]),.int .i64 2,.int .i64 0] 199 (0,0))) (hc:((#[.string (ByteArray.mk #[120]),.int .i64 0,.int .i64 i,.string (ByteArray.mk #[97]),.int .i64 s,.int .i64 0,.string (ByteArray.mk #[121]),.int .i64 0,.int .i64 0,.string (ByteArray.mk #[122]),.int .i64 0,.int .i64 k,.string (ByteArray.mk #[98]),.int .i64 2,.int .i64 0]:Array Value).toList.drop o).take 3=[.string nm,.int .i64 z,.int .i64 y]):
 (loadVar 199 ⟨V,o,none⟩).run Tryz.prog w= .ok (.agg #[.string nm,.int .i64 z,.int .i64 y]) w:=by
 have:=run_loadVar_mid (P:=Tryz.prog) w V o 199 [.string nm,.int .i64 z,.int .i64 y] _ (fun j v hv=>by
  rw [cell_of_row _ _ _ _ _ _ h]
  have hj:j<3:=by have:=(List.getElem?_eq_some_iff.1 hv).1;simpa using this
  rw [←hc,List.getElem?_take,if_pos hj,List.getElem?_drop] at hv
  simpa using hv) Tryz.underlying199 rfl (by kernel_rfl)
 exact this
def dV (s:Int):Nat→Int
 |0=>0
 |1=>1
 |2=>1+s
 |3=>2+s
 |4=>3+s
 |_=>5+s
def NA (nm:ByteArray) (a b:Int) (ok:Bool):Prop:=(0≤a∧a≤1000)∧(0≤b∧b≤1000)∧(gW nm→b=0∧ok=true)∧(jJ nm→1≤b∧ok=true)
set_option maxHeartbeats 4000000 in
theorem FF (w:World) (V:Nat) (i s k:Int) (h1:1≤s) (h5:s≤5) (hV:w.heap[V]? =some (.cells #[.string (ByteArray.mk #[120]),.int .i64 0,.int .i64 i,.string (ByteArray.mk #[97]),.int .i64 s,.int .i64 0,.string (ByteArray.mk #[121]),.int .i64 0,.int .i64 0,.string (ByteArray.mk #[122]),.int .i64 0,.int .i64 k,.string (ByteArray.mk #[98]),.int .i64 2,.int .i64 0] 199 (0,0))):
 Calls Tryz.prog 187 #[.slice (some ⟨V,0,none⟩) 5 5,.string (ByteArray.mk #[120])] w fun e w' =>e= .returned (.tuple #[.int .i64 (0),.int .i64 (0),.bool true])∧Below w.heap.size w w' :=by
 have hVl:V<w.heap.size:=(Array.getElem?_eq_some_iff.1 hV).1
 have HV:=Lib.hid (fun (w' :World) (hb:Below w.heap.size w w')=>(hb.block V hVl).trans hV)
 clear hV
 go_enter Tryz.func187,Tryz.ntmps187
 go_wp2
 go_loopw [7,8] (fun a b wr=>∃j:Nat,b= .int .i64 j∧j≤0∧a= .int .i64 (dV s j)∧Below w.heap.size w wr) (fun _ b _=>0-(intOf b).toNat)
 case atStart=>exact ⟨0,rfl,by omega,rfl,Below.refl _ _⟩
 case round=>
  obtain ⟨j,rfl,hj,rfl,hb⟩:=hrel
  have R:=Lib.hid (HV.out wr hb)
  obtain rfl:j=0:=by omega
  have ep:dV s 0=0:=rfl
  rw [ep]
  have q:wr.cell? ⟨V,0,none⟩=some (.string (ByteArray.mk #[120])):=by rw [cell_of_row _ _ _ _ _ _ R.out];rfl
  have q1:wr.cell? ⟨V,1,none⟩=some (.int .i64 0):=by rw [cell_of_row _ _ _ _ _ _ R.out];rfl
  exact Tza5
set_option maxHeartbeats 4000000 in
theorem FE (w:World) (V:Nat) (i s k:Int) (h1:1≤s) (h5:s≤5) (hV:w.heap[V]? =some (.cells #[.string (ByteArray.mk #[120]),.int .i64 0,.int .i64 i,.string (ByteArray.mk #[97]),.int .i64 s,.int .i64 0,.string (ByteArray.mk #[121]),.int .i64 0,.int .i64 0,.string (ByteArray.mk #[122]),.int .i64 0,.int .i64 k,.string (ByteArray.mk #[98]),.int .i64 2,.int .i64 0] 199 (0,0))):
 Calls Tryz.prog 187 #[.slice (some ⟨V,0,none⟩) 5 5,.string (ByteArray.mk #[97])] w fun e w' =>e= .returned (.tuple #[.int .i64 (1),.int .i64 (s),.bool true])∧Below w.heap.size w w' :=by
 have hVl:V<w.heap.size:=(Array.getElem?_eq_some_iff.1 hV).1
 have HV:=Lib.hid (fun (w' :World) (hb:Below w.heap.size w w')=>(hb.block V hVl).trans hV)
 clear hV
 go_enter Tryz.func187,Tryz.ntmps187
 go_wp2
 go_loopw [7,8] (fun a b wr=>∃j:Nat,b= .int .i64 j∧j≤1∧a= .int .i64 (dV s j)∧Below w.heap.size w wr) (fun _ b _=>1-(intOf b).toNat)
 case atStart=>exact ⟨0,rfl,by omega,rfl,Below.refl _ _⟩
 case round=>
  obtain ⟨j,rfl,hj,rfl,hb⟩:=hrel
  have R:=Lib.hid (HV.out wr hb)
  by_cases h0:j=0
  ·exact Tzai
  obtain rfl:j=1:=by omega
  have ep:dV s 1=1:=rfl
  rw [ep]
  have q:wr.cell? ⟨V,3,none⟩=some (.string (ByteArray.mk #[97])):=by rw [cell_of_row _ _ _ _ _ _ R.out];rfl
  have q1:wr.cell? ⟨V,4,none⟩=some (.int .i64 s):=by rw [cell_of_row _ _ _ _ _ _ R.out];rfl
  exact Tza5
set_option maxHeartbeats 4000000 in
theorem FD (w:World) (V:Nat) (i s k:Int) (h1:1≤s) (h5:s≤5) (hV:w.heap[V]? =some (.cells #[.string (ByteArray.mk #[120]),.int .i64 0,.int .i64 i,.string (ByteArray.mk #[97]),.int .i64 s,.int .i64 0,.string (ByteArray.mk #[121]),.int .i64 0,.int .i64 0,.string (ByteArray.mk #[122]),.int .i64 0,.int .i64 k,.string (ByteArray.mk #[98]),.int .i64 2,.int .i64 0] 199 (0,0))):
 Calls Tryz.prog 187 #[.slice (some ⟨V,0,none⟩) 5 5,.string (ByteArray.mk #[121])] w fun e w' =>e= .returned (.tuple #[.int .i64 (1+s),.int .i64 (0),.bool true])∧Below w.heap.size w w' :=by
 have hVl:V<w.heap.size:=(Array.getElem?_eq_some_iff.1 hV).1
 have HV:=Lib.hid (fun (w' :World) (hb:Below w.heap.size w w')=>(hb.block V hVl).trans hV)
 clear hV
 go_enter Tryz.func187,Tryz.ntmps187
 go_wp2
 go_loopw [7,8] (fun a b wr=>∃j:Nat,b= .int .i64 j∧j≤2∧a= .int .i64 (dV s j)∧Below w.heap.size w wr) (fun _ b _=>2-(intOf b).toNat)
 case atStart=>exact ⟨0,rfl,by omega,rfl,Below.refl _ _⟩
 case round=>
  obtain ⟨j,rfl,hj,rfl,hb⟩:=hrel
  have R:=Lib.hid (HV.out wr hb)
  by_cases h0:j=0
  ·exact Tzai
  by_cases h1:j=1
  ·exact Tzap
  obtain rfl:j=2:=by omega
  have ep:dV s 2=1+s:=rfl
  rw [ep]
  have q:wr.cell? ⟨V,6,none⟩=some (.string (ByteArray.mk #[121])):=by rw [cell_of_row _ _ _ _ _ _ R.out];rfl
  have q1:wr.cell? ⟨V,7,none⟩=some (.int .i64 0):=by rw [cell_of_row _ _ _ _ _ _ R.out];rfl
  exact Tza5
set_option maxHeartbeats 4000000 in
theorem FC (w:World) (V:Nat) (i s k:Int) (h1:1≤s) (h5:s≤5) (hV:w.heap[V]? =some (.cells #[.string (ByteArray.mk #[120]),.int .i64 0,.int .i64 i,.string (ByteArray.mk #[97]),.int .i64 s,.int .i64 0,.string (ByteArray.mk #[121]),.int .i64 0,.int .i64 0,.string (ByteArray.mk #[122]),.int .i64 0,.int .i64 k,.string (ByteArray.mk #[98]),.int .i64 2,.int .i64 0] 199 (0,0))):
 Calls Tryz.prog 187 #[.slice (some ⟨V,0,none⟩) 5 5,.string (ByteArray.mk #[122])] w fun e w' =>e= .returned (.tuple #[.int .i64 (2+s),.int .i64 (0),.bool true])∧Below w.heap.size w w' :=by
 have hVl:V<w.heap.size:=(Array.getElem?_eq_some_iff.1 hV).1
 have HV:=Lib.hid (fun (w' :World) (hb:Below w.heap.size w w')=>(hb.block V hVl).trans hV)
 clear hV
 go_enter Tryz.func187,Tryz.ntmps187
 go_wp2
 go_loopw [7,8] (fun a b wr=>∃j:Nat,b= .int .i64 j∧j≤3∧a= .int .i64 (dV s j)∧Below w.heap.size w wr) (fun _ b _=>3-(intOf b).toNat)
 case atStart=>exact ⟨0,rfl,by omega,rfl,Below.refl _ _⟩
 case round=>
  obtain ⟨j,rfl,hj,rfl,hb⟩:=hrel
  have R:=Lib.hid (HV.out wr hb)
  by_cases h0:j=0
  ·exact Tzai
  by_cases h1:j=1
  ·exact Tzap
  by_cases h2:j=2
  ·exact Tzaz
  obtain rfl:j=3:=by omega
  have ep:dV s 3=2+s:=rfl
  rw [ep]
  have q:wr.cell? ⟨V,9,none⟩=some (.string (ByteArray.mk #[122])):=by rw [cell_of_row _ _ _ _ _ _ R.out];rfl
  have q1:wr.cell? ⟨V,10,none⟩=some (.int .i64 0):=by rw [cell_of_row _ _ _ _ _ _ R.out];rfl
  exact Tza5
set_option maxHeartbeats 4000000 in
theorem FB (w:World) (V:Nat) (i s k:Int) (h1:1≤s) (h5:s≤5) (hV:w.heap[V]? =some (.cells #[.string (ByteArray.mk #[120]),.int .i64 0,.int .i64 i,.string (ByteArray.mk #[97]),.int .i64 s,.int .i64 0,.string (ByteArray.mk #[121]),.int .i64 0,.int .i64 0,.string (ByteArray.mk #[122]),.int .i64 0,.int .i64 k,.string (ByteArray.mk #[98]),.int .i64 2,.int .i64 0] 199 (0,0))):
 Calls Tryz.prog 187 #[.slice (some ⟨V,0,none⟩) 5 5,.string (ByteArray.mk #[98])] w fun e w' =>e= .returned (.tuple #[.int .i64 (3+s),.int .i64 (2),.bool true])∧Below w.heap.size w w' :=by
 have hVl:V<w.heap.size:=(Array.getElem?_eq_some_iff.1 hV).1
 have HV:=Lib.hid (fun (w' :World) (hb:Below w.heap.size w w')=>(hb.block V hVl).trans hV)
 clear hV
 go_enter Tryz.func187,Tryz.ntmps187
 go_wp2
 go_loopw [7,8] (fun a b wr=>∃j:Nat,b= .int .i64 j∧j≤4∧a= .int .i64 (dV s j)∧Below w.heap.size w wr) (fun _ b _=>4-(intOf b).toNat)
 case atStart=>exact ⟨0,rfl,by omega,rfl,Below.refl _ _⟩
 case round=>
  obtain ⟨j,rfl,hj,rfl,hb⟩:=hrel
  have R:=Lib.hid (HV.out wr hb)
  by_cases h0:j=0
  ·exact Tzai
  by_cases h1:j=1
  ·exact Tzap
  by_cases h2:j=2
  ·exact Tzaz
  by_cases h3:j=3
  ·exact Tzbn
  obtain rfl:j=4:=by omega
  have ep:dV s 4=3+s:=rfl
  rw [ep]
  have q:wr.cell? ⟨V,12,none⟩=some (.string (ByteArray.mk #[98])):=by rw [cell_of_row _ _ _ _ _ _ R.out];rfl
  have q1:wr.cell? ⟨V,13,none⟩=some (.int .i64 2):=by rw [cell_of_row _ _ _ _ _ _ R.out];rfl
  exact Tza5
set_option maxHeartbeats 4000000 in
theorem FA (w:World) (V:Nat) (i s k:Int) (h1:1≤s) (h5:s≤5) (hV:w.heap[V]? =some (.cells #[.string (ByteArray.mk #[120]),.int .i64 0,.int .i64 i,.string (ByteArray.mk #[97]),.int .i64 s,.int .i64 0,.string (ByteArray.mk #[121]),.int .i64 0,.int .i64 0,.string (ByteArray.mk #[122]),.int .i64 0,.int .i64 k,.string (ByteArray.mk #[98]),.int .i64 2,.int .i64 0] 199 (0,0))):
 Calls Tryz.prog 187 #[.slice (some ⟨V,0,none⟩) 5 5,.string (ByteArray.mk #[])] w fun e w' =>e= .returned (.tuple #[.int .i64 (0),.int .i64 (0),.bool false])∧Below w.heap.size w w' :=by
 have hVl:V<w.heap.size:=(Array.getElem?_eq_some_iff.1 hV).1
 have HV:=Lib.hid (fun (w' :World) (hb:Below w.heap.size w w')=>(hb.block V hVl).trans hV)
 clear hV
 go_enter Tryz.func187,Tryz.ntmps187
 go_wp2
 go_loopw [7,8] (fun a b wr=>∃j:Nat,b= .int .i64 j∧j≤5∧a= .int .i64 (dV s j)∧Below w.heap.size w wr) (fun _ b _=>5-(intOf b).toNat)
 case atStart=>exact ⟨0,rfl,by omega,rfl,Below.refl _ _⟩
 case round=>
  obtain ⟨j,rfl,hj,rfl,hb⟩:=hrel
  have R:=Lib.hid (HV.out wr hb)
  by_cases h0:j=0
  ·exact Tzai
  by_cases h1:j=1
  ·exact Tzap
  by_cases h2:j=2
  ·exact Tzaz
  by_cases h3:j=3
  ·exact Tzbn
  by_cases h4:j=4
  ·subst h4
   have ep:dV s 4=3+s:=rfl
   rw [ep]
   have q:wr.cell? ⟨V,12,none⟩=some (.string (ByteArray.mk #[98])):=by rw [cell_of_row _ _ _ _ _ _ R.out];rfl
   go_wp2_with (refine aD (t:=199) (A:=⟨V,12,none⟩) rfl rfl rfl (eT (nm:=(ByteArray.mk #[98])) (z:=2) (y:=0) R.out rfl) ?_)
   refine (dE _ _ _ (by omega) (by omega) wr).mono ?_
   rintro e w2 ⟨rfl,hb2⟩
   have e1:max (2:Int) 1=2:=by omega
   rw [e1]
   clear e1
   go_wp2
   go_roundw
   case rel=>exact ⟨5,rfl,by omega,(by show _=Value.int .i64 (5+s);exact congrArg _ (by omega)),Below.ext hb hb2⟩
   case measure=>simp [intOf]
  obtain rfl:j=5:=by omega
  go_wp2
  go_ret3
  exact ⟨rfl,hb⟩
theorem gQ (w:World) (V:Nat) (i s k:Int) (h1:1≤s) (h5:s≤5) (hV:w.heap[V]? =some (.cells (eC i s k) 199 (0,0))) (nm:ByteArray) (hn:gW nm∨jJ nm∨nm=ByteArray.mk #[]):
 Calls Tryz.prog 187 #[.slice (some ⟨V,0,none⟩) 5 5,.string nm] w fun e w' =>∃a b ok,e= .returned (.tuple #[.int .i64 a,.int .i64 b,.bool ok])∧NA nm a b ok∧Below w.heap.size w w' :=by
 rcases hn with (rfl|rfl|rfl)|(rfl|rfl)|rfl
 ·exact (FF w V i s k h1 h5 hV).mono fun e w' h=>⟨_,_,_,h.1,⟨⟨by omega,by omega⟩,⟨by omega,by omega⟩,fun _=>⟨rfl,rfl⟩,fun h=>absurd h (by rintro (h|h)<;>revert h<;>decide)⟩,h.2⟩
 ·exact (FD w V i s k h1 h5 hV).mono fun e w' h=>⟨_,_,_,h.1,⟨⟨by omega,by omega⟩,⟨by omega,by omega⟩,fun _=>⟨rfl,rfl⟩,fun h=>absurd h (by rintro (h|h)<;>revert h<;>decide)⟩,h.2⟩
 ·exact (FC w V i s k h1 h5 hV).mono fun e w' h=>⟨_,_,_,h.1,⟨⟨by omega,by omega⟩,⟨by omega,by omega⟩,fun _=>⟨rfl,rfl⟩,fun h=>absurd h (by rintro (h|h)<;>revert h<;>decide)⟩,h.2⟩
 ·exact (FE w V i s k h1 h5 hV).mono fun e w' h=>⟨_,_,_,h.1,⟨⟨by omega,by omega⟩,⟨by omega,by omega⟩,fun h=>absurd h (by rintro (h|h|h)<;>revert h<;>decide),fun _=>⟨h1,rfl⟩⟩,h.2⟩
 ·exact (FB w V i s k h1 h5 hV).mono fun e w' h=>⟨_,_,_,h.1,⟨⟨by omega,by omega⟩,⟨by omega,by omega⟩,fun h=>absurd h (by rintro (h|h|h)<;>revert h<;>decide),fun _=>⟨by omega,rfl⟩⟩,h.2⟩
 ·exact (FA w V i s k h1 h5 hV).mono fun e w' h=>⟨_,_,_,h.1,⟨⟨by omega,by omega⟩,⟨by omega,by omega⟩,fun h=>absurd h (by rintro (h|h|h)<;>revert h<;>decide),fun h=>absurd h (by rintro (h|h)<;>revert h<;>decide)⟩,h.2⟩
end Go.Proofs.YtiblijmngokcgaaGreatDoor
namespace Go.Proofs.YtiblijmngokcgaaGreatDoor
open Go.RowKit
set_option maxRecDepth 100000
set_option linter.unusedVariables false
set_option linter.unusedSimpArgs false
def NmE:Nat→Ex→Prop
 |0,_=>False
 |n+1,.mk op val name slot size args=>(0≤op∧op≤22)∧InR val∧slot=0∧size=0∧args.length≤2∧((op=2∧gW name)∨(op=3∧jJ name)∨(op≠2∧op≠3∧name=ByteArray.mk #[]))∧∀e∈args,NmE n e
theorem NmE.of:∀{n:Nat} {t:Ex},DrE n t→NmE n t
 |0,_,h=>h.elim
 |n+1,.mk op val name slot size args,⟨h1,h2,h3,h4⟩=>by
  have ha:∀e∈args,NmE n e:=fun e he=>NmE.of (h3 e he)
  rcases h4 with ⟨a,b,c,d,e⟩|⟨a,b,c,d⟩|⟨a,b,c,d,e⟩|⟨a,b,c,d⟩|⟨a,b,c,d,e⟩|⟨a,b,c,d,e⟩
  ·exact Tzdk
  ·exact ⟨⟨by omega,by omega⟩,⟨by omega,by omega⟩,h1,h2,by rw [d];simp,.inl ⟨a,c⟩,ha⟩
  ·exact Tzdk
  ·exact ⟨⟨by omega,by omega⟩,⟨by omega,by omega⟩,h1,h2,by omega,.inr (.inl ⟨a,c⟩),ha⟩
  ·exact ⟨⟨by omega,by omega⟩,⟨by omega,by omega⟩,h1,h2,by omega,.inr (.inr ⟨by omega,by omega,d⟩),ha⟩
  ·exact ⟨⟨by omega,by omega⟩,⟨by omega,by omega⟩,h1,h2,by omega,.inr (.inr ⟨by omega,by omega,d⟩),ha⟩
theorem NmE.zero (n:Nat):NmE (n+1) zEx:=⟨⟨by omega,by omega⟩,⟨by omega,by omega⟩,rfl,rfl,by simp,.inr (.inr ⟨by omega,by omega,rfl⟩),fun e he=>by simp at he⟩
theorem gC {w:World} {b o:Nat} {y:ExV} (hc:∀i u,(eB y)[i]? =some u→w.cell? ⟨b,o+i,none⟩=some u):(loadVar 244 ⟨b,o,none⟩).run Tryz.prog w= .ok (.agg #[.int .i64 y.op,.int .i64 y.val,.string y.name,.int .i64 y.slot,.int .i64 y.size,.slice y.A y.n y.c]) w:=by
 have:=run_loadVar_mid (P:=Tryz.prog) w b o 244 (eB y) _ (fun j v hv=>hc j v hv) Tryz.underlying244 rfl (by kernel_rfl)
 exact this
def wH (n:Nat):Prop:=∀(x:ExV) (t:Ex) (S:Nat→Prop) (w:World),ExOk n S w x t→NmE n t→Calls Tryz.prog 199 #[.agg #[.int .i64 x.op,.int .i64 x.val,.string x.name,.int .i64 x.slot,.int .i64 x.size,.slice x.A x.n x.c]] w fun e w' =>∃d:Int,e= .returned (.int .i64 d)∧0≤d∧d≤n∧Below w.heap.size w w'
set_option maxHeartbeats 2000000 in
theorem CZ (n:Nat) (hn:n≤10) (ih:wH n):wH (n+1):=by
 intro x t S w hok hnm
 obtain ⟨xo,xv,xm,xs,xz,xA,xn,xc⟩:=x
 obtain ⟨op,val,name,slot,size,args⟩:=t
 obtain ⟨rfl,rfl,rfl,rfl,rfl,hargs⟩:=hok
 obtain ⟨hop,hval,hslot,hsize,hal,hnmx,hall⟩:=hnm
 dsimp only at*
 subst hslot hsize
 obtain ⟨W,hW,hbW,sW,rW⟩:=fG w #[.int .i64 xo,.int .i64 xv,.string xm,.int .i64 0,.int .i64 0,.slice xA xn xc] 244
 have SW:=Lib.hid sW
 have R0:=Lib.hid rW
 have hlen:=hargs.len
 have HL:=Lib.hid hlen.1
 have hxn:xn≤2:=by omega
 have hlc:=hlen.2
 have HALL:=Lib.hid hall
 clear sW rW hlen hall hnmx
 go_enter Tryz.func199,Tryz.ntmps199
 go_upto_region 1 with fail
 try rw [←hW]
 clear hW
 go_wp2_with fail
 go_loopw [3,4] (fun a b wr=>∃(k:Nat) (d:Int),b= .int .i64 k∧k≤xn∧a= .int .i64 d∧0≤d∧d≤n∧Below W.heap.size W wr) (fun _ b _=>xn-(intOf b).toNat)
 case atStart=>exact ⟨0,0,rfl,by omega,rfl,by omega,by omega,Below.refl _ _⟩
 case round=>
  obtain ⟨k,d,rfl,hk,rfl,hd0,hdn,hb⟩:=hrel
  have R1:=Lib.hid ((hb.block w.heap.size (by have:=SW.out;omega)).trans R0.out)
  have q5:wr.cell? ⟨w.heap.size,5,none⟩=some (.slice xA xn xc):=aA R1.out 5 _ rfl
  by_cases hlt:k<xn
  ·obtain ⟨b,off,y,u,rfl,hS,hbb,hu,hoky,hcy⟩:=hargs.at_ dZ (j:=k) hlt (by omega)
   have HC:=Lib.hid (fun i u h=>((Below.ext hbW hb).cell (p:=⟨b,off+k*6+i,none⟩) hbb).trans (hcy i u h))
   have hU:=HALL.out u (List.mem_of_getElem? hu)
   have Hc:=Lib.hid (ih y u _ wr (ExOk.keep (Keep.of_below (Below.ext hbW hb)) _ _ _ hoky) hU)
   clear hu hcy hU hoky
   go_wp2_with (refine aD (t:=244) (A:=⟨b,off+k*6,none⟩) rfl rfl rfl (gC HC.out) ?_)
   refine Hc.out.mono ?_
   rintro e w2 ⟨d2,rfl,h20,h2n,hb2⟩
   go_wp2
   go_roundw
   case rel=>exact ⟨k+1,if d<d2 then d2 else d,by go_num,by omega,rfl,by split<;>omega,by split<;>omega,Below.ext hb hb2⟩
   case measure=>simp [intOf];omega
  ·obtain rfl:k=xn:=by omega
   go_wp2
   go_ret
   exact ⟨d+1,rfl,by omega,by omega,Below.ext hbW hb⟩
theorem qI:∀(n:Nat),n≤10→wH n
 |0,_=>fun x t S w h=>h.elim
 |n+1,hn=>CZ n (by omega) (qI n (by omega))
def sK (n:Nat):Prop:=∀(x:ExV) (t:Ex) (S:Nat→Prop) (w:World) (V:Nat) (i s k:Int),1≤s→s≤5→w.heap[V]? =some (.cells (eC i s k) 199 (0,0))→ExOk n S w x t→NmE n t→
 Calls Tryz.prog 188 #[.slice (some ⟨V,0,none⟩) 5 5,.agg #[.int .i64 x.op,.int .i64 x.val,.string x.name,.int .i64 x.slot,.int .i64 x.size,.slice x.A x.n x.c]] w fun e w' =>e= .returned (.bool true)∧Below w.heap.size w w'
set_option maxHeartbeats 2000000 in
theorem yS (n:Nat) (ih:sK n):sK (n+1):=by
 intro x t S w V i s k0 hs1 hs5 hV hok hnm
 obtain ⟨xo,xv,xm,xs,xz,xA,xn,xc⟩:=x
 obtain ⟨op,val,name,slot,size,args⟩:=t
 obtain ⟨rfl,rfl,rfl,rfl,rfl,hargs⟩:=hok
 obtain ⟨hop,hval,hslot,hsize,hal,hnmx,hall⟩:=hnm
 dsimp only at*
 subst hslot hsize
 obtain ⟨W,hW,hbW,sW,rW⟩:=fG w #[.int .i64 xo,.int .i64 xv,.string xm,.int .i64 0,.int .i64 0,.slice xA xn xc] 244
 have SW:=Lib.hid sW
 have R0:=Lib.hid rW
 have hlen:=hargs.len
 have HL:=Lib.hid hlen.1
 have hxn:xn≤2:=by omega
 have hlc:=hlen.2
 have HALL:=Lib.hid hall
 have hVl:V<w.heap.size:=(Array.getElem?_eq_some_iff.1 hV).1
 have HV:=Lib.hid (fun (w' :World) (hb:Below w.heap.size w w')=>(hb.block V hVl).trans hV)
 have hnm6:gW xm∨jJ xm∨xm=ByteArray.mk #[]:=by
  rcases hnmx with h|h|h
  ·exact .inl h.2
  ·exact .inr (.inl h.2)
  ·exact .inr (.inr h.2.2)
 have q2:W.cell? ⟨w.heap.size,2,none⟩=some (.string xm):=aA rW 2 _ rfl
 have hlk:=gQ W V i s k0 hs1 hs5 (HV.out W hbW) xm hnm6
 have HLK:=Lib.hid hlk
 have HNM:=Lib.hid hnmx
 clear sW rW hlen hall hnmx hlk hV
 go_enter Tryz.func188,Tryz.ntmps188
 go_upto_region 1 with fail
 try rw [←hW]
 clear hW
 go_wp2_with fail
 refine HLK.out.mono ?_
 rintro e w1 ⟨a,b,ok,rfl,hout,hb1⟩
 have hb1' :=Below.ext hbW hb1
 have R1:=Lib.hid ((hb1.block w.heap.size (by have:=SW.out;omega)).trans R0.out)
 have p0:w1.cell? ⟨w.heap.size,0,none⟩=some (.int .i64 xo):=aA R1.out 0 _ rfl
 have s1:=hb1.size
 rcases HNM.out with ⟨rfl,g⟩|⟨rfl,g⟩|⟨g2,g3,g⟩
 ·obtain rfl:ok=true:=(hout.2.2.1 g).2
  exact Tzah
 ·obtain rfl:ok=true:=(hout.2.2.2 g).2
  exact Tzah
 ·have e2:(xo==2)=false:=by simpa using g2
  have e3:(xo==3)=false:=by simpa using g3
  exact Tzah
theorem nZ:∀(n:Nat),sK n
 |0=>fun x t S w V i s k h1 h2 h3 h=>h.elim
 |n+1=>yS n (nZ n)
end Go.Proofs.YtiblijmngokcgaaGreatDoor
namespace Go.Proofs.YtiblijmngokcgaaGreatDoor
open Go.RowKit
set_option maxRecDepth 100000
set_option linter.unusedVariables false
set_option linter.unusedSimpArgs false
set_option maxHeartbeats 1000000 in
theorem mP (A:Option Addr) (c:Nat) (w:World):Calls Tryz.prog 197 #[.agg #[.int .i64 0,.int .i64 0,.string (ByteArray.mk #[]),.int .i64 0,.int .i64 0,.slice A 0 c]] w fun e w' =>e= .returned (.bool true)∧Below w.heap.size w w' :=by
 go_enter Tryz.func197,Tryz.ntmps197
 go_wp2
 go_ret
 exact ⟨rfl,(Below.refl _ w).alloc (Nat.le_refl _) _⟩
theorem lR {s:ByteArray} (h:gW s∨jJ s):∃c,zF c∧s=ByteArray.mk #[c]:=by
 rcases h with (rfl|rfl|rfl)|(rfl|rfl)
 ·exact ⟨120,.inr (.inr (.inl rfl)),rfl⟩
 ·exact ⟨121,.inr (.inr (.inr (.inl rfl))),rfl⟩
 ·exact ⟨122,.inr (.inr (.inr (.inr rfl))),rfl⟩
 ·exact ⟨97,.inl rfl,rfl⟩
 ·exact ⟨98,.inr (.inl rfl),rfl⟩
def wE (n:Nat):Prop:=∀(x:ExV) (t:Ex) (S:Nat→Prop) (w:World),ExOk n S w x t→DrE n t→Calls Tryz.prog 196 #[.agg #[.int .i64 x.op,.int .i64 x.val,.string x.name,.int .i64 x.slot,.int .i64 x.size,.slice x.A x.n x.c]] w fun e w' =>e= .returned (.bool true)∧Below w.heap.size w w'
set_option maxHeartbeats 8000000 in
theorem CM (n:Nat) (ih:wE n):wE (n+1):=by
 intro x t S w hok hdr
 obtain ⟨xo,xv,xm,xs,xz,xA,xn,xc⟩:=x
 obtain ⟨op,val,name,slot,size,args⟩:=t
 obtain ⟨rfl,rfl,rfl,rfl,rfl,hargs⟩:=hok
 obtain ⟨hslot,hsize,hall,hcls⟩:=hdr
 dsimp only at*
 subst hslot hsize
 have hlen:=hargs.len
 have HL:=Lib.hid hlen.1
 have hlc:=hlen.2
 have HALL:=Lib.hid hall
 clear hlen hall
 rcases hcls with ⟨rfl,h0,h2,rfl,rfl⟩|⟨rfl,rfl,hnm,rfl⟩|⟨h4,h7,rfl,rfl,rfl⟩|⟨rfl,rfl,hnm,h1⟩|⟨h8,h9,rfl,rfl,h1⟩|⟨h10,h22,rfl,rfl,h1⟩
 ·obtain rfl:xn=0:=by have:=HL.out;first|omega|(simp at this;omega)
  have dneg:decide (xv<0)=false:=by simp;omega
  have eo:fW 1=0:=by unfold fW;simp;try omega
  obtain ⟨W,hW,hbW,sW,rW⟩:=fG w #[.int .i64 1,.int .i64 xv,.string (ByteArray.mk #[]),.int .i64 0,.int .i64 0,.slice xA 0 xc] 244
  have SW:=Lib.hid sW
  have R0:=Lib.hid rW
  have q0:W.cell? ⟨w.heap.size,0,none⟩=some (.int .i64 1):=aA R0.out 0 _ rfl
  have OP:=Lib.hid (fun w' =>fV 1 (by omega) (by omega) w')
  have EO:=Lib.hid eo
  clear sW rW eo
  go_enter Tryz.func196,Tryz.ntmps196
  go_upto_region 1 with fail
  try rw [←hW]
  clear hW
  go_upto_region 2 with fail
  go_wp2_with fail
  refine aM ((fun w' =>Below W.heap.size W w')) (by kernel_rfl) (by kernel_rfl) ((Below.refl _ W).drew) ?_
  refine TkA ?_
  refine aE (⟨w.heap.size,0,none⟩) (.int .i64 1) rfl rfl rfl (fun w' hw' =>aG (aU _) (aA ((hw'.block w.heap.size (by have:=SW.out;omega)).trans R0.out) 0 _ rfl)) ?_
  refine TkI ?_
  refine TkA ?_
  refine aL rfl ?_
  go_wp2_with fail
  refine (OP.out _).mono ?_
  rintro e w1 ⟨rfl,rfl⟩
  rw [EO.out]
  have y1:Below W.heap.size W W.drew:=(Below.refl _ W).drew
  go_wp2_with fail
  refine aI (y1) ?_
  refine TkA ?_
  refine aE (⟨w.heap.size,5,none⟩) (.slice xA 0 xc) rfl rfl rfl (fun w' hw' =>aG (lI _) (aA ((hw'.block w.heap.size (by have:=SW.out;omega)).trans R0.out) 5 _ rfl)) ?_
  refine TkI ?_
  refine TkA ?_
  refine aE (⟨w.heap.size,3,none⟩) (.int .i64 0) rfl rfl rfl (fun w' hw' =>aG (aU _) (aA ((hw'.block w.heap.size (by have:=SW.out;omega)).trans R0.out) 3 _ rfl)) ?_
  refine TkI ?_
  refine TkA ?_
  refine aE (⟨w.heap.size,4,none⟩) (.int .i64 0) rfl rfl rfl (fun w' hw' =>aG (aU _) (aA ((hw'.block w.heap.size (by have:=SW.out;omega)).trans R0.out) 4 _ rfl)) ?_
  refine TkI ?_
  refine TkA ?_
  refine iH rfl rfl (y1) ?_
  refine TkI ?_
  refine TkA ?_
  refine aE (⟨w.heap.size,2,none⟩) (.string (ByteArray.mk #[])) rfl rfl rfl (fun w' hw' =>aG (fL _) (aA ((hw'.block w.heap.size (by have:=SW.out;omega)).trans R0.out) 2 _ rfl)) ?_
  refine TkI ?_
  refine TkA ?_
  refine aE (⟨w.heap.size,0,none⟩) (.int .i64 1) rfl rfl rfl (fun w' hw' =>aG (aU _) (aA ((hw'.block w.heap.size (by have:=SW.out;omega)).trans R0.out) 0 _ rfl)) ?_
  refine TkI ?_
  refine TkA ?_
  refine aE (⟨w.heap.size,1,none⟩) (.int .i64 xv) rfl rfl rfl (fun w' hw' =>aG (aU _) (aA ((hw'.block w.heap.size (by have:=SW.out;omega)).trans R0.out) 1 _ rfl)) ?_
  refine TkI ?_
  refine TkA ?_
  refine aE (⟨w.heap.size,0,none⟩) (.int .i64 1) rfl rfl rfl (fun w' hw' =>aG (aU _) (aA ((hw'.block w.heap.size (by have:=SW.out;omega)).trans R0.out) 0 _ rfl)) ?_
  exact Tzau
 ·obtain rfl:xn=0:=by have:=HL.out;first|omega|(simp at this;omega)
  obtain ⟨cc,hcc,rfl⟩:=lR (.inl hnm)
  clear hnm
  have eo:fW 2=0:=by unfold fW;simp;try omega
  obtain ⟨W,hW,hbW,sW,rW⟩:=fG w #[.int .i64 2,.int .i64 0,.string (ByteArray.mk #[cc]),.int .i64 0,.int .i64 0,.slice xA 0 xc] 244
  have SW:=Lib.hid sW
  have R0:=Lib.hid rW
  have q0:W.cell? ⟨w.heap.size,0,none⟩=some (.int .i64 2):=aA R0.out 0 _ rfl
  have OP:=Lib.hid (fun w' =>fV 2 (by omega) (by omega) w')
  have EO:=Lib.hid eo
  clear sW rW eo
  go_enter Tryz.func196,Tryz.ntmps196
  go_upto_region 1 with fail
  try rw [←hW]
  clear hW
  go_upto_region 2 with fail
  go_wp2_with fail
  refine aM ((fun w' =>Below W.heap.size W w')) (by kernel_rfl) (by kernel_rfl) ((Below.refl _ W).drew) ?_
  refine TkA ?_
  refine aE (⟨w.heap.size,0,none⟩) (.int .i64 2) rfl rfl rfl (fun w' hw' =>aG (aU _) (aA ((hw'.block w.heap.size (by have:=SW.out;omega)).trans R0.out) 0 _ rfl)) ?_
  refine TkI ?_
  refine TkA ?_
  refine aL rfl ?_
  go_wp2_with fail
  refine (OP.out _).mono ?_
  rintro e w1 ⟨rfl,rfl⟩
  rw [EO.out]
  have y1:Below W.heap.size W W.drew:=(Below.refl _ W).drew
  go_wp2_with fail
  refine aI (y1) ?_
  refine TkA ?_
  refine aE (⟨w.heap.size,5,none⟩) (.slice xA 0 xc) rfl rfl rfl (fun w' hw' =>aG (lI _) (aA ((hw'.block w.heap.size (by have:=SW.out;omega)).trans R0.out) 5 _ rfl)) ?_
  refine TkI ?_
  refine TkA ?_
  refine aE (⟨w.heap.size,3,none⟩) (.int .i64 0) rfl rfl rfl (fun w' hw' =>aG (aU _) (aA ((hw'.block w.heap.size (by have:=SW.out;omega)).trans R0.out) 3 _ rfl)) ?_
  refine TkI ?_
  refine TkA ?_
  refine aE (⟨w.heap.size,4,none⟩) (.int .i64 0) rfl rfl rfl (fun w' hw' =>aG (aU _) (aA ((hw'.block w.heap.size (by have:=SW.out;omega)).trans R0.out) 4 _ rfl)) ?_
  refine TkI ?_
  refine TkA ?_
  refine aE (⟨w.heap.size,2,none⟩) (.string (ByteArray.mk #[cc])) rfl rfl rfl (fun w' hw' =>aG (fL _) (aA ((hw'.block w.heap.size (by have:=SW.out;omega)).trans R0.out) 2 _ rfl)) ?_
  refine TkI ?_
  refine TkA ?_
  refine aL rfl ?_
  go_wp2_with fail
  refine (jO cc hcc _).mono ?_
  rintro e w1 ⟨rfl,rfl⟩
  go_wp2_with fail
  refine aI (y1) ?_
  refine TkA ?_
  refine aE (⟨w.heap.size,0,none⟩) (.int .i64 2) rfl rfl rfl (fun w' hw' =>aG (aU _) (aA ((hw'.block w.heap.size (by have:=SW.out;omega)).trans R0.out) 0 _ rfl)) ?_
  refine TkI ?_
  refine TkA ?_
  refine aE (⟨w.heap.size,0,none⟩) (.int .i64 2) rfl rfl rfl (fun w' hw' =>aG (aU _) (aA ((hw'.block w.heap.size (by have:=SW.out;omega)).trans R0.out) 0 _ rfl)) ?_
  exact Tzcw
 ·obtain rfl:xn=0:=by have:=HL.out;first|omega|(simp at this;omega)
  have e1:(xo==1)=false:=by simp;omega
  have e2:(xo==2)=false:=by simp;omega
  have e3:(xo==3)=false:=by simp;omega
  have f1:(xo != 1)=true:=by simp;omega
  have eo:fW xo=0:=by unfold fW;rw [if_pos (by omega)]
  obtain ⟨W,hW,hbW,sW,rW⟩:=fG w #[.int .i64 xo,.int .i64 0,.string (ByteArray.mk #[]),.int .i64 0,.int .i64 0,.slice xA 0 xc] 244
  have SW:=Lib.hid sW
  have R0:=Lib.hid rW
  have q0:W.cell? ⟨w.heap.size,0,none⟩=some (.int .i64 xo):=aA R0.out 0 _ rfl
  have OP:=Lib.hid (fun w' =>fV xo (by omega) (by omega) w')
  have EO:=Lib.hid eo
  clear sW rW eo
  go_enter Tryz.func196,Tryz.ntmps196
  go_upto_region 1 with fail
  try rw [←hW]
  clear hW
  go_upto_region 2 with fail
  go_wp2_with fail
  refine aM ((fun w' =>Below W.heap.size W w')) (by kernel_rfl) (by kernel_rfl) ((Below.refl _ W).drew) ?_
  refine TkA ?_
  refine aE (⟨w.heap.size,0,none⟩) (.int .i64 xo) rfl rfl rfl (fun w' hw' =>aG (aU _) (aA ((hw'.block w.heap.size (by have:=SW.out;omega)).trans R0.out) 0 _ rfl)) ?_
  refine TkI ?_
  refine TkA ?_
  refine aL rfl ?_
  go_wp2_with fail
  refine (OP.out _).mono ?_
  rintro e w1 ⟨rfl,rfl⟩
  rw [EO.out]
  have y1:Below W.heap.size W W.drew:=(Below.refl _ W).drew
  go_wp2_with fail
  refine aI (y1) ?_
  refine TkA ?_
  refine aE (⟨w.heap.size,5,none⟩) (.slice xA 0 xc) rfl rfl rfl (fun w' hw' =>aG (lI _) (aA ((hw'.block w.heap.size (by have:=SW.out;omega)).trans R0.out) 5 _ rfl)) ?_
  refine TkI ?_
  refine TkA ?_
  refine aE (⟨w.heap.size,3,none⟩) (.int .i64 0) rfl rfl rfl (fun w' hw' =>aG (aU _) (aA ((hw'.block w.heap.size (by have:=SW.out;omega)).trans R0.out) 3 _ rfl)) ?_
  refine TkI ?_
  refine TkA ?_
  refine aE (⟨w.heap.size,4,none⟩) (.int .i64 0) rfl rfl rfl (fun w' hw' =>aG (aU _) (aA ((hw'.block w.heap.size (by have:=SW.out;omega)).trans R0.out) 4 _ rfl)) ?_
  refine TkI ?_
  refine TkA ?_
  refine iH rfl rfl (y1) ?_
  refine TkI ?_
  refine TkA ?_
  refine aE (⟨w.heap.size,2,none⟩) (.string (ByteArray.mk #[])) rfl rfl rfl (fun w' hw' =>aG (fL _) (aA ((hw'.block w.heap.size (by have:=SW.out;omega)).trans R0.out) 2 _ rfl)) ?_
  refine TkI ?_
  refine TkA ?_
  refine aE (⟨w.heap.size,0,none⟩) (.int .i64 xo) rfl rfl rfl (fun w' hw' =>aG (aU _) (aA ((hw'.block w.heap.size (by have:=SW.out;omega)).trans R0.out) 0 _ rfl)) ?_
  refine TkI ?_
  refine TkA ?_
  refine aE (⟨w.heap.size,0,none⟩) (.int .i64 xo) rfl rfl rfl (fun w' hw' =>aG (aU _) (aA ((hw'.block w.heap.size (by have:=SW.out;omega)).trans R0.out) 0 _ rfl)) ?_
  exact Tzcw
 ·obtain rfl:xn=1:=by have:=HL.out;first|omega|(simp at this;omega)
  obtain ⟨cc,hcc,rfl⟩:=lR (.inr hnm)
  clear hnm
  have eo:fW 3=1:=by unfold fW;simp;try omega
  obtain ⟨W,hW,hbW,sW,rW⟩:=fG w #[.int .i64 3,.int .i64 0,.string (ByteArray.mk #[cc]),.int .i64 0,.int .i64 0,.slice xA 1 xc] 244
  have SW:=Lib.hid sW
  have R0:=Lib.hid rW
  have q0:W.cell? ⟨w.heap.size,0,none⟩=some (.int .i64 3):=aA R0.out 0 _ rfl
  have OP:=Lib.hid (fun w' =>fV 3 (by omega) (by omega) w')
  have EO:=Lib.hid eo
  clear sW rW eo
  go_enter Tryz.func196,Tryz.ntmps196
  go_upto_region 1 with fail
  try rw [←hW]
  clear hW
  go_upto_region 2 with fail
  go_wp2_with fail
  refine aM ((fun w' =>Below W.heap.size W w')) (by kernel_rfl) (by kernel_rfl) ((Below.refl _ W).drew) ?_
  refine TkA ?_
  refine aE (⟨w.heap.size,0,none⟩) (.int .i64 3) rfl rfl rfl (fun w' hw' =>aG (aU _) (aA ((hw'.block w.heap.size (by have:=SW.out;omega)).trans R0.out) 0 _ rfl)) ?_
  refine TkI ?_
  refine TkA ?_
  refine aL rfl ?_
  go_wp2_with fail
  refine (OP.out _).mono ?_
  rintro e w1 ⟨rfl,rfl⟩
  rw [EO.out]
  have y1:Below W.heap.size W W.drew:=(Below.refl _ W).drew
  go_wp2_with fail
  refine aI (y1) ?_
  refine TkA ?_
  refine aE (⟨w.heap.size,5,none⟩) (.slice xA 1 xc) rfl rfl rfl (fun w' hw' =>aG (lI _) (aA ((hw'.block w.heap.size (by have:=SW.out;omega)).trans R0.out) 5 _ rfl)) ?_
  refine TkI ?_
  refine TkA ?_
  refine aE (⟨w.heap.size,3,none⟩) (.int .i64 0) rfl rfl rfl (fun w' hw' =>aG (aU _) (aA ((hw'.block w.heap.size (by have:=SW.out;omega)).trans R0.out) 3 _ rfl)) ?_
  refine TkI ?_
  refine TkA ?_
  refine aE (⟨w.heap.size,4,none⟩) (.int .i64 0) rfl rfl rfl (fun w' hw' =>aG (aU _) (aA ((hw'.block w.heap.size (by have:=SW.out;omega)).trans R0.out) 4 _ rfl)) ?_
  refine TkI ?_
  refine TkA ?_
  refine aE (⟨w.heap.size,2,none⟩) (.string (ByteArray.mk #[cc])) rfl rfl rfl (fun w' hw' =>aG (fL _) (aA ((hw'.block w.heap.size (by have:=SW.out;omega)).trans R0.out) 2 _ rfl)) ?_
  refine TkI ?_
  refine TkA ?_
  refine aL rfl ?_
  go_wp2_with fail
  refine (jO cc hcc _).mono ?_
  rintro e w1 ⟨rfl,rfl⟩
  go_wp2_with fail
  refine aI (y1) ?_
  refine TkA ?_
  refine aE (⟨w.heap.size,0,none⟩) (.int .i64 3) rfl rfl rfl (fun w' hw' =>aG (aU _) (aA ((hw'.block w.heap.size (by have:=SW.out;omega)).trans R0.out) 0 _ rfl)) ?_
  refine TkI ?_
  refine TkA ?_
  refine aE (⟨w.heap.size,0,none⟩) (.int .i64 3) rfl rfl rfl (fun w' hw' =>aG (aU _) (aA ((hw'.block w.heap.size (by have:=SW.out;omega)).trans R0.out) 0 _ rfl)) ?_
  exact Tzas
 ·obtain rfl:xn=1:=by have:=HL.out;first|omega|(simp at this;omega)
  have e1:(xo==1)=false:=by simp;omega
  have e2:(xo==2)=false:=by simp;omega
  have e3:(xo==3)=false:=by simp;omega
  have f1:(xo != 1)=true:=by simp;omega
  have eo:fW xo=1:=by unfold fW;rw [if_neg (by omega),if_pos (by omega)]
  obtain ⟨W,hW,hbW,sW,rW⟩:=fG w #[.int .i64 xo,.int .i64 0,.string (ByteArray.mk #[]),.int .i64 0,.int .i64 0,.slice xA 1 xc] 244
  have SW:=Lib.hid sW
  have R0:=Lib.hid rW
  have q0:W.cell? ⟨w.heap.size,0,none⟩=some (.int .i64 xo):=aA R0.out 0 _ rfl
  have OP:=Lib.hid (fun w' =>fV xo (by omega) (by omega) w')
  have EO:=Lib.hid eo
  clear sW rW eo
  go_enter Tryz.func196,Tryz.ntmps196
  go_upto_region 1 with fail
  try rw [←hW]
  clear hW
  go_upto_region 2 with fail
  go_wp2_with fail
  refine aM ((fun w' =>Below W.heap.size W w')) (by kernel_rfl) (by kernel_rfl) ((Below.refl _ W).drew) ?_
  refine TkA ?_
  refine aE (⟨w.heap.size,0,none⟩) (.int .i64 xo) rfl rfl rfl (fun w' hw' =>aG (aU _) (aA ((hw'.block w.heap.size (by have:=SW.out;omega)).trans R0.out) 0 _ rfl)) ?_
  refine TkI ?_
  refine TkA ?_
  refine aL rfl ?_
  go_wp2_with fail
  refine (OP.out _).mono ?_
  rintro e w1 ⟨rfl,rfl⟩
  rw [EO.out]
  have y1:Below W.heap.size W W.drew:=(Below.refl _ W).drew
  go_wp2_with fail
  refine aI (y1) ?_
  refine TkA ?_
  refine aE (⟨w.heap.size,5,none⟩) (.slice xA 1 xc) rfl rfl rfl (fun w' hw' =>aG (lI _) (aA ((hw'.block w.heap.size (by have:=SW.out;omega)).trans R0.out) 5 _ rfl)) ?_
  refine TkI ?_
  refine TkA ?_
  refine aE (⟨w.heap.size,3,none⟩) (.int .i64 0) rfl rfl rfl (fun w' hw' =>aG (aU _) (aA ((hw'.block w.heap.size (by have:=SW.out;omega)).trans R0.out) 3 _ rfl)) ?_
  refine TkI ?_
  refine TkA ?_
  refine aE (⟨w.heap.size,4,none⟩) (.int .i64 0) rfl rfl rfl (fun w' hw' =>aG (aU _) (aA ((hw'.block w.heap.size (by have:=SW.out;omega)).trans R0.out) 4 _ rfl)) ?_
  refine TkI ?_
  refine TkA ?_
  refine iH rfl rfl (y1) ?_
  refine TkI ?_
  refine TkA ?_
  refine aE (⟨w.heap.size,2,none⟩) (.string (ByteArray.mk #[])) rfl rfl rfl (fun w' hw' =>aG (fL _) (aA ((hw'.block w.heap.size (by have:=SW.out;omega)).trans R0.out) 2 _ rfl)) ?_
  refine TkI ?_
  refine TkA ?_
  refine aE (⟨w.heap.size,0,none⟩) (.int .i64 xo) rfl rfl rfl (fun w' hw' =>aG (aU _) (aA ((hw'.block w.heap.size (by have:=SW.out;omega)).trans R0.out) 0 _ rfl)) ?_
  refine TkI ?_
  refine TkA ?_
  refine aE (⟨w.heap.size,0,none⟩) (.int .i64 xo) rfl rfl rfl (fun w' hw' =>aG (aU _) (aA ((hw'.block w.heap.size (by have:=SW.out;omega)).trans R0.out) 0 _ rfl)) ?_
  exact Tzas
 ·obtain rfl:xn=2:=by have:=HL.out;first|omega|(simp at this;omega)
  have e1:(xo==1)=false:=by simp;omega
  have e2:(xo==2)=false:=by simp;omega
  have e3:(xo==3)=false:=by simp;omega
  have f1:(xo != 1)=true:=by simp;omega
  have eo:fW xo=2:=by unfold fW;rw [if_neg (by omega),if_neg (by omega),if_pos (by omega)]
  obtain ⟨W,hW,hbW,sW,rW⟩:=fG w #[.int .i64 xo,.int .i64 0,.string (ByteArray.mk #[]),.int .i64 0,.int .i64 0,.slice xA 2 xc] 244
  have SW:=Lib.hid sW
  have R0:=Lib.hid rW
  have q0:W.cell? ⟨w.heap.size,0,none⟩=some (.int .i64 xo):=aA R0.out 0 _ rfl
  have OP:=Lib.hid (fun w' =>fV xo (by omega) (by omega) w')
  have EO:=Lib.hid eo
  clear sW rW eo
  go_enter Tryz.func196,Tryz.ntmps196
  go_upto_region 1 with fail
  try rw [←hW]
  clear hW
  go_upto_region 2 with fail
  go_wp2_with fail
  refine aM ((fun w' =>Below W.heap.size W w')) (by kernel_rfl) (by kernel_rfl) ((Below.refl _ W).drew) ?_
  refine TkA ?_
  refine aE (⟨w.heap.size,0,none⟩) (.int .i64 xo) rfl rfl rfl (fun w' hw' =>aG (aU _) (aA ((hw'.block w.heap.size (by have:=SW.out;omega)).trans R0.out) 0 _ rfl)) ?_
  refine TkI ?_
  refine TkA ?_
  refine aL rfl ?_
  go_wp2_with fail
  refine (OP.out _).mono ?_
  rintro e w1 ⟨rfl,rfl⟩
  rw [EO.out]
  have y1:Below W.heap.size W W.drew:=(Below.refl _ W).drew
  go_wp2_with fail
  refine aI (y1) ?_
  refine TkA ?_
  refine aE (⟨w.heap.size,5,none⟩) (.slice xA 2 xc) rfl rfl rfl (fun w' hw' =>aG (lI _) (aA ((hw'.block w.heap.size (by have:=SW.out;omega)).trans R0.out) 5 _ rfl)) ?_
  refine TkI ?_
  refine TkA ?_
  refine aE (⟨w.heap.size,3,none⟩) (.int .i64 0) rfl rfl rfl (fun w' hw' =>aG (aU _) (aA ((hw'.block w.heap.size (by have:=SW.out;omega)).trans R0.out) 3 _ rfl)) ?_
  refine TkI ?_
  refine TkA ?_
  refine aE (⟨w.heap.size,4,none⟩) (.int .i64 0) rfl rfl rfl (fun w' hw' =>aG (aU _) (aA ((hw'.block w.heap.size (by have:=SW.out;omega)).trans R0.out) 4 _ rfl)) ?_
  refine TkI ?_
  refine TkA ?_
  refine iH rfl rfl (y1) ?_
  refine TkI ?_
  refine TkA ?_
  refine aE (⟨w.heap.size,2,none⟩) (.string (ByteArray.mk #[])) rfl rfl rfl (fun w' hw' =>aG (fL _) (aA ((hw'.block w.heap.size (by have:=SW.out;omega)).trans R0.out) 2 _ rfl)) ?_
  refine TkI ?_
  refine TkA ?_
  refine aE (⟨w.heap.size,0,none⟩) (.int .i64 xo) rfl rfl rfl (fun w' hw' =>aG (aU _) (aA ((hw'.block w.heap.size (by have:=SW.out;omega)).trans R0.out) 0 _ rfl)) ?_
  refine TkI ?_
  refine TkA ?_
  refine aE (⟨w.heap.size,0,none⟩) (.int .i64 xo) rfl rfl rfl (fun w' hw' =>aG (aU _) (aA ((hw'.block w.heap.size (by have:=SW.out;omega)).trans R0.out) 0 _ rfl)) ?_
  refine TkI ?_
  refine TkA ?_
  refine aE (⟨w.heap.size,1,none⟩) (.int .i64 0) rfl rfl rfl (fun w' hw' =>aG (aU _) (aA ((hw'.block w.heap.size (by have:=SW.out;omega)).trans R0.out) 1 _ rfl)) ?_
  refine TkI ?_
  refine TkA ?_
  refine aZ ?_
  go_wp2_with fail
  obtain ⟨w1,hw1⟩:∃w1,w1=W.drew:=⟨_,rfl⟩
  rw [←hw1]
  have hb1:Below W.heap.size W w1:=by rw [hw1];exact y1
  have hb1' :=Below.ext hbW hb1
  have R1:=Lib.hid ((hb1.block w.heap.size (by have:=SW.out;omega)).trans R0.out)
  clear hw1
  go_wp2
  go_loopw [4] (fun a wr=>∃k:Nat,a= .int .i64 k∧k≤2∧Below w1.heap.size w1 wr) (fun a _=>2-(intOf a).toNat)
  case atStart=>exact ⟨0,rfl,by omega,Below.refl _ _⟩
  case round=>
   obtain ⟨k,rfl,hk,hb⟩:=hrel
   have hbW2:=Below.ext hb1' hb
   have R2:=Lib.hid ((hb.block w.heap.size (by have:=hb1.size;have:=SW.out;omega)).trans R1.out)
   have q5:wr.cell? ⟨w.heap.size,5,none⟩=some (.slice xA 2 xc):=aA R2.out 5 _ rfl
   by_cases hlt:k<2
   ·obtain ⟨b,off,y,u,rfl,hS,hbb,hu,hoky,hcy⟩:=hargs.at_ dZ (j:=k) hlt (by omega)
    have HC:=Lib.hid (fun i u h=>(hbW2.cell (p:=⟨b,off+k*6+i,none⟩) hbb).trans (hcy i u h))
    have hU:=HALL.out u (List.mem_of_getElem? hu)
    have Hc:=Lib.hid (ih y u _ wr (ExOk.keep (Keep.of_below hbW2) _ _ _ hoky) hU)
    clear hu hcy hU hoky
    go_wp2_with (refine aD (t:=244) (A:=⟨b,off+k*6,none⟩) rfl rfl rfl (gC HC.out) ?_)
    refine Hc.out.mono ?_
    rintro e w2 ⟨rfl,hb2⟩
    go_wp2
    go_roundw
    case rel=>exact ⟨k+1,by go_num,by omega,Below.ext hb hb2⟩
    case measure=>simp [intOf];omega
   ·obtain rfl:k=2:=by omega
    go_wp2
    go_ret
    exact ⟨rfl,hbW2⟩
theorem fX:∀(n:Nat),wE n
 |0=>fun x t S w h=>h.elim
 |n+1=>CM n (fX n)
end Go.Proofs.YtiblijmngokcgaaGreatDoor
