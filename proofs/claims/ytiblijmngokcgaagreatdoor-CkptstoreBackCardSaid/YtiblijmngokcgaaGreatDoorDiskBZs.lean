import Derived.Test.YtiblijmngokcgaaGreatDoorMacZs
import Derived.Test.YtiblijmngokcgaaGreatDoorDiskAZs
import Derived.Test.YtiblijmngokcgaaGreatDoorKitZs
import Derived.Test.YtiblijmngokcgaaGreatDoorCodecCZs
namespace Go.Proofs.YtiblijmngokcgaaGreatDoor
open Go.RowKit
set_option maxRecDepth 100000
set_option linter.unusedVariables false
end Go.Proofs.YtiblijmngokcgaaGreatDoor
namespace Go.Proofs.YtiblijmngokcgaaGreatDoor
open Go.RowKit
set_option maxRecDepth 100000
set_option linter.unusedVariables false
def FilOwn (base:Nat) (w:World) (v:Value) (fl:List Fil):Prop:=∃xs,OwnR eI 2 w base 86 v xs∧xs.length=fl.length∧∀(i:Nat) (x:FV) (f:Fil),xs[i]? =some x→fl[i]? =some f→FOk (fun b=>base≤b∧v.ownBlock≠some b) w x f
theorem FilOwn.nil_ (base:Nat) (w:World):FilOwn base w (.slice none 0 0) []:=⟨[],OwnR.nil_ _ _ _,rfl,fun i x f hx=>by simp at hx⟩
theorem FilOwn.dsk {base:Nat} {w:World} {v:Value} {fl:List Fil} (h:FilOwn base w v fl):Dsk (base≤·) w v fl:=by
 obtain ⟨xs,h1,h2,h3⟩:=h
 exact ⟨xs,h1.recs.mono (fun _ _ h=>h.1),h2,fun i x f hx hf=>(h3 i x f hx hf).mono (fun _ _ h=>h.1)⟩
theorem FilOwn.len {base:Nat} {w:World} {A:Option Addr} {n c:Nat} {fl:List Fil} (h:FilOwn base w (.slice A n c) fl):fl.length=n∧n≤c∧c≤9223372036854775807:=h.dsk.len
theorem FilOwn.ext {base:Nat} {w w' :World} {v:Value} {fl:List Fil} (h:FilOwn base w v fl) (hb:Below w.heap.size w w'):FilOwn base w' v fl:=by
 obtain ⟨xs,h1,h2,h3⟩:=h
 exact ⟨xs,h1.ext hb,h2,fun i x f hx hf=>(h3 i x f hx hf).ext hb⟩
theorem FilOwn.kept {base g:Nat} {w w' :World} {v:Value} {fl:List Fil} (h:FilOwn base w v fl) (hg:w.grownBy w' (some g)) (hlt:g<base):FilOwn base w' v fl:=by
 obtain ⟨xs,h1,h2,h3⟩:=h
 refine ⟨xs,h1.kept hg ?_,h2,fun i x f hx hf=>(h3 i x f hx hf).keep (fun b hb hs=>hg.block b hb (fun e=>by cases e;omega))⟩
 exact Tzc5
theorem vK {base:Nat} {w w' :World} {v v' :Value} {x:FV} {f:Fil} (h:FOk (fun b=>base≤b∧v.ownBlock≠some b) w x f) (hg:w.grownBy w' v.ownBlock) (hat:v'.ownBlock=v.ownBlock∨v'.ownBlock=some w.heap.size):
 FOk (fun b=>base≤b∧v'.ownBlock≠some b) w' x f:=by
 have h1:FOk (fun b=>base≤b∧v.ownBlock≠some b∧b<w.heap.size) w x f:=h.mono (fun b hb hs=>⟨hs.1,hs.2,hb⟩)
 exact Tzcs
theorem FilOwn.push {base:Nat} {w w' :World} {v v' :Value} {fl:List Fil} {xs:List FV} (hx:xs.length=fl.length∧∀(i:Nat) (x:FV) (f:Fil),xs[i]? =some x→fl[i]? =some f→FOk (fun b=>base≤b∧v.ownBlock≠some b) w x f)
 (x:FV) (f:Fil) (h2:FOk (fun b=>base≤b∧v.ownBlock≠some b) w x f) (hown:OwnR eI 2 w' base 86 v' (xs++ [x])) (hg:w.grownBy w' v.ownBlock) (hat:v'.ownBlock=v.ownBlock∨v'.ownBlock=some w.heap.size):FilOwn base w' v' (fl++ [f]):=by
 refine ⟨_,hown,by simp [hx.1],fun i x' f' hx' hf' => ?_⟩
 rcases Nat.lt_or_ge i xs.length with hi|hi
 ·rw [List.getElem?_append_left hi] at hx'
  rw [List.getElem?_append_left (by omega)] at hf'
  exact vK (hx.2 i x' f' hx' hf') hg hat
 ·rw [List.getElem?_append_right hi] at hx'
  rw [List.getElem?_append_right (by omega)] at hf'
  have hi' :i-xs.length=0:=by
   exact Tzdc
  rw [hi'] at hx'
  rw [←hx.1,hi'] at hf'
  cases hx'
  cases hf'
  exact vK h2 hg hat
end Go.Proofs.YtiblijmngokcgaaGreatDoor
namespace Go.Proofs.YtiblijmngokcgaaGreatDoor
open Go.RowKit
set_option maxRecDepth 100000
set_option linter.unusedVariables false
end Go.Proofs.YtiblijmngokcgaaGreatDoor
namespace Go.Proofs.YtiblijmngokcgaaGreatDoor
open Go.RowKit
set_option maxRecDepth 100000
set_option linter.unusedVariables false
end Go.Proofs.YtiblijmngokcgaaGreatDoor
namespace Go.Proofs.YtiblijmngokcgaaGreatDoor
open Go.RowKit
set_option maxRecDepth 100000
set_option linter.unusedVariables false
set_option maxHeartbeats 1000000 in
theorem IM (A:Option Addr) (n c:Nat) (k:Int) (hk:k<0∨(n:Int)≤k) (hn:n≤1000) (w:World):
 Calls Tryz.prog 27 #[.agg #[.slice A n c],.int .i64 k] w fun e w' =>e= .returned (.tuple #[.slice none 0 0,.int .i64 11])∧Below w.heap.size w w' :=by
 obtain ⟨W,hW⟩:∃W,W=w.alloc (.cells #[.slice A n c] 36):=⟨_,rfl⟩
 have ha:Below w.heap.size w W:=by rw [hW];exact (Below.refl _ w).alloc (Nat.le_refl _) _
 go_enter Tryz.func27,Tryz.ntmps27
 go_wp2_with fail
 rw [←hW]
 clear hW
 refine (wQ _ n c k W hk hn).mono ?_
 rintro e w1 ⟨rfl,hb1⟩
 go_wp2
 go_ret2
 exact ⟨rfl,Below.ext ha hb1⟩
end Go.Proofs.YtiblijmngokcgaaGreatDoor
