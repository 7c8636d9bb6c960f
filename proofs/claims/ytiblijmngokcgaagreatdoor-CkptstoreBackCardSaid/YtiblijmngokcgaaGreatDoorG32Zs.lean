import Derived.Test.YtiblijmngokcgaaGreatDoorG31Zs
import Derived.Test.YtiblijmngokcgaaGreatDoorKitZs
import Derived.Test.YtiblijmngokcgaaGreatDoorTreeZs
namespace Go.Proofs.YtiblijmngokcgaaGreatDoor
open Go.RowKit
set_option linter.unusedVariables false
set_option linter.unusedSimpArgs false
theorem AH {fs:List Fil} {k:Nat} {s:Stt} {z:Int} (hk:k<fs.length) (hs:(aK s.l).length≤4096) (hz:bV fs=z) (hz2:z≤1000):SaveR fs s (k:Int) (-1) (.ok (fs.set k ⟨[],ckF ⟨1,z+1,-1,0⟩ (aK s.l)⟩)):=by
 have h:=SaveR.full (s:=s) hk
 rw [xI (by omega) hs,hz] at h
 exact h
theorem DQ {fs:List Fil} {k b n:Nat} {s u:Stt} {g:Hd} {gb:List UInt8} {z:Int} (hk:k<fs.length) (hs:(dN s u).length≤4096) (hz:bV fs=z) (hz2:z≤1000) (hb:b≠k) (hl:LoadR fs n (b:Int) (.ok u)) (hf:cH fs (b:Int)=ckF g gb) (hg:HdIn g) (hx:ExtM s u):SaveR fs s (k:Int) (b:Int) (.ok (fs.set k ⟨[],ckF ⟨2,z+1,(b:Int),g.stamp⟩ (dN s u)⟩)):=by
 have h1:cF (cH fs (b:Int))= .ok (g,8+(aK g.l).length):=by rw [hf];exact jD (body:=gb) hg
 have h:=SaveR.inc (s:=s) hk (by omega) hl (by omega) hx h1
 rw [xI (by omega) hs,hz] at h
 exact h
theorem EM {a:List Int} {j n:Nat} {v:Int} (h:j / 4≠n):cA (a.set j v) n=cA a n:=by
 apply List.ext_getElem?
 intro i
 by_cases hi:i<4
 ·rw [kT _ _ _ hi,kT _ _ _ hi,List.getElem?_set_ne (by omega)]
 ·have h1:=gM (a.set j v) n
  have h2:=gM a n
  unfold dI at h1 h2
  rw [List.getElem?_eq_none (by omega),List.getElem?_eq_none (by omega)]
theorem CW (a:List Int) (j:Nat) (v:Int):(cN a (a.set j v)).length≤1:=by
 have key:∀n,((List.range n).filterMap fun k=>if a.length=(a.set j v).length∧cA a k=cA (a.set j v) k then none else some (⟨(k:Int),cA (a.set j v) k⟩:Pg)).length≤if j / 4<n then 1 else 0:=by
  intro n
  induction n with
  |zero=>simp
  |succ n ih=>
   rw [List.range_succ,List.filterMap_append,List.length_append]
   by_cases hn:j / 4=n
   ·rw [if_pos (by omega)]
    rw [if_neg (by omega)] at ih
    have:=List.length_filterMap_le (fun k=>if a.length=(a.set j v).length∧cA a k=cA (a.set j v) k then none else some (⟨(k:Int),cA (a.set j v) k⟩:Pg)) [n]
    simp only [List.length_singleton] at this
    omega
   ·have he:=(EM (a:=a) (v:=v) hn).symm
    have:([n].filterMap fun k=>if a.length=(a.set j v).length∧cA a k=cA (a.set j v) k then none else some (⟨(k:Int),cA (a.set j v) k⟩:Pg))=[]:=by simp [he]
    rw [this]
    by_cases h2:j / 4<n
    ·rw [if_pos h2] at ih
     rw [if_pos (by omega)]
     simpa using ih
    ·rw [if_neg h2] at ih
     rw [if_neg (by omega)]
     simpa using ih
 have:=key (cM (a.set j v).length)
 unfold cN
 split at this<;>omega
theorem StB.set_ {s:Stt} (h:StB s) (j:Nat) {v:Int} (hv:InR v):StB {s with cells:=s.cells.set j v}:=by
 refine ⟨⟨fun z hz=> ?_,h.i.e,h.i.sn,h.i.o,h.i.n⟩,by simpa using h.c,by simpa using h.c5,h.e⟩
 rcases List.mem_or_eq_of_mem_set hz with h1|h1
 ·exact h.i.c z h1
 ·rw [h1];exact hv
theorem ExtM.set_ (s:Stt) (j:Nat) (v:Int):ExtM {s with cells:=s.cells.set j v} s:=⟨by simp,List.prefix_refl _,List.prefix_refl _,List.prefix_refl _⟩
theorem JV {s:Stt} (h:StB s) (j:Nat) {v:Int} (hv:InR v):(dN {s with cells:=s.cells.set j v} s).length≤47:=by
 have h0:=h.set_ j hv
 have h1:=MC (a:=s.cells) h0.i.c h0.c
 have h2:(cN s.cells (Stt.cells {s with cells:=s.cells.set j v})).length≤1:=CW s.cells j v
 have hz:=fY (z:=0) (by omega) (by omega)
 have h3:(aK (dO {s with cells:=s.cells.set j v} s).l).length=4:=by
  have:(dO {s with cells:=s.cells.set j v} s).l=[0,0,0,0]:=by simp [dO,Stt.l]
  rw [this]
  simp [aK,hz]
 unfold dN
 rw [List.length_append,h3]
 omega
theorem vV (h:Hd) (body:List UInt8):(ckF h body).length=16+(aK h.l).length+body.length:=by
 unfold ckF
 rw [List.length_append,eD,eD]
 omega
theorem FN {h:Hd} (hs:∀z∈h.l,0≤z∧z≤63):(aK h.l).length=4:=by
 obtain ⟨a,b,c,d⟩:=h
 have f:=fun z hz=>fY (z:=z) (hs z hz).1 (hs z hz).2
 have h1:=f a (by simp [Hd.l])
 have h2:=f b (by simp [Hd.l])
 have h3:=f c (by simp [Hd.l])
 have h4:=f d (by simp [Hd.l])
 simp [Hd.l,aK,h1,h2,h3,h4]
end Go.Proofs.YtiblijmngokcgaaGreatDoor
namespace Go.Proofs.YtiblijmngokcgaaGreatDoor
open Go.RowKit
set_option maxRecDepth 100000
set_option linter.unusedVariables false
set_option linter.unusedSimpArgs false
theorem qZ (k:Int) (h1:97≤k) (h2:k≤122) (w:World):Calls Tryz.prog 193 #[.int .u8 k] w fun e w' =>e= .returned (.bool true)∧w' =w:=by
 go_enter Tryz.func193,Tryz.ntmps193
 go_wp2
 go_ret
 exact ⟨rfl,rfl⟩
def zF (c:UInt8):Prop:=c=97∨c=98∨c=120∨c=121∨c=122
def KG:List UInt8:=[32,118,97,114,32,97,114,114,97,121,32,111,110,32,115,116,97,114,116,32,109,101,115,115,97,103,101,32,116,105,99,107,32,105,110,112,117,116,32,105,102,32,101,108,115,101,32,119,104,105,108,101,32,115,101,110,100,32,111,117,116,112,117,116,32,115,101,108,102,32,112,114,111,99,115,32,102,114,111,109,32,118,97,108,117,101,32]
set_option maxHeartbeats 2000000 in
theorem uK (c:UInt8) (hc:zF c) (w:World):Calls Tryz.prog 194 #[.string (ByteArray.mk #[c])] w fun e w' =>e= .returned (.bool false)∧w' =w:=by
 have D:∀k,k≤84→(((ByteArray.mk KG.toArray).extract k (k+3)).toList==(ByteArray.mk #[32]++ByteArray.mk #[c]++ByteArray.mk #[32]).toList)=false:=by
  rcases hc with rfl|rfl|rfl|rfl|rfl<;>decide +kernel
 rcases hc with rfl|rfl|rfl|rfl|rfl
 all_goals
  go_enter Tryz.func194,Tryz.ntmps194
  go_wp2
  go_loopw [3] (fun a wr=>∃k:Nat,a= .int .i64 k∧k≤1∧wr=w) (fun a _=>1-(intOf a).toNat)
  case atStart=>exact ⟨0,rfl,by omega,rfl⟩
  case round=>
   obtain ⟨k,rfl,hk,rfl⟩:=hrel
   by_cases h0:k=0
   ·subst h0
    go_wp2
    go_roundw
    case rel=>exact ⟨1,rfl,by omega,trivial⟩
    case measure=>simp [intOf]
   ·obtain rfl:k=1:=by omega
    go_wp2
    go_loopw [5] (fun a wr2=>∃k:Nat,a= .int .i64 k∧k≤85∧wr2=wr) (fun a _=>85-(intOf a).toNat)
    case atStart=>exact ⟨0,rfl,by omega,rfl⟩
    case round=>
     obtain ⟨k,rfl,hk,_⟩:=hrel
     by_cases h1:k<85
     ·go_wp2
      ·rename_i h
       exact absurd (h.symm.trans (D k (by omega))) (by decide)
      ·refine ⟨⟨k+1,rfl,by omega,trivial⟩,by simp [intOf];omega⟩
     ·obtain rfl:k=85:=by omega
      go_wp2
      go_ret
      exact ⟨rfl,rfl⟩
set_option maxHeartbeats 2000000 in
theorem jO (c:UInt8) (hc:zF c) (w:World):Calls Tryz.prog 185 #[.string (ByteArray.mk #[c])] w fun e w' =>e= .returned (.bool true)∧w' =w:=by
 have hR:=uK c hc w
 rcases hc with rfl|rfl|rfl|rfl|rfl
 all_goals
  have HR:=Lib.hid hR
  clear hR
  go_enter Tryz.func185,Tryz.ntmps185
  go_wp2_with fail
  refine (qZ _ (by decide) (by decide) w).mono ?_
  rintro e w1 ⟨rfl,rfl⟩
  go_wp2_with fail
  refine HR.out.mono ?_
  rintro e w1 ⟨rfl,rfl⟩
  go_wp2
  go_loopw [3] (fun a wr=>∃k:Nat,a= .int .i64 k∧k≤1∧wr=w1) (fun a _=>1-(intOf a).toNat)
  case atStart=>exact ⟨0,rfl,by omega,rfl⟩
  case round=>
   obtain ⟨k,rfl,hk,rfl⟩:=hrel
   by_cases h0:k=0
   ·subst h0
    go_wp2_with fail
    refine (qZ _ (by decide) (by decide) wr).mono ?_
    rintro e w1 ⟨rfl,rfl⟩
    go_wp2
    go_roundw
    case rel=>exact ⟨1,rfl,by omega,trivial⟩
    case measure=>simp [intOf]
   ·obtain rfl:k=1:=by omega
    go_wp2
    go_ret
    exact ⟨rfl,rfl⟩
def fW (op:Int):Int:=if op=1∨op=2∨(4≤op∧op≤7) then 0 else if op=3∨op=8∨op=9 then 1 else if 10≤op∧op≤22 then 2 else -1
set_option maxHeartbeats 2000000 in
theorem fV (op:Int) (h1:1≤op) (h2:op≤22) (w:World):Calls Tryz.prog 200 #[.int .i64 op] w fun e w' =>e= .returned (.int .i64 (fW op))∧w' =w:=by
 by_cases a1:op=1∨op=2∨(4≤op∧op≤7)
 ·have e:fW op=0:=by unfold fW;rw [if_pos a1]
  rw [e]
  clear e
  rcases a1 with rfl|rfl|⟨a,b⟩
  ·go_enter Tryz.func200,Tryz.ntmps200
   go_wp2
   go_ret
   exact ⟨rfl,rfl⟩
  ·go_enter Tryz.func200,Tryz.ntmps200
   go_wp2
   go_ret
   exact ⟨rfl,rfl⟩
  ·have b1:(op==1)=false:=by simp;omega
   have b2:(op==2)=false:=by simp;omega
   go_enter Tryz.func200,Tryz.ntmps200
   go_wp2
   go_ret
   exact ⟨rfl,rfl⟩
 ·by_cases a2:op=3∨op=8∨op=9
  ·have e:fW op=1:=by unfold fW;rw [if_neg a1,if_pos a2]
   rw [e]
   clear e
   rcases a2 with rfl|rfl|rfl
   all_goals
    clear a1
    go_enter Tryz.func200,Tryz.ntmps200
    go_wp2
    go_ret
    exact ⟨rfl,rfl⟩
  ·have e:fW op=2:=by unfold fW;rw [if_neg a1,if_neg a2,if_pos (by omega)]
   rw [e]
   clear e
   have b1:(op==1)=false:=by simp;omega
   have b2:(op==2)=false:=by simp;omega
   have b3:(op==3)=false:=by simp;omega
   have b8:(op==8)=false:=by simp;omega
   have b9:(op==9)=false:=by simp;omega
   have c4:10≤op:=by omega
   clear a1 a2
   go_enter Tryz.func200,Tryz.ntmps200
   go_wp2
   go_ret
   exact ⟨rfl,rfl⟩
set_option maxHeartbeats 1000000 in
theorem dE (nm:ByteArray) (size init:Int) (h0:0≤size) (h1:size≤1000) (w:World):Calls Tryz.prog 153 #[.agg #[.string nm,.int .i64 size,.int .i64 init]] w fun e w' =>e= .returned (.int .i64 (max size 1))∧Below w.heap.size w w' :=by
 by_cases hz:size=0
 ·subst hz
  go_enter Tryz.func153,Tryz.ntmps153
  go_wp2
  go_ret
  exact ⟨rfl,(Below.refl _ w).alloc (Nat.le_refl _) _⟩
 ·have h2:1≤size:=by omega
  have e:max size 1=size:=by omega
  rw [e]
  clear e hz h0
  go_enter Tryz.func153,Tryz.ntmps153
  go_wp2
  all_goals
   go_ret
   exact ⟨jC (by first|omega|(simp at *;omega)|(simp at *)),(Below.refl _ w).alloc (Nat.le_refl _) _⟩
end Go.Proofs.YtiblijmngokcgaaGreatDoor
