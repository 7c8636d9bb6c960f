import Derived.Test.YtiblijmngokcgaaGreatDoorMacZs
import Derived.Test.YtiblijmngokcgaaGreatDoorProg
import Derived.Test.YtiblijmngokcgaaGreatDoorKitZs
import Derived.Test.YtiblijmngokcgaaGreatDoorG07Zs
namespace Go.Proofs.YtiblijmngokcgaaGreatDoor
open Go.RowKit
set_option maxRecDepth 100000
set_option linter.unusedVariables false
def Cod (B:Nat) (w:World) (g:Nat):Prop:=B≤g∧∃(A:Option Addr) (c:Nat) (l:List UInt8) (k:Nat),w.heap[g]? =some (.cells #[.slice A l.length c,.int .i64 (k:Int)] 80 (0,0))∧Bytes (·<B) w (.slice A l.length c) l∧k≤l.length∧l.length≤65536
theorem Cod.kept {B:Nat} {w w' :World} {g:Nat} (h:Cod B w g) (hk:∀b,b<w.heap.size→(b<B∨b=g)→w'.heap[b]? =w.heap[b]?):Cod B w' g:=by
 obtain ⟨hB,A,c,l,k,h1,h2,h3,h4⟩:=h
 have hlt:g<w.heap.size:=(Array.getElem?_eq_some_iff.1 h1).1
 exact ⟨hB,A,c,l,k,(hk g hlt (.inr rfl)).trans h1,h2.keep (fun b hb hs=>hk b hb (.inl hs)),h3,h4⟩
theorem Cod.lt {B:Nat} {w:World} {g:Nat} (h:Cod B w g):g<w.heap.size:=by
 obtain ⟨_,A,c,l,k,h1,_⟩:=h
 exact (Array.getElem?_eq_some_iff.1 h1).1
theorem Cod.ext {B:Nat} {w w' :World} {g:Nat} (h:Cod B w g) (hb:Below w.heap.size w w'):Cod B w' g:=h.kept fun b hb' _=>hb.block b hb'
theorem Cod.grown {B:Nat} {w w' :World} {g:Nat} {row:Option Nat} (h:Cod B w g) (hg:w.grownBy w' row) (hr:∀m,row=some m→B≤m∧m≠g):Cod B w' g:=
 h.kept fun b hb' hs=>hg.block b hb' (fun e=>by
  have:=hr b e.symm
  rcases hs with hs|hs
  ·omega
  ·exact this.2 hs)
theorem Cod.drew {B:Nat} {w:World} {g:Nat} (h:Cod B w g):Cod B w.drew g:=h
set_option maxHeartbeats 400000 in
theorem zH (v:Value) (l:List UInt8) (S:Nat→Prop) (w:World) (most:Nat) (hm:most≤65536) (hv:Bytes S w v l):
 Calls Tryz.prog 10 #[v,.int .i64 (most:Int)] w fun e w' =>∃g,e= .returned (.pointer (some ⟨g,0,none⟩))∧Cod w.heap.size w' g∧Below w.heap.size w w' :=by
 have hB:=hv.mono (S' :=(·<w.heap.size)) (fun b hb _=>hb)
 obtain ⟨A,c,rfl,hc1,hc2,hcs⟩:=hv
 unfold maxLen at hc2
 have hba:∀o,Below w.heap.size w (w.alloc o):=fun o=>(Below.refl _ _).alloc (Nat.le_refl _) o
 by_cases hlen:most<l.length
 ·have d1:decide (most<l.length)=true:=by simpa using hlen
  go_enter Tryz.func10,Tryz.ntmps10
  go_wp2
  go_ret
  refine ⟨w.heap.size,rfl,⟨Nat.le_refl _,A,c,l.take most,0,?_,?_,by omega,by simp;omega⟩,hba _⟩
  ·rw [List.length_take,Nat.min_eq_left (by omega)]
   exact heap_alloc_new _ _
  ·rw [List.length_take,Nat.min_eq_left (by omega)]
   exact (hB.take_ (by omega)).ext (hba _)
 ·have d1:decide (most<l.length)=false:=by simpa using hlen
  go_enter Tryz.func10,Tryz.ntmps10
  go_wp2
  go_ret
  exact ⟨w.heap.size,rfl,⟨Nat.le_refl _,A,c,l,0,heap_alloc_new _ _,hB.ext (hba _),by omega,by omega⟩,hba _⟩
set_option maxHeartbeats 400000 in
theorem zI (g k n c:Nat) (A:Option Addr) (w:World) (t:TypeId) (h:w.heap[g]? =some (.cells #[.slice A n c,.int .i64 (k:Int)] t (0,0))) (hn:n≤65536) (hk:k≤n):
 Calls Tryz.prog 13 #[.pointer (some ⟨g,0,none⟩)] w fun e w' =>e= .returned (.bool (decide (k<n)))∧w' =w.drew:=by
 have h0:w.cell? ⟨g,0,none⟩=some (.slice A n c):=by rw [cell_of_row _ _ _ _ _ _ h];rfl
 have h1:w.cell? ⟨g,1,none⟩=some (.int .i64 (k:Int)):=by rw [cell_of_row _ _ _ _ _ _ h];rfl
 clear h
 go_enter Tryz.func13,Tryz.ntmps13
 go_wp2_with fail
 refine aP (fun _=>True) (by kernel_rfl) (by kernel_rfl) trivial ?_
 refine TkG ?_
 refine lex_e rfl ?_
 go_wp2_with fail
 refine lex_go trivial ?_
 refine TkG ?_
 refine lex_e rfl ?_
 go_wp2_with fail
 refine lex_go trivial ?_
 refine TkG ?_
 refine bG ?_
 go_wp2_with fail
 go_ret
 exact ⟨rfl,rfl⟩
set_option maxHeartbeats 400000 in
theorem bE (B g n:Nat) (w:World) (h:Cod B w g) (hn:1≤n) (hn2:n≤65536):
 Calls Tryz.prog 14 #[.pointer (some ⟨g,0,none⟩),.int .i64 (n:Int)] w fun e w' =>∃x:Nat,e= .returned (.int .i64 (x:Int))∧x<n∧Cod B w' g∧w.grownBy w' (some g):=by
 have hC:=h
 obtain ⟨hB,A,c,l,k,hr,hby,hk,hl⟩:=h
 have hleft:=zI g k l.length c A w _ hr hl hk
 by_cases hlt:k<l.length
 ·rw [decide_eq_true hlt] at hleft
  have Hleft:=Lib.hid hleft
  clear hleft
  have hb2:=hby
  obtain ⟨A',c',e,_,_,hcs⟩:=hby
  cases e
  obtain ⟨b,off,x,rfl,hbB,hbs,hx,hcx⟩:=hcs.byte hlt
  have hbg:b<g:=Nat.lt_of_lt_of_le hbB hB
  have h0:w.cell? ⟨g,0,none⟩=some (.slice (some ⟨b,off,none⟩) l.length c):=by rw [cell_of_row _ _ _ _ _ _ hr];rfl
  have h1:w.cell? ⟨g,1,none⟩=some (.int .i64 (k:Int)):=by rw [cell_of_row _ _ _ _ _ _ hr];rfl
  have hf:w.frozen? ⟨g,1,none⟩=false:=frozen_of_row _ _ _ _ _ hr
  have Hr:=Lib.hid hr
  have hx8:=gI x
  clear hr hx hcs
  go_enter Tryz.func14,Tryz.ntmps14
  go_wp2_with fail
  refine (Hleft.out).mono ?_
  rintro e w1 ⟨rfl,rfl⟩
  go_wp2_with fail
  refine aP (fun _=>True) (by kernel_rfl) (by kernel_rfl) trivial ?_
  refine TkG ?_
  refine lex_e rfl ?_
  go_wp2_with fail
  refine lex_go trivial ?_
  refine TkG ?_
  refine lex_e rfl ?_
  go_wp2_with fail
  refine lex_go trivial ?_
  refine TkG ?_
  refine lex_e rfl ?_
  go_wp2_with fail
  refine lex_go trivial ?_
  refine TkG ?_
  refine bG ?_
  go_wp2_with fail
  go_ret
  have hg1:w.grownBy (w.setCell ⟨g,1,none⟩ (.int .i64 ((k:Int)+1))) (some g):=aO ⟨rfl,rfl,rfl,Nat.le_refl _,fun _ _ _=>rfl⟩
  refine ⟨x.toNat%n,jC (by omega),Nat.mod_lt _ (by omega),⟨hB,some ⟨b,off,none⟩,c,l,k+1,?_,?_,hlt,hl⟩,⟨hg1.os,hg1.tape,hg1.output,hg1.size,hg1.block⟩⟩
  ·exact heap_setCell_same w g 1 _ _ _ Hr.out
  ·exact hb2.keep (fun b' hb' hs=>hg1.block b' hb' (by intro e;cases e;omega))
 ·rw [decide_eq_false hlt] at hleft
  have Hleft:=Lib.hid hleft
  clear hleft
  have Hr:=Lib.hid hr
  clear hr
  go_enter Tryz.func14,Tryz.ntmps14
  go_wp2_with fail
  refine (Hleft.out).mono ?_
  rintro e w1 ⟨rfl,rfl⟩
  go_wp2
  go_ret
  exact ⟨0,rfl,by omega,hC,⟨rfl,rfl,rfl,Nat.le_refl _,fun _ _ _=>rfl⟩⟩
theorem aH {a b c:World} {row:Option Nat} (h:a.grownBy b row) (k:b.grownBy c row):a.grownBy c row:=
 ⟨k.os.trans h.os,k.tape.trans h.tape,k.output.trans h.output,Nat.le_trans h.size k.size,fun i hi hne=>(k.block i (Nat.lt_of_lt_of_le hi h.size) hne).trans (h.block i hi hne)⟩
theorem cD {a b c:World} {g:Nat} {row:Option Nat} (h:a.grownBy b (some g)) (k:b.grownBy c row) (hr:∀m,row=some m→a.heap.size≤m∨m=g):a.grownBy c (some g):=
 ⟨k.os.trans h.os,k.tape.trans h.tape,k.output.trans h.output,Nat.le_trans h.size k.size,fun i hi hne=>(k.block i (Nat.lt_of_lt_of_le hi h.size) (fun e=>by
  rcases hr i e.symm with h1|h1
  ·omega
  ·exact hne (by rw [h1]))).trans (h.block i hi hne)⟩
theorem bC (a:World) (row:Option Nat):a.grownBy a row:=⟨rfl,rfl,rfl,Nat.le_refl _,fun _ _ _=>rfl⟩
theorem aQ {a b:World} (h:Below a.heap.size a b) (row:Option Nat):a.grownBy b row:=⟨h.os,h.tape,h.output,h.size,fun i hi _=>h.block i hi⟩
theorem GO {B g:Nat} {w wr w2 w5:World} {row:Option Nat} (o:Obj) (hglt:g<w.heap.size) (hgr:w.grownBy wr (some g)) (hg2:wr.grownBy w2 (some g)) (hC2:Cod B w2 g) (hgr5:(w2.alloc o).grownBy w5 row)
 (hrow:∀m,row=some m→w.heap.size≤m):Cod B w5 g∧w.grownBy w5 (some g):=by
 have ha:Below w2.heap.size w2 (w2.alloc o):=(Below.refl _ _).alloc (Nat.le_refl _) _
 refine ⟨(hC2.ext ha).grown hgr5 (fun m hm=>⟨?_,?_⟩),cD (aH (aH hgr hg2) (aQ ha _)) hgr5 (fun m hm=> .inl (hrow m hm))⟩
 ·have:=hrow m hm
  have:=hC2.1
  omega
 ·have:=hrow m hm
  omega
end Go.Proofs.YtiblijmngokcgaaGreatDoor
