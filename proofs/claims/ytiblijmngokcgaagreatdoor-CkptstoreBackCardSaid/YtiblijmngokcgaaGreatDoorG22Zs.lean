import Derived.Test.YtiblijmngokcgaaGreatDoorMacZs
import Derived.Test.YtiblijmngokcgaaGreatDoorG21Zs
import Derived.Test.YtiblijmngokcgaaGreatDoorCodecCZs
import Derived.Test.YtiblijmngokcgaaGreatDoorG20Zs
namespace Go.Proofs.YtiblijmngokcgaaGreatDoor
open Go.RowKit
set_option maxRecDepth 100000
set_option linter.unusedVariables false
set_option maxHeartbeats 1000000 in
theorem wN (A1 A2:Option Addr) (n c1 c2:Nat) (l:List Int) (S1 S2:Nat→Prop) (w:World) (h1:Recs bJ S1 w (.slice A1 n c1) l) (h2:Recs bJ S2 w (.slice A2 n c2) l):
 Calls Tryz.prog 65 #[.slice A1 n c1,.slice A2 n c2] w fun e w' =>e= .returned (.bool true)∧Below w.heap.size w w' :=by
 have hl1:=h1.len
 go_enter Tryz.func65,Tryz.ntmps65
 go_wp2
 go_loopw [5] (fun a wr=>∃k:Nat,a= .int .i64 k∧k≤n∧Below w.heap.size w wr) (fun a _=>n-(intOf a).toNat)
 case atStart=>exact ⟨0,rfl,by omega,Below.refl _ _⟩
 case round=>
  obtain ⟨k,rfl,hk,hbr⟩:=hrel
  by_cases hlt:k<n
  ·obtain ⟨b1,o1,x1,rfl,_,hb1,hx1,hc1⟩:=(h1.ext hbr).at_ dH (j:=k) (by omega) (by omega)
   obtain ⟨b2,o2,x2,rfl,_,hb2,hx2,hc2⟩:=(h2.ext hbr).at_ dH (j:=k) (by omega) (by omega)
   obtain rfl:x1=x2:=by rw [hx1] at hx2;cases hx2;rfl
   have p0:wr.cell? ⟨b1,o1+k,none⟩=some (.int .i64 x1):=by have:=hc1 0 _ rfl;rw [Nat.mul_one] at this;exact this
   have q0:wr.cell? ⟨b2,o2+k,none⟩=some (.int .i64 x1):=by have:=hc2 0 _ rfl;rw [Nat.mul_one] at this;exact this
   exact Tza8
  ·obtain rfl:k=n:=by omega
   go_wp2
   go_ret
   exact ⟨rfl,hbr⟩
set_option maxHeartbeats 1000000 in
theorem tR (A1 A2:Option Addr) (n c1 c2:Nat) (l:List Ev) (S1 S2:Nat→Prop) (w:World) (h1:Recs cQ S1 w (.slice A1 n c1) l) (h2:Recs cQ S2 w (.slice A2 n c2) l):
 Calls Tryz.prog 77 #[.slice A1 n c1,.slice A2 n c2] w fun e w' =>e= .returned (.bool true)∧Below w.heap.size w w' :=by
 have hl1:=h1.len
 go_enter Tryz.func77,Tryz.ntmps77
 go_wp2
 go_loopw [5] (fun a wr=>∃k:Nat,a= .int .i64 k∧k≤n∧Below w.heap.size w wr) (fun a _=>n-(intOf a).toNat)
 case atStart=>exact ⟨0,rfl,by omega,Below.refl _ _⟩
 case round=>
  obtain ⟨k,rfl,hk,hbr⟩:=hrel
  by_cases hlt:k<n
  ·obtain ⟨b1,o1,x1,rfl,_,hb1,hx1,hc1⟩:=(h1.ext hbr).at_ dS (j:=k) (by omega) (by omega)
   obtain ⟨b2,o2,x2,rfl,_,hb2,hx2,hc2⟩:=(h2.ext hbr).at_ dS (j:=k) (by omega) (by omega)
   obtain rfl:x1=x2:=by rw [hx1] at hx2;cases hx2;rfl
   have p0:wr.cell? ⟨b1,o1+k*7,none⟩=some (.int .i64 x1.k0):=hc1 0 _ rfl
   have q0:wr.cell? ⟨b2,o2+k*7,none⟩=some (.int .i64 x1.k0):=hc2 0 _ rfl
   have p1:wr.cell? ⟨b1,o1+k*7+1,none⟩=some (.int .i64 x1.k1):=hc1 1 _ rfl
   have q1:wr.cell? ⟨b2,o2+k*7+1,none⟩=some (.int .i64 x1.k1):=hc2 1 _ rfl
   have p2:wr.cell? ⟨b1,o1+k*7+2,none⟩=some (.int .i64 x1.k2):=hc1 2 _ rfl
   have q2:wr.cell? ⟨b2,o2+k*7+2,none⟩=some (.int .i64 x1.k2):=hc2 2 _ rfl
   have p3:wr.cell? ⟨b1,o1+k*7+3,none⟩=some (.int .i64 x1.k3):=hc1 3 _ rfl
   have q3:wr.cell? ⟨b2,o2+k*7+3,none⟩=some (.int .i64 x1.k3):=hc2 3 _ rfl
   have p4:wr.cell? ⟨b1,o1+k*7+4,none⟩=some (.int .i64 x1.k4):=hc1 4 _ rfl
   have q4:wr.cell? ⟨b2,o2+k*7+4,none⟩=some (.int .i64 x1.k4):=hc2 4 _ rfl
   have p5:wr.cell? ⟨b1,o1+k*7+5,none⟩=some (.int .i64 x1.k5):=hc1 5 _ rfl
   have q5:wr.cell? ⟨b2,o2+k*7+5,none⟩=some (.int .i64 x1.k5):=hc2 5 _ rfl
   have p6:wr.cell? ⟨b1,o1+k*7+6,none⟩=some (.int .i64 x1.k6):=hc1 6 _ rfl
   have q6:wr.cell? ⟨b2,o2+k*7+6,none⟩=some (.int .i64 x1.k6):=hc2 6 _ rfl
   exact Tza8
  ·obtain rfl:k=n:=by omega
   go_wp2
   go_ret
   exact ⟨rfl,hbr⟩
set_option maxHeartbeats 1000000 in
theorem uH (A1 A2:Option Addr) (n c1 c2:Nat) (l:List Snd) (S1 S2:Nat→Prop) (w:World) (h1:Recs dK S1 w (.slice A1 n c1) l) (h2:Recs dK S2 w (.slice A2 n c2) l):
 Calls Tryz.prog 78 #[.slice A1 n c1,.slice A2 n c2] w fun e w' =>e= .returned (.bool true)∧Below w.heap.size w w' :=by
 have hl1:=h1.len
 go_enter Tryz.func78,Tryz.ntmps78
 go_wp2
 go_loopw [5] (fun a wr=>∃k:Nat,a= .int .i64 k∧k≤n∧Below w.heap.size w wr) (fun a _=>n-(intOf a).toNat)
 case atStart=>exact ⟨0,rfl,by omega,Below.refl _ _⟩
 case round=>
  obtain ⟨k,rfl,hk,hbr⟩:=hrel
  by_cases hlt:k<n
  ·obtain ⟨b1,o1,x1,rfl,_,hb1,hx1,hc1⟩:=(h1.ext hbr).at_ eF (j:=k) (by omega) (by omega)
   obtain ⟨b2,o2,x2,rfl,_,hb2,hx2,hc2⟩:=(h2.ext hbr).at_ eF (j:=k) (by omega) (by omega)
   obtain rfl:x1=x2:=by rw [hx1] at hx2;cases hx2;rfl
   have p0:wr.cell? ⟨b1,o1+k*4,none⟩=some (.int .i64 x1.a):=hc1 0 _ rfl
   have q0:wr.cell? ⟨b2,o2+k*4,none⟩=some (.int .i64 x1.a):=hc2 0 _ rfl
   have p1:wr.cell? ⟨b1,o1+k*4+1,none⟩=some (.int .i64 x1.b):=hc1 1 _ rfl
   have q1:wr.cell? ⟨b2,o2+k*4+1,none⟩=some (.int .i64 x1.b):=hc2 1 _ rfl
   have p2:wr.cell? ⟨b1,o1+k*4+2,none⟩=some (.int .i64 x1.c):=hc1 2 _ rfl
   have q2:wr.cell? ⟨b2,o2+k*4+2,none⟩=some (.int .i64 x1.c):=hc2 2 _ rfl
   have p3:wr.cell? ⟨b1,o1+k*4+3,none⟩=some (.int .i64 x1.d):=hc1 3 _ rfl
   have q3:wr.cell? ⟨b2,o2+k*4+3,none⟩=some (.int .i64 x1.d):=hc2 3 _ rfl
   exact Tza8
  ·obtain rfl:k=n:=by omega
   go_wp2
   go_ret
   exact ⟨rfl,hbr⟩
set_option maxHeartbeats 1000000 in
theorem wM (A1 A2:Option Addr) (n c1 c2:Nat) (l:List Ou) (S1 S2:Nat→Prop) (w:World) (h1:Recs dM S1 w (.slice A1 n c1) l) (h2:Recs dM S2 w (.slice A2 n c2) l):
 Calls Tryz.prog 79 #[.slice A1 n c1,.slice A2 n c2] w fun e w' =>e= .returned (.bool true)∧Below w.heap.size w w' :=by
 have hl1:=h1.len
 go_enter Tryz.func79,Tryz.ntmps79
 go_wp2
 go_loopw [5] (fun a wr=>∃k:Nat,a= .int .i64 k∧k≤n∧Below w.heap.size w wr) (fun a _=>n-(intOf a).toNat)
 case atStart=>exact ⟨0,rfl,by omega,Below.refl _ _⟩
 case round=>
  obtain ⟨k,rfl,hk,hbr⟩:=hrel
  by_cases hlt:k<n
  ·obtain ⟨b1,o1,x1,rfl,_,hb1,hx1,hc1⟩:=(h1.ext hbr).at_ eG (j:=k) (by omega) (by omega)
   obtain ⟨b2,o2,x2,rfl,_,hb2,hx2,hc2⟩:=(h2.ext hbr).at_ eG (j:=k) (by omega) (by omega)
   obtain rfl:x1=x2:=by rw [hx1] at hx2;cases hx2;rfl
   have p0:wr.cell? ⟨b1,o1+k*2,none⟩=some (.int .i64 x1.a):=hc1 0 _ rfl
   have q0:wr.cell? ⟨b2,o2+k*2,none⟩=some (.int .i64 x1.a):=hc2 0 _ rfl
   have p1:wr.cell? ⟨b1,o1+k*2+1,none⟩=some (.int .i64 x1.b):=hc1 1 _ rfl
   have q1:wr.cell? ⟨b2,o2+k*2+1,none⟩=some (.int .i64 x1.b):=hc2 1 _ rfl
   exact Tza8
  ·obtain rfl:k=n:=by omega
   go_wp2
   go_ret
   exact ⟨rfl,hbr⟩
end Go.Proofs.YtiblijmngokcgaaGreatDoor
namespace Go.Proofs.YtiblijmngokcgaaGreatDoor
open Go.RowKit
set_option maxRecDepth 100000
set_option linter.unusedVariables false
set_option maxHeartbeats 1000000 in
theorem KR (v1 v2:Value) (s:Stt) (S1 S2:Nat→Prop) (w:World) (h1:StV S1 w v1 s) (h2:StV S2 w v2 s):
 Calls Tryz.prog 32 #[v1,v2] w fun e w' =>e= .returned (.bool true)∧Below w.heap.size w w' :=by
 obtain ⟨A1,c1,A2,c2,A3,c3,A4,c4,rfl,a1,a2,a3,a4⟩:=h1
 obtain ⟨B1,d1,B2,d2,B3,d3,B4,d4,rfl,b1,b2,b3,b4⟩:=h2
 obtain ⟨W,hW,bW,hsW,r1,r2⟩:∃W,W=(w.alloc (.cells #[.slice A1 s.cells.length c1,.slice A2 s.evs.length c2,.slice A3 s.sent.length c3,.slice A4 s.outs.length c4] 51)).alloc (.cells #[.slice B1 s.cells.length d1,.slice B2 s.evs.length d2,.slice B3 s.sent.length d3,.slice B4 s.outs.length d4] 51)∧Below w.heap.size w W∧W.heap.size=w.heap.size+2∧
  W.heap[w.heap.size]? =some (.cells #[.slice A1 s.cells.length c1,.slice A2 s.evs.length c2,.slice A3 s.sent.length c3,.slice A4 s.outs.length c4] 51 (0,0))∧W.heap[w.heap.size+1]? =some (.cells #[.slice B1 s.cells.length d1,.slice B2 s.evs.length d2,.slice B3 s.sent.length d3,.slice B4 s.outs.length d4] 51 (0,0)):=by
  refine ⟨_,rfl,((Below.refl _ w).alloc (Nat.le_refl _) _).alloc (by simp) _,by simp,?_,?_⟩
  ·exact Tzar
  ·have:=heap_alloc_new (w.alloc (.cells #[.slice A1 s.cells.length c1,.slice A2 s.evs.length c2,.slice A3 s.sent.length c3,.slice A4 s.outs.length c4] 51)) (.cells #[.slice B1 s.cells.length d1,.slice B2 s.evs.length d2,.slice B3 s.sent.length d3,.slice B4 s.outs.length d4] 51)
   rw [World.size_alloc] at this
   exact this
 have HR:∀w',Below W.heap.size W w'→w'.heap[w.heap.size]? =some (.cells #[.slice A1 s.cells.length c1,.slice A2 s.evs.length c2,.slice A3 s.sent.length c3,.slice A4 s.outs.length c4] 51 (0,0))∧w'.heap[w.heap.size+1]? =some (.cells #[.slice B1 s.cells.length d1,.slice B2 s.evs.length d2,.slice B3 s.sent.length d3,.slice B4 s.outs.length d4] 51 (0,0)):=fun w' hb=>⟨(hb.block _ (by omega)).trans r1,(hb.block _ (by omega)).trans r2⟩
 have HRR:=Lib.hid HR
 have x0:W.cell? ⟨w.heap.size,0,none⟩=some (.slice A1 s.cells.length c1):=by rw [cell_of_row _ _ _ _ _ _ r1];rfl
 have y0:W.cell? ⟨w.heap.size+1,0,none⟩=some (.slice B1 s.cells.length d1):=by rw [cell_of_row _ _ _ _ _ _ r2];rfl
 clear HR r1 r2
 go_enter Tryz.func32,Tryz.ntmps32
 go_wp2_with fail
 rw [←hW]
 clear hW x0 y0
 refine (wN _ _ _ _ _ _ _ _ W (a1.ext bW) (b1.ext bW)).mono ?_
 rintro e w1 ⟨rfl,h1⟩
 have x1:w1.cell? ⟨w.heap.size,1,none⟩=some (.slice A2 s.evs.length c2):=by rw [cell_of_row _ _ _ _ _ _ (HRR.out w1 h1).1];rfl
 have y1:w1.cell? ⟨w.heap.size+1,1,none⟩=some (.slice B2 s.evs.length d2):=by rw [cell_of_row _ _ _ _ _ _ (HRR.out w1 h1).2];rfl
 go_wp2_with fail
 clear x1 y1
 refine (tR _ _ _ _ _ _ _ _ w1 (a2.ext (Below.ext bW h1)) (b2.ext (Below.ext bW h1))).mono ?_
 rintro e w2 ⟨rfl,g2⟩
 have h2:=Below.ext h1 g2
 have x2:w2.cell? ⟨w.heap.size,2,none⟩=some (.slice A3 s.sent.length c3):=by rw [cell_of_row _ _ _ _ _ _ (HRR.out w2 h2).1];rfl
 have y2:w2.cell? ⟨w.heap.size+1,2,none⟩=some (.slice B3 s.sent.length d3):=by rw [cell_of_row _ _ _ _ _ _ (HRR.out w2 h2).2];rfl
 go_wp2_with fail
 clear x2 y2
 refine (uH _ _ _ _ _ _ _ _ w2 (a3.ext (Below.ext bW h2)) (b3.ext (Below.ext bW h2))).mono ?_
 rintro e w3 ⟨rfl,g3⟩
 have h3:=Below.ext h2 g3
 have x3:w3.cell? ⟨w.heap.size,3,none⟩=some (.slice A4 s.outs.length c4):=by rw [cell_of_row _ _ _ _ _ _ (HRR.out w3 h3).1];rfl
 have y3:w3.cell? ⟨w.heap.size+1,3,none⟩=some (.slice B4 s.outs.length d4):=by rw [cell_of_row _ _ _ _ _ _ (HRR.out w3 h3).2];rfl
 go_wp2_with fail
 clear x3 y3
 refine (wM _ _ _ _ _ _ _ _ w3 (a4.ext (Below.ext bW h3)) (b4.ext (Below.ext bW h3))).mono ?_
 rintro e w4 ⟨rfl,g4⟩
 have h4:=Below.ext h3 g4
 go_wp2
 go_ret
 exact ⟨rfl,Below.ext bW h4⟩
end Go.Proofs.YtiblijmngokcgaaGreatDoor
namespace Go.Proofs.YtiblijmngokcgaaGreatDoor
open Go.RowKit
set_option maxRecDepth 100000
set_option linter.unusedVariables false
theorem StO.stv {w:World} {base:Nat} {v:Value} {s:Stt} (h:StO w base v s):StV (base≤·) w v s:=by
 obtain ⟨A1,c1,A2,c2,A3,c3,A4,c4,rfl,a1,a2,a3,a4⟩:=h
 exact ⟨A1,c1,A2,c2,A3,c3,A4,c4,rfl,a1.recs.mono fun b _ hb=>hb.1,a2.recs.mono fun b _ hb=>hb.1,a3.recs.mono fun b _ hb=>hb.1,a4.recs.mono fun b _ hb=>hb.1⟩
theorem StV.nil_ (S:Nat→Prop) (w:World):StV S w (.agg #[Value.slice none 0 0,Value.slice none 0 0,Value.slice none 0 0,Value.slice none 0 0]) ⟨[],[],[],[]⟩:=
 ⟨none,0,none,0,none,0,none,0,rfl,Recs.nil_ _ _,Recs.nil_ _ _,Recs.nil_ _ _,Recs.nil_ _ _⟩
theorem StV.ext {S:Nat→Prop} {w w' :World} {v:Value} {s:Stt} (h:StV S w v s) (hb:Below w.heap.size w w'):StV S w' v s:=by
 obtain ⟨A1,c1,A2,c2,A3,c3,A4,c4,rfl,a1,a2,a3,a4⟩:=h
 exact ⟨A1,c1,A2,c2,A3,c3,A4,c4,rfl,a1.ext hb,a2.ext hb,a3.ext hb,a4.ext hb⟩
end Go.Proofs.YtiblijmngokcgaaGreatDoor
namespace Go.Proofs.YtiblijmngokcgaaGreatDoor
open Go.RowKit
set_option maxRecDepth 100000
set_option linter.unusedVariables false
set_option linter.unusedSimpArgs false
theorem xO:(Tryz.prog.info? 127).map (fun i=>(i.zero,i.size,i.bytes))=some (some (.agg #[.int .i64 0,.int .i64 0,.int .i64 0,.int .i64 0]),4,32):=by kernel_rfl
theorem xP:(Tryz.prog.info? 129).map (fun i=>(i.zero,i.size,i.bytes))=some (some (.agg #[.int .i64 0,.int .i64 0]),2,16):=by kernel_rfl
theorem oO (w:World):(isAgg 48).run Tryz.prog w= .ok false w:=by simp [isAgg,run_underlying Tryz.underlying48]
theorem oP (w:World):(isAgg 49).run Tryz.prog w= .ok false w:=by simp [isAgg,run_underlying Tryz.underlying49]
structure StM (S:Nat→Prop) (w:World) (s:Stt) (A1:Option Addr) (n1 c1:Nat) (A2:Option Addr) (n2 c2:Nat) (A3:Option Addr) (n3 c3:Nat) (A4:Option Addr) (n4 c4:Nat):Prop where
 cells:Recs bJ S w (.slice A1 n1 c1) s.cells
 evs:Recs cQ S w (.slice A2 n2 c2) s.evs
 sent:Recs dK S w (.slice A3 n3 c3) s.sent
 outs:Recs dM S w (.slice A4 n4 c4) s.outs
structure SttIn (s:Stt):Prop where
 cells:∀z∈s.cells,InR z
 len:s.cells.length≤1000
 evs:s.evs.length≤1000
 sent:s.sent.length≤100000
 outs:s.outs.length≤100000
theorem StM.ext {S:Nat→Prop} {w w' :World} {s:Stt} {A1:Option Addr} {n1 c1:Nat} {A2:Option Addr} {n2 c2:Nat} {A3:Option Addr} {n3 c3:Nat} {A4:Option Addr} {n4 c4:Nat} (h:StM S w s A1 n1 c1 A2 n2 c2 A3 n3 c3 A4 n4 c4) (hb:Below w.heap.size w w'):StM S w' s A1 n1 c1 A2 n2 c2 A3 n3 c3 A4 n4 c4:=
 ⟨h.1.ext hb,h.2.ext hb,h.3.ext hb,h.4.ext hb⟩
theorem MV (w:World) (a b c d:Value) (v:Env):∃W,W=((w.alloc (.cells #[a,b,c,d] 51)).alloc (.cells #[.int .i64 v.self,.int .i64 v.procs,.int .i64 v.frm,.int .i64 v.value] 208)).alloc (.cells #[.slice none 0 0,.slice none 0 0,.slice none 0 0,.slice none 0 0] 51)∧Below w.heap.size w W∧RowKit.Hid (W.heap.size=w.heap.size+3)∧
 RowKit.Hid (W.heap[w.heap.size]? =some (.cells #[a,b,c,d] 51 (0,0)))∧RowKit.Hid (W.heap[w.heap.size+1]? =some (.cells #[.int .i64 v.self,.int .i64 v.procs,.int .i64 v.frm,.int .i64 v.value] 208 (0,0)))∧RowKit.Hid (W.heap[w.heap.size+2]? =some (.cells #[.slice none 0 0,.slice none 0 0,.slice none 0 0,.slice none 0 0] 51 (0,0))):=by
 have h2:((w.alloc (.cells #[a,b,c,d] 51)).alloc (.cells #[.int .i64 v.self,.int .i64 v.procs,.int .i64 v.frm,.int .i64 v.value] 208)).heap.size=w.heap.size+2:=by simp
 refine ⟨_,rfl,(((Below.refl _ w).alloc (Nat.le_refl _) _).alloc (by simp) _).alloc (by simp;omega) _,Lib.hid (by simp),Lib.hid ?_,Lib.hid ?_,Lib.hid ?_⟩
 ·exact (((Below.refl _ _).alloc (Nat.le_refl _) _).block w.heap.size (by simp;omega)).trans ((((Below.refl _ _).alloc (Nat.le_refl _) _).block w.heap.size (by simp)).trans (heap_alloc_new w _))
 ·have:=heap_alloc_new (w.alloc (.cells #[a,b,c,d] 51)) (.cells #[.int .i64 v.self,.int .i64 v.procs,.int .i64 v.frm,.int .i64 v.value] 208)
  rw [World.size_alloc] at this
  exact (((Below.refl _ _).alloc (Nat.le_refl _) _).block (w.heap.size+1) (by simp)).trans this
 ·have:=heap_alloc_new ((w.alloc (.cells #[a,b,c,d] 51)).alloc (.cells #[.int .i64 v.self,.int .i64 v.procs,.int .i64 v.frm,.int .i64 v.value] 208)) (.cells #[.slice none 0 0,.slice none 0 0,.slice none 0 0,.slice none 0 0] 51)
  rw [h2] at this
  exact this
set_option maxHeartbeats 8000000 in
theorem jL (n:Nat) (w:World) (S:Nat→Prop) (s:Stt) (A1:Option Addr) (n1 c1:Nat) (A2:Option Addr) (n2 c2:Nat) (A3:Option Addr) (n3 c3:Nat) (A4:Option Addr) (n4 c4:Nat) (hM:StM S w s A1 n1 c1 A2 n2 c2 A3 n3 c3 A4 n4 c4) (hI:SttIn s)
 (A:Option Addr) (m c:Nat) (ts:List Sm) (v:Env) (idx:Int) (hL:LsOk bM (SmOk n (·<w.heap.size) w) (·<w.heap.size) w (.slice A m c) ts) (hrs:∀s∈ts,RsS n s) (hv:EnvIn v):
 Calls Tryz.prog 158 #[.agg #[.slice A1 n1 c1,.slice A2 n2 c2,.slice A3 n3 c3,.slice A4 n4 c4],.slice A m c,.agg #[.int .i64 v.self,.int .i64 v.procs,.int .i64 v.frm,.int .i64 v.value],.int .i64 idx] w fun e w' =>∃s' B1 m1 d1 B2 m2 d2 B3 m3 d3 B4 m4 d4,e= .returned (.agg #[.slice B1 m1 d1,.slice B2 m2 d2,.slice B3 m3 d3,.slice B4 m4 d4])∧ExR ts v idx s s'∧(Recs bJ (w.heap.size≤·) w' (.slice B1 m1 d1) s'.cells∧Recs cQ S w' (.slice B2 m2 d2) s'.evs∧Recs dK (w.heap.size≤·) w' (.slice B3 m3 d3) s'.sent∧Recs dM (w.heap.size≤·) w' (.slice B4 m4 d4) s'.outs)∧(∀z∈s'.cells,InR z)∧s'.sent.length≤s.sent.length+8∧s'.outs.length≤s.outs.length+8∧Below w.heap.size w w' :=by
 obtain ⟨W,hW,bW,SW,R0,R1,R2⟩:=MV w (.slice A1 n1 c1) (.slice A2 n2 c2) (.slice A3 n3 c3) (.slice A4 n4 c4) v
 have hMW:=(show StM (·<w.heap.size) w s A1 n1 c1 A2 n2 c2 A3 n3 c3 A4 n4 c4 from ⟨hM.1.mono (fun b hb _=>hb),hM.2.mono (fun b hb _=>hb),hM.3.mono (fun b hb _=>hb),hM.4.mono (fun b hb _=>hb)⟩).ext bW
 obtain ⟨b4,hb4⟩:∃b,b=w.heap.size:=⟨_,rfl⟩
 have hn1:n1≤1000:=by have:=hM.1.len.1;have:=hI.len;omega
 have hrun:=IL n W A m c ts A1 n1 c1 s.cells _ v ((hL.mono (S' :=(·<W.heap.size)) (fun b hb h=>by have h2:b<w.heap.size:=h;have:=SW.out;show b<W.heap.size;omega) (fun y u h=>SmOk.mono (fun b _ h=>by have h2:b<w.heap.size:=h;have:=SW.out;show b<W.heap.size;omega) n y u h)).keep (Keep.of_below bW) (fun y u h=>SmOk.keep (Keep.of_below bW) n y u h)) hrs hMW.1 hn1 hI.cells hv
 have Hrun:=Lib.hid hrun
 have hl3:=hM.3.len
 have hl4:=hM.4.len
 have HL3:=Lib.hid hl3.1
 have HL4:=Lib.hid hl4.1
 have hs3:=hI.sent
 have hs4:=hI.outs
 have hc3:=hl3.2
 have hc4:=hl4.2
 have hn3:n3≤100000:=by omega
 have hn4:n4≤100000:=by omega
 clear hrun hb4 hl3 hl4
 go_enter Tryz.func158,Tryz.ntmps158
 go_upto_region 1 with fail
 try rw [←hW]
 clear hW
 have q0:W.cell? ⟨w.heap.size,0,none⟩=some (.slice A1 n1 c1):=aA R0.out 0 _ rfl
 go_wp2_with (refine wpList_load_row rfl 208 _ rfl _ rfl 208 _ (0,0) _ R1.out Tryz.underlying208 rfl (by kernel_rfl) ?_)
 refine Hrun.out.mono ?_
 rintro e w1 ⟨B1,m1,d1,E,ne,ce,r,ok,rfl,hrn,hcel,heff,hm1,hne,hci,hei,hb1⟩
 have sW:=SW.out
 have s1:=hb1.size
 have R01:=Lib.hid ((hb1.block w.heap.size (by omega)).trans R0.out)
 have R21:=Lib.hid ((hb1.block (w.heap.size+2) (by omega)).trans R2.out)
 have q1:w1.cell? ⟨w.heap.size,0,none⟩=some (.slice A1 n1 c1):=aA R01.out 0 _ rfl
 have f1:w1.frozen? ⟨w.heap.size,0,none⟩=false:=frozen_of_row _ _ _ _ _ R01.out
 obtain ⟨W3,hW3⟩:∃W3,W3=w1.setCell ⟨w.heap.size,0,none⟩ (.slice B1 m1 d1):=⟨_,rfl⟩
 have g3:w1.grownBy W3 (some w.heap.size):=by rw [hW3];exact aO (bC _ _)
 have R03:=Lib.hid (show W3.heap[w.heap.size]? =some (.cells #[.slice B1 m1 d1,.slice A2 n2 c2,.slice A3 n3 c3,.slice A4 n4 c4] 51 (0,0)) by rw [hW3];exact heap_setCell_same _ _ _ _ _ _ R01.out)
 have R23:=Lib.hid ((g3.block (w.heap.size+2) (by omega) (by simp)).trans R21.out)
 have s3:=g3.size
 have hM3:StM (·<w.heap.size) W3 s A1 n1 c1 A2 n2 c2 A3 n3 c3 A4 n4 c4:=by
  have k:Keep (·<w.heap.size) W W3:=fun q hq h=>(g3.block q (by omega) (by have h2:q<w.heap.size:=h;simp;omega)).trans (hb1.block q hq)
  exact ⟨hMW.1.keep k,hMW.2.keep k,hMW.3.keep k,hMW.4.keep k⟩
 have hcel3:=(hcel.mono (S' :=fun b=>W.heap.size≤b) (fun b _ h=>h)).keep (w' :=W3) (fun q hq h=>g3.block q hq (by have h2:W.heap.size≤q:=h;simp;omega))
 have heff3:=heff.keep (w' :=W3) (fun q hq h=>g3.block q hq (by have h2:W.heap.size≤q:=h;simp;omega))
 have HB3:=Lib.hid (show Below w.heap.size w W3 from ((bW.trans (hb1.mono (by omega))).trans ((Below.refl w.heap.size w1).grown g3 (by omega) (fun k hk=>by cases hk;exact Nat.le_refl _))))
 go_upto_region 3 with fail
 rw [←hW3]
 clear hW3 q0 q1 f1 g3 hcel heff
 try simp only [Act.put]
 go_wp2_with fail
 refine aM ((fun w' =>w'.heap[w.heap.size]? =some (.cells #[.slice B1 m1 d1,.slice A2 n2 c2,.slice A3 n3 c3,.slice A4 n4 c4] 51 (0,0)))) (by kernel_rfl) (by kernel_rfl) (R03.out) ?_
 refine TkA ?_
 refine aE (⟨w.heap.size,2,none⟩) (.slice A3 n3 c3) rfl rfl rfl (fun w' hw' =>aG (oO _) (aA hw' 2 _ rfl)) ?_
 refine TkI ?_
 refine TkA ?_
 refine aL rfl ?_
 go_wp2_with (refine aV (o:=⟨some 29,_,_,_,_,_⟩) eF jW (.agg #[.int .i64 0,.int .i64 0,.int .i64 0,.int .i64 0]) 32 _ _ 48 127 W3.heap.size ([]:List Snd) s.sent A3 n3 c3 (.slice none 0 0) n3 rfl rfl Tryz.underlying48 xO rfl (by omega) rfl rfl (OwnR.nil_ _ _ _) (hM3.3.ext (Below.refl _ W3).drew) (by simp) (by simp;omega) (by simp;omega) (Nat.le_refl _) ?_;intro A5 c5 w5 hO5 hgr5 hat5 hc51 hc52)
 rw [List.nil_append] at hO5
 have z5:Below W3.heap.size W3 w5:=(Below.refl _ W3).drew.trans ((Below.refl W3.heap.size W3.drew).grown hgr5 (Nat.le_refl _) (fun k hk=>by cases hk))
 have R05:=Lib.hid ((z5.block w.heap.size (by omega)).trans R03.out)
 go_wp2_with fail
 refine aI (R05.out) ?_
 refine TkA ?_
 refine aE (⟨w.heap.size,3,none⟩) (.slice A4 n4 c4) rfl rfl rfl (fun w' hw' =>aG (oP _) (aA hw' 3 _ rfl)) ?_
 refine TkI ?_
 refine TkA ?_
 refine aL rfl ?_
 have s5:=z5.size
 go_wp2_with (refine aV (o:=⟨some 32,_,_,_,_,_⟩) eG jX (.agg #[.int .i64 0,.int .i64 0]) 16 _ _ 49 129 W3.heap.size ([]:List Ou) s.outs A4 n4 c4 (.slice none 0 0) n4 rfl rfl Tryz.underlying49 xP rfl (by omega) rfl rfl (OwnR.nil_ _ _ _) (hM3.4.ext z5) (by simp) (by simp;omega) (by simp;omega) (by omega) ?_;intro A6 c6 w6 hO6 hgr6 hat6 hc61 hc62)
 rw [List.nil_append] at hO6
 have z6:Below W3.heap.size W3 w6:=z5.trans ((Below.refl W3.heap.size w5).grown hgr6 (by omega) (fun k hk=>by cases hk))
 have R06:=Lib.hid ((z6.block w.heap.size (by omega)).trans R03.out)
 go_wp2_with fail
 refine aI (R06.out) ?_
 refine TkA ?_
 refine aZ ?_
 go_wp2_with fail
 have hdis:∀o,(Value.slice A5 n3 c5).ownBlock=some o→(Value.slice A6 n4 c6).ownBlock≠some o:=fun o ho e=>by
  have h1:=(World.ownsRow.lt hO5 o ho).2
  rcases hat6 with h|h
  ·rw [h] at e;cases e
  ·rw [h] at e;cases e;exact Nat.lt_irrefl _ h1
 have hO5' :OwnR dK 4 w6 W3.heap.size 127 (.slice A5 n3 c5) (s.sent++gH idx 0 (r.l.take 0)):=by
  rw [List.take_zero]
  show OwnR dK 4 w6 W3.heap.size 127 (.slice A5 n3 c5) (s.sent++ [])
  rw [List.append_nil]
  exact hO5.kept hgr6 (by
   rcases Option.eq_none_or_eq_some (Value.slice A5 n3 c5).ownBlock with h0|⟨b,h0⟩
   ·exact .inl h0
   ·exact .inr (fun e=>by rw [h0] at e;cases e))
 have hO6' :OwnR dM 2 w6 W3.heap.size 129 (.slice A6 n4 c6) (s.outs++fE idx (r.l.take 0)):=by
  rw [List.take_zero]
  show OwnR dM 2 w6 W3.heap.size 129 (.slice A6 n4 c6) (s.outs++ [])
  rw [List.append_nil]
  exact hO6
 have hs6:=z6.size
 have HE:=Lib.hid heff3.len.1
 have hce:=heff3.len.2
 have HEI:=Lib.hid hei
 have HM3:=Lib.hid hM3
 have HC3:=Lib.hid hcel3
 clear hO5 hO6 hgr5 hgr6 hat5 hat6 z5 hei hM3 hcel3 R05 R06
 go_wp2_with fail
 go_loopw [12,13,14,15] (fun sv ov o i wr=>∃(k:Nat) (A5:Option Addr) (n5 c5:Nat) (A6:Option Addr) (n6 c6:Nat),sv= .slice A5 n5 c5∧ov= .slice A6 n6 c6∧o= .int .i64 ((fO (r.l.take k):Nat):Int)∧i= .int .i64 (k:Int)∧k≤ne∧n5≤100000+k∧n6≤100000+k∧OwnR dK 4 wr W3.heap.size 127 (.slice A5 n5 c5) (s.sent++gH idx 0 (r.l.take k))∧OwnR dM 2 wr W3.heap.size 129 (.slice A6 n6 c6) (s.outs++fE idx (r.l.take k))∧(∀o,(Value.slice A5 n5 c5).ownBlock=some o→(Value.slice A6 n6 c6).ownBlock≠some o)∧Below W3.heap.size W3 wr) (fun _ _ _ i _=>ne-(intOf i).toNat)
 case atStart=>exact ⟨0,A5,n3,c5,A6,n4,c6,rfl,rfl,by simp [fO],rfl,by omega,by omega,by omega,hO5',hO6',hdis,z6⟩
 case round=>
  clear hO5' hO6' hdis z6
  obtain ⟨k,A5,n5,c5,A6,n6,c6,rfl,rfl,rfl,rfl,hk,hn5,hn6,hO5,hO6,hdis,hz⟩:=hrel
  have hsz:=hz.size
  have H5:=Lib.hid hO5.len.1
  have H6:=Lib.hid hO6.len.1
  by_cases hlt:k<ne
  ·obtain ⟨be,oe,x,rfl,hSe,hbe,hx,hcx⟩:=(heff3.ext hz).at_ oM (j:=k) (by have:=HE.out;omega) (by omega)
   have hbe3:be<W3.heap.size:=by
    obtain ⟨bq,oq,xq,hA,_,hb,_⟩:=heff3.at_ oM (j:=k) (by have:=HE.out;omega) (by omega)
    cases hA
    exact hb
   have HX:=Lib.hid hx
   have hkd:=(HEI.out x (List.mem_of_getElem? hx)).1
   have e0:wr.cell? ⟨be,oe+k*3,none⟩=some (.int .i64 x.kind):=hcx 0 _ rfl
   have e1:wr.cell? ⟨be,oe+k*3+1,none⟩=some (.int .i64 x.to):=hcx 1 _ rfl
   have e2:wr.cell? ⟨be,oe+k*3+2,none⟩=some (.int .i64 x.value):=hcx 2 _ rfl
   have htk:r.l.take (k+1)=r.l.take k++ [x]:=by rw [List.take_add_one,hx];rfl
   have HTK:=Lib.hid htk
   have hcl:=sF (r.l.take k)
   rw [List.length_take] at hcl
   obtain ⟨q,hq⟩:∃q,q=fO (r.l.take k):=⟨_,rfl⟩
   rw [←hq] at hcl ⊢
   have HQ:=Lib.hid hq
   have hqk:q≤k:=by omega
   clear hx hcx htk hq hcl
   by_cases hk1:x.kind=1
   ·have d1:(x.kind==1)=true:=by simpa using hk1
    have HK1:=Lib.hid hk1
    clear hk1 hkd
    go_upto_region 9 with fail
    have v1:W3.cell? ⟨be,oe+k*3+1,none⟩=some (.int .i64 x.to):=(hz.cell (p:=⟨be,oe+k*3+1,none⟩) hbe3).symm.trans e1
    have v2:W3.cell? ⟨be,oe+k*3+2,none⟩=some (.int .i64 x.value):=(hz.cell (p:=⟨be,oe+k*3+2,none⟩) hbe3).symm.trans e2
    have V1:=Lib.hid v1
    have V2:=Lib.hid v2
    have ha:Below wr.heap.size wr (wr.drew.alloc (.cells #[.int .i64 idx,.int .i64 (q:Int),.int .i64 x.to,.int .i64 x.value] 127)):=(Below.refl _ wr).drew.alloc (Nat.le_refl _) _
    have hone:Recs dK (fun _=>True) (wr.drew.alloc (.cells #[.int .i64 idx,.int .i64 (q:Int),.int .i64 x.to,.int .i64 x.value] 127)) (.slice (some ⟨wr.drew.heap.size,0,none⟩) 1 1) [⟨idx,(q:Int),x.to,x.value⟩]:=⟨_,1,rfl,by simp,by simp [maxLen],Cs.lit _ _ _ _ _ trivial rfl⟩
    have hasz:=ha.size
    have hza:Below W3.heap.size W3 (wr.drew.alloc (.cells #[.int .i64 idx,.int .i64 (q:Int),.int .i64 x.to,.int .i64 x.value] 127)):=hz.trans (ha.mono hsz)
    clear v1 v2 e0 e1 e2
    go_wp2_with fail
    refine aM ((fun w' =>Below W3.heap.size W3 w')) (by kernel_rfl) (by kernel_rfl) (hz.drew) ?_
    refine TkA ?_
    refine aE (⟨be,oe+k*3+1,none⟩) (.int .i64 x.to) rfl rfl rfl (fun w' hw' =>aG (aU _) ((hw'.cell (p:=⟨be,oe+k*3+1,none⟩) hbe3).trans V1.out)) ?_
    refine TkI ?_
    refine TkA ?_
    refine aE (⟨be,oe+k*3+2,none⟩) (.int .i64 x.value) rfl rfl rfl (fun w' hw' =>aG (aU _) ((hw'.cell (p:=⟨be,oe+k*3+2,none⟩) hbe3).trans V2.out)) ?_
    refine TkI ?_
    refine TkA ?_
    refine aL rfl ?_
    go_wp2_with fail
    refine aI hz.drew ?_
    refine TkA ?_
    refine aL rfl ?_
    go_wp2_with fail
    refine aI hza ?_
    refine TkA ?_
    refine aL rfl ?_
    go_wp2_with (refine aV (o:=⟨some 60,_,_,_,_,_⟩) eF jW (.agg #[.int .i64 0,.int .i64 0,.int .i64 0,.int .i64 0]) 32 _ _ 48 127 W3.heap.size (s.sent++gH idx 0 (r.l.take k)) [⟨idx,(q:Int),x.to,x.value⟩] (some ⟨wr.drew.heap.size,0,none⟩) 1 1 (.slice A5 n5 c5) (n5+1) rfl rfl Tryz.underlying48 xO rfl (by omega) rfl rfl (hO5.ext ha) hone (by rw [H5.out]) (by rw [H5.out];omega) (by rw [H5.out];omega) (Nat.le_trans hsz hasz) ?_;intro A9 c9 w9 hO9 hgr9 hat9 hc91 hc92)
    have hO6a:=hO6.ext ha
    have hO69:=hO6a.kept hgr9 (by
     rcases Option.eq_none_or_eq_some (Value.slice A6 n6 c6).ownBlock with h0|⟨b,h0⟩
     ·exact .inl h0
     ·exact .inr (fun e=>hdis b (by rw [←e,h0]) h0))
    have hdis9:∀o,(Value.slice A9 (n5+1) c9).ownBlock=some o→(Value.slice A6 n6 c6).ownBlock≠some o:=fun o ho e=>by
     rcases hat9 with h|h
     ·rw [h] at ho;exact hdis o ho e
     ·rw [h] at ho;cases ho;exact Nat.lt_irrefl _ (World.ownsRow.lt hO6a _ e).2
    have hz9:Below W3.heap.size W3 w9:=hza.grown hgr9 (Nat.le_trans hsz hasz) (fun b hb=>(World.ownsRow.lt hO5 b hb).1)
    refine aI hz9 ?_
    refine TkA ?_
    refine aZ ?_
    go_wp2
    go_roundw
    case rel=>
     refine ⟨k+1,A9,n5+1,c9,A6,n6,c6,rfl,rfl,?_,by go_num,by omega,by omega,by omega,?_,?_,hdis9,hz9⟩
     ·rw [HTK.out,lY,if_pos HK1.out,←HQ.out]
      rfl
     ·rw [HTK.out,lL,if_pos HK1.out,←List.append_assoc,←HQ.out,Nat.zero_add]
      exact hO9
     ·rw [HTK.out,kG,if_pos HK1.out,List.append_nil]
      exact hO69
    case measure=>simp [intOf];omega
   ·have d1:(x.kind==1)=false:=by simpa using hk1
    have HK1:=Lib.hid hk1
    clear hk1 hkd
    have ha:Below wr.heap.size wr (wr.alloc (.cells #[.int .i64 idx,.int .i64 x.value] 129)):=(Below.refl _ wr).alloc (Nat.le_refl _) _
    have hone:Recs dM (fun _=>True) (wr.alloc (.cells #[.int .i64 idx,.int .i64 x.value] 129)) (.slice (some ⟨wr.heap.size,0,none⟩) 1 1) [⟨idx,x.value⟩]:=⟨_,1,rfl,by simp,by simp [maxLen],Cs.lit _ _ _ _ _ trivial rfl⟩
    have hasz:=ha.size
    go_upto_region 11 with fail
    go_wp2_with (refine aV (o:=⟨some 72,_,_,_,_,_⟩) eG jX (.agg #[.int .i64 0,.int .i64 0]) 16 _ _ 49 129 W3.heap.size (s.outs++fE idx (r.l.take k)) [⟨idx,x.value⟩] (some ⟨wr.heap.size,0,none⟩) 1 1 (.slice A6 n6 c6) (n6+1) rfl rfl Tryz.underlying49 xP rfl (by omega) rfl rfl (hO6.ext ha) hone (by rw [H6.out]) (by rw [H6.out];omega) (by rw [H6.out];omega) (by omega) ?_;intro A9 c9 w9 hO9 hgr9 hat9 hc91 hc92)
    have hO5a:=hO5.ext ha
    have hO59:=hO5a.kept hgr9 (by
     rcases Option.eq_none_or_eq_some (Value.slice A5 n5 c5).ownBlock with h0|⟨b,h0⟩
     ·exact .inl h0
     ·exact .inr (fun e=>hdis b h0 (by rw [←e,h0])))
    have hdis9:∀o,(Value.slice A5 n5 c5).ownBlock=some o→(Value.slice A9 (n6+1) c9).ownBlock≠some o:=fun o ho e=>by
     rcases hat9 with h|h
     ·rw [h] at e;exact hdis o ho e
     ·rw [h] at e;cases e;exact Nat.lt_irrefl _ (World.ownsRow.lt hO5a _ ho).2
    have hz9:Below W3.heap.size W3 w9:=(hz.trans (ha.mono hsz)).grown hgr9 (Nat.le_trans hsz hasz) (fun b hb=>(World.ownsRow.lt hO6 b hb).1)
    go_roundw
    case rel=>
     refine ⟨k+1,A5,n5,c5,A9,n6+1,c9,rfl,rfl,?_,by go_num,by omega,by omega,by omega,?_,?_,hdis9,hz9⟩
     ·rw [HTK.out,lY,if_neg HK1.out,HQ.out]
      rfl
     ·rw [HTK.out,lL,if_neg HK1.out,List.append_nil]
      exact hO59
     ·rw [HTK.out,kG,if_neg HK1.out,←List.append_assoc]
      exact hO9
    case measure=>simp [intOf];omega
  ·obtain rfl:k=ne:=by omega
   have htk:r.l.take k=r.l:=List.take_of_length_le (by have:=HE.out;omega)
   rw [htk] at hO5 hO6 ⊢
   clear htk
   have R0r:=Lib.hid ((hz.block w.heap.size (by omega)).trans R03.out)
   have R2r:=Lib.hid ((hz.block (w.heap.size+2) (by omega)).trans R23.out)
   have q2:wr.cell? ⟨w.heap.size,2,none⟩=some (.slice A3 n3 c3):=aA R0r.out 2 _ rfl
   have g2:wr.frozen? ⟨w.heap.size,2,none⟩=false:=frozen_of_row _ _ _ _ _ R0r.out
   have q3:wr.cell? ⟨w.heap.size,3,none⟩=some (.slice A4 n4 c4):=aA R0r.out 3 _ rfl
   have g3:wr.frozen? ⟨w.heap.size,3,none⟩=false:=frozen_of_row _ _ _ _ _ R0r.out
   obtain ⟨W5,hW5⟩:∃W5,W5=(wr.setCell ⟨w.heap.size,2,none⟩ (.slice A5 n5 c5)).setCell ⟨w.heap.size,3,none⟩ (.slice A6 n6 c6):=⟨_,rfl⟩
   have k5:wr.grownBy W5 (some w.heap.size):=by rw [hW5];exact aO (aO (bC _ _))
   have R05:=Lib.hid (show W5.heap[w.heap.size]? =some (.cells #[.slice B1 m1 d1,.slice A2 n2 c2,.slice A5 n5 c5,.slice A6 n6 c6] 51 (0,0)) by rw [hW5];exact heap_setCell_same _ _ _ _ _ _ (heap_setCell_same _ _ _ _ _ _ R0r.out))
   have R25:=Lib.hid ((k5.block (w.heap.size+2) (by omega) (by simp)).trans R2r.out)
   have s5' :=k5.size
   go_upto_region 13 with fail
   rw [←hW5]
   clear hW5 q2 g2 q3 g3
   try simp only [Act.put]
   go_wp2_with (first|(refine wpList_load_row rfl 51 _ rfl _ rfl 51 _ (0,0) _ R05.out Tryz.underlying51 rfl (by kernel_rfl) ?_)|(refine aC rfl 51 _ _ rfl (w.heap.size+2) 51 _ _ rfl rfl R25.out (by kernel_rfl) rfl (by simp [Value.oneCell']) ?_))
   refine bodyPost_ret (bH rfl rfl (aB (setRow_heap _ _ _ _ _ _ R25.out) Tryz.underlying51 rfl (by kernel_rfl))) rfl ?_
   have k6:=aJ W5 (w.heap.size+2) #[.slice B1 m1 d1,.slice A2 n2 c2,.slice A5 n5 c5,.slice A6 n6 c6]
   have kk:∀(b:Nat),b<wr.heap.size→b≠w.heap.size→b≠w.heap.size+2→(W5.setRow (w.heap.size+2) #[.slice B1 m1 d1,.slice A2 n2 c2,.slice A5 n5 c5,.slice A6 n6 c6]).heap[b]? =wr.heap[b]? :=fun b hb h1 h2=>(k6.block b (by omega) (by simp;omega)).trans (k5.block b hb (by simp;omega))
   have hbf:Below w.heap.size w (W5.setRow (w.heap.size+2) #[.slice B1 m1 d1,.slice A2 n2 c2,.slice A5 n5 c5,.slice A6 n6 c6]):=((HB3.out.trans (hz.mono (by omega))).grown k5 (by omega) (fun b hb=>by cases hb;exact Nat.le_refl _)).grown k6 (by omega) (fun b hb=>by cases hb;omega)
   have hle:=sF r.l
   have hol:=nV idx r.l
   have hel:=HE.out
   refine ⟨⟨r.cells,s.evs,s.sent++gH idx 0 r.l,s.outs++fE idx r.l⟩,B1,m1,d1,A2,n2,c2,A5,n5,c5,A6,n6,c6,rfl,⟨r,ok,hrn,rfl⟩,⟨?_,?_,?_,?_⟩,hci,?_,?_,hbf⟩
   ·exact ((HC3.out.ext hz).keep (fun b hb h=>by have h2:W.heap.size≤b:=h;exact kk b hb (by omega) (by omega))).mono (fun b _ h=>by have h2:W.heap.size≤b:=h;omega)
   ·exact hM.2.ext hbf
   ·exact (hO5.recs.keep (fun b hb h=>kk b hb (by have:=h.1;omega) (by have:=h.1;omega))).mono (fun b _ h=>by have:=h.1;omega)
   ·exact (hO6.recs.keep (fun b hb h=>kk b hb (by have:=h.1;omega) (by have:=h.1;omega))).mono (fun b _ h=>by have:=h.1;omega)
   ·show (s.sent++gH idx 0 r.l).length≤s.sent.length+8
    rw [List.length_append,mT]
    omega
   ·show (s.outs++fE idx r.l).length≤s.outs.length+8
    rw [List.length_append]
    omega
end Go.Proofs.YtiblijmngokcgaaGreatDoor
