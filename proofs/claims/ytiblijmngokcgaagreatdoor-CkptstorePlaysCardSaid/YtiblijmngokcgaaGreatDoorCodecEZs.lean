import Derived.Test.YtiblijmngokcgaaGreatDoorCodecDZs
set_option linter.unusedVariables false
set_option maxHeartbeats 4000000
set_option maxRecDepth 100000
namespace Go.Proofs.YtiblijmngokcgaaGreatDoor
open Go.Proofs.Tryz
open Go.RowKit
theorem BX (A1 A2:Option Addr) (n c1 c2:Nat) (l:List Int) (S1 S2:Nat->Prop) (w:World) (h1:a7 bB S1 w (.slice A1 n c1) l) (h2:a7 bB S2 w (.slice A2 n c2) l):
 Calls Tryz.prog 65 #[.slice A1 n c1,.slice A2 n c2] w λe w' =>e= .returned (.bool true)/\Below w.heap.size w w' :=by
 have dv:=h1.len;go_enter func65,ntmps65;go_wp2;go_loopw [5] (λa wr=>∃k:Nat,a= .int .i64 k/\k<=n/\Below w.heap.size w wr) (λa _=>n-(intOf a).toNat);case atStart=>exact ⟨0,rfl,by omega,Below.refl _ _⟩
 case round=>
  obtain ⟨k,rfl,hk,ag⟩:=hrel;by_cases af:k<n
  ·obtain ⟨b1,o1,x1,rfl,_,al,ev,ej⟩:=(h1.ext ag).at_ cD (j:=k) (by omega) (by omega);obtain ⟨b2,o2,x2,rfl,_,ar,ew,ed⟩:=(h2.ext ag).at_ cD (j:=k) (by omega) (by omega);obtain rfl:x1=x2:=by rw [ev] at ew;cases ew;rfl
   have p0:wr.cell? ⟨b1,o1+k,none⟩=some (.int .i64 x1):=by have:=ej 0 _ rfl;rw [Nat.mul_one] at this;exact this
   have q0:wr.cell? ⟨b2,o2+k,none⟩=some (.int .i64 x1):=by have:=ed 0 _ rfl;rw [Nat.mul_one] at this;exact this
   clear ev ew ej ed;exact Tzbi
  ·obtain rfl:k=n:=by omega
   go_wp2;go_ret;exact ⟨rfl,ag⟩
theorem yI (A1 A2:Option Addr) (n c1 c2:Nat) (l:List Ev) (S1 S2:Nat->Prop) (w:World) (h1:a7 cH S1 w (.slice A1 n c1) l) (h2:a7 cH S2 w (.slice A2 n c2) l):
 Calls Tryz.prog 77 #[.slice A1 n c1,.slice A2 n c2] w λe w' =>e= .returned (.bool true)/\Below w.heap.size w w' :=by
 have dv:=h1.len;go_enter func77,ntmps77;go_wp2;go_loopw [5] (λa wr=>∃k:Nat,a= .int .i64 k/\k<=n/\Below w.heap.size w wr) (λa _=>n-(intOf a).toNat);case atStart=>exact ⟨0,rfl,by omega,Below.refl _ _⟩
 case round=>
  obtain ⟨k,rfl,hk,ag⟩:=hrel;by_cases af:k<n
  ·obtain ⟨b1,o1,x1,rfl,_,al,ev,ej⟩:=(h1.ext ag).at_ cN (j:=k) (by omega) (by omega);obtain ⟨b2,o2,x2,rfl,_,ar,ew,ed⟩:=(h2.ext ag).at_ cN (j:=k) (by omega) (by omega);obtain rfl:x1=x2:=by rw [ev] at ew;cases ew;rfl
   have p0:wr.cell? ⟨b1,o1+k*7,none⟩=some (.int .i64 x1.k0):=ej 0 _ rfl
   have q0:wr.cell? ⟨b2,o2+k*7,none⟩=some (.int .i64 x1.k0):=ed 0 _ rfl
   have p1:wr.cell? ⟨b1,o1+k*7+1,none⟩=some (.int .i64 x1.k1):=ej 1 _ rfl
   have q1:wr.cell? ⟨b2,o2+k*7+1,none⟩=some (.int .i64 x1.k1):=ed 1 _ rfl
   have p2:wr.cell? ⟨b1,o1+k*7+2,none⟩=some (.int .i64 x1.k2):=ej 2 _ rfl
   have q2:wr.cell? ⟨b2,o2+k*7+2,none⟩=some (.int .i64 x1.k2):=ed 2 _ rfl
   have p3:wr.cell? ⟨b1,o1+k*7+3,none⟩=some (.int .i64 x1.k3):=ej 3 _ rfl
   have q3:wr.cell? ⟨b2,o2+k*7+3,none⟩=some (.int .i64 x1.k3):=ed 3 _ rfl
   have p4:wr.cell? ⟨b1,o1+k*7+4,none⟩=some (.int .i64 x1.k4):=ej 4 _ rfl
   have q4:wr.cell? ⟨b2,o2+k*7+4,none⟩=some (.int .i64 x1.k4):=ed 4 _ rfl
   have p5:wr.cell? ⟨b1,o1+k*7+5,none⟩=some (.int .i64 x1.k5):=ej 5 _ rfl
   have q5:wr.cell? ⟨b2,o2+k*7+5,none⟩=some (.int .i64 x1.k5):=ed 5 _ rfl
   have p6:wr.cell? ⟨b1,o1+k*7+6,none⟩=some (.int .i64 x1.k6):=ej 6 _ rfl
   have q6:wr.cell? ⟨b2,o2+k*7+6,none⟩=some (.int .i64 x1.k6):=ed 6 _ rfl
   clear ev ew ej ed;exact Tzbi
  ·obtain rfl:k=n:=by omega
   go_wp2;go_ret;exact ⟨rfl,ag⟩
theorem zN (A1 A2:Option Addr) (n c1 c2:Nat) (l:List n7) (S1 S2:Nat->Prop) (w:World) (h1:a7 cW S1 w (.slice A1 n c1) l) (h2:a7 cW S2 w (.slice A2 n c2) l):
 Calls Tryz.prog 78 #[.slice A1 n c1,.slice A2 n c2] w λe w' =>e= .returned (.bool true)/\Below w.heap.size w w' :=by
 have dv:=h1.len;go_enter func78,ntmps78;go_wp2;go_loopw [5] (λa wr=>∃k:Nat,a= .int .i64 k/\k<=n/\Below w.heap.size w wr) (λa _=>n-(intOf a).toNat);case atStart=>exact ⟨0,rfl,by omega,Below.refl _ _⟩
 case round=>
  obtain ⟨k,rfl,hk,ag⟩:=hrel;by_cases af:k<n
  ·obtain ⟨b1,o1,x1,rfl,_,al,ev,ej⟩:=(h1.ext ag).at_ cZ (j:=k) (by omega) (by omega);obtain ⟨b2,o2,x2,rfl,_,ar,ew,ed⟩:=(h2.ext ag).at_ cZ (j:=k) (by omega) (by omega);obtain rfl:x1=x2:=by rw [ev] at ew;cases ew;rfl
   have p0:wr.cell? ⟨b1,o1+k*4,none⟩=some (.int .i64 x1.a):=ej 0 _ rfl
   have q0:wr.cell? ⟨b2,o2+k*4,none⟩=some (.int .i64 x1.a):=ed 0 _ rfl
   have p1:wr.cell? ⟨b1,o1+k*4+1,none⟩=some (.int .i64 x1.b):=ej 1 _ rfl
   have q1:wr.cell? ⟨b2,o2+k*4+1,none⟩=some (.int .i64 x1.b):=ed 1 _ rfl
   have p2:wr.cell? ⟨b1,o1+k*4+2,none⟩=some (.int .i64 x1.c):=ej 2 _ rfl
   have q2:wr.cell? ⟨b2,o2+k*4+2,none⟩=some (.int .i64 x1.c):=ed 2 _ rfl
   have p3:wr.cell? ⟨b1,o1+k*4+3,none⟩=some (.int .i64 x1.d):=ej 3 _ rfl
   have q3:wr.cell? ⟨b2,o2+k*4+3,none⟩=some (.int .i64 x1.d):=ed 3 _ rfl
   clear ev ew ej ed;exact Tzbi
  ·obtain rfl:k=n:=by omega
   go_wp2;go_ret;exact ⟨rfl,ag⟩
theorem BW (A1 A2:Option Addr) (n c1 c2:Nat) (l:List Ou) (S1 S2:Nat->Prop) (w:World) (h1:a7 cX S1 w (.slice A1 n c1) l) (h2:a7 cX S2 w (.slice A2 n c2) l):
 Calls Tryz.prog 79 #[.slice A1 n c1,.slice A2 n c2] w λe w' =>e= .returned (.bool true)/\Below w.heap.size w w' :=by
 have dv:=h1.len;go_enter func79,ntmps79;go_wp2;go_loopw [5] (λa wr=>∃k:Nat,a= .int .i64 k/\k<=n/\Below w.heap.size w wr) (λa _=>n-(intOf a).toNat);case atStart=>exact ⟨0,rfl,by omega,Below.refl _ _⟩
 case round=>
  obtain ⟨k,rfl,hk,ag⟩:=hrel;by_cases af:k<n
  ·obtain ⟨b1,o1,x1,rfl,_,al,ev,ej⟩:=(h1.ext ag).at_ dA (j:=k) (by omega) (by omega);obtain ⟨b2,o2,x2,rfl,_,ar,ew,ed⟩:=(h2.ext ag).at_ dA (j:=k) (by omega) (by omega);obtain rfl:x1=x2:=by rw [ev] at ew;cases ew;rfl
   have p0:wr.cell? ⟨b1,o1+k*2,none⟩=some (.int .i64 x1.a):=ej 0 _ rfl
   have q0:wr.cell? ⟨b2,o2+k*2,none⟩=some (.int .i64 x1.a):=ed 0 _ rfl
   have p1:wr.cell? ⟨b1,o1+k*2+1,none⟩=some (.int .i64 x1.b):=ej 1 _ rfl
   have q1:wr.cell? ⟨b2,o2+k*2+1,none⟩=some (.int .i64 x1.b):=ed 1 _ rfl
   clear ev ew ej ed;exact Tzbi
  ·obtain rfl:k=n:=by omega
   go_wp2;go_ret;exact ⟨rfl,ag⟩
theorem zM (v1 v2:Value) (s:bj) (S1 S2:Nat->Prop) (w:World) (h1:StV S1 w v1 s) (h2:StV S2 w v2 s):
 Calls Tryz.prog 32 #[v1,v2] w λe w' =>e= .returned (.bool true)/\Below w.heap.size w w' :=by
 obtain ⟨A1,c1,A2,c2,A3,c3,A4,c4,rfl,a1,a2,a3,a4⟩:=h1;obtain ⟨B1,d1,B2,d2,B3,d3,B4,d4,rfl,b1,b2,b3,b4⟩:=h2;obtain ⟨W,hW,bW,fo,r1,r2⟩:∃W,W=(w.alloc (.cells #[.slice A1 s.cells.length c1,.slice A2 s.evs.length c2,.slice A3 s.sent.length c3,.slice A4 s.outs.length c4] 51)).alloc (.cells #[.slice B1 s.cells.length d1,.slice B2 s.evs.length d2,.slice B3 s.sent.length d3,.slice B4 s.outs.length d4] 51)/\Below w.heap.size w W/\W.heap.size=w.heap.size+2/\
  W.heap[w.heap.size]? =some (.cells #[.slice A1 s.cells.length c1,.slice A2 s.evs.length c2,.slice A3 s.sent.length c3,.slice A4 s.outs.length c4] 51 (0,0))/\W.heap[w.heap.size+1]? =some (.cells #[.slice B1 s.cells.length d1,.slice B2 s.evs.length d2,.slice B3 s.sent.length d3,.slice B4 s.outs.length d4] 51 (0,0)):=by
  refine ⟨_,rfl,((Below.refl _ w).alloc (Nat.le_refl _) _).alloc (by simp) _,by simp,?_,?_⟩
  ·exact Tzap
  ·have:=heap_alloc_new (w.alloc (.cells #[.slice A1 s.cells.length c1,.slice A2 s.evs.length c2,.slice A3 s.sent.length c3,.slice A4 s.outs.length c4] 51)) (.cells #[.slice B1 s.cells.length d1,.slice B2 s.evs.length d2,.slice B3 s.sent.length d3,.slice B4 s.outs.length d4] 51);rw [World.size_alloc] at this;exact this
 have HR:∀w',Below W.heap.size W w'->w'.heap[w.heap.size]? =some (.cells #[.slice A1 s.cells.length c1,.slice A2 s.evs.length c2,.slice A3 s.sent.length c3,.slice A4 s.outs.length c4] 51 (0,0))/\w'.heap[w.heap.size+1]? =some (.cells #[.slice B1 s.cells.length d1,.slice B2 s.evs.length d2,.slice B3 s.sent.length d3,.slice B4 s.outs.length d4] 51 (0,0)):=λw' hb=>⟨(hb.block _ (by omega)).trans r1,(hb.block _ (by omega)).trans r2⟩
 have Ax:=aA HR;have x0:=bn r1;have y0:=bn r2;clear HR r1 r2;go_enter func32,ntmps32;go_wp2_with fail;rw [<-hW];clear hW x0 y0;refine (BX _ _ _ _ _ _ _ _ W (a1.ext bW) (b1.ext bW)).mono ?_;rintro e w1 ⟨rfl,h1⟩;have x1:w1.cell? ⟨w.heap.size,1,none⟩=some (.slice A2 s.evs.length c2):=by rw [cell_of_row _ _ _ _ _ _ (Ax.out w1 h1).1];rfl
 have y1:w1.cell? ⟨w.heap.size+1,1,none⟩=some (.slice B2 s.evs.length d2):=by rw [cell_of_row _ _ _ _ _ _ (Ax.out w1 h1).2];rfl
 go_wp2_with fail;clear x1 y1;refine (yI _ _ _ _ _ _ _ _ w1 (a2.ext (Below.ext bW h1)) (b2.ext (Below.ext bW h1))).mono ?_;rintro e w2 ⟨rfl,g2⟩;have h2:=Below.ext h1 g2;have x2:w2.cell? ⟨w.heap.size,2,none⟩=some (.slice A3 s.sent.length c3):=by rw [cell_of_row _ _ _ _ _ _ (Ax.out w2 h2).1];rfl
 have y2:w2.cell? ⟨w.heap.size+1,2,none⟩=some (.slice B3 s.sent.length d3):=by rw [cell_of_row _ _ _ _ _ _ (Ax.out w2 h2).2];rfl
 go_wp2_with fail;clear x2 y2;refine (zN _ _ _ _ _ _ _ _ w2 (a3.ext (Below.ext bW h2)) (b3.ext (Below.ext bW h2))).mono ?_;rintro e w3 ⟨rfl,g3⟩;have h3:=Below.ext h2 g3;have x3:w3.cell? ⟨w.heap.size,3,none⟩=some (.slice A4 s.outs.length c4):=by rw [cell_of_row _ _ _ _ _ _ (Ax.out w3 h3).1];rfl
 have y3:w3.cell? ⟨w.heap.size+1,3,none⟩=some (.slice B4 s.outs.length d4):=by rw [cell_of_row _ _ _ _ _ _ (Ax.out w3 h3).2];rfl
 go_wp2_with fail;clear x3 y3;refine (BW _ _ _ _ _ _ _ _ w3 (a4.ext (Below.ext bW h3)) (b4.ext (Below.ext bW h3))).mono ?_;rintro e w4 ⟨rfl,g4⟩;have h4:=Below.ext h3 g4;go_wp2;go_ret;exact ⟨rfl,Below.ext bW h4⟩
end Go.Proofs.YtiblijmngokcgaaGreatDoor
