import Derived.Test.YtiblijmngokcgaaGreatDoorMacZs
import Derived.Test.YtiblijmngokcgaaGreatDoorCodecCZs
namespace Go.Proofs.YtiblijmngokcgaaGreatDoor
open Go.RowKit
set_option maxRecDepth 100000
set_option linter.unusedVariables false
set_option linter.unusedSimpArgs false
theorem iK {α:Type} {l m:List α} {k:Nat} {x y:α} (h:l.take k=m.take k) (hx:l[k]? =some x) (hy:m[k]? =some y) (e:x=y):l.take (k+1)=m.take (k+1):=by
 rw [List.take_add_one,List.take_add_one,h,hx,hy,e]
theorem eE {α:Type} {l m:List α} {k:Nat} {x y:α} (hx:l[k]? =some x) (hy:m[k]? =some y) (e:x≠y):l≠m:=fun h=>e (by rw [h,hy] at hx;exact (Option.some.inj hx).symm)
set_option maxHeartbeats 2000000 in
theorem xV (A1 A2:Option Addr) (n1 c1 n2 c2:Nat) (l m:List Int) (S1 S2:Nat→Prop) (w:World) (h1:Recs bJ S1 w (.slice A1 n1 c1) l) (h2:Recs bJ S2 w (.slice A2 n2 c2) m):
 Calls Tryz.prog 93 #[.slice A1 n1 c1,.slice A2 n2 c2] w fun e w' =>e= .returned (.bool (decide (l=m)))∧Below w.heap.size w w' :=by
 have hl1:=h1.len
 have hl2:=h2.len
 have HL1:=Lib.hid hl1
 have HL2:=Lib.hid hl2
 by_cases hn:n1=n2
 case neg=>
  have dn:((n1:Int) != (n2:Int))=true:=by simp;omega
  have FIN:=Lib.hid (show decide (l=m)=false by simp;intro e;rw [e] at hl1;omega)
  clear hn hl1 hl2
  go_enter Tryz.func93,Tryz.ntmps93
  go_wp2
  go_ret
  rw [FIN.out]
  exact ⟨rfl,Below.refl _ _⟩
 subst hn
 have hb:=hl1.2
 clear hl1 hl2
 go_enter Tryz.func93,Tryz.ntmps93
 go_wp2
 go_loopw [13] (fun a wr=>∃k:Nat,a= .int .i64 k∧k≤n1∧RowKit.Hid (l.take k=m.take k)∧Below w.heap.size w wr) (fun a _=>n1-(intOf a).toNat)
 case atStart=>exact ⟨0,rfl,by omega,Lib.hid rfl,Below.refl _ _⟩
 case round=>
  obtain ⟨k,rfl,hk,HT,hbr⟩:=hrel
  by_cases hlt:k<n1
  ·obtain ⟨b1,o1,x1,rfl,_,hb1,hx1,hc1⟩:=(h1.ext hbr).at_ dH (j:=k) (by have:=HL1.out;omega) (by omega)
   obtain ⟨b2,o2,x2,rfl,_,hb2,hx2,hc2⟩:=(h2.ext hbr).at_ dH (j:=k) (by have:=HL2.out;omega) (by omega)
   have p0:wr.cell? ⟨b1,o1+k,none⟩=some (.int .i64 x1):=by have:=hc1 0 _ rfl;rw [Nat.mul_one] at this;exact this
   have q0:wr.cell? ⟨b2,o2+k,none⟩=some (.int .i64 x2):=by have:=hc2 0 _ rfl;rw [Nat.mul_one] at this;exact this
   have HX1:=Lib.hid hx1
   have HX2:=Lib.hid hx2
   clear hx1 hx2 hc1 hc2
   by_cases hx:x1=x2
   ·have dx:(x1 != x2)=false:=by simpa using hx
    have HS:=Lib.hid (iK HT.out HX1.out HX2.out hx)
    clear hx
    exact Tzba
   ·have dx:(x1 != x2)=true:=by simpa using hx
    have FIN:=Lib.hid (show decide (l=m)=false by simpa using eE HX1.out HX2.out hx)
    clear hx
    exact Tzaf
  ·exact Tza6
set_option maxHeartbeats 2000000 in
theorem xW (A1 A2:Option Addr) (n1 c1 n2 c2:Nat) (l m:List Ev) (S1 S2:Nat→Prop) (w:World) (h1:Recs cQ S1 w (.slice A1 n1 c1) l) (h2:Recs cQ S2 w (.slice A2 n2 c2) m):
 Calls Tryz.prog 94 #[.slice A1 n1 c1,.slice A2 n2 c2] w fun e w' =>e= .returned (.bool (decide (l=m)))∧Below w.heap.size w w' :=by
 have hl1:=h1.len
 have hl2:=h2.len
 have HL1:=Lib.hid hl1
 have HL2:=Lib.hid hl2
 by_cases hn:n1=n2
 case neg=>
  have dn:((n1:Int) != (n2:Int))=true:=by simp;omega
  have FIN:=Lib.hid (show decide (l=m)=false by simp;intro e;rw [e] at hl1;omega)
  clear hn hl1 hl2
  go_enter Tryz.func94,Tryz.ntmps94
  go_wp2
  go_ret
  rw [FIN.out]
  exact ⟨rfl,Below.refl _ _⟩
 subst hn
 have hb:=hl1.2
 clear hl1 hl2
 go_enter Tryz.func94,Tryz.ntmps94
 go_wp2
 go_loopw [13] (fun a wr=>∃k:Nat,a= .int .i64 k∧k≤n1∧RowKit.Hid (l.take k=m.take k)∧Below w.heap.size w wr) (fun a _=>n1-(intOf a).toNat)
 case atStart=>exact ⟨0,rfl,by omega,Lib.hid rfl,Below.refl _ _⟩
 case round=>
  obtain ⟨k,rfl,hk,HT,hbr⟩:=hrel
  by_cases hlt:k<n1
  ·obtain ⟨b1,o1,x1,rfl,_,hb1,hx1,hc1⟩:=(h1.ext hbr).at_ dS (j:=k) (by have:=HL1.out;omega) (by omega)
   obtain ⟨b2,o2,x2,rfl,_,hb2,hx2,hc2⟩:=(h2.ext hbr).at_ dS (j:=k) (by have:=HL2.out;omega) (by omega)
   obtain ⟨u0,u1,u2,u3,u4,u5,u6⟩:=x1
   obtain ⟨v0,v1,v2,v3,v4,v5,v6⟩:=x2
   have p0:wr.cell? ⟨b1,o1+k*7,none⟩=some (.int .i64 u0):=hc1 0 _ rfl
   have q0:wr.cell? ⟨b2,o2+k*7,none⟩=some (.int .i64 v0):=hc2 0 _ rfl
   have p1:wr.cell? ⟨b1,o1+k*7+1,none⟩=some (.int .i64 u1):=hc1 1 _ rfl
   have q1:wr.cell? ⟨b2,o2+k*7+1,none⟩=some (.int .i64 v1):=hc2 1 _ rfl
   have p2:wr.cell? ⟨b1,o1+k*7+2,none⟩=some (.int .i64 u2):=hc1 2 _ rfl
   have q2:wr.cell? ⟨b2,o2+k*7+2,none⟩=some (.int .i64 v2):=hc2 2 _ rfl
   have p3:wr.cell? ⟨b1,o1+k*7+3,none⟩=some (.int .i64 u3):=hc1 3 _ rfl
   have q3:wr.cell? ⟨b2,o2+k*7+3,none⟩=some (.int .i64 v3):=hc2 3 _ rfl
   have p4:wr.cell? ⟨b1,o1+k*7+4,none⟩=some (.int .i64 u4):=hc1 4 _ rfl
   have q4:wr.cell? ⟨b2,o2+k*7+4,none⟩=some (.int .i64 v4):=hc2 4 _ rfl
   have p5:wr.cell? ⟨b1,o1+k*7+5,none⟩=some (.int .i64 u5):=hc1 5 _ rfl
   have q5:wr.cell? ⟨b2,o2+k*7+5,none⟩=some (.int .i64 v5):=hc2 5 _ rfl
   have p6:wr.cell? ⟨b1,o1+k*7+6,none⟩=some (.int .i64 u6):=hc1 6 _ rfl
   have q6:wr.cell? ⟨b2,o2+k*7+6,none⟩=some (.int .i64 v6):=hc2 6 _ rfl
   have HX1:=Lib.hid hx1
   have HX2:=Lib.hid hx2
   clear hx1 hx2 hc1 hc2
   by_cases h0:u0=v0
   case neg=>
    exact Tzcd
   subst h0
   by_cases h1:u1=v1
   case neg=>
    exact Tzce
   subst h1
   by_cases h2:u2=v2
   case neg=>
    exact Tzc1
   subst h2
   by_cases h3:u3=v3
   case neg=>
    exact Tzc2
   subst h3
   by_cases h4:u4=v4
   case neg=>
    have d4:(u4==v4)=false:=by simpa using h4
    have FIN:=Lib.hid (show decide (l=m)=false by simpa using eE HX1.out HX2.out (fun e=>h4 (by cases e;rfl)))
    clear h4
    exact Tzaf
   subst h4
   by_cases h5:u5=v5
   case neg=>
    have d5:(u5==v5)=false:=by simpa using h5
    have FIN:=Lib.hid (show decide (l=m)=false by simpa using eE HX1.out HX2.out (fun e=>h5 (by cases e;rfl)))
    clear h5
    exact Tzaf
   subst h5
   by_cases h6:u6=v6
   case neg=>
    have d6:(u6==v6)=false:=by simpa using h6
    have FIN:=Lib.hid (show decide (l=m)=false by simpa using eE HX1.out HX2.out (fun e=>h6 (by cases e;rfl)))
    clear h6
    exact Tzaf
   subst h6
   have HS:=Lib.hid (iK HT.out HX1.out HX2.out rfl)
   exact Tzba
  ·exact Tza6
set_option maxHeartbeats 2000000 in
theorem xT (A1 A2:Option Addr) (n1 c1 n2 c2:Nat) (l m:List Snd) (S1 S2:Nat→Prop) (w:World) (h1:Recs dK S1 w (.slice A1 n1 c1) l) (h2:Recs dK S2 w (.slice A2 n2 c2) m):
 Calls Tryz.prog 95 #[.slice A1 n1 c1,.slice A2 n2 c2] w fun e w' =>e= .returned (.bool (decide (l=m)))∧Below w.heap.size w w' :=by
 have hl1:=h1.len
 have hl2:=h2.len
 have HL1:=Lib.hid hl1
 have HL2:=Lib.hid hl2
 by_cases hn:n1=n2
 case neg=>
  have dn:((n1:Int) != (n2:Int))=true:=by simp;omega
  have FIN:=Lib.hid (show decide (l=m)=false by simp;intro e;rw [e] at hl1;omega)
  clear hn hl1 hl2
  go_enter Tryz.func95,Tryz.ntmps95
  go_wp2
  go_ret
  rw [FIN.out]
  exact ⟨rfl,Below.refl _ _⟩
 subst hn
 have hb:=hl1.2
 clear hl1 hl2
 go_enter Tryz.func95,Tryz.ntmps95
 go_wp2
 go_loopw [13] (fun a wr=>∃k:Nat,a= .int .i64 k∧k≤n1∧RowKit.Hid (l.take k=m.take k)∧Below w.heap.size w wr) (fun a _=>n1-(intOf a).toNat)
 case atStart=>exact ⟨0,rfl,by omega,Lib.hid rfl,Below.refl _ _⟩
 case round=>
  obtain ⟨k,rfl,hk,HT,hbr⟩:=hrel
  by_cases hlt:k<n1
  ·obtain ⟨b1,o1,x1,rfl,_,hb1,hx1,hc1⟩:=(h1.ext hbr).at_ eF (j:=k) (by have:=HL1.out;omega) (by omega)
   obtain ⟨b2,o2,x2,rfl,_,hb2,hx2,hc2⟩:=(h2.ext hbr).at_ eF (j:=k) (by have:=HL2.out;omega) (by omega)
   obtain ⟨u0,u1,u2,u3⟩:=x1
   obtain ⟨v0,v1,v2,v3⟩:=x2
   have p0:wr.cell? ⟨b1,o1+k*4,none⟩=some (.int .i64 u0):=hc1 0 _ rfl
   have q0:wr.cell? ⟨b2,o2+k*4,none⟩=some (.int .i64 v0):=hc2 0 _ rfl
   have p1:wr.cell? ⟨b1,o1+k*4+1,none⟩=some (.int .i64 u1):=hc1 1 _ rfl
   have q1:wr.cell? ⟨b2,o2+k*4+1,none⟩=some (.int .i64 v1):=hc2 1 _ rfl
   have p2:wr.cell? ⟨b1,o1+k*4+2,none⟩=some (.int .i64 u2):=hc1 2 _ rfl
   have q2:wr.cell? ⟨b2,o2+k*4+2,none⟩=some (.int .i64 v2):=hc2 2 _ rfl
   have p3:wr.cell? ⟨b1,o1+k*4+3,none⟩=some (.int .i64 u3):=hc1 3 _ rfl
   have q3:wr.cell? ⟨b2,o2+k*4+3,none⟩=some (.int .i64 v3):=hc2 3 _ rfl
   have HX1:=Lib.hid hx1
   have HX2:=Lib.hid hx2
   clear hx1 hx2 hc1 hc2
   by_cases h0:u0=v0
   case neg=>
    exact Tzcd
   subst h0
   by_cases h1:u1=v1
   case neg=>
    exact Tzce
   subst h1
   by_cases h2:u2=v2
   case neg=>
    exact Tzc1
   subst h2
   by_cases h3:u3=v3
   case neg=>
    exact Tzc2
   subst h3
   have HS:=Lib.hid (iK HT.out HX1.out HX2.out rfl)
   exact Tzba
  ·exact Tza6
set_option maxHeartbeats 2000000 in
theorem xU (A1 A2:Option Addr) (n1 c1 n2 c2:Nat) (l m:List Ou) (S1 S2:Nat→Prop) (w:World) (h1:Recs dM S1 w (.slice A1 n1 c1) l) (h2:Recs dM S2 w (.slice A2 n2 c2) m):
 Calls Tryz.prog 96 #[.slice A1 n1 c1,.slice A2 n2 c2] w fun e w' =>e= .returned (.bool (decide (l=m)))∧Below w.heap.size w w' :=by
 have hl1:=h1.len
 have hl2:=h2.len
 have HL1:=Lib.hid hl1
 have HL2:=Lib.hid hl2
 by_cases hn:n1=n2
 case neg=>
  have dn:((n1:Int) != (n2:Int))=true:=by simp;omega
  have FIN:=Lib.hid (show decide (l=m)=false by simp;intro e;rw [e] at hl1;omega)
  clear hn hl1 hl2
  go_enter Tryz.func96,Tryz.ntmps96
  go_wp2
  go_ret
  rw [FIN.out]
  exact ⟨rfl,Below.refl _ _⟩
 subst hn
 have hb:=hl1.2
 clear hl1 hl2
 go_enter Tryz.func96,Tryz.ntmps96
 go_wp2
 go_loopw [13] (fun a wr=>∃k:Nat,a= .int .i64 k∧k≤n1∧RowKit.Hid (l.take k=m.take k)∧Below w.heap.size w wr) (fun a _=>n1-(intOf a).toNat)
 case atStart=>exact ⟨0,rfl,by omega,Lib.hid rfl,Below.refl _ _⟩
 case round=>
  obtain ⟨k,rfl,hk,HT,hbr⟩:=hrel
  by_cases hlt:k<n1
  ·obtain ⟨b1,o1,x1,rfl,_,hb1,hx1,hc1⟩:=(h1.ext hbr).at_ eG (j:=k) (by have:=HL1.out;omega) (by omega)
   obtain ⟨b2,o2,x2,rfl,_,hb2,hx2,hc2⟩:=(h2.ext hbr).at_ eG (j:=k) (by have:=HL2.out;omega) (by omega)
   obtain ⟨u0,u1⟩:=x1
   obtain ⟨v0,v1⟩:=x2
   have p0:wr.cell? ⟨b1,o1+k*2,none⟩=some (.int .i64 u0):=hc1 0 _ rfl
   have q0:wr.cell? ⟨b2,o2+k*2,none⟩=some (.int .i64 v0):=hc2 0 _ rfl
   have p1:wr.cell? ⟨b1,o1+k*2+1,none⟩=some (.int .i64 u1):=hc1 1 _ rfl
   have q1:wr.cell? ⟨b2,o2+k*2+1,none⟩=some (.int .i64 v1):=hc2 1 _ rfl
   have HX1:=Lib.hid hx1
   have HX2:=Lib.hid hx2
   clear hx1 hx2 hc1 hc2
   by_cases h0:u0=v0
   case neg=>
    exact Tzcd
   subst h0
   by_cases h1:u1=v1
   case neg=>
    exact Tzce
   subst h1
   have HS:=Lib.hid (iK HT.out HX1.out HX2.out rfl)
   exact Tzba
  ·exact Tza6
end Go.Proofs.YtiblijmngokcgaaGreatDoor
