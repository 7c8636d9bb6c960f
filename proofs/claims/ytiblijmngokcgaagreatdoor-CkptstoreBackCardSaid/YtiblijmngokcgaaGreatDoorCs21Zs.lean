import Derived.Test.YtiblijmngokcgaaGreatDoorExtLCkptstoreTornZs
import Derived.Test.YtiblijmngokcgaaGreatDoorG42Zs
import Derived.Test.YtiblijmngokcgaaGreatDoorCs17Zs
import Derived.Test.YtiblijmngokcgaaGreatDoorCs20Zs
import Derived.Test.YtiblijmngokcgaaGreatDoorG22Zs
namespace Go.Proofs.YtiblijmngokcgaaGreatDoor
open Go.RowKit
set_option linter.unusedVariables false
theorem same06 (s:Stt) (A1:Option Addr) (An1 Ac1:Nat) (A2:Option Addr) (An2 Ac2:Nat) (A3:Option Addr) (An3 Ac3:Nat) (A4:Option Addr) (An4 Ac4:Nat) (B1:Option Addr) (Bn1 Bc1:Nat) (B2:Option Addr) (Bn2 Bc2:Nat) (B3:Option Addr) (Bn3 Bc3:Nat) (B4:Option Addr) (Bn4 Bc4:Nat) (S1 S2:Nat→Prop) (w:World) (h1:StM S1 w s A1 An1 Ac1 A2 An2 Ac2 A3 An3 Ac3 A4 An4 Ac4) (h2:StM S2 w s B1 Bn1 Bc1 B2 Bn2 Bc2 B3 Bn3 Bc3 B4 Bn4 Bc4):
 Calls Tryz.prog 32 #[.agg #[.slice A1 An1 Ac1,.slice A2 An2 Ac2,.slice A3 An3 Ac3,.slice A4 An4 Ac4],.agg #[.slice B1 Bn1 Bc1,.slice B2 Bn2 Bc2,.slice B3 Bn3 Bc3,.slice B4 Bn4 Bc4]] w fun e w' =>e= .returned (.bool true)∧Below w.heap.size w w' :=by
 obtain rfl:=h1.1.len.1
 obtain rfl:=h1.2.len.1
 obtain rfl:=h1.3.len.1
 obtain rfl:=h1.4.len.1
 obtain rfl:=h2.1.len.1
 obtain rfl:=h2.2.len.1
 obtain rfl:=h2.3.len.1
 obtain rfl:=h2.4.len.1
 exact KR _ _ s S1 S2 w ⟨A1,Ac1,A2,Ac2,A3,Ac3,A4,Ac4,rfl,h1.1,h1.2,h1.3,h1.4⟩ ⟨B1,Bc1,B2,Bc2,B3,Bc3,B4,Bc4,rfl,h2.1,h2.2,h2.3,h2.4⟩
theorem CdM.lo {S:Nat→Prop} {w:World} {c:Cd} {I1:Option Addr} {in1 ic1:Nat} {Q1:Option Addr} {k1 d1:Nat} {Q2:Option Addr} {k2 d2:Nat} {Q3:Option Addr} {k3 d3:Nat} {Q4:Option Addr} {k4 d4:Nat} (h:CdM S w c I1 in1 ic1 Q1 k1 d1 Q2 k2 d2 Q3 k3 d3 Q4 k4 d4):CdM (·<w.heap.size) w c I1 in1 ic1 Q1 k1 d1 Q2 k2 d2 Q3 k3 d3 Q4 k4 d4:=⟨h.1.mono (fun b h _=>h),tY h.2,tY h.3,tY h.4,tY h.5⟩
end Go.Proofs.YtiblijmngokcgaaGreatDoor
