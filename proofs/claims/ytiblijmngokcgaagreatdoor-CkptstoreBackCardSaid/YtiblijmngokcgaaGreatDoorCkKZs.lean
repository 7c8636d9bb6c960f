import Derived.Test.YtiblijmngokcgaaGreatDoorMacZs
import Derived.Test.YtiblijmngokcgaaGreatDoorCkJZs
import Derived.Test.YtiblijmngokcgaaGreatDoorG37Zs
import Derived.Test.YtiblijmngokcgaaGreatDoorRepZs
namespace Go.Proofs.YtiblijmngokcgaaGreatDoor
open Go.RowKit
set_option maxRecDepth 100000
set_option linter.unusedVariables false
set_option linter.unusedSimpArgs false
theorem qK (w:World):(isAgg 143).run Tryz.prog w= .ok false w:=by simp [isAgg,run_underlying Tryz.underlying143]
def vnm:Nat→UInt8
 |0=>120
 |1=>97
 |2=>121
 |3=>122
 |_=>98
def vsz (s:Int):Nat→Int
 |1=>s
 |4=>2
 |_=>0
def vin (i k:Int):Nat→Int
 |0=>i
 |3=>k
 |_=>0
theorem KH:∀i,i<5→∀j,j<i→(vnm j==vnm i)=false:=by decide
theorem lK {i s k:Int} {j:Nat} (hj:j<5):(eC i s k)[j*3]? =some (.string (ByteArray.mk #[vnm j]))∧(eC i s k)[j*3+1]? =some (.int .i64 (vsz s j))∧(eC i s k)[j*3+2]? =some (.int .i64 (vin i k j))∧((eC i s k).toList.drop (j*3)).take 3=[.string (ByteArray.mk #[vnm j]),.int .i64 (vsz s j),.int .i64 (vin i k j)]:=by
 have:j=0∨j=1∨j=2∨j=3∨j=4:=by omega
 rcases this with rfl|rfl|rfl|rfl|rfl<;>exact ⟨rfl,rfl,rfl,rfl⟩
theorem zW {s:Int} (h1:1≤s) (h5:s≤5) (j:Nat):0≤vsz s j∧vsz s j≤5:=by unfold vsz;split<;>omega
theorem KI {i k:Int} (h1: -2≤i) (h2:i≤4) (h3:0≤k) (h4:k≤2) (j:Nat):InR (vin i k j):=by unfold vin;split<;>exact ⟨by omega,by omega⟩
set_option maxHeartbeats 32000000 in
theorem wO (w:World) (p:Prg) (V:Nat) (A1:Option Addr) (m1 c1:Nat) (A2:Option Addr) (m2 c2:Nat) (A3:Option Addr) (m3 c3:Nat) (A4:Option Addr) (m4 c4:Nat) (hP:PrM w p V A1 m1 c1 A2 m2 c2 A3 m3 c3 A4 m4 c4) (hI:PrgIn p):
 Calls Tryz.prog 97 #[.agg #[.slice (some ⟨V,0,none⟩) 5 5,.slice A1 m1 c1,.slice A2 m2 c2,.slice A3 m3 c3,.slice A4 m4 c4]] w fun e w' =>∃(c:Cd) (I1:Option Addr) (in1 ic1:Nat) (B1:Option Addr) (k1 d1:Nat) (B2:Option Addr) (k2 d2:Nat) (B3:Option Addr) (k3 d3:Nat) (B4:Option Addr) (k4 d4:Nat),e= .returned (.tuple #[.agg #[.slice I1 in1 ic1,.slice B1 k1 d1,.slice B2 k2 d2,.slice B3 k3 d3,.slice B4 k4 d4],.int .i64 0])∧CdM (w.heap.size≤·) w' c I1 in1 ic1 B1 k1 d1 B2 k2 d2 B3 k3 d3 B4 k4 d4∧CdIn c∧5≤c.init.length∧Below w.heap.size w w' :=by
 obtain ⟨W,hW,hbW,SW,R0,R1⟩:∃W,W=(w.alloc (.cells #[.slice (some ⟨V,0,none⟩) 5 5,.slice A1 m1 c1,.slice A2 m2 c2,.slice A3 m3 c3,.slice A4 m4 c4] 145)).alloc (.cells #[.slice none 0 0,.slice none 0 0,.slice none 0 0,.slice none 0 0,.slice none 0 0] 29)∧Below w.heap.size w W∧RowKit.Hid (W.heap.size=w.heap.size+2)∧
  RowKit.Hid (W.heap[w.heap.size]? =some (.cells #[.slice (some ⟨V,0,none⟩) 5 5,.slice A1 m1 c1,.slice A2 m2 c2,.slice A3 m3 c3,.slice A4 m4 c4] 145 (0,0)))∧RowKit.Hid (W.heap[w.heap.size+1]? =some (.cells #[.slice none 0 0,.slice none 0 0,.slice none 0 0,.slice none 0 0,.slice none 0 0] 29 (0,0))):=by
  refine ⟨_,rfl,((Below.refl _ w).alloc (Nat.le_refl _) _).alloc (by simp) _,Lib.hid (by simp),Lib.hid ?_,Lib.hid ?_⟩
  ·exact Tzar
  ·have:=heap_alloc_new (w.alloc (.cells #[.slice (some ⟨V,0,none⟩) 5 5,.slice A1 m1 c1,.slice A2 m2 c2,.slice A3 m3 c3,.slice A4 m4 c4] 145)) (.cells #[.slice none 0 0,.slice none 0 0,.slice none 0 0,.slice none 0 0,.slice none 0 0] 29)
   rw [World.size_alloc] at this
   exact this
 have hlt:w.heap.size+1<W.heap.size:=by have:=SW.out;omega
 have HP:=Lib.hid (fun (w' :World) (h:Below W.heap.size W w')=>hP.ext (Below.ext hbW h))
 have HR:=Lib.hid (fun (w' :World) (h:Below W.heap.size W w')=>(h.block w.heap.size (by omega)).trans R0.out)
 have HR1:=Lib.hid (fun (w' :World) (h:Below W.heap.size W w')=>(h.block (w.heap.size+1) hlt).trans R1.out)
 have hCk:=Lib.hid (DD W p V A1 m1 c1 A2 m2 c2 A3 m3 c3 A4 m4 c4 (HP.out W (Below.refl _ _)) hI)
 have HI:=Lib.hid hI
 have hi1:=hI.i1
 have hi2:=hI.i2
 have hs1:=hI.s1
 have hs5:=hI.s2
 have hk1_:=hI.k1
 have hk2_:=hI.k2
 clear hP hI
 go_enter Tryz.func97,Tryz.ntmps97
 go_upto_region 1 with fail
 rw [←hW]
 clear hW
 go_wp2_with (refine aD (t:=145) (A:=⟨w.heap.size,0,none⟩) rfl rfl rfl (aB R0.out Tryz.underlying145 rfl (by kernel_rfl)) ?_)
 refine hCk.out.mono ?_
 rintro e w1 ⟨rfl,b1⟩
 have q0:w1.cell? ⟨w.heap.size,0,none⟩=some (.slice (some ⟨V,0,none⟩) 5 5):=aA (HR.out w1 b1) 0 _ rfl
 clear R0 R1
 go_wp2
 go_loopw [5] (fun a wr=>∃i:Nat,a= .int .i64 i∧i≤5∧Below W.heap.size W wr) (fun a _=>5-(intOf a).toNat)
 case atStart=>exact ⟨0,rfl,by omega,b1⟩
 case round=>
  clear q0 b1
  obtain ⟨i,rfl,hi,hb⟩:=hrel
  have qr:wr.cell? ⟨w.heap.size,0,none⟩=some (.slice (some ⟨V,0,none⟩) 5 5):=aA (HR.out wr hb) 0 _ rfl
  by_cases hl:i<5
  ·have hmeas:=Lib.hid hl
   go_wp2
   go_loopw [6] (fun a wr=>∃k:Nat,a= .int .i64 k∧k≤i∧Below W.heap.size W wr) (fun a _=>i-(intOf a).toNat)
   case atStart=>exact ⟨0,rfl,by omega,hb⟩
   case round=>
    clear qr hb
    obtain ⟨k,rfl,hk,hb⟩:=hrel
    by_cases hk2:k<i
    ·have hne:=Lib.hid (KH i (by omega) k hk2)
     have hcs:∀w',Below W.heap.size W w'→w'.cell? ⟨V,k*3,none⟩=some (.string (ByteArray.mk #[vnm k]))∧w'.cell? ⟨V,i*3,none⟩=some (.string (ByteArray.mk #[vnm i])):=fun w' h=>⟨by rw [cell_of_row _ _ _ _ _ _ (HP.out w' h).var];exact (lK (by omega)).1,by rw [cell_of_row _ _ _ _ _ _ (HP.out w' h).var];exact (lK (by omega)).1⟩
     have HCS:=Lib.hid hcs
     have hne2:=hne.out
     clear hcs hne
     go_upto_region 12 with fail
     go_wp2_with fail
     refine aM ((fun w' =>Below W.heap.size W w')) (by kernel_rfl) (by kernel_rfl) ((hb.drew)) ?_
     refine TkA ?_
     refine aE (⟨w.heap.size,0,none⟩) (.slice (some ⟨V,0,none⟩) 5 5) rfl rfl rfl (fun w' hw' =>aG (qK _) (aA (HR.out w' hw') 0 _ rfl)) ?_
     refine TkI ?_
     refine TkA ?_
     refine aE (⟨V,k*3,none⟩) (.string (ByteArray.mk #[vnm k])) rfl rfl rfl (fun w' hw' =>aG (fL _) (HCS.out w' hw').1) ?_
     refine TkI ?_
     refine TkA ?_
     refine aE (⟨w.heap.size,0,none⟩) (.slice (some ⟨V,0,none⟩) 5 5) rfl rfl rfl (fun w' hw' =>aG (qK _) (aA (HR.out w' hw') 0 _ rfl)) ?_
     refine TkI ?_
     refine TkA ?_
     refine aE (⟨V,i*3,none⟩) (.string (ByteArray.mk #[vnm i])) rfl rfl rfl (fun w' hw' =>aG (fL _) (HCS.out w' hw').2) ?_
     refine TkI ?_
     refine TkA ?_
     refine aZ ?_
     go_wp2_with fail
     go_wp2
     go_roundw
     case rel=>exact ⟨k+1,by go_num,by omega,hb.drew⟩
     case measure=>simp [intOf];omega
    ·obtain rfl:k=i:=by omega
     go_wp2
     exact ⟨⟨k+1,by go_num,by omega,hb⟩,by simp [intOf];omega⟩
  ·have di:decide ((i:Int)<5)=false:=by simp;omega
   go_wp2
   go_loopw [7,8] (fun n a wr=>∃(j:Nat) (z:Int),n= .int .i64 z∧a= .int .i64 j∧j≤5∧0≤z∧z≤5*(j:Int)∧Below W.heap.size W wr) (fun _ a _=>5-(intOf a).toNat)
   case atStart=>exact ⟨0,0,rfl,rfl,by omega,by omega,by omega,hb⟩
   case round=>
    clear qr hb
    obtain ⟨j,z,rfl,rfl,hj,hz0,hz5,hb⟩:=hrel
    have qr:wr.cell? ⟨w.heap.size,0,none⟩=some (.slice (some ⟨V,0,none⟩) 5 5):=aA (HR.out wr hb) 0 _ rfl
    by_cases hl2:j<5
    ·have hld:=Lib.hid (eT (o:=j*3) (nm:=ByteArray.mk #[vnm j]) (z:=vsz p.s j) (y:=vin p.i p.k j) (HP.out wr hb).var (lK hl2).2.2.2)
     have hvz:=zW hs1 hs5 j
     have Hce:=Lib.hid (dE (ByteArray.mk #[vnm j]) (vsz p.s j) (vin p.i p.k j) (by omega) (by omega) wr)
     go_upto_region 18 with fail
     go_wp2_with (refine aD (t:=199) (A:=⟨V,j*3,none⟩) rfl rfl rfl hld.out ?_)
     refine Hce.out.mono ?_
     rintro e w2 ⟨rfl,b2⟩
     obtain ⟨mz,hmz⟩:∃mz,mz=max (vsz p.s j) 1:=⟨_,rfl⟩
     have hm1:0≤mz∧mz≤5:=by omega
     rw [←hmz]
     clear hmz
     have d32:decide (32<z+mz)=false:=by simp;omega
     have hbb:=Below.ext hb b2
     go_wp2
     go_roundw
     case rel=>exact ⟨j+1,z+mz,rfl,by go_num,by omega,by omega,by omega,hbb⟩
     case measure=>simp [intOf];omega
    ·have dj:decide ((j:Int)<5)=false:=by simp;omega
     clear qr hz0 hz5
     have y0:=hb
     have q1:wr.cell? ⟨w.heap.size,1,none⟩=some (.slice A1 m1 c1):=aA (HR.out wr y0) 1 _ rfl
     have qv1:wr.cell? ⟨w.heap.size,0,none⟩=some (.slice (some ⟨V,0,none⟩) 5 5):=aA (HR.out wr y0) 0 _ rfl
     have h1:=Lib.hid (nH 3 A1 m1 c1 p.st wr V p.i p.s p.k hs1 hs5 (HP.out wr y0).var (HP.out wr y0).st (fun s hs=>NmS.of (HI.out.st s hs)))
     go_wp2_with fail
     refine h1.out.mono ?_
     rintro e x1 ⟨rfl,z1⟩
     have y1:=Below.ext y0 z1
     clear q1 qv1 h1
     have q2:x1.cell? ⟨w.heap.size,2,none⟩=some (.slice A2 m2 c2):=aA (HR.out x1 y1) 2 _ rfl
     have qv2:x1.cell? ⟨w.heap.size,0,none⟩=some (.slice (some ⟨V,0,none⟩) 5 5):=aA (HR.out x1 y1) 0 _ rfl
     have h2:=Lib.hid (nH 3 A2 m2 c2 p.me x1 V p.i p.s p.k hs1 hs5 (HP.out x1 y1).var (HP.out x1 y1).me (fun s hs=>NmS.of (HI.out.me s hs)))
     go_wp2_with fail
     refine h2.out.mono ?_
     rintro e x2 ⟨rfl,z2⟩
     have y2:=Below.ext y1 z2
     clear q2 qv2 h2
     have q3:x2.cell? ⟨w.heap.size,3,none⟩=some (.slice A3 m3 c3):=aA (HR.out x2 y2) 3 _ rfl
     have qv3:x2.cell? ⟨w.heap.size,0,none⟩=some (.slice (some ⟨V,0,none⟩) 5 5):=aA (HR.out x2 y2) 0 _ rfl
     have h3:=Lib.hid (nH 3 A3 m3 c3 p.ti x2 V p.i p.s p.k hs1 hs5 (HP.out x2 y2).var (HP.out x2 y2).ti (fun s hs=>NmS.of (HI.out.ti s hs)))
     go_wp2_with fail
     refine h3.out.mono ?_
     rintro e x3 ⟨rfl,z3⟩
     have y3:=Below.ext y2 z3
     clear q3 qv3 h3
     have q4:x3.cell? ⟨w.heap.size,4,none⟩=some (.slice A4 m4 c4):=aA (HR.out x3 y3) 4 _ rfl
     have qv4:x3.cell? ⟨w.heap.size,0,none⟩=some (.slice (some ⟨V,0,none⟩) 5 5):=aA (HR.out x3 y3) 0 _ rfl
     have h4:=Lib.hid (nH 3 A4 m4 c4 p.inp x3 V p.i p.s p.k hs1 hs5 (HP.out x3 y3).var (HP.out x3 y3).inp (fun s hs=>NmS.of (HI.out.inp s hs)))
     go_wp2_with fail
     refine h4.out.mono ?_
     rintro e x4 ⟨rfl,z4⟩
     have y4:=Below.ext y3 z4
     clear q4 qv4 h4
     obtain ⟨X1,hX1,_,kX1,SX1,RX1⟩:=bP x4 x4 #[.slice none 0 0,.slice none 0 0,.slice none 0 0,.slice none 0 0,.slice none 0 0] 29 (Below.refl _ _)
     obtain ⟨X2,hX2,_,kX2,SX2,RX2⟩:=bP X1 X1 #[.bool false,.bool false,.bool false,.bool false] 202 (Below.refl _ _)
     obtain ⟨b9,hb9⟩:∃b,b=x4.heap.size:=⟨_,rfl⟩
     obtain ⟨b10,hb10⟩:∃b,b=X1.heap.size:=⟨_,rfl⟩
     rw [←hb9] at RX1
     rw [←hb10] at RX2
     have HB9:=Lib.hid hb9
     have HB10:=Lib.hid hb10
     have yX:=Below.ext (Below.ext y4 kX1) kX2
     have sy4:=y4.size
     have l9:W.heap.size≤b9:=by omega
     have l10:b10=b9+1:=by have:=SX1.out;omega
     have lX:b10+1=X2.heap.size:=by have:=SX2.out;omega
     have T9:=Lib.hid ((kX2.block b9 (by omega)).trans RX1.out)
     have T10:=RX2
     have L10:=Lib.hid l10
     have LX:=Lib.hid lX
     have l10' :b9<b10:=by omega
     have lX' :b10<X2.heap.size:=by omega
     clear hb9 hb10 l10 lX RX1 RX2
     go_upto_region 24 with fail
     rw [←hX1,←HB9.out]
     clear hX1
     go_upto_region 25 with fail
     rw [←hX2,←HB10.out]
     clear hX2
     have q0:X2.cell? ⟨w.heap.size,0,none⟩=some (.slice (some ⟨V,0,none⟩) 5 5):=aA (HR.out X2 yX) 0 _ rfl
     have q1:X2.cell? ⟨w.heap.size,1,none⟩=some (.slice A1 m1 c1):=aA (HR.out X2 yX) 1 _ rfl
     have H1:=Lib.hid (oT 3 A1 m1 c1 p.st X2 V p.i p.s p.k hs1 hs5 (HP.out X2 yX).var (HP.out X2 yX).st HI.out.st (by have:=(HP.out X2 yX).st.len.1;have:=HI.out.l1;omega))
     go_wp2_with fail
     refine H1.out.mono ?_
     rintro e u1 ⟨B1,k1,d1,us1,rfl,hO1,hr1,bu1⟩
     have su1:=bu1.size
     have U9:=Lib.hid ((bu1.block b9 (by omega)).trans T9.out)
     have U10:=Lib.hid ((bu1.block b10 (by omega)).trans T10.out)
     have c9:u1.cell? ⟨b9,1,none⟩=some (.slice none 0 0):=aA U9.out 1 _ rfl
     have f9:u1.frozen? ⟨b9,1,none⟩=false:=frozen_of_row _ _ _ _ _ U9.out
     have g9:u1.grownBy (u1.setCell ⟨b9,1,none⟩ (.slice B1 k1 d1)) (some b9):=aO (bC _ _)
     have V10:=(g9.block b10 (by omega) (by simp;omega)).trans U10.out
     have c10:(u1.setCell ⟨b9,1,none⟩ (.slice B1 k1 d1)).cell? ⟨b10,0,none⟩=some (.bool false):=aA V10 0 _ rfl
     have f10:(u1.setCell ⟨b9,1,none⟩ (.slice B1 k1 d1)).frozen? ⟨b10,0,none⟩=false:=frozen_of_row _ _ _ _ _ V10
     obtain ⟨Y1,hY⟩:∃Y,Y=(u1.setCell ⟨b9,1,none⟩ (.slice B1 k1 d1)).setCell ⟨b10,0,none⟩ (.bool true):=⟨_,rfl⟩
     have T9' :=Lib.hid (show Y1.heap[b9]? =some (.cells #[.slice none 0 0,.slice B1 k1 d1,.slice none 0 0,.slice none 0 0,.slice none 0 0] 29 (0,0)) by rw [hY,cC _ _ _ _ (by omega)];exact heap_setCell_same _ _ _ _ _ _ U9.out)
     have T10' :=Lib.hid (show Y1.heap[b10]? =some (.cells #[.bool true,.bool false,.bool false,.bool false] 202 (0,0)) by rw [hY];exact heap_setCell_same _ _ _ _ _ _ V10)
     have KY1:∀b,b<u1.heap.size→b≠b9→b≠b10→Y1.heap[b]? =u1.heap[b]? :=fun b _ h1 h2=>by rw [hY,cC _ _ _ _ h2,cC _ _ _ _ h1]
     have gY:u1.grownBy Y1 (some b9)∨True:= .inr trivial
     have sY1:Y1.heap.size=u1.heap.size:=by rw [hY];simp
     have yY1:Below W.heap.size W Y1:=by rw [hY];exact ((Below.ext yX bu1).setCell l9 _).setCell (show W.heap.size≤b10 by omega) _
     clear T9 T10 gY V10 g9
     have T9:=T9'
     have T10:=T10'
     clear T9' T10'
     go_upto_region 26 with fail
     rw [←hY]
     clear hY c9 f9 c10 f10 U9 U10 q0 q1
     have q0:Y1.cell? ⟨w.heap.size,0,none⟩=some (.slice (some ⟨V,0,none⟩) 5 5):=aA (HR.out Y1 yY1) 0 _ rfl
     have q1:Y1.cell? ⟨w.heap.size,2,none⟩=some (.slice A2 m2 c2):=aA (HR.out Y1 yY1) 2 _ rfl
     have H2:=Lib.hid (oT 3 A2 m2 c2 p.me Y1 V p.i p.s p.k hs1 hs5 (HP.out Y1 yY1).var (HP.out Y1 yY1).me HI.out.me (by have:=(HP.out Y1 yY1).me.len.1;have:=HI.out.l2;omega))
     go_wp2_with fail
     refine H2.out.mono ?_
     rintro e u2 ⟨B2,k2,d2,us2,rfl,hO2,hr2,bu2⟩
     have su2:=bu2.size
     have U9:=Lib.hid ((bu2.block b9 (by omega)).trans T9.out)
     have U10:=Lib.hid ((bu2.block b10 (by omega)).trans T10.out)
     have c9:u2.cell? ⟨b9,2,none⟩=some (.slice none 0 0):=aA U9.out 2 _ rfl
     have f9:u2.frozen? ⟨b9,2,none⟩=false:=frozen_of_row _ _ _ _ _ U9.out
     have g9:u2.grownBy (u2.setCell ⟨b9,2,none⟩ (.slice B2 k2 d2)) (some b9):=aO (bC _ _)
     have V10:=(g9.block b10 (by omega) (by simp;omega)).trans U10.out
     have c10:(u2.setCell ⟨b9,2,none⟩ (.slice B2 k2 d2)).cell? ⟨b10,1,none⟩=some (.bool false):=aA V10 1 _ rfl
     have f10:(u2.setCell ⟨b9,2,none⟩ (.slice B2 k2 d2)).frozen? ⟨b10,1,none⟩=false:=frozen_of_row _ _ _ _ _ V10
     obtain ⟨Y2,hY⟩:∃Y,Y=(u2.setCell ⟨b9,2,none⟩ (.slice B2 k2 d2)).setCell ⟨b10,1,none⟩ (.bool true):=⟨_,rfl⟩
     have T9' :=Lib.hid (show Y2.heap[b9]? =some (.cells #[.slice none 0 0,.slice B1 k1 d1,.slice B2 k2 d2,.slice none 0 0,.slice none 0 0] 29 (0,0)) by rw [hY,cC _ _ _ _ (by omega)];exact heap_setCell_same _ _ _ _ _ _ U9.out)
     have T10' :=Lib.hid (show Y2.heap[b10]? =some (.cells #[.bool true,.bool true,.bool false,.bool false] 202 (0,0)) by rw [hY];exact heap_setCell_same _ _ _ _ _ _ V10)
     have KY2:∀b,b<u2.heap.size→b≠b9→b≠b10→Y2.heap[b]? =u2.heap[b]? :=fun b _ h1 h2=>by rw [hY,cC _ _ _ _ h2,cC _ _ _ _ h1]
     have gY:u2.grownBy Y2 (some b9)∨True:= .inr trivial
     have sY2:Y2.heap.size=u2.heap.size:=by rw [hY];simp
     have yY2:Below W.heap.size W Y2:=by rw [hY];exact ((Below.ext yY1 bu2).setCell l9 _).setCell (show W.heap.size≤b10 by omega) _
     clear T9 T10 gY V10 g9
     have T9:=T9'
     have T10:=T10'
     clear T9' T10'
     go_upto_region 27 with fail
     rw [←hY]
     clear hY c9 f9 c10 f10 U9 U10 q0 q1
     have q0:Y2.cell? ⟨w.heap.size,0,none⟩=some (.slice (some ⟨V,0,none⟩) 5 5):=aA (HR.out Y2 yY2) 0 _ rfl
     have q1:Y2.cell? ⟨w.heap.size,3,none⟩=some (.slice A3 m3 c3):=aA (HR.out Y2 yY2) 3 _ rfl
     have H3:=Lib.hid (oT 3 A3 m3 c3 p.ti Y2 V p.i p.s p.k hs1 hs5 (HP.out Y2 yY2).var (HP.out Y2 yY2).ti HI.out.ti (by have:=(HP.out Y2 yY2).ti.len.1;have:=HI.out.l3;omega))
     go_wp2_with fail
     refine H3.out.mono ?_
     rintro e u3 ⟨B3,k3,d3,us3,rfl,hO3,hr3,bu3⟩
     have su3:=bu3.size
     have U9:=Lib.hid ((bu3.block b9 (by omega)).trans T9.out)
     have U10:=Lib.hid ((bu3.block b10 (by omega)).trans T10.out)
     have c9:u3.cell? ⟨b9,3,none⟩=some (.slice none 0 0):=aA U9.out 3 _ rfl
     have f9:u3.frozen? ⟨b9,3,none⟩=false:=frozen_of_row _ _ _ _ _ U9.out
     have g9:u3.grownBy (u3.setCell ⟨b9,3,none⟩ (.slice B3 k3 d3)) (some b9):=aO (bC _ _)
     have V10:=(g9.block b10 (by omega) (by simp;omega)).trans U10.out
     have c10:(u3.setCell ⟨b9,3,none⟩ (.slice B3 k3 d3)).cell? ⟨b10,2,none⟩=some (.bool false):=aA V10 2 _ rfl
     have f10:(u3.setCell ⟨b9,3,none⟩ (.slice B3 k3 d3)).frozen? ⟨b10,2,none⟩=false:=frozen_of_row _ _ _ _ _ V10
     obtain ⟨Y3,hY⟩:∃Y,Y=(u3.setCell ⟨b9,3,none⟩ (.slice B3 k3 d3)).setCell ⟨b10,2,none⟩ (.bool true):=⟨_,rfl⟩
     have T9' :=Lib.hid (show Y3.heap[b9]? =some (.cells #[.slice none 0 0,.slice B1 k1 d1,.slice B2 k2 d2,.slice B3 k3 d3,.slice none 0 0] 29 (0,0)) by rw [hY,cC _ _ _ _ (by omega)];exact heap_setCell_same _ _ _ _ _ _ U9.out)
     have T10' :=Lib.hid (show Y3.heap[b10]? =some (.cells #[.bool true,.bool true,.bool true,.bool false] 202 (0,0)) by rw [hY];exact heap_setCell_same _ _ _ _ _ _ V10)
     have KY3:∀b,b<u3.heap.size→b≠b9→b≠b10→Y3.heap[b]? =u3.heap[b]? :=fun b _ h1 h2=>by rw [hY,cC _ _ _ _ h2,cC _ _ _ _ h1]
     have gY:u3.grownBy Y3 (some b9)∨True:= .inr trivial
     have sY3:Y3.heap.size=u3.heap.size:=by rw [hY];simp
     have yY3:Below W.heap.size W Y3:=by rw [hY];exact ((Below.ext yY2 bu3).setCell l9 _).setCell (show W.heap.size≤b10 by omega) _
     clear T9 T10 gY V10 g9
     have T9:=T9'
     have T10:=T10'
     clear T9' T10'
     go_upto_region 28 with fail
     rw [←hY]
     clear hY c9 f9 c10 f10 U9 U10 q0 q1
     have q0:Y3.cell? ⟨w.heap.size,0,none⟩=some (.slice (some ⟨V,0,none⟩) 5 5):=aA (HR.out Y3 yY3) 0 _ rfl
     have q1:Y3.cell? ⟨w.heap.size,4,none⟩=some (.slice A4 m4 c4):=aA (HR.out Y3 yY3) 4 _ rfl
     have H4:=Lib.hid (oT 3 A4 m4 c4 p.inp Y3 V p.i p.s p.k hs1 hs5 (HP.out Y3 yY3).var (HP.out Y3 yY3).inp HI.out.inp (by have:=(HP.out Y3 yY3).inp.len.1;have:=HI.out.l4;omega))
     go_wp2_with fail
     refine H4.out.mono ?_
     rintro e u4 ⟨B4,k4,d4,us4,rfl,hO4,hr4,bu4⟩
     have su4:=bu4.size
     have U9:=Lib.hid ((bu4.block b9 (by omega)).trans T9.out)
     have U10:=Lib.hid ((bu4.block b10 (by omega)).trans T10.out)
     have c9:u4.cell? ⟨b9,4,none⟩=some (.slice none 0 0):=aA U9.out 4 _ rfl
     have f9:u4.frozen? ⟨b9,4,none⟩=false:=frozen_of_row _ _ _ _ _ U9.out
     have g9:u4.grownBy (u4.setCell ⟨b9,4,none⟩ (.slice B4 k4 d4)) (some b9):=aO (bC _ _)
     have V10:=(g9.block b10 (by omega) (by simp;omega)).trans U10.out
     have c10:(u4.setCell ⟨b9,4,none⟩ (.slice B4 k4 d4)).cell? ⟨b10,3,none⟩=some (.bool false):=aA V10 3 _ rfl
     have f10:(u4.setCell ⟨b9,4,none⟩ (.slice B4 k4 d4)).frozen? ⟨b10,3,none⟩=false:=frozen_of_row _ _ _ _ _ V10
     obtain ⟨Y4,hY⟩:∃Y,Y=(u4.setCell ⟨b9,4,none⟩ (.slice B4 k4 d4)).setCell ⟨b10,3,none⟩ (.bool true):=⟨_,rfl⟩
     have T9' :=Lib.hid (show Y4.heap[b9]? =some (.cells #[.slice none 0 0,.slice B1 k1 d1,.slice B2 k2 d2,.slice B3 k3 d3,.slice B4 k4 d4] 29 (0,0)) by rw [hY,cC _ _ _ _ (by omega)];exact heap_setCell_same _ _ _ _ _ _ U9.out)
     have T10' :=Lib.hid (show Y4.heap[b10]? =some (.cells #[.bool true,.bool true,.bool true,.bool true] 202 (0,0)) by rw [hY];exact heap_setCell_same _ _ _ _ _ _ V10)
     have KY4:∀b,b<u4.heap.size→b≠b9→b≠b10→Y4.heap[b]? =u4.heap[b]? :=fun b _ h1 h2=>by rw [hY,cC _ _ _ _ h2,cC _ _ _ _ h1]
     have gY:u4.grownBy Y4 (some b9)∨True:= .inr trivial
     have sY4:Y4.heap.size=u4.heap.size:=by rw [hY];simp
     have yY4:Below W.heap.size W Y4:=by rw [hY];exact ((Below.ext yY3 bu4).setCell l9 _).setCell (show W.heap.size≤b10 by omega) _
     clear T9 T10 gY V10 g9
     have T9:=T9'
     have T10:=T10'
     clear T9' T10'
     go_upto_region 29 with fail
     rw [←hY]
     clear hY c9 f9 c10 f10 U9 U10 q0 q1
     have e10:Y4.cell? ⟨b10,0,none⟩=some (.bool true)∧Y4.cell? ⟨b10,1,none⟩=some (.bool true)∧Y4.cell? ⟨b10,2,none⟩=some (.bool true)∧Y4.cell? ⟨b10,3,none⟩=some (.bool true):=⟨aA T10.out 0 _ rfl,aA T10.out 1 _ rfl,aA T10.out 2 _ rfl,aA T10.out 3 _ rfl⟩
     obtain ⟨e0,e1,e2,e3⟩:=e10
     have SY:=Lib.hid (show X2.heap.size≤u1.heap.size∧u1.heap.size≤u2.heap.size∧u2.heap.size≤u3.heap.size∧u3.heap.size≤u4.heap.size∧Y4.heap.size=u4.heap.size by omega)
     have LLo:=Lib.hid (show w.heap.size+1<b9 by omega)
     have K14:∀b,b<u1.heap.size→b≠b9→b≠b10→Y4.heap[b]? =u1.heap[b]? :=fun b h h1 h2=>((KY4 b (by omega) h1 h2).trans (bu4.block b (by omega))).trans (((KY3 b (by omega) h1 h2).trans (bu3.block b (by omega))).trans (((KY2 b (by omega) h1 h2).trans (bu2.block b (by omega))).trans (KY1 b h h1 h2)))
     have K24:∀b,b<u2.heap.size→b≠b9→b≠b10→Y4.heap[b]? =u2.heap[b]? :=fun b h h1 h2=>((KY4 b (by omega) h1 h2).trans (bu4.block b (by omega))).trans (((KY3 b (by omega) h1 h2).trans (bu3.block b (by omega))).trans (KY2 b h h1 h2))
     have K34:∀b,b<u3.heap.size→b≠b9→b≠b10→Y4.heap[b]? =u3.heap[b]? :=fun b h h1 h2=>((KY4 b (by omega) h1 h2).trans (bu4.block b (by omega))).trans (KY3 b h h1 h2)
     have CL:∀{u:World} {base:Nat} {v:Value} {us:List Sm},X2.heap.size≤base→u.heap.size≤Y4.heap.size→OwLs bM 18 (fun S w=>SmOk 3 S w) u base 246 v us→(∀b,b<u.heap.size→b≠b9→b≠b10→Y4.heap[b]? =u.heap[b]?)→LsOk bM (SmOk 3 (fun b=>X2.heap.size≤b∧b<Y4.heap.size) Y4) (fun b=>X2.heap.size≤b∧b<Y4.heap.size) Y4 v us:=fun {u base v us} h1 h2 h3 h4=>by
      have k:Keep (fun b=>X2.heap.size≤b∧b<Y4.heap.size) u Y4:=fun b hb hs=>h4 b hb (by omega) (by omega)
      exact ((h3.ls (bF 3)).mono (S' :=fun b=>X2.heap.size≤b∧b<Y4.heap.size) (P' :=SmOk 3 (fun b=>X2.heap.size≤b∧b<Y4.heap.size) u) (fun b _ h=>by omega) (fun y t h=>SmOk.mono (fun b _ h=>by omega) 3 y t h)).keep k (fun y t h=>SmOk.keep k 3 y t h)
     have HL1:=Lib.hid (CL (by omega) (by omega) hO1 K14)
     have HL2:=Lib.hid (CL (by omega) (by omega) hO2 K24)
     have HL3:=Lib.hid (CL (by omega) (by omega) hO3 K34)
     have HL4:=Lib.hid (CL (by omega) (by omega) hO4 KY4)
     have HS1:=Lib.hid hr1
     have HS2:=Lib.hid hr2
     have HS3:=Lib.hid hr3
     have HS4:=Lib.hid hr4
     have YW:=Lib.hid yY4
     have LX4:X2.heap.size≤Y4.heap.size:=by omega
     clear CL K14 K24 K34 KY1 KY2 KY3 KY4 hO1 hO2 hO3 hO4 hr1 hr2 hr3 hr4 su1 su2 su3 su4 sY1 sY2 sY3 sY4 bu1 bu2 bu3 bu4 yY1 yY2 yY3 yX y0 y1 y2 y3 y4 z1 z2 z3 z4 H1 H2 H3 H4 kX1 kX2 SX1 SX2 hb yY4 sy4
     have qv:Y4.cell? ⟨w.heap.size,0,none⟩=some (.slice (some ⟨V,0,none⟩) 5 5):=aA (HR.out Y4 YW.out) 0 _ rfl
     have T10h:=Lib.hid T10
     clear T10
     go_wp2
     go_loopw [11] (fun a wr=>∃(j:Nat) (A:Option Addr) (n c:Nat) (zs:List Int),a= .int .i64 j∧j≤5∧j≤n∧n≤6*j∧RowKit.Hid (wr.heap[b9]? =some (.cells #[.slice A n c,.slice B1 k1 d1,.slice B2 k2 d2,.slice B3 k3 d3,.slice B4 k4 d4] 29 (0,0)))∧OwnR bJ 1 wr Y4.heap.size 3 (.slice A n c) zs∧RowKit.Hid (∀z∈zs,InR z)∧RowKit.Hid (∀b,b<Y4.heap.size→b≠b9→wr.heap[b]? =Y4.heap[b]?)∧Below W.heap.size W wr∧Y4.heap.size≤wr.heap.size) (fun a _=>5-(intOf a).toNat)
     case atStart=>exact ⟨0,none,0,0,[],rfl,by omega,by omega,by omega,T9,OwnR.nil_ _ _ _,Lib.hid (fun z hz=>by simp at hz),Lib.hid (fun _ _ _=>rfl),YW.out,Nat.le_refl _⟩
     case round=>
      clear e0 e1 e2 e3 T9 qv
      obtain ⟨j,A,n,c,zs,rfl,hj,hjn,hn6,Q9,hO,hin,hK,hb,hys⟩:=hrel
      have p9:wr.cell? ⟨b9,0,none⟩=some (.slice A n c):=aA Q9.out 0 _ rfl
      have pv:wr.cell? ⟨w.heap.size,0,none⟩=some (.slice (some ⟨V,0,none⟩) 5 5):=aA (HR.out wr hb) 0 _ rfl
      by_cases hl2:j<5
      ·have hvc:=Lib.hid (lK (i:=p.i) (s:=p.s) (k:=p.k) hl2)
       have hvz:=zW hs1 hs5 j
       have hvi:=Lib.hid (KI hi1 hi2 hk1_ hk2_ j)
       obtain ⟨y,hy⟩:∃y,y=vin p.i p.k j:=⟨_,rfl⟩
       obtain ⟨sz,hsz⟩:∃sz,sz=vsz p.s j:=⟨_,rfl⟩
       rw [←hsz] at hvz hvc
       rw [←hy] at hvi hvc
       clear hy hsz
       have lb:=LLo.out
       have hVs:=(HP.out W (Below.refl _ _)).vlt
       have hb9r:b9<wr.heap.size:=by omega
       have h0:w.heap.size<wr.heap.size:=by omega
       have CVC:=Lib.hid (fun (w' :World) (h:w'.heap[V]? =some (.cells (eC p.i p.s p.k) 199 (0,0)))=>(show w'.cell? ⟨V,j*3+2,none⟩=some (.int .i64 y)∧w'.cell? ⟨V,j*3+1,none⟩=some (.int .i64 sz) from ⟨by rw [cell_of_row _ _ _ _ _ _ h];exact hvc.out.2.2.1,by rw [cell_of_row _ _ _ _ _ _ h];exact hvc.out.2.1⟩))
       have hrV:=(HP.out wr hb).var
       have hr0:=HR.out wr hb
       go_upto_region 34 with fail
       go_wp2_with fail
       refine iZ (fun w' =>w'.heap[b9]? =some (.cells #[.slice A n c,.slice B1 k1 d1,.slice B2 k2 d2,.slice B3 k3 d3,.slice B4 k4 d4] 29 (0,0))∧w'.heap[w.heap.size]? =some (.cells #[.slice (some ⟨V,0,none⟩) 5 5,.slice A1 m1 c1,.slice A2 m2 c2,.slice A3 m3 c3,.slice A4 m4 c4] 145 (0,0))∧w'.heap[V]? =some (.cells (eC p.i p.s p.k) 199 (0,0))) 10 (by kernel_rfl) (by kernel_rfl) (by kernel_rfl) (by decide) ⟨Q9.out,hr0,hrV⟩ ?_
       simp only [List.take_succ_cons,List.take_zero,List.drop_succ_cons,List.drop_zero]
       refine TkA ?_
       refine aE (⟨b9,0,none⟩) (.slice A n c) rfl rfl rfl (fun w' hw' =>aG (fC _) (aA hw'.1 0 _ rfl)) ?_
       refine TkI ?_
       refine TkA ?_
       refine aE (⟨w.heap.size,0,none⟩) (.slice (some ⟨V,0,none⟩) 5 5) rfl rfl rfl (fun w' hw' =>aG (qK _) (aA hw'.2.1 0 _ rfl)) ?_
       refine TkI ?_
       refine TkA ?_
       refine aE (⟨V,j*3+2,none⟩) (.int .i64 y) rfl rfl rfl (fun w' hw' =>aG (aU _) (CVC.out w' hw'.2.2).1) ?_
       refine TkI ?_
       refine TkA ?_
       refine aL rfl ?_
       go_wp2_with fail
       have ha:Below wr.heap.size wr (wr.alloc (.cells #[.int .i64 y] 3)).drew:=((Below.refl _ wr).alloc (Nat.le_refl _) _).drew
       have hone:Recs bJ (fun _=>True) (wr.alloc (.cells #[.int .i64 y] 3)).drew (.slice (some ⟨wr.heap.size,0,none⟩) 1 1) [y]:=⟨_,1,rfl,by simp,by simp [maxLen],Cs.lit _ _ _ _ _ trivial rfl⟩
       have sa:=ha.size
       have A9:=Lib.hid ((ha.block b9 hb9r).trans Q9.out)
       have A0:=Lib.hid ((ha.block w.heap.size h0).trans hr0)
       have AV:=Lib.hid ((ha.block V (by omega)).trans hrV)
       have hOa:=hO.ext ha
       have hlx:=Lib.hid hOa.len.1
       have hKa:=Lib.hid (fun b (h:b<Y4.heap.size) (h2:b≠b9)=>(ha.block b (by omega)).trans (hK.out b h h2))
       have hba:=Below.ext hb ha
       clear hrV hr0 hO hK Q9
       refine aI ⟨A9.out,A0.out,AV.out⟩ ?_
       refine TkA ?_
       refine aL rfl ?_
       refine aV dH jG (.int .i64 0) 8 _ _ 23 3 Y4.heap.size zs [y] (some ⟨wr.heap.size,0,none⟩) 1 1 (.slice A n c) (n+1) rfl rfl Tryz.underlying23 oZ rfl (by omega) rfl rfl hOa hone (by rw [hlx.out]) (by rw [hlx.out];omega) (by rw [hlx.out];omega) (by omega) ?_
       intro A9' c9' w9 hown9 hgr9 hat9 hc91 hc92
       have hneg9:∀b,(Value.slice A n c).ownBlock=some b→Y4.heap.size≤b:=fun b e=>(World.ownsRow.lt hOa _ e).1
       have s9:=hgr9.size
       have D9:=Lib.hid ((hgr9.block b9 (by omega) (fun e=>by have:=hneg9 _ e.symm;omega)).trans A9.out)
       have D0:=Lib.hid ((hgr9.block w.heap.size (by omega) (fun e=>by have:=hneg9 _ e.symm;omega)).trans A0.out)
       have DV:=Lib.hid ((hgr9.block V (by omega) (fun e=>by have:=hneg9 _ e.symm;omega)).trans AV.out)
       have q9:w9.cell? ⟨b9,0,none⟩=some (.slice A n c):=aA D9.out 0 _ rfl
       have f9:w9.frozen? ⟨b9,0,none⟩=false:=frozen_of_row _ _ _ _ _ D9.out
       obtain ⟨w10,hw10⟩:∃w10,w10=w9.setCell ⟨b9,0,none⟩ (.slice A9' (n+1) c9'):=⟨_,rfl⟩
       have gS:w9.grownBy w10 (some b9):=by rw [hw10];exact aO (bC _ _)
       have E9:=Lib.hid (show w10.heap[b9]? =some (.cells #[.slice A9' (n+1) c9',.slice B1 k1 d1,.slice B2 k2 d2,.slice B3 k3 d3,.slice B4 k4 d4] 29 (0,0)) by rw [hw10];exact heap_setCell_same _ _ _ _ _ _ D9.out)
       have hO10:=hown9.kept gS (.inr (fun e=>by have:=(World.ownsRow.lt hown9 _ e).1;omega))
       have hb9_:Below W.heap.size W w9:=hba.grown hgr9 hba.size (fun o e=>by have:=hneg9 o e;have:=hys;omega)
       have hb10:Below W.heap.size W w10:=hb9_.grown gS hb9_.size (fun o e=>by cases e;exact l9)
       have hK10:=Lib.hid (fun b (h:b<Y4.heap.size) (h2:b≠b9)=>(gS.block b (by omega) (by simp;omega)).trans ((hgr9.block b (by omega) (fun e=>by have:=hneg9 _ e.symm;omega)).trans (hKa.out b h h2)))
       have hys10:Y4.heap.size≤w10.heap.size:=by have:=gS.size;omega
       have HIN:=Lib.hid (fun z hz=>(List.mem_append.1 hz).elim (hin.out z) (fun h=>by rw [List.mem_singleton] at h;subst h;exact hvi.out):∀z∈zs++ [y],InR z)
       clear hown9 hgr9 hat9 hone hOa gS hKa hba hb9_ A9 A0 AV hin
       go_wp2_with fail
       refine aI ⟨D9.out,D0.out,DV.out⟩ ?_
       refine aZ ?_
       go_wp2_with fail
       rw [←hw10,mF]
       clear hw10 q9 f9 D9 D0 DV ha
       go_wp2
       go_loopw [12] (fun a wr=>∃(k:Nat) (A:Option Addr) (n' c:Nat) (zs:List Int),a= .int .i64 ((k:Int)+1)∧(n+1≤n'∧n'≤n+1+k)∧(k=0∨(k:Int)<sz)∧RowKit.Hid (wr.heap[b9]? =some (.cells #[.slice A n' c,.slice B1 k1 d1,.slice B2 k2 d2,.slice B3 k3 d3,.slice B4 k4 d4] 29 (0,0)))∧OwnR bJ 1 wr Y4.heap.size 3 (.slice A n' c) zs∧RowKit.Hid (∀z∈zs,InR z)∧RowKit.Hid (∀b,b<Y4.heap.size→b≠b9→wr.heap[b]? =Y4.heap[b]?)∧Below W.heap.size W wr∧Y4.heap.size≤wr.heap.size) (fun a _=>6-(intOf a).toNat)
       case atStart=>exact ⟨0,A9',n+1,c9',zs++ [y],rfl,by omega,.inl rfl,E9,hO10,HIN,hK10,hb10,hys10⟩
       case round=>
        clear E9 hO10 HIN hK10 hb10 hys10 hb hys
        obtain ⟨k,A,n',c,zs,rfl,hn',hks,Q9,hO,hin,hK,hb,hys⟩:=hrel
        have p9:wr.cell? ⟨b9,0,none⟩=some (.slice A n' c):=aA Q9.out 0 _ rfl
        have pv:wr.cell? ⟨w.heap.size,0,none⟩=some (.slice (some ⟨V,0,none⟩) 5 5):=aA (HR.out wr hb) 0 _ rfl
        have pc:wr.cell? ⟨V,j*3+1,none⟩=some (.int .i64 sz):=(CVC.out wr (HP.out wr hb).var).2
        by_cases hk2:(k:Int)+1<sz
        ·have hlt5:k+1≤5:=by omega
         have ha:Below wr.heap.size wr (wr.alloc (.cells #[.int .i64 0] 3)):=(Below.refl _ wr).alloc (Nat.le_refl _) _
         have hone:Recs bJ (fun _=>True) (wr.alloc (.cells #[.int .i64 0] 3)) (.slice (some ⟨wr.heap.size,0,none⟩) 1 1) [0]:=⟨_,1,rfl,by simp,by simp [maxLen],Cs.lit _ _ _ _ _ trivial rfl⟩
         have sa:=ha.size
         have hb9r:b9<wr.heap.size:=by omega
         have A9:=Lib.hid ((ha.block b9 hb9r).trans Q9.out)
         have hOa:=hO.ext ha
         have hlx:=Lib.hid hOa.len.1
         have hKa:=Lib.hid (fun b (h:b<Y4.heap.size) (h2:b≠b9)=>(ha.block b (by omega)).trans (hK.out b h h2))
         have hba:=Below.ext hb ha
         have hyw:Y4.heap.size≤(wr.alloc (.cells #[.int .i64 0] 3)).heap.size:=by omega
         clear hO hK Q9
         go_wp2_with (refine aV (o:=⟨some 189,_,_,_,_,_⟩) dH jG (.int .i64 0) 8 _ _ 23 3 Y4.heap.size zs [0] (some ⟨wr.heap.size,0,none⟩) 1 1 (.slice A n' c) (n' +1) rfl rfl Tryz.underlying23 oZ rfl (by omega) rfl rfl hOa hone (by rw [hlx.out]) (by rw [hlx.out];omega) (by rw [hlx.out];omega) hyw ?_;intro A9' c9' w9 hown9 hgr9 hat9 hc91 hc92;have hneg9:∀b,(Value.slice A n' c).ownBlock=some b→Y4.heap.size≤b:=fun b e=>(World.ownsRow.lt hOa _ e).1;have D9:=Lib.hid ((hgr9.block b9 (by omega) (fun e=>by have:=hneg9 _ e.symm;omega)).trans A9.out);have q9:w9.cell? ⟨b9,0,none⟩=some (.slice A n' c):=aA D9.out 0 _ rfl;have f9:w9.frozen? ⟨b9,0,none⟩=false:=frozen_of_row _ _ _ _ _ D9.out)
         have s9:=hgr9.size
         obtain ⟨w10,hw10⟩:∃w10,w10=w9.setCell ⟨b9,0,none⟩ (.slice A9' (n' +1) c9'):=⟨_,rfl⟩
         have gS:w9.grownBy w10 (some b9):=by rw [hw10];exact aO (bC _ _)
         have E9:=Lib.hid (show w10.heap[b9]? =some (.cells #[.slice A9' (n' +1) c9',.slice B1 k1 d1,.slice B2 k2 d2,.slice B3 k3 d3,.slice B4 k4 d4] 29 (0,0)) by rw [hw10];exact heap_setCell_same _ _ _ _ _ _ D9.out)
         have hO10:=hown9.kept gS (.inr (fun e=>by have:=(World.ownsRow.lt hown9 _ e).1;omega))
         have hb9_:Below W.heap.size W w9:=hba.grown hgr9 hba.size (fun o e=>by have:=hneg9 o e;omega)
         have hb10:Below W.heap.size W w10:=hb9_.grown gS hb9_.size (fun o e=>by cases e;exact l9)
         have hK10:=Lib.hid (fun b (h:b<Y4.heap.size) (h2:b≠b9)=>(gS.block b (by omega) (by simp;omega)).trans ((hgr9.block b (by omega) (fun e=>by have:=hneg9 _ e.symm;omega)).trans (hKa.out b h h2)))
         have hys10:Y4.heap.size≤w10.heap.size:=by have:=gS.size;omega
         have HIN:=Lib.hid (fun z hz=>(List.mem_append.1 hz).elim (hin.out z) (fun h=>by rw [List.mem_singleton] at h;subst h;exact ⟨by decide,by decide⟩):∀z∈zs++ [(0:Int)],InR z)
         clear hown9 hgr9 hat9 hone hOa gS hKa hba hb9_ A9 hin p9 pv pc
         go_upto_region 37 with fail
         rw [←hw10]
         clear hw10 q9 f9 D9 ha
         go_wp2
         go_roundw
         case rel=>exact ⟨k+1,A9',n' +1,c9',zs++ [0],by first|(congr 1;done)|(congr 1;omega),by omega,.inr (by omega),E9,hO10,HIN,hK10,hb10,hys10⟩
         case measure=>simp [intOf];omega
        ·have hd:decide ((k:Int)+1<sz)=false:=by simp;omega
         clear hvc hvi CVC hVs
         go_wp2
         exact ⟨⟨j+1,A,n',c,zs,by go_num,by omega,by omega,by omega,Q9,hO,hin,hK,hb,hys⟩,by simp [intOf];omega⟩
      ·obtain rfl:j=5:=by omega
       have lb:=LLo.out
       have Q1:=Lib.hid (HR1.out wr hb)
       go_wp2_with (first|(refine aD (t:=29) (A:=⟨b9,0,none⟩) rfl rfl rfl (aB Q9.out Tryz.underlying29 rfl (by kernel_rfl)) ?_)|(refine aC rfl 29 _ _ rfl (w.heap.size+1) 29 _ _ rfl rfl Q1.out (by kernel_rfl) rfl (by simp [Value.oneCell']) ?_))
       refine bodyPost_ret (bI rfl rfl (aB (setRow_heap _ _ _ _ _ _ Q1.out) Tryz.underlying29 rfl (by kernel_rfl))) rfl ?_
       have gE:=aJ wr (w.heap.size+1) #[.slice A n c,.slice B1 k1 d1,.slice B2 k2 d2,.slice B3 k3 d3,.slice B4 k4 d4]
       have hOE:=hO.kept gE (.inr (fun e=>by have:=(World.ownsRow.lt hO _ e).1;omega))
       have KE:Keep (fun b=>X2.heap.size≤b∧b<Y4.heap.size) Y4 (wr.setRow (w.heap.size+1) #[.slice A n c,.slice B1 k1 d1,.slice B2 k2 d2,.slice B3 k3 d3,.slice B4 k4 d4]):=fun b hb' hs=>(gE.block b (by omega) (by simp;omega)).trans (hK.out b hb' (by omega))
       have FIN:∀{v:Value} {us:List Sm},LsOk bM (SmOk 3 (fun b=>X2.heap.size≤b∧b<Y4.heap.size) Y4) (fun b=>X2.heap.size≤b∧b<Y4.heap.size) Y4 v us→LsOk bM (SmOk 3 (w.heap.size≤·) (wr.setRow (w.heap.size+1) #[.slice A n c,.slice B1 k1 d1,.slice B2 k2 d2,.slice B3 k3 d3,.slice B4 k4 d4])) (w.heap.size≤·) (wr.setRow (w.heap.size+1) #[.slice A n c,.slice B1 k1 d1,.slice B2 k2 d2,.slice B3 k3 d3,.slice B4 k4 d4]) v us:=fun {v us} h=>(h.keep KE (fun y t h=>SmOk.keep KE 3 y t h)).mono (fun b _ h=>by omega) (fun y t h=>SmOk.mono (fun b _ h=>by omega) 3 y t h)
       refine ⟨⟨zs,us1,us2,us3,us4⟩,A,n,c,B1,k1,d1,B2,k2,d2,B3,k3,d3,B4,k4,d4,rfl,⟨hOE.recs.mono (fun b _ h=>by have:=h.1;omega),FIN HL1.out,FIN HL2.out,FIN HL3.out,FIN HL4.out⟩,⟨hin.out,by have:=hO.len.1;show zs.length≤30;omega,HS1.out,HS2.out,HS3.out,HS4.out⟩,by have:=hO.len.1;show 5≤zs.length;omega,?_⟩
       have hbw:=Below.trans hbW (hb.mono (by omega))
       exact hbw.grown gE hbw.size (fun o e=>by cases e;omega)
end Go.Proofs.YtiblijmngokcgaaGreatDoor
