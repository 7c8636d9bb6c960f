import Derived.Test.YtiblijmngokcgaaGreatDoorCkKZs
import Derived.Test.YtiblijmngokcgaaGreatDoorRplZs
import Derived.Test.YtiblijmngokcgaaGreatDoorStIZs
namespace Go.Proofs.YtiblijmngokcgaaGreatDoor
open Go.RowKit
set_option maxRecDepth 100000
set_option linter.unusedVariables false
set_option linter.unusedSimpArgs false
theorem CdM.kept {S S' :Nat→Prop} {w w' :World} {c:Cd} {I1:Option Addr} {in1 ic1:Nat} {Q1:Option Addr} {k1 d1:Nat} {Q2:Option Addr} {k2 d2:Nat} {Q3:Option Addr} {k3 d3:Nat} {Q4:Option Addr} {k4 d4:Nat} (h:CdM S w c I1 in1 ic1 Q1 k1 d1 Q2 k2 d2 Q3 k3 d3 Q4 k4 d4) (hk:Keep S w w') (hs:∀b,S b→S' b):CdM S' w' c I1 in1 ic1 Q1 k1 d1 Q2 k2 d2 Q3 k3 d3 Q4 k4 d4:=by
 have f:∀{v ts},LsOk bM (SmOk 3 S w) S w v ts→LsOk bM (SmOk 3 S' w') S' w' v ts:=fun {v ts} h=>(h.keep hk (fun y u h=>SmOk.keep hk 3 y u h)).mono (fun b _ h=>hs b h) (fun y u h=>SmOk.mono (fun b _ h=>hs b h) 3 y u h)
 exact ⟨(h.1.keep hk).mono (fun b _ h=>hs b h),f h.2,f h.3,f h.4,f h.5⟩
theorem StM.kept {S S' :Nat→Prop} {w w' :World} {s:Stt} {E1:Option Addr} {p1 q1:Nat} {E2:Option Addr} {p2 q2:Nat} {E3:Option Addr} {p3 q3:Nat} {E4:Option Addr} {p4 q4:Nat} (h:StM S w s E1 p1 q1 E2 p2 q2 E3 p3 q3 E4 p4 q4) (hk:Keep S w w') (hs:∀b,S b→S' b):StM S' w' s E1 p1 q1 E2 p2 q2 E3 p3 q3 E4 p4 q4:=
 ⟨(h.1.keep hk).mono (fun b _ h=>hs b h),(h.2.keep hk).mono (fun b _ h=>hs b h),(h.3.keep hk).mono (fun b _ h=>hs b h),(h.4.keep hk).mono (fun b _ h=>hs b h)⟩
set_option maxHeartbeats 4000000 in
theorem GF (B g:Nat) (w:World) (h:Cod B w g) (hG:Glb B w):
 Calls Tryz.prog 39 #[.pointer (some ⟨g,0,none⟩)] w fun e w' =>∃(c:Cd) (I1:Option Addr) (in1 ic1:Nat) (Q1:Option Addr) (k1 d1:Nat) (Q2:Option Addr) (k2 d2:Nat) (Q3:Option Addr) (k3 d3:Nat) (Q4:Option Addr) (k4 d4:Nat),e= .returned (.agg #[.slice I1 in1 ic1,.slice Q1 k1 d1,.slice Q2 k2 d2,.slice Q3 k3 d3,.slice Q4 k4 d4])∧CdM (w.heap.size≤·) w' c I1 in1 ic1 Q1 k1 d1 Q2 k2 d2 Q3 k3 d3 Q4 k4 d4∧CdIn c∧5≤c.init.length∧Cod B w' g∧w.grownBy w' (some g):=by
 have hgl:=h.lt
 have hBg:=h.1
 obtain ⟨W,hW,bW,kW,SW,R2⟩:=bP w w #[.slice none 0 0,.slice none 0 0,.slice none 0 0,.slice none 0 0,.slice none 0 0] 29 (Below.refl _ _)
 have sW:=SW.out
 have Hp:=Lib.hid (sC B g W (h.ext kW) (hG.ext kW))
 have SWH:=Lib.hid sW
 have sWl:w.heap.size<W.heap.size:=by omega
 clear sW h hG
 go_enter Tryz.func39,Tryz.ntmps39
 go_upto_region 1 with fail
 rw [←hW]
 clear hW
 go_wp2_with fail
 refine Hp.out.mono ?_
 rintro e w1 ⟨v,p,rfl,hpi,hpo,hC1,g1⟩
 obtain ⟨V,A1,m1,c1,A2,m2,c2,A3,m3,c3,A4,m4,c4,rfl,hPm⟩:=PrM.of hpo
 have Hr:=Lib.hid (wO w1 p V A1 m1 c1 A2 m2 c2 A3 m3 c3 A4 m4 c4 hPm hpi)
 clear hpo hPm
 go_wp2_with fail
 refine Hr.out.mono ?_
 rintro e w2 ⟨c,I1,in1,ic1,Q1,k1,d1,Q2,k2,d2,Q3,k3,d3,Q4,k4,d4,rfl,hcm,hci,hc5,b2⟩
 obtain ⟨W3,hW3,_,k3_,S3,R3⟩:=bP w2 w2 #[.slice I1 in1 ic1,.slice Q1 k1 d1,.slice Q2 k2 d2,.slice Q3 k3 d3,.slice Q4 k4 d4] 29 (Below.refl _ _)
 obtain ⟨bx,hbx⟩:∃b,b=w2.heap.size:=⟨_,rfl⟩
 rw [←hbx] at R3
 have HBX:=Lib.hid hbx
 have s1:=g1.size
 have s2:=b2.size
 have R21:=Lib.hid ((k3_.block w.heap.size (by omega)).trans ((b2.block w.heap.size (by omega)).trans ((g1.block w.heap.size (by omega) (by simp;omega)).trans R2.out)))
 clear hbx R2
 go_upto_region 2 with (refine aF rfl 29 _ _ rfl 29 _ #[.slice I1 in1 ic1,.slice Q1 k1 d1,.slice Q2 k2 d2,.slice Q3 k3 d3,.slice Q4 k4 d4] rfl rfl (by kernel_rfl) rfl (by simp [Value.oneCell']) ?_)
 try dsimp only
 rw [←hW3,←HBX.out]
 clear hW3
 try simp only [Act.put]
 go_wp2_with (first|(refine aD (t:=29) (A:=⟨bx,0,none⟩) rfl rfl rfl (aB R3.out Tryz.underlying29 rfl (by kernel_rfl)) ?_)|(refine aC rfl 29 _ _ rfl (w.heap.size) 29 _ _ rfl rfl R21.out (by kernel_rfl) rfl (by simp [Value.oneCell']) ?_))
 refine bodyPost_ret (bH rfl rfl (aB (setRow_heap _ _ _ _ _ _ R21.out) Tryz.underlying29 rfl (by kernel_rfl))) rfl ?_
 have gE:=aJ W3 w.heap.size #[.slice I1 in1 ic1,.slice Q1 k1 d1,.slice Q2 k2 d2,.slice Q3 k3 d3,.slice Q4 k4 d4]
 have hcm3:=hcm.ext k3_
 have kE:Keep (fun b=>w1.heap.size≤b) W3 (W3.setRow w.heap.size #[.slice I1 in1 ic1,.slice Q1 k1 d1,.slice Q2 k2 d2,.slice Q3 k3 d3,.slice Q4 k4 d4]):=fun b hb hs=>gE.block b hb (by simp;omega)
 have hC3:=((hC1.ext b2).ext k3_).grown gE (fun m hm=>by cases hm;omega)
 have gr:=cD (aH (aH (aQ kW (some g)) g1) (aQ (Below.ext b2 k3_) (some g))) gE (fun m hm=>by cases hm;exact .inl (Nat.le_refl _))
 exact ⟨c,I1,in1,ic1,Q1,k1,d1,Q2,k2,d2,Q3,k3,d3,Q4,k4,d4,rfl,hcm3.kept kE (fun b h=>by omega),hci,hc5,hC3,gr⟩
end Go.Proofs.YtiblijmngokcgaaGreatDoor
