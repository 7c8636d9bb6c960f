import Derived.Test.YtiblijmngokcgaaGreatDoorMacZs
import Derived.Test.YtiblijmngokcgaaGreatDoorG32Zs
import Derived.Test.YtiblijmngokcgaaGreatDoorCkLZs
import Derived.Test.YtiblijmngokcgaaGreatDoorG24Zs
import Derived.Test.YtiblijmngokcgaaGreatDoorRplZs
namespace Go.Proofs.YtiblijmngokcgaaGreatDoor
open Go.RowKit
set_option maxRecDepth 100000
set_option linter.unusedVariables false
set_option linter.unusedSimpArgs false
set_option maxHeartbeats 2000000 in
theorem GC (A:Option Addr) (n c:Nat) (fs:List Fil) (S:Nat→Prop) (w:World) (hD:Dsk S w (.slice A n c) fs) (hn:n≤1000) (k:Nat) (hk:k<n):
 Calls Tryz.prog 15 #[.agg #[.slice A n c],.int .i64 (k:Int)] w fun e w' =>∃A' c',e= .returned (.tuple #[.agg #[.slice A' n c'],.int .i64 0])∧Dsk (fun b=>S b∨w.heap.size≤b) w' (.slice A' n c') (fs.set k ⟨[],[]⟩)∧Below w.heap.size w w' :=by
 obtain ⟨W,hW,hbW,hsW,hw0,hw1⟩:=jQ w (.slice A n c)
 have SW:=Lib.hid hsW
 have R0:=Lib.hid hw0
 have R1:=Lib.hid hw1
 have hD0:=(hD.mono (S' :=fun b=>S b∧b<w.heap.size) (fun b hb hs=>⟨hs,hb⟩)).ext hbW
 have HRP:=Lib.hid (qR A n c fs _ W hD0 hn k hk none 0 0 [] (fun _=>True) (Recs.nil_ _ _) (by omega))
 have sW:w.heap.size+1<W.heap.size:=by omega
 clear hsW hw0 hw1 hD hD0
 go_enter Tryz.func15,Tryz.ntmps15
 go_upto_region 1 with fail
 rw [←hW]
 clear hW
 go_wp2_with (refine aD (t:=36) (A:=⟨w.heap.size,0,none⟩) rfl rfl rfl (aB R0.out Tryz.underlying36 rfl (by kernel_rfl)) ?_)
 refine HRP.out.mono ?_
 rintro e w2 ⟨A2,c2,rfl,hD2,b2⟩
 have R12:=Lib.hid ((b2.block (w.heap.size+1) sW).trans R1.out)
 have hb2:=Below.ext hbW b2
 go_wp2_with (refine aC rfl 36 _ _ rfl (w.heap.size+1) 36 _ _ rfl rfl R12.out (by kernel_rfl) rfl (by simp [Value.oneCell']) ?_)
 refine bodyPost_ret (bI rfl rfl (aB (setRow_heap _ _ _ _ _ _ R12.out) Tryz.underlying36 rfl (by kernel_rfl))) rfl ?_
 have gE:=aJ w2 (w.heap.size+1) #[.slice A2 n c2]
 refine ⟨A2,c2,rfl,?_,hb2.grown gE hb2.size (fun o e=>by cases e;omega)⟩
 have h3:=hD2.mono (S' :=fun b=>(S b∧b<w.heap.size)∨w.heap.size+2≤b) (fun b _ h=>by rcases h with h|h;exact .inl h;exact .inr (by have:=SW.out;omega))
 exact (h3.keep (w' :=w2.setRow (w.heap.size+1) #[.slice A2 n c2]) (fun b hb hs=>gE.block b hb (by simp;omega))).mono (fun b _ h=>h.imp (fun h=>h.1) (fun h=>by omega))
set_option maxHeartbeats 4000000 in
theorem zB (B g:Nat) (w:World) (h:Cod B w g) (hG:Glb B w):
 Calls Tryz.prog 11 #[.pointer (some ⟨g,0,none⟩)] w fun e w' =>∃(c:Cd) (I1:Option Addr) (in1 ic1:Nat) (Q1:Option Addr) (k1 d1:Nat) (Q2:Option Addr) (k2 d2:Nat) (Q3:Option Addr) (k3 d3:Nat) (Q4:Option Addr) (k4 d4:Nat) (L:Option Addr) (ln lc:Nat) (l:List Ev),e= .returned (.agg #[.slice I1 in1 ic1,.slice Q1 k1 d1,.slice Q2 k2 d2,.slice Q3 k3 d3,.slice Q4 k4 d4,.slice L ln lc])∧CdM (w.heap.size≤·) w' c I1 in1 ic1 Q1 k1 d1 Q2 k2 d2 Q3 k3 d3 Q4 k4 d4∧Recs cQ (w.heap.size≤·) w' (.slice L ln lc) l∧Lin c l∧Cod B w' g∧w.grownBy w' (some g):=by
 have hgl:=h.lt
 have hBg:=h.1
 obtain ⟨W,hW,bW,kW,SW,R2⟩:=bP w w #[.slice none 0 0,.slice none 0 0,.slice none 0 0,.slice none 0 0,.slice none 0 0,.slice none 0 0] 32 (Below.refl _ _)
 have sWl:w.heap.size<W.heap.size:=by have:=SW.out;omega
 have Hp:=Lib.hid (GF B g W (h.ext kW) (hG.ext kW))
 clear h hG
 go_enter Tryz.func11,Tryz.ntmps11
 go_upto_region 1 with fail
 rw [←hW]
 clear hW
 go_wp2_with fail
 refine Hp.out.mono ?_
 rintro e w1 ⟨c,I1,in1,ic1,Q1,k1,d1,Q2,k2,d2,Q3,k3,d3,Q4,k4,d4,rfl,hcm,hci,hc5,hC1,g1⟩
 have He:=Lib.hid (tV B g 10 w1 hC1 (by omega))
 go_wp2_with fail
 refine He.out.mono ?_
 rintro e w2 ⟨L,lc,evs,rfl,hle,hev,hO,hC2,g2⟩
 obtain ⟨ln,hln⟩:∃n,n=evs.length:=⟨_,rfl⟩
 rw [←hln] at hO ⊢
 have s1:=g1.size
 have s2:=g2.size
 have R22:=Lib.hid ((g2.block w.heap.size (by omega) (by simp;omega)).trans ((g1.block w.heap.size (by omega) (by simp;omega)).trans R2.out))
 have LI:=Lib.hid (show Lin c evs from ⟨hci,hc5,hle,hev⟩)
 clear hln hle hev hci hc5
 go_wp2_with (refine aC rfl 32 _ _ rfl w.heap.size 32 _ _ rfl rfl R22.out (by kernel_rfl) rfl (by simp [Value.oneCell']) ?_)
 refine bodyPost_ret (bH rfl rfl (aB (setRow_heap _ _ _ _ _ _ R22.out) Tryz.underlying32 rfl (by kernel_rfl))) rfl ?_
 have gE:=aJ w2 w.heap.size #[.slice I1 in1 ic1,.slice Q1 k1 d1,.slice Q2 k2 d2,.slice Q3 k3 d3,.slice Q4 k4 d4,.slice L ln lc]
 have kE:Keep (fun b=>W.heap.size≤b) w2 (w2.setRow w.heap.size #[.slice I1 in1 ic1,.slice Q1 k1 d1,.slice Q2 k2 d2,.slice Q3 k3 d3,.slice Q4 k4 d4,.slice L ln lc]):=fun b hb hs=>gE.block b hb (by simp;omega)
 have kF:Keep (fun b=>W.heap.size≤b) w1 w2:=fun b hb hs=>g2.block b hb (by simp;omega)
 have gr:=cD (aH (aH (aQ kW (some g)) g1) g2) gE (fun m hm=>by cases hm;exact .inl (Nat.le_refl _))
 refine ⟨c,I1,in1,ic1,Q1,k1,d1,Q2,k2,d2,Q3,k3,d3,Q4,k4,d4,L,ln,lc,evs,rfl,(hcm.kept (S' :=fun b=>W.heap.size≤b) kF (fun b h=>h)).kept kE (fun b h=>by omega),?_,LI.out,hC2.grown gE (fun m hm=>by cases hm;omega),gr⟩
 exact ((hO.recs.mono (S' :=fun b=>W.heap.size≤b) (fun b _ h=>by have h2:w1.heap.size≤b:=h.1;omega)).keep kE).mono (fun b _ h=>by omega)
theorem MK {w:World} {b:Nat} {c0 c1 c2 c3 c4 c5:Value} (h:w.heap[b]? =some (.cells #[c0,c1,c2,c3,c4,c5] 32 (0,0))):(loadVar 29 ⟨b,0,none⟩).run Tryz.prog w= .ok (.agg #[c0,c1,c2,c3,c4]) w:=by
 have:=run_loadVar_mid (P:=Tryz.prog) w b 0 29 [c0,c1,c2,c3,c4] _ (World.rangeAt_of_block h 0 5) Tryz.underlying29 rfl (by kernel_rfl)
 simpa using this
set_option maxHeartbeats 4000000 in
theorem yZ (w:World) (S:Nat→Prop) (c:Cd) (I1:Option Addr) (in1 ic1:Nat) (Q1:Option Addr) (k1 d1:Nat) (Q2:Option Addr) (k2 d2:Nat) (Q3:Option Addr) (k3 d3:Nat) (Q4:Option Addr) (k4 d4:Nat) (L:Option Addr) (ln lc:Nat) (l:List Ev) (hC:CdM S w c I1 in1 ic1 Q1 k1 d1 Q2 k2 d2 Q3 k3 d3 Q4 k4 d4) (hE:Recs cQ S w (.slice L ln lc) l) (hl:Lin c l) (k:Nat) (hk:k≤l.length):
 Calls Tryz.prog 20 #[.agg #[.slice I1 in1 ic1,.slice Q1 k1 d1,.slice Q2 k2 d2,.slice Q3 k3 d3,.slice Q4 k4 d4,.slice L ln lc],.int .i64 (k:Int)] w fun e w' =>∃(s:Stt) (E1:Option Addr) (p1 q1:Nat) (E2:Option Addr) (p2 q2:Nat) (E3:Option Addr) (p3 q3:Nat) (E4:Option Addr) (p4 q4:Nat),e= .returned (.agg #[.slice E1 p1 q1,.slice E2 p2 q2,.slice E3 p3 q3,.slice E4 p4 q4])∧ReplayR c 0 3 (l.take k) s∧StM (w.heap.size≤·) w' s E1 p1 q1 E2 p2 q2 E3 p3 q3 E4 p4 q4∧Below w.heap.size w w' :=by
 obtain ⟨W,hW,hbW,SW,R0,R1⟩:∃W,W=(w.alloc (.cells #[.slice I1 in1 ic1,.slice Q1 k1 d1,.slice Q2 k2 d2,.slice Q3 k3 d3,.slice Q4 k4 d4,.slice L ln lc] 32)).alloc (.cells #[.slice none 0 0,.slice none 0 0,.slice none 0 0,.slice none 0 0] 51)∧Below w.heap.size w W∧RowKit.Hid (W.heap.size=w.heap.size+2)∧
  RowKit.Hid (W.heap[w.heap.size]? =some (.cells #[.slice I1 in1 ic1,.slice Q1 k1 d1,.slice Q2 k2 d2,.slice Q3 k3 d3,.slice Q4 k4 d4,.slice L ln lc] 32 (0,0)))∧RowKit.Hid (W.heap[w.heap.size+1]? =some (.cells #[.slice none 0 0,.slice none 0 0,.slice none 0 0,.slice none 0 0] 51 (0,0))):=by
  refine ⟨_,rfl,((Below.refl _ w).alloc (Nat.le_refl _) _).alloc (by simp) _,Lib.hid (by simp),Lib.hid ?_,Lib.hid ?_⟩
  ·exact Tzar
  ·have:=heap_alloc_new (w.alloc (.cells #[.slice I1 in1 ic1,.slice Q1 k1 d1,.slice Q2 k2 d2,.slice Q3 k3 d3,.slice Q4 k4 d4,.slice L ln lc] 32)) (.cells #[.slice none 0 0,.slice none 0 0,.slice none 0 0,.slice none 0 0] 51)
   rw [World.size_alloc] at this
   exact this
 have sW:w.heap.size+1<W.heap.size:=by have:=SW.out;omega
 have len:=hE.len
 have n10:=hl.n
 have hkn:k≤ln:=by omega
 have hnc:ln≤lc:=len.2.1
 have hkl:k≤10:=by omega
 have HLN:=Lib.hid len.1
 have HLI:=Lib.hid hl
 have hEW:=(hE.ext hbW).mono (S' :=(·<W.heap.size)) (fun b h _=>h)
 have hCW:=hC.ext hbW
 have p5:W.cell? ⟨w.heap.size,5,none⟩=some (.slice L ln lc):=aA R0.out 5 _ rfl
 clear len hE hC hl n10 hk
 go_enter Tryz.func20,Tryz.ntmps20
 go_upto_region 1 with fail
 rw [←hW]
 clear hW
 go_wp2_with fail
 refine aM ((fun w' =>w'.heap[w.heap.size]? =some (.cells #[.slice I1 in1 ic1,.slice Q1 k1 d1,.slice Q2 k2 d2,.slice Q3 k3 d3,.slice Q4 k4 d4,.slice L ln lc] 32 (0,0)))) (by kernel_rfl) (by kernel_rfl) (R0.out) ?_
 refine TkB ?_
 refine aE (⟨w.heap.size,0,none⟩) (.agg #[.slice I1 in1 ic1,.slice Q1 k1 d1,.slice Q2 k2 d2,.slice Q3 k3 d3,.slice Q4 k4 d4]) rfl rfl rfl (fun w' hw' =>MK hw') ?_
 refine TkI ?_
 refine TkB ?_
 refine aE (⟨w.heap.size,5,none⟩) (.slice L ln lc) rfl rfl rfl (fun w' hw' =>aG (mO _) (aA hw' 5 _ rfl)) ?_
 refine TkI ?_
 refine TkB ?_
 refine mZ dS (0) (k) (lc) (k) (lc) (l.take k) rfl rfl rfl Tryz.underlying30 (by kernel_rfl) (by first|exact .inl ⟨rfl,rfl⟩|exact .inr ⟨_,_,_,rfl,rfl,by omega⟩) (by first|exact .inl ⟨rfl,rfl,rfl⟩|exact .inr ⟨_,_,_,rfl,rfl,by omega⟩) (by first|exact .inl ⟨rfl,rfl⟩|exact .inr ⟨_,_,_,rfl,rfl,by omega⟩) (hEW) (by omega) (by omega) (by omega) (by omega) (by omega) (by omega) (by first|rfl|(simp;done)|exact (List.take_of_length_le (by simp;omega)).symm) ?_
 intro D hD hDE
 refine TkI ?_
 refine TkB ?_
 obtain ⟨w3,hw3⟩:∃w3,w3=W.drew:=⟨_,rfl⟩
 have g3:Below W.heap.size W w3:=by rw [hw3];exact (Below.refl _ W).drew
 rw [←hw3]
 clear hw3
 have HR:=Lib.hid (yM w3 _ c I1 in1 ic1 Q1 k1 d1 Q2 k2 d2 Q3 k3 d3 Q4 k4 d4 (hCW.ext g3) HLI.out.ci 0 3 ⟨by decide,by decide⟩ ⟨by decide,by decide⟩ D k lc (l.take k) _ (hD.ext g3) (by omega) (fun e he=>HLI.out.r e (List.mem_of_mem_take he)))
 have R03:=Lib.hid ((g3.block w.heap.size (by omega)).trans R0.out)
 have R13:=Lib.hid ((g3.block (w.heap.size+1) sW).trans R1.out)
 have s3:=g3.size
 clear hD hEW hCW p5
 refine aL rfl ?_
 go_wp2_with fail
 refine HR.out.mono ?_
 rintro e w4 ⟨s,E1,p1,q1,E2,p2,q2,E3,p3,q3,E4,p4,q4,rfl,hRR,hM,_,_,_,g4⟩
 have R04:=Lib.hid ((g4.block w.heap.size (by omega)).trans R03.out)
 have R14:=Lib.hid ((g4.block (w.heap.size+1) (by omega)).trans R13.out)
 have s4:=g4.size
 go_wp2_with fail
 refine aI (R04.out) ?_
 refine TkB ?_
 refine aL rfl ?_
 refine aC rfl 51 _ _ rfl (w.heap.size+1) 51 _ _ rfl rfl R14.out (by kernel_rfl) rfl (by simp [Value.oneCell']) ?_
 refine aI ((setRow_other _ _ _ _ (by omega)).trans R04.out) ?_
 refine TkI ?_
 refine TkB ?_
 refine aZ ?_
 go_wp2
 refine bodyPost_ret (bH rfl rfl (aB (setRow_heap _ _ _ _ _ _ R14.out) Tryz.underlying51 rfl (by kernel_rfl))) rfl ?_
 have gE:=aJ w4 (w.heap.size+1) #[.slice E1 p1 q1,.slice E2 p2 q2,.slice E3 p3 q3,.slice E4 p4 q4]
 have b4:=Below.ext (Below.ext hbW g3) g4
 refine ⟨s,E1,p1,q1,E2,p2,q2,E3,p3,q3,E4,p4,q4,rfl,hRR,hM.kept (fun b hb hs=>gE.block b hb (by simp;omega)) (fun b h=>by omega),b4.grown gE b4.size (fun o e=>by cases e;omega)⟩
end Go.Proofs.YtiblijmngokcgaaGreatDoor
