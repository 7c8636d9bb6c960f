import Derived.Test.YtiblijmngokcgaaGreatDoorMacZs
import Derived.Test.YtiblijmngokcgaaGreatDoorRepZs
import Derived.Test.YtiblijmngokcgaaGreatDoorG19Zs
namespace Go.Proofs.YtiblijmngokcgaaGreatDoor
open Go.RowKit
set_option maxRecDepth 100000
set_option linter.unusedVariables false
set_option linter.unusedSimpArgs false
theorem LD {w:World} {b o:Nat} {y:Ev} (hc:∀i u,(cQ y)[i]? =some u→w.cell? ⟨b,o+i,none⟩=some u):(loadVar 78 ⟨b,o,none⟩).run Tryz.prog w= .ok (.agg #[.int .i64 y.k0,.int .i64 y.k1,.int .i64 y.k2,.int .i64 y.k3,.int .i64 y.k4,.int .i64 y.k5,.int .i64 y.k6]) w:=by
 have:=run_loadVar_mid (P:=Tryz.prog) w b o 78 (cQ y) _ (fun j v hv=>hc j v hv) Tryz.underlying78 rfl (by kernel_rfl)
 exact this
set_option maxHeartbeats 8000000 in
theorem yM (w:World) (S:Nat→Prop) (c:Cd) (I1:Option Addr) (in1 ic1:Nat) (P1:Option Addr) (pn1 pc1:Nat) (P2:Option Addr) (pn2 pc2:Nat) (P3:Option Addr) (pn3 pc3:Nat) (P4:Option Addr) (pn4 pc4:Nat) (hC:CdM S w c I1 in1 ic1 P1 pn1 pc1 P2 pn2 pc2 P3 pn3 pc3 P4 pn4 pc4) (hI:CdIn c) (self procs:Int) (hse:InR self) (hpr:InR procs) (L:Option Addr) (ln lc:Nat) (evs:List Ev) (Sl:Nat→Prop) (hE:Recs cQ Sl w (.slice L ln lc) evs) (hle:ln≤64) (hev:∀e∈evs,∀z∈e.l,InR z):
 Calls Tryz.prog 46 #[.agg #[.slice I1 in1 ic1,.slice P1 pn1 pc1,.slice P2 pn2 pc2,.slice P3 pn3 pc3,.slice P4 pn4 pc4],.int .i64 self,.int .i64 procs,.slice L ln lc] w fun e w' =>∃s' B1 m1 d1 B2 m2 d2 B3 m3 d3 B4 m4 d4,e= .returned (.agg #[.slice B1 m1 d1,.slice B2 m2 d2,.slice B3 m3 d3,.slice B4 m4 d4])∧ReplayR c self procs evs s'∧StM (fun b=>w.heap.size≤b) w' s' B1 m1 d1 B2 m2 d2 B3 m3 d3 B4 m4 d4∧SttIn s'∧s'.sent.length≤8*(evs.length+1)∧s'.outs.length≤8*(evs.length+1)∧Below w.heap.size w w' :=by
 have HL:=Lib.hid hE.len.1
 have hlc:=hE.len.2
 obtain ⟨W,hW,hbW,SW,R0,R1⟩:∃W,W=(w.alloc (.cells #[.slice I1 in1 ic1,.slice P1 pn1 pc1,.slice P2 pn2 pc2,.slice P3 pn3 pc3,.slice P4 pn4 pc4] 29)).alloc (.cells #[.slice none 0 0,.slice none 0 0,.slice none 0 0,.slice none 0 0] 51)∧Below w.heap.size w W∧RowKit.Hid (W.heap.size=w.heap.size+2)∧
  RowKit.Hid (W.heap[w.heap.size]? =some (.cells #[.slice I1 in1 ic1,.slice P1 pn1 pc1,.slice P2 pn2 pc2,.slice P3 pn3 pc3,.slice P4 pn4 pc4] 29 (0,0)))∧RowKit.Hid (W.heap[w.heap.size+1]? =some (.cells #[.slice none 0 0,.slice none 0 0,.slice none 0 0,.slice none 0 0] 51 (0,0))):=by
  refine ⟨_,rfl,((Below.refl _ w).alloc (Nat.le_refl _) _).alloc (by simp) _,Lib.hid (by simp),Lib.hid ?_,Lib.hid ?_⟩
  ·exact Tzar
  ·exact Tzcm
 have Hst:=Lib.hid (AE W S c I1 in1 ic1 P1 pn1 pc1 P2 pn2 pc2 P3 pn3 pc3 P4 pn4 pc4 (hC.ext hbW) hI self procs hse hpr)
 have HC:=Lib.hid hC
 have HEV:=Lib.hid hev
 clear hC hev
 go_enter Tryz.func46,Tryz.ntmps46
 go_upto_region 1 with fail
 try rw [←hW]
 clear hW
 go_wp2_with (refine aD (t:=29) (A:=⟨w.heap.size,0,none⟩) rfl rfl rfl (aB R0.out Tryz.underlying29 rfl (by kernel_rfl)) ?_)
 refine Hst.out.mono ?_
 rintro e w1 ⟨s0,A1,n1,c1,A2,n2,c2,A3,n3,c3,A4,n4,c4,rfl,hR0,hM0,hci0,hs01,hs02,hb1⟩
 have sW:=SW.out
 obtain ⟨W2,hW2,b2,k2,S2,R2⟩:=bP w1 w1 #[.slice A1 n1 c1,.slice A2 n2 c2,.slice A3 n3 c3,.slice A4 n4 c4] 51 (Below.refl _ _)
 obtain ⟨b9,hb9⟩:∃b,b=w1.heap.size:=⟨_,rfl⟩
 rw [←hb9] at R2
 have HB9:=Lib.hid hb9
 have s1:=hb1.size
 have h9:w.heap.size+2≤b9:=by omega
 have h9W:b9<W2.heap.size:=by have:=S2.out;omega
 have y1:=Below.ext hbW hb1
 have y2:=Below.ext y1 k2
 have R02:=Lib.hid ((k2.block w.heap.size (by omega)).trans ((hb1.block w.heap.size (by omega)).trans R0.out))
 have R12:=Lib.hid ((k2.block (w.heap.size+1) (by omega)).trans ((hb1.block (w.heap.size+1) (by omega)).trans R1.out))
 have hM2:StM (fun b=>w.heap.size+2≤b∧b≠b9) W2 s0 A1 n1 c1 A2 n2 c2 A3 n3 c3 A4 n4 c4:=by
  have m:∀b,b<w1.heap.size→W.heap.size≤b→w.heap.size+2≤b∧b≠b9:=fun b hb h=>⟨by omega,by omega⟩
  have h0:StM (fun b=>w.heap.size+2≤b∧b≠b9) w1 s0 A1 n1 c1 A2 n2 c2 A3 n3 c3 A4 n4 c4:=⟨hM0.1.mono m,hM0.2.mono m,hM0.3.mono m,hM0.4.mono m⟩
  exact h0.ext k2
 have hev0:s0.evs=[]:=(ExR.pre hR0).2
 have hce0:s0.cells.length=c.init.length:=(ExR.pre hR0).1.cells
 have HR0:=Lib.hid hR0
 have HCE:=Lib.hid hce0
 have HEV0:=Lib.hid hev0
 have HI1:=hI.len
 clear hb9 hM0 hR0 hev0 hce0
 go_upto_region 2 with (refine aF rfl 51 _ _ rfl 51 _ #[.slice A1 n1 c1,.slice A2 n2 c2,.slice A3 n3 c3,.slice A4 n4 c4] rfl rfl (by kernel_rfl) rfl (by simp [Value.oneCell']) ?_)
 rw [←hW2,←HB9.out]
 clear hW2
 try simp only [Act.put]
 go_wp2
 go_loopw [10] (fun a wr=>∃(k:Nat) (s:Stt) (B1:Option Addr) (m1 d1:Nat) (B2:Option Addr) (m2 d2:Nat) (B3:Option Addr) (m3 d3:Nat) (B4:Option Addr) (m4 d4:Nat),a= .int .i64 k∧k≤ln∧RowKit.Hid (wr.heap[w.heap.size]? =some (.cells #[.slice I1 in1 ic1,.slice P1 pn1 pc1,.slice P2 pn2 pc2,.slice P3 pn3 pc3,.slice P4 pn4 pc4] 29 (0,0)))∧RowKit.Hid (wr.heap[w.heap.size+1]? =some (.cells #[.slice none 0 0,.slice none 0 0,.slice none 0 0,.slice none 0 0] 51 (0,0)))∧RowKit.Hid (wr.heap[b9]? =some (.cells #[.slice B1 m1 d1,.slice B2 m2 d2,.slice B3 m3 d3,.slice B4 m4 d4] 51 (0,0)))∧RowKit.Hid (RepR c self procs s0 (evs.take k) s)∧StM (fun b=>w.heap.size+2≤b∧b≠b9) wr s B1 m1 d1 B2 m2 d2 B3 m3 d3 B4 m4 d4∧RowKit.Hid (∀z∈s.cells,InR z)∧s.sent.length≤8*(k+1)∧s.outs.length≤8*(k+1)∧Below w.heap.size w wr) (fun a _=>ln-(intOf a).toNat)
 case atStart=>exact ⟨0,s0,A1,n1,c1,A2,n2,c2,A3,n3,c3,A4,n4,c4,rfl,by omega,R02,R12,R2,Lib.hid (by simpa using RepR.nil s0),hM2,Lib.hid hci0,by omega,by omega,y2⟩
 case round=>
  obtain ⟨k,s,B1,m1,d1,B2,m2,d2,B3,m3,d3,B4,m4,d4,rfl,hk,HH0,HH1,HH9,hrep,hM,hcin,hsn,hou,hb⟩:=hrel
  have h9r:b9<wr.heap.size:=(Array.getElem?_eq_some_iff.1 HH9.out).1
  by_cases hlt:k<ln
  ·obtain ⟨b,off,x,rfl,hS,hbb,hx,hcx⟩:=hE.at_ dS (j:=k) (by have:=HL.out;omega) (by omega)
   have HX:=Lib.hid (fun (w' :World) (h:Below wr.heap.size wr w') i u h2=>((Below.ext hb h).cell (p:=⟨b,off+k*7+i,none⟩) hbb).trans (hcx i u h2))
   have hxe:=HEV.out x (List.mem_of_getElem? hx)
   have hpre:=RepR.pre hrep.out
   have hevs:s.evs.length=k:=by rw [hpre.2,HEV0.out];simp;have:=HL.out;omega
   have hcl:s.cells.length≤1000:=by rw [hpre.1.cells,HCE.out];omega
   have hMd:StM (fun b=>(w.heap.size+2≤b∧b≠b9)∧b<wr.heap.size) wr.drew s B1 m1 d1 B2 m2 d2 B3 m3 d3 B4 m4 d4:=by
    have m:∀b,b<wr.heap.size→(w.heap.size+2≤b∧b≠b9)→(w.heap.size+2≤b∧b≠b9)∧b<wr.heap.size:=fun b hb h=>⟨h,hb⟩
    have h0:StM (fun b=>(w.heap.size+2≤b∧b≠b9)∧b<wr.heap.size) wr s B1 m1 d1 B2 m2 d2 B3 m3 d3 B4 m4 d4:=⟨hM.1.mono m,hM.2.mono m,hM.3.mono m,hM.4.mono m⟩
    exact h0.ext (Below.refl _ wr).drew
   have Hnx:=Lib.hid (EU wr.drew S c I1 in1 ic1 P1 pn1 pc1 P2 pn2 pc2 P3 pn3 pc3 P4 pn4 pc4 (HC.out.ext (Below.ext hb (Below.refl _ wr).drew)) hI self procs hse hpr s B1 m1 d1 B2 m2 d2 B3 m3 d3 B4 m4 d4 _ hMd ⟨hcin.out,hcl,by omega,by omega,by omega⟩ (by omega) x hxe)
   have HSN:=Lib.hid (fun s' (h:NextR c self procs s x s')=>RepR.snoc hrep.out h)
   have htk:evs.take (k+1)=evs.take k++ [x]:=by rw [List.take_add_one,hx];rfl
   rw [←htk] at HSN
   have HSW:=Lib.hid (show Below wr.heap.size wr wr.drew from (Below.refl _ wr).drew)
   clear hcx hx hxe hpre htk hMd hrep hM
   go_upto_region 5 with fail
   go_wp2_with fail
   refine iZ (fun w' =>Below wr.heap.size wr w') 9 (by kernel_rfl) (by kernel_rfl) (by kernel_rfl) (by decide) HSW.out ?_
   simp only [List.take_succ_cons,List.take_zero,List.drop_succ_cons,List.drop_zero]
   refine TkA ?_
   refine aE (⟨w.heap.size,0,none⟩) (.agg #[.slice I1 in1 ic1,.slice P1 pn1 pc1,.slice P2 pn2 pc2,.slice P3 pn3 pc3,.slice P4 pn4 pc4]) rfl rfl rfl (fun w' hw' =>aB ((hw'.block w.heap.size (by omega)).trans HH0.out) Tryz.underlying29 rfl (by kernel_rfl)) ?_
   refine TkI ?_
   refine TkA ?_
   refine aE (⟨b9,0,none⟩) (.agg #[.slice B1 m1 d1,.slice B2 m2 d2,.slice B3 m3 d3,.slice B4 m4 d4]) rfl rfl rfl (fun w' hw' =>aB ((hw'.block b9 h9r).trans HH9.out) Tryz.underlying51 rfl (by kernel_rfl)) ?_
   refine TkI ?_
   refine TkA ?_
   refine aE (⟨b,off+k*7,none⟩) (.agg #[.int .i64 x.k0,.int .i64 x.k1,.int .i64 x.k2,.int .i64 x.k3,.int .i64 x.k4,.int .i64 x.k5,.int .i64 x.k6]) rfl rfl rfl (fun w' hw' =>LD (HX.out w' hw')) ?_
   refine TkI ?_
   refine TkA ?_
   refine aL rfl ?_
   go_wp2_with fail
   refine Hnx.out.mono ?_
   rintro e w5 ⟨s',D1,p1,q1,D2,p2,q2,D3,p3,q3,D4,p4,q4,rfl,hN,hM5,hci5,hs5,ho5,hb5⟩
   have z5:Below wr.heap.size wr w5:=Below.ext (Below.refl _ wr).drew hb5
   have HH95:=Lib.hid ((z5.block b9 h9r).trans HH9.out)
   have HH05:=Lib.hid ((z5.block w.heap.size (by omega)).trans HH0.out)
   have HH15:=Lib.hid ((z5.block (w.heap.size+1) (by omega)).trans HH1.out)
   have s5:=z5.size
   go_wp2_with fail
   refine aI (z5) ?_
   refine TkA ?_
   refine aZ ?_
   obtain ⟨w6,hw6⟩:∃w6,w6=w5.setRow b9 #[.slice D1 p1 q1,.slice D2 p2 q2,.slice D3 p3 q3,.slice D4 p4 q4]:=⟨_,rfl⟩
   have g6:w5.grownBy w6 (some b9):=by rw [hw6];exact aJ _ _ _
   have HH96:=Lib.hid (show w6.heap[b9]? =some (.cells #[.slice D1 p1 q1,.slice D2 p2 q2,.slice D3 p3 q3,.slice D4 p4 q4] 51 (0,0)) by rw [hw6];exact setRow_heap _ _ _ _ _ _ HH95.out)
   have HH06:=Lib.hid ((g6.block w.heap.size (by omega) (by simp;omega)).trans HH05.out)
   have HH16:=Lib.hid ((g6.block (w.heap.size+1) (by omega) (by simp;omega)).trans HH15.out)
   have b6:Below w.heap.size w w6:=(Below.ext hb z5).grown g6 (by omega) (fun b hb=>by cases hb;omega)
   have hM6:StM (fun b=>w.heap.size+2≤b∧b≠b9) w6 s' D1 p1 q1 D2 p2 q2 D3 p3 q3 D4 p4 q4:=by
    have m:∀b,b<w5.heap.size→(((w.heap.size+2≤b∧b≠b9)∧b<wr.heap.size)∨wr.drew.heap.size≤b)→w.heap.size+2≤b∧b≠b9:=fun b hb h=>by
     have e:wr.drew.heap.size=wr.heap.size:=rfl
     rw [e] at h
     omega
    have h0:StM (fun b=>w.heap.size+2≤b∧b≠b9) w5 s' D1 p1 q1 D2 p2 q2 D3 p3 q3 D4 p4 q4:=⟨hM5.1.mono m,hM5.2.mono m,hM5.3.mono m,hM5.4.mono m⟩
    have kk:Keep (fun b=>w.heap.size+2≤b∧b≠b9) w5 w6:=fun q hq h=>g6.block q hq (by have:=h.2;simp;omega)
    exact ⟨h0.1.keep kk,h0.2.keep kk,h0.3.keep kk,h0.4.keep kk⟩
   have HREP:=Lib.hid (HSN.out s' hN)
   clear hM5 g6 hb5
   go_wp2_with (refine aC rfl 51 _ _ rfl b9 51 _ _ rfl rfl HH95.out (by kernel_rfl) rfl (by simp [Value.oneCell']) ?_)
   rw [←hw6,mF]
   clear hw6
   go_wp2
   go_roundw
   case rel=>exact ⟨k+1,s',D1,p1,q1,D2,p2,q2,D3,p3,q3,D4,p4,q4,by go_num,by omega,HH06,HH16,HH96,HREP,hM6,Lib.hid hci5,by omega,by omega,b6⟩
   case measure=>simp [intOf];omega
  ·obtain rfl:k=ln:=by omega
   have htk:evs.take k=evs:=by rw [List.take_of_length_le (by have:=HL.out;omega)]
   rw [htk] at hrep
   have hrp:=hrep.out
   have hpre:=RepR.pre hrp
   go_wp2_with (first|(refine aD (t:=51) (A:=⟨b9,0,none⟩) rfl rfl rfl (aB HH9.out Tryz.underlying51 rfl (by kernel_rfl)) ?_)|(refine aC rfl 51 _ _ rfl (w.heap.size+1) 51 _ _ rfl rfl HH1.out (by kernel_rfl) rfl (by simp [Value.oneCell']) ?_))
   refine bodyPost_ret (bH rfl rfl (aB (setRow_heap _ _ _ _ _ _ HH1.out) Tryz.underlying51 rfl (by kernel_rfl))) rfl ?_
   have g6:=aJ wr (w.heap.size+1) #[.slice B1 m1 d1,.slice B2 m2 d2,.slice B3 m3 d3,.slice B4 m4 d4]
   have kk:Keep (fun b=>w.heap.size+2≤b∧b≠b9) wr (wr.setRow (w.heap.size+1) #[.slice B1 m1 d1,.slice B2 m2 d2,.slice B3 m3 d3,.slice B4 m4 d4]):=fun q hq h=>g6.block q hq (by have:=h.1;simp;omega)
   have m:∀b,b<(wr.setRow (w.heap.size+1) #[.slice B1 m1 d1,.slice B2 m2 d2,.slice B3 m3 d3,.slice B4 m4 d4]).heap.size→(w.heap.size+2≤b∧b≠b9)→w.heap.size≤b:=fun b _ h=>by omega
   have hel:=HL.out
   refine ⟨s,B1,m1,d1,B2,m2,d2,B3,m3,d3,B4,m4,d4,rfl,⟨s0,HR0.out,hrp⟩,⟨(hM.1.keep kk).mono m,(hM.2.keep kk).mono m,(hM.3.keep kk).mono m,(hM.4.keep kk).mono m⟩,⟨hcin.out,by rw [hpre.1.cells,HCE.out];omega,by rw [hpre.2,HEV0.out];simp;omega,by omega,by omega⟩,by omega,by omega,hb.grown g6 (by omega) (fun b hb=>by cases hb;omega)⟩
end Go.Proofs.YtiblijmngokcgaaGreatDoor
