import Derived.Test.YtiblijmngokcgaaGreatDoorMacZs
import Derived.Test.YtiblijmngokcgaaGreatDoorG22Zs
import Derived.Test.YtiblijmngokcgaaGreatDoorG24Zs
import Derived.Test.YtiblijmngokcgaaGreatDoorFloatsZs
import Derived.ArgAppend
import Derived.Great.BuildSlice
namespace Go.Proofs.YtiblijmngokcgaaGreatDoor
open Go.RowKit
set_option maxRecDepth 100000
set_option linter.unusedVariables false
set_option linter.unusedSimpArgs false
structure CdM (S:Nat→Prop) (w:World) (c:Cd) (I1:Option Addr) (in1 ic1:Nat) (P1:Option Addr) (pn1 pc1:Nat) (P2:Option Addr) (pn2 pc2:Nat) (P3:Option Addr) (pn3 pc3:Nat) (P4:Option Addr) (pn4 pc4:Nat):Prop where
 init:Recs bJ S w (.slice I1 in1 ic1) c.init
 st:LsOk bM (SmOk 3 S w) S w (.slice P1 pn1 pc1) c.st
 me:LsOk bM (SmOk 3 S w) S w (.slice P2 pn2 pc2) c.me
 ti:LsOk bM (SmOk 3 S w) S w (.slice P3 pn3 pc3) c.ti
 inp:LsOk bM (SmOk 3 S w) S w (.slice P4 pn4 pc4) c.inp
structure CdIn (c:Cd):Prop where
 init:∀z∈c.init,InR z
 len:c.init.length≤30
 st:∀s∈c.st,RsS 3 s
 me:∀s∈c.me,RsS 3 s
 ti:∀s∈c.ti,RsS 3 s
 inp:∀s∈c.inp,RsS 3 s
theorem CdM.ext {S:Nat→Prop} {w w' :World} {c:Cd} {I1:Option Addr} {in1 ic1:Nat} {P1:Option Addr} {pn1 pc1:Nat} {P2:Option Addr} {pn2 pc2:Nat} {P3:Option Addr} {pn3 pc3:Nat} {P4:Option Addr} {pn4 pc4:Nat} (h:CdM S w c I1 in1 ic1 P1 pn1 pc1 P2 pn2 pc2 P3 pn3 pc3 P4 pn4 pc4) (hb:Below w.heap.size w w'):CdM S w' c I1 in1 ic1 P1 pn1 pc1 P2 pn2 pc2 P3 pn3 pc3 P4 pn4 pc4:=
 ⟨h.1.ext hb,h.2.keep (Keep.of_below hb) (fun y u h=>SmOk.keep (Keep.of_below hb) 3 y u h),h.3.keep (Keep.of_below hb) (fun y u h=>SmOk.keep (Keep.of_below hb) 3 y u h),h.4.keep (Keep.of_below hb) (fun y u h=>SmOk.keep (Keep.of_below hb) 3 y u h),h.5.keep (Keep.of_below hb) (fun y u h=>SmOk.keep (Keep.of_below hb) 3 y u h)⟩
theorem tY {S:Nat→Prop} {w:World} {v:Value} {ts:List Sm} (h:LsOk bM (SmOk 3 S w) S w v ts):LsOk bM (SmOk 3 (·<w.heap.size) w) (·<w.heap.size) w v ts:=h.mono (fun b hb _=>hb) (fun y u h=>SmOk.mono (fun b hb _=>hb) 3 y u h)
set_option maxHeartbeats 2000000 in
theorem AE (w:World) (S:Nat→Prop) (c:Cd) (I1:Option Addr) (in1 ic1:Nat) (P1:Option Addr) (pn1 pc1:Nat) (P2:Option Addr) (pn2 pc2:Nat) (P3:Option Addr) (pn3 pc3:Nat) (P4:Option Addr) (pn4 pc4:Nat) (hC:CdM S w c I1 in1 ic1 P1 pn1 pc1 P2 pn2 pc2 P3 pn3 pc3 P4 pn4 pc4) (hI:CdIn c) (self procs:Int) (hse:InR self) (hpr:InR procs):
 Calls Tryz.prog 105 #[.agg #[.slice I1 in1 ic1,.slice P1 pn1 pc1,.slice P2 pn2 pc2,.slice P3 pn3 pc3,.slice P4 pn4 pc4],.int .i64 self,.int .i64 procs] w fun e w' =>∃s' B1 m1 d1 B2 m2 d2 B3 m3 d3 B4 m4 d4,e= .returned (.agg #[.slice B1 m1 d1,.slice B2 m2 d2,.slice B3 m3 d3,.slice B4 m4 d4])∧DJ c self procs s'∧StM (fun b=>w.heap.size≤b) w' s' B1 m1 d1 B2 m2 d2 B3 m3 d3 B4 m4 d4∧(∀z∈s'.cells,InR z)∧s'.sent.length≤8∧s'.outs.length≤8∧Below w.heap.size w w' :=by
 obtain ⟨W,hW,hbW,SW,R0,R1⟩:∃W,W=(w.alloc (.cells #[.slice I1 in1 ic1,.slice P1 pn1 pc1,.slice P2 pn2 pc2,.slice P3 pn3 pc3,.slice P4 pn4 pc4] 29)).alloc (.cells #[.slice none 0 0,.slice none 0 0,.slice none 0 0,.slice none 0 0] 51)∧Below w.heap.size w W∧RowKit.Hid (W.heap.size=w.heap.size+2)∧
  RowKit.Hid (W.heap[w.heap.size]? =some (.cells #[.slice I1 in1 ic1,.slice P1 pn1 pc1,.slice P2 pn2 pc2,.slice P3 pn3 pc3,.slice P4 pn4 pc4] 29 (0,0)))∧RowKit.Hid (W.heap[w.heap.size+1]? =some (.cells #[.slice none 0 0,.slice none 0 0,.slice none 0 0,.slice none 0 0] 51 (0,0))):=by
  refine ⟨_,rfl,((Below.refl _ w).alloc (Nat.le_refl _) _).alloc (by simp) _,Lib.hid (by simp),Lib.hid ?_,Lib.hid ?_⟩
  ·exact Tzar
  ·exact Tzcm
 have q0:W.cell? ⟨w.heap.size,0,none⟩=some (.slice I1 in1 ic1):=aA R0.out 0 _ rfl
 have q1:W.cell? ⟨w.heap.size,1,none⟩=some (.slice P1 pn1 pc1):=aA R0.out 1 _ rfl
 have hCW:=hC.ext hbW
 have hex:=jL 3 W _ ⟨c.init,[],[],[]⟩ I1 in1 ic1 none 0 0 none 0 0 none 0 0 ⟨hCW.1,Recs.nil_ _ _,Recs.nil_ _ _,Recs.nil_ _ _⟩ ⟨hI.init,by have:=hI.len;show c.init.length≤1000;omega,by simp,by simp,by simp⟩ P1 pn1 pc1 c.st ⟨self,procs,self,0⟩ 0 (tY hCW.2) hI.st ⟨hse,hpr,hse,(show InR 0 from ⟨by decide,by decide⟩)⟩
 have Hex:=Lib.hid hex
 clear hex hC hCW
 go_enter Tryz.func105,Tryz.ntmps105
 go_upto_region 1 with fail
 try rw [←hW]
 clear hW
 go_wp2_with fail
 refine Hex.out.mono ?_
 rintro e w2 ⟨s',B1,m1,d1,B2,m2,d2,B3,m3,d3,B4,m4,d4,rfl,hR,⟨g1,g2,g3,g4⟩,hci,hs1,hs2,hb2⟩
 have sW:=SW.out
 have R12:=Lib.hid ((hb2.block (w.heap.size+1) (by omega)).trans R1.out)
 go_wp2_with (refine aC rfl 51 _ _ rfl (w.heap.size+1) 51 _ _ rfl rfl R12.out (by kernel_rfl) rfl (by simp [Value.oneCell']) ?_)
 refine bodyPost_ret (bH rfl rfl (aB (setRow_heap _ _ _ _ _ _ R12.out) Tryz.underlying51 rfl (by kernel_rfl))) rfl ?_
 have k6:=aJ w2 (w.heap.size+1) #[.slice B1 m1 d1,.slice B2 m2 d2,.slice B3 m3 d3,.slice B4 m4 d4]
 have hs2' :=hb2.size
 have hbf:Below w.heap.size w (w2.setRow (w.heap.size+1) #[.slice B1 m1 d1,.slice B2 m2 d2,.slice B3 m3 d3,.slice B4 m4 d4]):=((hbW.trans (hb2.mono (by omega))).grown k6 (by omega) (fun b hb=>by cases hb;omega))
 have kk:Keep (W.heap.size≤·) w2 (w2.setRow (w.heap.size+1) #[.slice B1 m1 d1,.slice B2 m2 d2,.slice B3 m3 d3,.slice B4 m4 d4]):=fun b hb h=>k6.block b hb (by have h2:W.heap.size≤b:=h;simp;omega)
 have up:∀b,b<(w2.setRow (w.heap.size+1) #[.slice B1 m1 d1,.slice B2 m2 d2,.slice B3 m3 d3,.slice B4 m4 d4]).heap.size→W.heap.size≤b→w.heap.size≤b:=fun b _ h=>by omega
 have hev:s'.evs=[]:=(ExR.pre hR).2
 rw [hev] at g2
 refine ⟨s',B1,m1,d1,B2,m2,d2,B3,m3,d3,B4,m4,d4,rfl,hR,⟨(g1.keep kk).mono up,?_,(g3.keep kk).mono up,(g4.keep kk).mono up⟩,hci,by simpa using hs1,by simpa using hs2,hbf⟩
 rw [hev]
 obtain ⟨a1,a2,a3,a4,a5,_⟩:=g2
 exact ⟨a1,a2,a3,a4,a5,Cs.nil_ _ _ _⟩
theorem NI (w:World) (c5 s4 e7:Array Value):∃W,W=(((w.alloc (.cells c5 29)).alloc (.cells s4 51)).alloc (.cells e7 78)).alloc (.cells #[.slice none 0 0,.slice none 0 0,.slice none 0 0,.slice none 0 0] 51)∧Below w.heap.size w W∧RowKit.Hid (W.heap.size=w.heap.size+4)∧
 RowKit.Hid (W.heap[w.heap.size]? =some (.cells c5 29 (0,0)))∧RowKit.Hid (W.heap[w.heap.size+1]? =some (.cells s4 51 (0,0)))∧RowKit.Hid (W.heap[w.heap.size+2]? =some (.cells e7 78 (0,0)))∧RowKit.Hid (W.heap[w.heap.size+3]? =some (.cells #[.slice none 0 0,.slice none 0 0,.slice none 0 0,.slice none 0 0] 51 (0,0))):=by
 obtain ⟨w1,h1,b1,s1,r1⟩:=fG w c5 29
 obtain ⟨w2,h2,b2,s2,r2⟩:=fG w1 s4 51
 obtain ⟨w3,h3,b3,s3,r3⟩:=fG w2 e7 78
 obtain ⟨w4,h4,b4,s4',r4⟩:=fG w3 #[.slice none 0 0,.slice none 0 0,.slice none 0 0,.slice none 0 0] 51
 refine ⟨w4,by rw [h4,h3,h2,h1],Below.ext b1 (Below.ext b2 (Below.ext b3 b4)),Lib.hid (by omega),Lib.hid ?_,Lib.hid ?_,Lib.hid ?_,Lib.hid ?_⟩
 ·exact (b4.block _ (by omega)).trans ((b3.block _ (by omega)).trans ((b2.block _ (by omega)).trans r1))
 ·rw [s1] at r2;exact (b4.block _ (by omega)).trans ((b3.block _ (by omega)).trans r2)
 ·rw [s2,s1] at r3;exact (b4.block _ (by omega)).trans r3
 ·rw [s3,s2,s1] at r4;exact r4
theorem CH {w w' :World} (hg:w.grownBy w' (Value.slice none 0 0).ownBlock):Below w.heap.size w w' :=(Below.refl _ w).grown hg (Nat.le_refl _) (fun k e=>by cases e)
theorem oU {P:Program} {o:Oper} {ρ:Operand→Value} {w:World} {T:TypeId} {len:Nat} {parts:Array (Nat×Operand)} {ps:Array (Nat×Value)} {v:Value} {w' :World} (ho:o.op= .buildSlice T len parts) (hp:(parts.map fun (i,x)=>(i,ρ x))=ps) (h:(Instr.buildSlice T len ps).run P w= .ok v w'):(execOp ρ o).run P w= .ok (.value v) w' :=by
 unfold execOp
 simp only [ho,hp,Sem.run_bind,h,Result.andThen_ok]
 rfl
theorem MR (e:Ev) (w:World):(Instr.buildSlice 30 1 #[(0,.agg #[.int .i64 e.k0,.int .i64 e.k1,.int .i64 e.k2,.int .i64 e.k3,.int .i64 e.k4,.int .i64 e.k5,.int .i64 e.k6])]).run Tryz.prog w= .ok (.slice (some ⟨w.heap.size,0,none⟩) 1 1) (w.alloc (.cells #[.int .i64 e.k0,.int .i64 e.k1,.int .i64 e.k2,.int .i64 e.k3,.int .i64 e.k4,.int .i64 e.k5,.int .i64 e.k6] 78)):=by
 obtain ⟨i,hi,hz,hsz,hby⟩:=info_parts pB
 exact run_buildSlice w _ _ 1 _ _ i _ Tryz.underlying30 hi hz (by rw [hsz];omega) (by rw [hsz];omega) (by rw [hsz];kernel_rfl)
theorem LM (e:Ev) (w:World) (X:Nat) (h:w.heap[X]? =some (.cells #[.int .i64 e.k0,.int .i64 e.k1,.int .i64 e.k2,.int .i64 e.k3,.int .i64 e.k4,.int .i64 e.k5,.int .i64 e.k6] 78 (0,0))):Recs cQ (·=X) w (.slice (some ⟨X,0,none⟩) 1 1) [e]:=
 ⟨_,1,rfl,by simp,by simp [maxLen],fun _=>⟨X,0,rfl,rfl,fun j u hu=>by
  rw [cell_of_row _ _ _ _ _ _ h,Nat.zero_add]
  have e2:[e].flatMap cQ= #[.int .i64 e.k0,.int .i64 e.k1,.int .i64 e.k2,.int .i64 e.k3,.int .i64 e.k4,.int .i64 e.k5,.int .i64 e.k6].toList:=rfl
  rw [e2] at hu
  simpa using hu⟩⟩
set_option maxHeartbeats 8000000 in
theorem EU (w:World) (S:Nat→Prop) (c:Cd) (I1:Option Addr) (in1 ic1:Nat) (P1:Option Addr) (pn1 pc1:Nat) (P2:Option Addr) (pn2 pc2:Nat) (P3:Option Addr) (pn3 pc3:Nat) (P4:Option Addr) (pn4 pc4:Nat) (hC:CdM S w c I1 in1 ic1 P1 pn1 pc1 P2 pn2 pc2 P3 pn3 pc3 P4 pn4 pc4) (hI:CdIn c) (self procs:Int) (hse:InR self) (hpr:InR procs) (s:Stt) (A1:Option Addr) (n1 c1:Nat) (A2:Option Addr) (n2 c2:Nat) (A3:Option Addr) (n3 c3:Nat) (A4:Option Addr) (n4 c4:Nat) (Ss:Nat→Prop) (hM:StM Ss w s A1 n1 c1 A2 n2 c2 A3 n3 c3 A4 n4 c4) (hS:SttIn s) (hev:s.evs.length≤900) (e:Ev) (he:∀z∈e.l,InR z):
 Calls Tryz.prog 106 #[.agg #[.slice I1 in1 ic1,.slice P1 pn1 pc1,.slice P2 pn2 pc2,.slice P3 pn3 pc3,.slice P4 pn4 pc4],.int .i64 self,.int .i64 procs,.agg #[.slice A1 n1 c1,.slice A2 n2 c2,.slice A3 n3 c3,.slice A4 n4 c4],.agg #[.int .i64 e.k0,.int .i64 e.k1,.int .i64 e.k2,.int .i64 e.k3,.int .i64 e.k4,.int .i64 e.k5,.int .i64 e.k6]] w fun e' w' =>∃s' B1 m1 d1 B2 m2 d2 B3 m3 d3 B4 m4 d4,e' = .returned (.agg #[.slice B1 m1 d1,.slice B2 m2 d2,.slice B3 m3 d3,.slice B4 m4 d4])∧NextR c self procs s e s'∧StM (fun b=>Ss b∨w.heap.size≤b) w' s' B1 m1 d1 B2 m2 d2 B3 m3 d3 B4 m4 d4∧(∀z∈s'.cells,InR z)∧s'.sent.length≤s.sent.length+8∧s'.outs.length≤s.outs.length+8∧Below w.heap.size w w' :=by
 obtain ⟨W,hW,hbW,SW,R0,R1,R2,R3⟩:=NI w #[.slice I1 in1 ic1,.slice P1 pn1 pc1,.slice P2 pn2 pc2,.slice P3 pn3 pc3,.slice P4 pn4 pc4] #[.slice A1 n1 c1,.slice A2 n2 c2,.slice A3 n3 c3,.slice A4 n4 c4] #[.int .i64 e.k0,.int .i64 e.k1,.int .i64 e.k2,.int .i64 e.k3,.int .i64 e.k4,.int .i64 e.k5,.int .i64 e.k6]
 go_enter Tryz.func106,Tryz.ntmps106
 go_upto_region 1 with fail
 try rw [←hW]
 clear hW
 have hl2:=hM.2.len
 have HL2:=Lib.hid hl2.1
 have hc2:=hl2.2
 have hn2:n2≤900:=by omega
 clear hl2
 have hMW:=hM.ext hbW
 have hb1:w.heap.size+1<W.heap.size:=by have:=SW.out;omega
 have hb2:w.heap.size+2<W.heap.size:=by have:=SW.out;omega
 go_wp2_with fail
 try (go_wp2_with fail)
 refine kQ true (fun w' =>w'.heap[w.heap.size+1]? =some (.cells #[.slice A1 n1 c1,.slice A2 n2 c2,.slice A3 n3 c3,.slice A4 n4 c4] 51 (0,0))∧w'.heap[w.heap.size+2]? =some (.cells #[.int .i64 e.k0,.int .i64 e.k1,.int .i64 e.k2,.int .i64 e.k3,.int .i64 e.k4,.int .i64 e.k5,.int .i64 e.k6] 78 (0,0))) [16] ((fun _=> .cells #[.int .i64 e.k0,.int .i64 e.k1,.int .i64 e.k2,.int .i64 e.k3,.int .i64 e.k4,.int .i64 e.k5,.int .i64 e.k6] 78)) (fun _ X=> .slice (some ⟨X,0,none⟩) 1 1) (by kernel_rfl) (by kernel_rfl) (fun _ _ w' h=>⟨jR h.1 _,jR h.2 _⟩) (⟨R1.out,R2.out⟩) ?_
 refine TkD ?_
 refine jT (⟨w.heap.size+1,1,none⟩) (.slice A2 n2 c2) rfl rfl rfl rfl (fun w' hw' =>aG (mO _) (aA hw'.1 1 _ rfl)) ?_
 refine TkI ?_
 refine TkD ?_
 refine oX rfl rfl (fun m1 v1 hE1=> ?_)
 have x1:=hE1.bxs (Bxs.none_ W.heap.size _ _) (Nat.le_refl _)
 have y1:Below W.heap.size W v1:=Below.ext (Below.refl _ W).drew hE1.bel
 refine aV dS iI (.agg #[.int .i64 0,.int .i64 0,.int .i64 0,.int .i64 0,.int .i64 0,.int .i64 0,.int .i64 0]) 56 _ _ 30 78 v1.heap.size ([]:List Ev) s.evs A2 n2 c2 (.slice none 0 0) n2 rfl rfl Tryz.underlying30 pB rfl (by omega) rfl rfl (OwnR.nil_ _ _ _) (hMW.2.ext y1) (by simp) (by simp;omega) (by simp;omega) (Nat.le_refl _) ?_
 intro A5 c5 w5 hO5 hgr5 hat5 hc51 hc52
 rw [List.nil_append] at hO5
 have hb5:=CH hgr5
 have y5:=Below.ext y1 hb5
 have x5:=x1.ext hb5
 have P5:=Lib.hid ((y5.block (w.heap.size+1) hb1).trans R1.out)
 have Q5:=Lib.hid ((y5.block (w.heap.size+2) hb2).trans R2.out)
 have ho5:∀o,(Value.slice A5 n2 c5).ownBlock=some o→(v1.heap.size≤o∧o<w5.heap.size)∧∀e,m1 e≠some o:=fun o e=>by
  have:=World.ownsRow.lt hO5 o e
  exact ⟨this,fun e2=>x1.lt this.1⟩
 go_wp2_with fail
 refine kV (⟨P5.out,Q5.out⟩) ?_
 refine TkD ?_
 refine jT (⟨w.heap.size+2,0,none⟩) (.agg #[.int .i64 e.k0,.int .i64 e.k1,.int .i64 e.k2,.int .i64 e.k3,.int .i64 e.k4,.int .i64 e.k5,.int .i64 e.k6]) rfl rfl rfl rfl (fun w' hw' =>aB hw'.2 Tryz.underlying78 rfl (by kernel_rfl)) ?_
 refine TkI ?_
 refine TkD ?_
 refine tX 16 rfl (⟨rfl,fun w' =>oU rfl (by rw [List.map_toArray];rfl) (MR e w')⟩) (fun m2 v2 X hE2 hX=> ?_)
 refine TkI ?_
 refine TkD ?_
 refine oX rfl rfl (fun m3 v3 hE3=> ?_)
 have hE23:=hE2.trans hE3
 have x3:=hE23.bxs x5 y5.size
 have y3:=Below.ext y5 hE23.bel
 have hX3:=hE3.keeps hX
 have rowX:=(x3 16 X hX3).2
 have sv3:=hE23.bel.size
 have sv5:=hb5.size
 refine aV dS iI (.agg #[.int .i64 0,.int .i64 0,.int .i64 0,.int .i64 0,.int .i64 0,.int .i64 0,.int .i64 0]) 56 _ _ 30 78 v1.heap.size s.evs [e] (some ⟨X,0,none⟩) 1 1 (.slice A5 n2 c5) (n2+1) rfl rfl Tryz.underlying30 pB rfl (by omega) rfl rfl (hO5.ext hE23.bel) (LM e v3 X rowX) (by rw [HL2.out]) (by rw [HL2.out];omega) (by rw [HL2.out];omega) (by omega) ?_
 intro A6 c6 w6 hO6 hgr6 hat6 hc61 hc62
 have hb6:Below v1.heap.size v1 w6:=OwnR.grow (hO5.ext hE23.bel) hgr6 (Below.ext hb5 hE23.bel) (Nat.le_refl _) (by omega)
 have y6:=Below.ext y1 hb6
 have P6:=Lib.hid ((y6.block (w.heap.size+1) hb1).trans R1.out)
 have Q6:=Lib.hid ((y6.block (w.heap.size+2) hb2).trans R2.out)
 go_wp2_with fail
 refine kV (⟨P6.out,Q6.out⟩) ?_
 refine TkD ?_
 refine yT rfl rfl ((by simp [hX3])) ?_
 have q1:w6.cell? ⟨w.heap.size+1,1,none⟩=some (.slice A2 n2 c2):=aA P6.out 1 _ rfl
 have f1:w6.frozen? ⟨w.heap.size+1,1,none⟩=false:=frozen_of_row _ _ _ _ _ P6.out
 obtain ⟨W7,hW7⟩:∃W7,W7=w6.setCell ⟨w.heap.size+1,1,none⟩ (.slice A6 (n2+1) c6):=⟨_,rfl⟩
 have g7:w6.grownBy W7 (some (w.heap.size+1)):=by rw [hW7];exact aO (bC _ _)
 have b7:Below w.heap.size w W7:=by rw [hW7];exact Below.setCell (Below.ext hbW y6) (show w.heap.size≤w.heap.size+1 by omega) _
 have s6:=y6.size
 have s7:w6.heap.size≤W7.heap.size:=g7.size
 have R17:=Lib.hid (show W7.heap[w.heap.size+1]? =some (.cells #[.slice A1 n1 c1,.slice A6 (n2+1) c6,.slice A3 n3 c3,.slice A4 n4 c4] 51 (0,0)) by rw [hW7];exact heap_setCell_same _ _ _ _ _ _ P6.out)
 have sW:=SW.out
 have R07:=Lib.hid ((g7.block w.heap.size (by omega) (by simp)).trans ((y6.block w.heap.size (by omega)).trans R0.out))
 have R27:=Lib.hid ((g7.block (w.heap.size+2) (by omega) (by simp)).trans Q6.out)
 have R37:=Lib.hid ((g7.block (w.heap.size+3) (by omega) (by simp)).trans ((y6.block (w.heap.size+3) (by omega)).trans R3.out))
 have kS:Keep (fun b=>Ss b∧b<w.heap.size) W W7:=fun q hq h=>(g7.block q (by omega) (by have:=h.2;simp;omega)).trans (y6.block q hq)
 have hM0:StM (fun b=>Ss b∧b<w.heap.size) W s A1 n1 c1 A2 n2 c2 A3 n3 c3 A4 n4 c4:=by
  have h0:StM (fun b=>Ss b∧b<w.heap.size) w s A1 n1 c1 A2 n2 c2 A3 n3 c3 A4 n4 c4:=⟨hM.1.mono (fun b hb h=>⟨h,hb⟩),hM.2.mono (fun b hb h=>⟨h,hb⟩),hM.3.mono (fun b hb h=>⟨h,hb⟩),hM.4.mono (fun b hb h=>⟨h,hb⟩)⟩
  exact h0.ext hbW
 have hO7:Recs cQ (fun b=>(Ss b∧b<w.heap.size)∨w.heap.size+4≤b) W7 (.slice A6 (n2+1) c6) (s.evs++ [e]):=
  (hO6.recs.mono (S' :=fun b=>(Ss b∧b<w.heap.size)∨w.heap.size+4≤b) (fun b hb h=>Or.inr (by have:=h.1;have:=y1.size;omega))).keep (fun b hb h=>g7.block b hb (by simp;rcases h with h|h<;>omega))
 have up0:∀b,b<W7.heap.size→(Ss b∧b<w.heap.size)→(Ss b∧b<w.heap.size)∨w.heap.size+4≤b:=fun b _ h=>Or.inl h
 have hM7:StM (fun b=>(Ss b∧b<w.heap.size)∨w.heap.size+4≤b) W7 (fS s e) A1 n1 c1 A6 (n2+1) c6 A3 n3 c3 A4 n4 c4:=⟨(hM0.1.keep kS).mono up0,hO7,(hM0.3.keep kS).mono up0,(hM0.4.keep kS).mono up0⟩
 have hI7:SttIn (fS s e):=⟨hS.cells,hS.len,by show (s.evs++ [e]).length≤1000;simp;omega,hS.sent,hS.outs⟩
 have HC:=Lib.hid hC
 have HEI:=Lib.hid he
 go_wp2_with fail
 rw [←hW7]
 clear hW7 q1 f1 hO5 hO6 hb5 hb6 P5 Q5 P6 Q6 g7 y1 y3 y5 y6 x1 x3 x5 hE1 hE2 hE3 hE23 ho5 hat5 hat6 hgr5 hgr6 rowX hX hX3 hb1 hb2 kS hM0 hO7 up0 hMW hM hC he
 refine EV ?_
 obtain ⟨W8,hW8,b8,k8,S8,R8⟩:=bP W7 W7 #[.int .i64 self,.int .i64 procs,.int .i64 self,.int .i64 e.k6] 208 (Below.refl _ _)
 obtain ⟨b5,hb5⟩:∃b,b=W7.heap.size:=⟨_,rfl⟩
 rw [←hb5] at R8
 have HB5:=Lib.hid hb5
 have hb5w:w.heap.size+4≤b5:=by omega
 have hb5W:b5<W8.heap.size:=by have:=S8.out;omega
 have b78:=Below.ext b7 k8
 have R08:=Lib.hid ((k8.block w.heap.size (by omega)).trans R07.out)
 have R18:=Lib.hid ((k8.block (w.heap.size+1) (by omega)).trans R17.out)
 have R28:=Lib.hid ((k8.block (w.heap.size+2) (by omega)).trans R27.out)
 have R38:=Lib.hid ((k8.block (w.heap.size+3) (by omega)).trans R37.out)
 have q6:W7.cell? ⟨w.heap.size+2,6,none⟩=some (.int .i64 e.k6):=aA R27.out 6 _ rfl
 have q0:W8.cell? ⟨w.heap.size+2,0,none⟩=some (.int .i64 e.k0):=aA R28.out 0 _ rfl
 have q2:W8.cell? ⟨w.heap.size+2,2,none⟩=some (.int .i64 e.k2):=aA R28.out 2 _ rfl
 have hM8:=hM7.ext k8
 have hM8x:StM (fun b=>((Ss b∧b<w.heap.size)∨w.heap.size+4≤b)∧b<b5) W8 (fS s e) A1 n1 c1 A6 (n2+1) c6 A3 n3 c3 A4 n4 c4:=by
  have m:∀b,b<W7.heap.size→((Ss b∧b<w.heap.size)∨w.heap.size+4≤b)→((Ss b∧b<w.heap.size)∨w.heap.size+4≤b)∧b<b5:=fun b hb h=>⟨h,by omega⟩
  have h0:StM (fun b=>((Ss b∧b<w.heap.size)∨w.heap.size+4≤b)∧b<b5) W7 (fS s e) A1 n1 c1 A6 (n2+1) c6 A3 n3 c3 A4 n4 c4:=⟨hM7.1.mono m,hM7.2.mono m,hM7.3.mono m,hM7.4.mono m⟩
  exact h0.ext k8
 have e6:InR e.k6:=HEI.out _ (by simp [Ev.l])
 have e2r:InR e.k2:=HEI.out _ (by simp [Ev.l])
 clear hb5 hM7 hM8
 have sW8:=S8.out
 by_cases h1:e.k0=1
 ·have d1:(e.k0==1)=true:=by simpa using h1
  obtain ⟨W9,hW9⟩:∃W9,W9=W8.setCell ⟨b5,2,none⟩ (.int .i64 e.k2):=⟨_,rfl⟩
  have q5:W8.cell? ⟨b5,2,none⟩=some (.int .i64 self):=aA R8.out 2 _ rfl
  have f5:W8.frozen? ⟨b5,2,none⟩=false:=frozen_of_row _ _ _ _ _ R8.out
  have g9:W8.grownBy W9 (some b5):=by rw [hW9];exact aO (bC _ _)
  have b9:Below w.heap.size w W9:=by rw [hW9];exact Below.setCell b78 (show w.heap.size≤b5 by omega) _
  have R9:=Lib.hid (show W9.heap[b5]? =some (.cells #[.int .i64 self,.int .i64 procs,.int .i64 e.k2,.int .i64 e.k6] 208 (0,0)) by rw [hW9];exact heap_setCell_same _ _ _ _ _ _ R8.out)
  have hb8:w.heap.size+4≤W8.heap.size:=by omega
  have R09:=Lib.hid ((g9.block w.heap.size (by omega) (by simp;omega)).trans R08.out)
  have R19:=Lib.hid ((g9.block (w.heap.size+1) (by omega) (by simp;omega)).trans R18.out)
  have R39:=Lib.hid ((g9.block (w.heap.size+3) (by omega) (by simp;omega)).trans R38.out)
  have kk9:Keep (fun b=>((Ss b∧b<w.heap.size)∨w.heap.size+4≤b)∧b<b5) W8 W9:=fun q hq h=>g9.block q hq (by have:=h.2;simp;omega)
  have hM9:StM (fun b=>((Ss b∧b<w.heap.size)∨w.heap.size+4≤b)∧b<b5) W9 (fS s e) A1 n1 c1 A6 (n2+1) c6 A3 n3 c3 A4 n4 c4:=⟨hM8x.1.keep kk9,hM8x.2.keep kk9,hM8x.3.keep kk9,hM8x.4.keep kk9⟩
  have s9:W8.heap.size≤W9.heap.size:=g9.size
  have hex:=jL 3 W9 _ (fS s e) A1 n1 c1 A6 (n2+1) c6 A3 n3 c3 A4 n4 c4 hM9 hI7 P2 pn2 pc2 c.me ⟨self,procs,e.k2,e.k6⟩ ((n2+1:Nat):Int) (tY (HC.out.ext b9).me) hI.me ⟨hse,hpr,e2r,e6⟩
  have Hex:=Lib.hid hex
  have qc:W9.cell? ⟨w.heap.size,2,none⟩=some (.slice P2 pn2 pc2):=aA R09.out 2 _ rfl
  have qe:W9.cell? ⟨w.heap.size+1,1,none⟩=some (.slice A6 (n2+1) c6):=aA R19.out 1 _ rfl
  clear hex hM9 hM8x
  go_upto_region 3 with (refine aF rfl 208 _ _ rfl 208 _ #[.int .i64 self,.int .i64 procs,.int .i64 self,.int .i64 e.k6] rfl rfl (by kernel_rfl) rfl (by simp [Value.oneCell']) ?_)
  rw [←hW8,←HB5.out]
  clear hW8
  try simp only [Act.put]
  go_upto_region 6 with fail
  rw [←hW9]
  clear hW9 q5 f5 g9 kk9
  go_wp2_with (first|(refine aD (t:=51) (A:=⟨w.heap.size+1,0,none⟩) rfl rfl rfl (aB R19.out Tryz.underlying51 rfl (by kernel_rfl)) ?_)|(refine aD (t:=208) (A:=⟨b5,0,none⟩) rfl rfl rfl (aB R9.out Tryz.underlying208 rfl (by kernel_rfl)) ?_))
  refine Hex.out.mono ?_
  rintro e' w10 ⟨s',B1,m1,d1,B2,m2,d2,B3,m3,d3,B4,m4,d4,rfl,hR,⟨g1,g2,g3,g4⟩,hci,hs1,hs2,hb10⟩
  have R3z:=Lib.hid ((hb10.block (w.heap.size+3) (by omega)).trans R39.out)
  go_wp2_with (refine aC rfl 51 _ _ rfl (w.heap.size+3) 51 _ _ rfl rfl R3z.out (by kernel_rfl) rfl (by simp [Value.oneCell']) ?_)
  refine bodyPost_ret (bH rfl rfl (aB (setRow_heap _ _ _ _ _ _ R3z.out) Tryz.underlying51 rfl (by kernel_rfl))) rfl ?_
  have k6:=aJ w10 (w.heap.size+3) #[.slice B1 m1 d1,.slice B2 m2 d2,.slice B3 m3 d3,.slice B4 m4 d4]
  have s10:=hb10.size
  have hnext:NextR c self procs s e s' :=by
   unfold NextR
   rw [HL2.out]
   rw [if_pos h1]
   exact hR
  exact Tzao
 have d1:(e.k0==1)=false:=by simpa using h1
 by_cases h2:e.k0=2
 ·have d2:(e.k0==2)=true:=by simpa using h2
  obtain ⟨W9,hW9⟩:∃W9,W9=W8:=⟨_,rfl⟩
  have b9:Below w.heap.size w W9:=by rw [hW9];exact b78
  have R9:=R8
  have R09:=R08
  have R19:=R18
  have R39:=R38
  have hM9:=hM8x
  have s9:W8.heap.size≤W9.heap.size:=by rw [hW9];exact Nat.le_refl _
  rw [←hW9] at R9 R09 R19 R39 hM9
  have hex:=jL 3 W9 _ (fS s e) A1 n1 c1 A6 (n2+1) c6 A3 n3 c3 A4 n4 c4 hM9 hI7 P3 pn3 pc3 c.ti ⟨self,procs,self,e.k6⟩ ((n2+1:Nat):Int) (tY (HC.out.ext b9).ti) hI.ti ⟨hse,hpr,hse,e6⟩
  have Hex:=Lib.hid hex
  have qc:W9.cell? ⟨w.heap.size,3,none⟩=some (.slice P3 pn3 pc3):=aA R09.out 3 _ rfl
  have qe:W9.cell? ⟨w.heap.size+1,1,none⟩=some (.slice A6 (n2+1) c6):=aA R19.out 1 _ rfl
  clear hex hM9 hM8x
  go_upto_region 3 with (refine aF rfl 208 _ _ rfl 208 _ #[.int .i64 self,.int .i64 procs,.int .i64 self,.int .i64 e.k6] rfl rfl (by kernel_rfl) rfl (by simp [Value.oneCell']) ?_)
  rw [←hW8,←HB5.out]
  clear hW8
  try simp only [Act.put]
  subst hW9
  go_wp2_with (first|(refine aD (t:=51) (A:=⟨w.heap.size+1,0,none⟩) rfl rfl rfl (aB R19.out Tryz.underlying51 rfl (by kernel_rfl)) ?_)|(refine aD (t:=208) (A:=⟨b5,0,none⟩) rfl rfl rfl (aB R9.out Tryz.underlying208 rfl (by kernel_rfl)) ?_))
  refine Hex.out.mono ?_
  rintro e' w10 ⟨s',B1,m1,d1,B2,m2,d2,B3,m3,d3,B4,m4,d4,rfl,hR,⟨g1,g2,g3,g4⟩,hci,hs1,hs2,hb10⟩
  have R3z:=Lib.hid ((hb10.block (w.heap.size+3) (by omega)).trans R39.out)
  go_wp2_with (refine aC rfl 51 _ _ rfl (w.heap.size+3) 51 _ _ rfl rfl R3z.out (by kernel_rfl) rfl (by simp [Value.oneCell']) ?_)
  refine bodyPost_ret (bH rfl rfl (aB (setRow_heap _ _ _ _ _ _ R3z.out) Tryz.underlying51 rfl (by kernel_rfl))) rfl ?_
  have k6:=aJ w10 (w.heap.size+3) #[.slice B1 m1 d1,.slice B2 m2 d2,.slice B3 m3 d3,.slice B4 m4 d4]
  have s10:=hb10.size
  have hnext:NextR c self procs s e s' :=by
   unfold NextR
   rw [HL2.out]
   rw [if_neg h1,if_pos h2]
   exact hR
  exact Tzao
 have d2:(e.k0==2)=false:=by simpa using h2
 by_cases h3:e.k0=3
 ·have d3:(e.k0==3)=true:=by simpa using h3
  obtain ⟨W9,hW9⟩:∃W9,W9=W8:=⟨_,rfl⟩
  have b9:Below w.heap.size w W9:=by rw [hW9];exact b78
  have R9:=R8
  have R09:=R08
  have R19:=R18
  have R39:=R38
  have hM9:=hM8x
  have s9:W8.heap.size≤W9.heap.size:=by rw [hW9];exact Nat.le_refl _
  rw [←hW9] at R9 R09 R19 R39 hM9
  have hex:=jL 3 W9 _ (fS s e) A1 n1 c1 A6 (n2+1) c6 A3 n3 c3 A4 n4 c4 hM9 hI7 P4 pn4 pc4 c.inp ⟨self,procs,self,e.k6⟩ ((n2+1:Nat):Int) (tY (HC.out.ext b9).inp) hI.inp ⟨hse,hpr,hse,e6⟩
  have Hex:=Lib.hid hex
  have qc:W9.cell? ⟨w.heap.size,4,none⟩=some (.slice P4 pn4 pc4):=aA R09.out 4 _ rfl
  have qe:W9.cell? ⟨w.heap.size+1,1,none⟩=some (.slice A6 (n2+1) c6):=aA R19.out 1 _ rfl
  clear hex hM9 hM8x
  go_upto_region 3 with (refine aF rfl 208 _ _ rfl 208 _ #[.int .i64 self,.int .i64 procs,.int .i64 self,.int .i64 e.k6] rfl rfl (by kernel_rfl) rfl (by simp [Value.oneCell']) ?_)
  rw [←hW8,←HB5.out]
  clear hW8
  try simp only [Act.put]
  subst hW9
  go_wp2_with (first|(refine aD (t:=51) (A:=⟨w.heap.size+1,0,none⟩) rfl rfl rfl (aB R19.out Tryz.underlying51 rfl (by kernel_rfl)) ?_)|(refine aD (t:=208) (A:=⟨b5,0,none⟩) rfl rfl rfl (aB R9.out Tryz.underlying208 rfl (by kernel_rfl)) ?_))
  refine Hex.out.mono ?_
  rintro e' w10 ⟨s',B1,m1,d1,B2,m2,d2,B3,m3,d3,B4,m4,d4,rfl,hR,⟨g1,g2,g3,g4⟩,hci,hs1,hs2,hb10⟩
  have R3z:=Lib.hid ((hb10.block (w.heap.size+3) (by omega)).trans R39.out)
  go_wp2_with (refine aC rfl 51 _ _ rfl (w.heap.size+3) 51 _ _ rfl rfl R3z.out (by kernel_rfl) rfl (by simp [Value.oneCell']) ?_)
  refine bodyPost_ret (bH rfl rfl (aB (setRow_heap _ _ _ _ _ _ R3z.out) Tryz.underlying51 rfl (by kernel_rfl))) rfl ?_
  have k6:=aJ w10 (w.heap.size+3) #[.slice B1 m1 d1,.slice B2 m2 d2,.slice B3 m3 d3,.slice B4 m4 d4]
  have s10:=hb10.size
  have hnext:NextR c self procs s e s' :=by
   unfold NextR
   rw [HL2.out]
   rw [if_neg h1,if_neg h2,if_pos h3]
   exact hR
  exact Tzao
 have d3:(e.k0==3)=false:=by simpa using h3
 go_upto_region 3 with (refine aF rfl 208 _ _ rfl 208 _ #[.int .i64 self,.int .i64 procs,.int .i64 self,.int .i64 e.k6] rfl rfl (by kernel_rfl) rfl (by simp [Value.oneCell']) ?_)
 rw [←hW8,←HB5.out]
 clear hW8
 try simp only [Act.put]
 go_wp2_with (first|(refine aD (t:=51) (A:=⟨w.heap.size+1,0,none⟩) rfl rfl rfl (aB R18.out Tryz.underlying51 rfl (by kernel_rfl)) ?_)|(refine aC rfl 51 _ _ rfl (w.heap.size+3) 51 _ _ rfl rfl R38.out (by kernel_rfl) rfl (by simp [Value.oneCell']) ?_))
 refine bodyPost_ret (bH rfl rfl (aB (setRow_heap _ _ _ _ _ _ R38.out) Tryz.underlying51 rfl (by kernel_rfl))) rfl ?_
 have k6:=aJ W8 (w.heap.size+3) #[.slice A1 n1 c1,.slice A6 (n2+1) c6,.slice A3 n3 c3,.slice A4 n4 c4]
 have hnext:NextR c self procs s e (fS s e):=by
  unfold NextR
  rw [if_neg h1,if_neg h2,if_neg h3]
 have kk2:Keep (fun b=>((Ss b∧b<w.heap.size)∨w.heap.size+4≤b)∧b<b5) W8 (W8.setRow (w.heap.size+3) #[.slice A1 n1 c1,.slice A6 (n2+1) c6,.slice A3 n3 c3,.slice A4 n4 c4]):=fun b hb h=>k6.block b hb (by have h2:=h.1;simp;omega)
 have up:∀b,b<(W8.setRow (w.heap.size+3) #[.slice A1 n1 c1,.slice A6 (n2+1) c6,.slice A3 n3 c3,.slice A4 n4 c4]).heap.size→(((Ss b∧b<w.heap.size)∨w.heap.size+4≤b)∧b<b5)→Ss b∨w.heap.size≤b:=fun b _ h=>h.1.elim (fun h2=>Or.inl h2.1) (fun h2=>Or.inr (by omega))
 refine ⟨fS s e,A1,n1,c1,A6,n2+1,c6,A3,n3,c3,A4,n4,c4,rfl,hnext,⟨(hM8x.1.keep kk2).mono up,(hM8x.2.keep kk2).mono up,(hM8x.3.keep kk2).mono up,(hM8x.4.keep kk2).mono up⟩,hS.cells,Nat.le_add_right _ _,Nat.le_add_right _ _,?_⟩
 exact b78.grown k6 (by omega) (fun b hb=>by cases hb;omega)
end Go.Proofs.YtiblijmngokcgaaGreatDoor
