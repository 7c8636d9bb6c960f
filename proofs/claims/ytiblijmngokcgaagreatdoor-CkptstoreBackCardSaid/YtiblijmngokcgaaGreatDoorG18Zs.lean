import Derived.Test.YtiblijmngokcgaaGreatDoorMacZs
import Derived.Test.YtiblijmngokcgaaGreatDoorRunAZs
import Derived.Test.YtiblijmngokcgaaGreatDoorCs1Zs
import Derived.Test.YtiblijmngokcgaaGreatDoorDiskBZs
import Derived.Test.YtiblijmngokcgaaGreatDoorG07Zs
import Derived.Test.YtiblijmngokcgaaGreatDoorCodecCZs
namespace Go.Proofs.YtiblijmngokcgaaGreatDoor
open Go.RowKit
set_option maxRecDepth 100000
set_option linter.unusedVariables false
set_option linter.unusedSimpArgs false
theorem xY (w:World):(isAgg 253).run Tryz.prog w= .ok false w:=by simp [isAgg,run_underlying Tryz.underlying253]
theorem LE {w:World} {p:Nat} {v:Env} {c0 c1 c6:Value} (h:w.heap[p]? =some (.cells #[c0,c1,.int .i64 v.self,.int .i64 v.procs,.int .i64 v.frm,.int .i64 v.value,c6] 262 (0,0))):(loadVar 208 ⟨p,2,none⟩).run Tryz.prog w= .ok (.agg #[.int .i64 v.self,.int .i64 v.procs,.int .i64 v.frm,.int .i64 v.value]) w:=by
 have:=run_loadVar_mid (P:=Tryz.prog) w p 2 208 [.int .i64 v.self,.int .i64 v.procs,.int .i64 v.frm,.int .i64 v.value] _ (World.rangeAt_of_block h 2 4) Tryz.underlying208 rfl (by kernel_rfl)
 simpa using this
set_option maxHeartbeats 1000000 in
theorem kC (w:World) (p base:Nat) (v:Env) (r:Rst) (F:Nat→Prop) (h:RunOk w p base v r F) (x:ExV) (t:Ex) (S:Nat→Prop) (hx:ExOk 3 S w x t) (ht:RsE 3 t) (hv:EnvIn v):
 Calls Tryz.prog 202 #[.pointer (some ⟨p,0,none⟩),.agg #[.int .i64 x.op,.int .i64 x.val,.string x.name,.int .i64 x.slot,.int .i64 x.size,.slice x.A x.n x.c]] w fun e w' =>e= .returned (.int .i64 (ev3 r v t))∧Below w.heap.size w w' :=by
 obtain ⟨Ac,nc,cc,Al,nl,cl,hM,hF⟩:=h
 have hpl:=hM.lt
 obtain ⟨W,hW,bW,kW,SW,R0⟩:=bP w w #[.int .i64 x.op,.int .i64 x.val,.string x.name,.int .i64 x.slot,.int .i64 x.size,.slice x.A x.n x.c] 244 (Below.refl _ _)
 have hbx:w.heap.size<W.heap.size:=by have:=SW.out;omega
 have HM:=Lib.hid (fun w' (hw:Below W.heap.size W w')=>(hM.ext bW).ext hw)
 have hpW:p<W.heap.size:=by omega
 have hval:=sM 3 x t S _ W.drew Ac nc cc r.cells v (ExOk.keep (Keep.of_below (Below.ext bW (Below.refl _ W).drew)) _ _ _ hx) ht (((hM.cel.ext bW).ext (Below.refl _ W).drew).recs) hM.n1 hM.ci hv
 have Hval:=Lib.hid hval
 clear hval hM hx
 go_enter Tryz.func202,Tryz.ntmps202
 go_upto_region 1 with fail
 try rw [←hW]
 clear hW
 go_wp2_with fail
 refine aM ((fun w' =>Below W.heap.size W w')) (by kernel_rfl) (by kernel_rfl) ((Below.refl _ W).drew) ?_
 refine TkA ?_
 refine aE (⟨w.heap.size,0,none⟩) (.agg #[.int .i64 x.op,.int .i64 x.val,.string x.name,.int .i64 x.slot,.int .i64 x.size,.slice x.A x.n x.c]) rfl rfl rfl (fun w' hw' =>aB ((hw'.block w.heap.size hbx).trans R0.out) Tryz.underlying244 rfl (by kernel_rfl)) ?_
 refine TkI ?_
 refine TkA ?_
 refine aE (⟨p,0,none⟩) (.slice Ac nc cc) rfl rfl rfl (fun w' hw' =>aG (fC _) (aA (HM.out w' hw').row 0 _ rfl)) ?_
 refine TkI ?_
 refine TkA ?_
 refine aE (⟨p,2,none⟩) (.agg #[.int .i64 v.self,.int .i64 v.procs,.int .i64 v.frm,.int .i64 v.value]) rfl rfl rfl (fun w' hw' =>LE (HM.out w' hw').row) ?_
 refine TkI ?_
 refine TkA ?_
 refine aL rfl ?_
 go_wp2_with fail
 refine Hval.out.mono ?_
 rintro e w2 ⟨rfl,hb2⟩
 have y2:=Below.ext (Below.refl _ W).drew hb2
 go_wp2_with fail
 refine aI (y2) ?_
 refine TkA ?_
 refine aZ ?_
 go_wp2_with fail
 go_ret
 exact ⟨rfl,Below.ext bW y2⟩
set_option maxHeartbeats 2000000 in
theorem rK (w:World) (p base:Nat) (v:Env) (r:Rst) (F:Nat→Prop) (h:RunOk w p base v r F) (x:Ef) (hx:(x.kind=1∨x.kind=2)∧InR x.to∧InR x.value):
 Calls Tryz.prog 206 #[.pointer (some ⟨p,0,none⟩),.agg #[.int .i64 x.kind,.int .i64 x.to,.int .i64 x.value]] w fun e w' =>e= .returned (.tuple #[])∧RunOk w' p base v (r.eff x) F∧Below base w w'∧Keep F w w' :=by
 obtain ⟨Ac,nc,cc,Al,nl,cl,hM,hF⟩:=h
 have hpl:=hM.lt
 have hbw:=hM.bw
 have HL2:=Lib.hid hM.len2.1
 have hl2:=hM.len2.2
 have hn2:=hM.n2
 obtain ⟨W,hW,bW,kW,SW,R0⟩:=bP w w #[.int .i64 x.kind,.int .i64 x.to,.int .i64 x.value] 257 (Below.refl _ _)
 have hbx:w.heap.size<W.heap.size:=by have:=SW.out;omega
 have hMW:=hM.ext bW
 have RW0:=Lib.hid hMW.row
 have q1:W.cell? ⟨p,1,none⟩=some (.slice Al nl cl):=aA RW0.out 1 _ rfl
 by_cases h8:nl<8
 ·have d8:decide ((nl:Int)<8)=true:=by simp;omega
  have hef:r.eff x={r with l:=r.l++ [x]}:=by unfold Rst.eff;rw [if_pos (by rw [HL2.out];exact h8)]
  rw [hef]
  clear hef
  go_enter Tryz.func206,Tryz.ntmps206
  go_upto_region 1 with fail
  try rw [←hW]
  clear hW
  go_upto_region 2 with fail
  go_wp2_with fail
  refine iZ (fun w' =>w'.heap[p]? =some (.cells #[.slice Ac nc cc,.slice Al nl cl,.int .i64 v.self,.int .i64 v.procs,.int .i64 v.frm,.int .i64 v.value,.int .i64 (r.used:Int)] 262 (0,0))∧w'.heap[w.heap.size]? =some (.cells #[.int .i64 x.kind,.int .i64 x.to,.int .i64 x.value] 257 (0,0))) 8 (by kernel_rfl) (by kernel_rfl) (by kernel_rfl) (by decide) ⟨RW0.out,R0.out⟩ ?_
  simp only [List.take_succ_cons,List.take_zero,List.drop_succ_cons,List.drop_zero]
  refine TkA ?_
  refine aE (⟨p,1,none⟩) (.slice Al nl cl) rfl rfl rfl (fun w' hw' =>aG (xY _) (aA hw'.1 1 _ rfl)) ?_
  refine TkI ?_
  refine TkA ?_
  refine aE (⟨w.heap.size,0,none⟩) (.agg #[.int .i64 x.kind,.int .i64 x.to,.int .i64 x.value]) rfl rfl rfl (fun w' hw' =>aB hw'.2 Tryz.underlying257 rfl (by kernel_rfl)) ?_
  refine TkI ?_
  refine TkA ?_
  refine aL rfl ?_
  go_wp2_with fail
  have ha:Below W.heap.size W.drew (W.drew.alloc (.cells #[.int .i64 x.kind,.int .i64 x.to,.int .i64 x.value] 257)):=(Below.refl _ W.drew).alloc (Nat.le_refl _) _
  have ha' :Below W.heap.size W (W.drew.alloc (.cells #[.int .i64 x.kind,.int .i64 x.to,.int .i64 x.value] 257)):=(Below.refl _ W).drew.trans ha
  have hMa:=hMW.ext ha'
  have RA:=Lib.hid hMa.row
  have hone:Recs pI (fun _=>True) (W.drew.alloc (.cells #[.int .i64 x.kind,.int .i64 x.to,.int .i64 x.value] 257)) (.slice (some ⟨W.drew.heap.size,0,none⟩) 1 1) [x]:=⟨_,1,rfl,by simp,by simp [maxLen],Cs.lit _ _ _ _ _ trivial rfl⟩
  have hba:=hMa.bw
  have hL:=HL2.out
  have RB:=Lib.hid ((ha'.block w.heap.size hbx).trans R0.out)
  refine aI ⟨RA.out,RB.out⟩ ?_
  refine TkA ?_
  refine aL rfl ?_
  refine aV oM CU (.agg #[.int .i64 0,.int .i64 0,.int .i64 0]) 24 _ _ 253 257 base r.l [x] (some ⟨W.drew.heap.size,0,none⟩) 1 1 (.slice Al nl cl) (nl+1) rfl rfl Tryz.underlying253 LH rfl (by omega) rfl rfl hMa.eff hone (by rw [HL2.out]) (by rw [HL2.out];omega) (by rw [HL2.out];omega) hba ?_
  intro A9 c9 w9 hown9 hgr9 hat9 hc91 hc92
  have hneg9:∀b,(Value.slice Al nl cl).ownBlock=some b→base≤b:=fun b e=>(World.ownsRow.lt hMa.eff _ e).1
  have hs9:=hgr9.size
  have hpa:=hMa.lt
  have hb9:base≤w9.heap.size:=Nat.le_trans hba hs9
  have hneg9' :∀b,(Value.slice Al nl cl).ownBlock=some b→b<w.heap.size:=fun b e=>(World.ownsRow.lt hM.eff _ e).2
  have RB9:=Lib.hid ((hgr9.block w.heap.size (Nat.lt_of_lt_of_le hbx ha'.size) (fun e=>Nat.lt_irrefl _ (hneg9' _ e.symm))).trans RB.out)
  have hr9:=(hgr9.block p hpa (fun e=>hMa.pl e.symm)).trans RA.out
  have q9:w9.cell? ⟨p,1,none⟩=some (.slice Al nl cl):=aA hr9 1 _ rfl
  have f9:w9.frozen? ⟨p,1,none⟩=false:=frozen_of_row _ _ _ _ _ hr9
  obtain ⟨w10,hw10⟩:∃w10,w10=w9.setCell ⟨p,1,none⟩ (.slice A9 (nl+1) c9):=⟨_,rfl⟩
  have gS:w9.grownBy w10 (some p):=by rw [hw10];exact aO (bC _ _)
  have hr10:w10.heap[p]? =some (.cells #[.slice Ac nc cc,.slice A9 (nl+1) c9,.int .i64 v.self,.int .i64 v.procs,.int .i64 v.frm,.int .i64 v.value,.int .i64 (r.used:Int)] 262 (0,0)):=by rw [hw10];exact heap_setCell_same _ _ _ _ _ _ hr9
  have hp9:(Value.slice A9 (nl+1) c9).ownBlock≠some p:=by
   rcases hat9 with e|e
   ·rw [e];exact hMa.pl
   ·rw [e];intro e2;cases e2;exact Nat.lt_irrefl _ hpa
  have hcells9:OwnR bJ 1 w9 base 3 (.slice Ac nc cc) r.cells:=hMa.cel.kept hgr9 (by
   rcases Option.eq_none_or_eq_some (Value.slice Ac nc cc).ownBlock with h0|⟨b,h0⟩
   ·exact .inl h0
   ·refine .inr (fun e=> ?_)
    rw [h0] at e
    exact hMa.cl_ b h0 e.symm)
  have hcl9:∀o,(Value.slice Ac nc cc).ownBlock=some o→(Value.slice A9 (nl+1) c9).ownBlock≠some o:=fun o ho=>by
   rcases hat9 with e|e
   ·rw [e];exact hMa.cl_ o ho
   ·rw [e];intro e2;cases e2;exact Nat.lt_irrefl _ (World.ownsRow.lt hMa.cel _ ho).2
  have hfin:RunM w10 p base v {r with l:=r.l++ [x]} Ac nc cc A9 (nl+1) c9:=⟨hr10,hcells9.kept gS (.inr hMa.pc),hown9.kept gS (.inr hp9),hMa.bp,hMa.pc,hp9,hcl9,hMa.n1,by omega,hMa.us,hMa.ci,fun e he=>by
   rcases List.mem_append.1 he with h|h
   ·exact hMa.ei e h
   ·rw [List.mem_singleton] at h;subst h;exact hx,Nat.le_trans hb9 gS.size⟩
  have hbf:Below base w w10:=(((bW.mono hbw).trans (ha'.mono hMW.bw)).grown hgr9 hba hneg9).trans ((Below.refl base w9).grown gS hb9 (fun k hk=>by cases hk;exact hMa.bp))
  have z0:w.heap.size<(W.drew.alloc (.cells #[.int .i64 x.kind,.int .i64 x.to,.int .i64 x.value] 257)).heap.size:=Nat.lt_of_lt_of_le hbx ha'.size
  have z9:w.heap.size≤w9.heap.size:=Nat.le_trans (Nat.le_of_lt z0) hs9
  have zA:W.drew.heap.size=W.heap.size:=rfl
  have hFf:Frgn F w10 p (.slice Ac nc cc) (.slice A9 (nl+1) c9):=fun q hq=>⟨Nat.lt_of_lt_of_le (hF q hq).1 (Nat.le_trans z9 gS.size),(hF q hq).2.1,(hF q hq).2.2.1,by
   rcases hat9 with e|e
   ·rw [e];exact (hF q hq).2.2.2
   ·rw [e];intro e2;cases e2;exact Nat.lt_irrefl _ (Nat.lt_trans (hF _ hq).1 z0)⟩
  have hKf:Keep F w w10:=fun q hq h=>(gS.block q (Nat.lt_of_lt_of_le hq z9) (by have:=(hF q h).2.1;simp;omega)).trans ((hgr9.block q (Nat.lt_trans hq z0) (fun e=>(hF q h).2.2.2 e.symm)).trans ((ha'.block q (Nat.lt_trans hq hbx)).trans (bW.block q hq)))
  have HFF:=Lib.hid hFf
  have HKF:=Lib.hid hKf
  clear hFf hKf
  have HFIN:=Lib.hid hfin
  have HBF:=Lib.hid hbf
  have HR9:=Lib.hid hr9
  clear hfin hbf hcells9 hcl9 hp9 hr10 hr9 hown9 hgr9 hat9 hone hMa RA gS
  go_wp2_with fail
  refine aI ⟨HR9.out,RB9.out⟩ ?_
  refine aZ ?_
  go_wp2_with fail
  rw [←hw10,mF]
  clear hw10 q9 f9
  go_wp2
  go_end0
  exact ⟨rfl,⟨_,_,_,_,_,_,HFIN.out,HFF.out⟩,HBF.out,HKF.out⟩
 ·have d8:decide ((nl:Int)<8)=false:=by simp;omega
  have hef:r.eff x=r:=by unfold Rst.eff;rw [if_neg (by rw [HL2.out];exact h8)]
  rw [hef]
  clear hef
  go_enter Tryz.func206,Tryz.ntmps206
  go_upto_region 1 with fail
  try rw [←hW]
  clear hW
  go_wp2
  go_end0
  exact ⟨rfl,⟨_,_,_,_,_,_,hMW,hF.size bW.size⟩,bW.mono hbw,Keep.of_below bW⟩
end Go.Proofs.YtiblijmngokcgaaGreatDoor
namespace Go.Proofs.YtiblijmngokcgaaGreatDoor
open Go.RowKit
set_option maxRecDepth 100000
set_option linter.unusedVariables false
set_option linter.unusedSimpArgs false
theorem aD {P:Program} {ops:Array Oper} {Q:Exit→Act→World→Prop} {o:Oper} {a:Act} {w:World} {rest:List Oper} {t:TypeId} {x:Operand} {A:Addr} {v:Value} (hw:Region.wanted o (yielded ops a.tmps)=true) (ho:o.op= .load t x) (hx:a.eval x= .pointer (some A))
 (hl:(loadVar t A).run P w= .ok v w) (h:wpList P ops Q rest (a.put o.dst v) w):wpList P ops Q (o::rest) a w:=by
 simp only [wpList,hw,if_true]
 refine .inl ?_
 unfold Oper.wp execOp
 simp only [ho,hx,Instr.loadAt,Instr.sureAddr,Sem.run_bind,Sem.run_pure,Result.andThen_ok,hl,Oper.upon]
 exact h
theorem OwnZ.frozen {w:World} {base g n c:Nat} {l:List Int} (h:OwnR bJ 1 w base 3 (.slice (some ⟨g,0,none⟩) n c) l) (j:Nat):w.frozen? ⟨g,j,none⟩=false:=by
 have e:=h.len.1
 subst e
 exact World.ownsRow.frozenAt h j
theorem AS {slot size index:Int} {cells:List Int} (h:0≤dQ slot size index cells):dQ slot size index cells<cells.length:=by
 unfold dQ at*
 split at h
 ·rename_i hc
  rw [if_pos hc]
  exact hc.2.2
 ·omega
theorem RunM.put {w:World} {p base:Nat} {v:Env} {r:Rst} {g nc cc nl cl:Nat} {Al:Option Addr} (h:RunM w p base v r (some ⟨g,0,none⟩) nc cc Al nl cl) (j:Nat) (z:Int) (hz:InR z):
 RunM (w.setCell ⟨g,j,none⟩ (.int .i64 z)) p base v {r with cells:=r.cells.set j z} (some ⟨g,0,none⟩) nc cc Al nl cl∧Below base w (w.setCell ⟨g,j,none⟩ (.int .i64 z))∧g≠p:=by
 have hgp:g≠p:=fun e=>h.pc (by rw [e];rfl)
 have hgb:=(World.ownsRow.lt h.cel g rfl).1
 have hg:w.grownBy (w.setCell ⟨g,j,none⟩ (.int .i64 z)) (some g):=aO (bC _ _)
 refine ⟨⟨(hg.block p h.lt (by simp;omega)).trans h.row,OwnZ.set_ h.cel j z,h.eff.kept hg (.inr (h.cl_ g rfl)),h.bp,h.pc,h.pl,h.cl_,h.n1,h.n2,h.us,fun y hy=> ?_,h.ei,by have:=h.bw;have:=hg.size;omega⟩,(Below.refl base w).setCell hgb _,hgp⟩
 rcases List.mem_or_eq_of_mem_set hy with h1|h1
 ·exact h.ci y h1
 ·rw [h1];exact hz
theorem cK {w:World} {b o:Nat} {C:Array Value} {T:TypeId} {y:ExV} (h:w.heap[b]? =some (.cells C T (0,0))) (hc:(C.toList.drop o).take 6=eB y):(loadVar 244 ⟨b,o,none⟩).run Tryz.prog w= .ok (.agg #[.int .i64 y.op,.int .i64 y.val,.string y.name,.int .i64 y.slot,.int .i64 y.size,.slice y.A y.n y.c]) w:=by
 have:=run_loadVar_mid (P:=Tryz.prog) w b o 244 (eB y) _ (fun j v hv=>by
  rw [cell_of_row _ _ _ _ _ _ h]
  have hj:j<6:=by have:=(List.getElem?_eq_some_iff.1 hv).1;simpa [eB] using this
  rw [←hc,List.getElem?_take,if_pos hj,List.getElem?_drop] at hv
  simpa using hv) Tryz.underlying244 rfl (by kernel_rfl)
 exact this
theorem cC (w:World) (g j:Nat) (u:Value) {b:Nat} (h:b≠g):(w.setCell ⟨g,j,none⟩ u).heap[b]? =w.heap[b]? :=Below.heap_setCell w ⟨g,j,none⟩ u b h
theorem KQ {v:Env} {r:Rst} {kind:Int} {name:ByteArray} {slot size:Int} {p e:Ex} {body els:List Sm} (h:kind=1):mB v r (.mk kind name slot size p e body els)=if 0≤slot∧slot<r.cells.length then {r with cells:=r.cells.set slot.toNat (ev3 r v e)} else r:=by
 subst h;rfl
theorem KP {v:Env} {r:Rst} {kind:Int} {name:ByteArray} {slot size:Int} {p e:Ex} {body els:List Sm} (h:kind=2):mB v r (.mk kind name slot size p e body els)=if 0≤dQ slot size (ev3 r v p) r.cells then {r with cells:=r.cells.set (dQ slot size (ev3 r v p) r.cells).toNat (ev3 r v e)} else r:=by
 subst h;rfl
theorem KO {v:Env} {r:Rst} {kind:Int} {name:ByteArray} {slot size:Int} {p e:Ex} {body els:List Sm} (h:kind=5):mB v r (.mk kind name slot size p e body els)=if 0≤ev3 r v p∧ev3 r v p<v.procs∧ev3 r v p≠v.self then r.eff ⟨1,ev3 r v p,ev3 r v e⟩ else r:=by
 subst h;rfl
theorem KN {v:Env} {r:Rst} {kind:Int} {name:ByteArray} {slot size:Int} {p e:Ex} {body els:List Sm} (h:kind=6):mB v r (.mk kind name slot size p e body els)=r.eff ⟨2,0,ev3 r v e⟩:=by
 subst h;rfl
set_option maxHeartbeats 8000000 in
theorem yF (w:World) (p base:Nat) (v:Env) (r:Rst) (F:Nat→Prop) (h:RunOk w p base v r F) (hv:EnvIn v) (x:SmV) (pl vl:Ex) (body els:List Sm) (hk:x.kind=1∨x.kind=2∨x.kind=5∨x.kind=6) (hs:0≤x.slot∧x.slot≤1000) (hz:0≤x.size∧x.size≤1000) (S:Nat→Prop) (hp:ExOk 3 S w x.p pl) (hvl:ExOk 3 S w x.v vl) (rp:RsE 3 pl) (rv:RsE 3 vl):
 Calls Tryz.prog 203 #[.pointer (some ⟨p,0,none⟩),.agg #[.int .i64 x.kind,.string x.name,.int .i64 x.slot,.int .i64 x.size,.int .i64 x.p.op,.int .i64 x.p.val,.string x.p.name,.int .i64 x.p.slot,.int .i64 x.p.size,.slice x.p.A x.p.n x.p.c,.int .i64 x.v.op,.int .i64 x.v.val,.string x.v.name,.int .i64 x.v.slot,.int .i64 x.v.size,.slice x.v.A x.v.n x.v.c,.slice x.A x.n x.c,.slice x.B x.m x.d]] w fun e w' =>e= .returned (.tuple #[])∧RunOk w' p base v (mB v r (.mk x.kind x.name x.slot x.size pl vl body els)) F∧Below base w w'∧Keep F w w' :=by
 obtain ⟨Ac,nc,cc,Al,nl,cl,hM,hF⟩:=h
 have hpl:=hM.lt
 have hbw:=hM.bw
 have HLC:=Lib.hid hM.len.1
 have hlc:=hM.len.2
 have hn1:=hM.n1
 obtain ⟨W,hW,bW,kW,SW,R0⟩:=bP w w #[.int .i64 x.kind,.string x.name,.int .i64 x.slot,.int .i64 x.size,.int .i64 x.p.op,.int .i64 x.p.val,.string x.p.name,.int .i64 x.p.slot,.int .i64 x.p.size,.slice x.p.A x.p.n x.p.c,.int .i64 x.v.op,.int .i64 x.v.val,.string x.v.name,.int .i64 x.v.slot,.int .i64 x.v.size,.slice x.v.A x.v.n x.v.c,.slice x.A x.n x.c,.slice x.B x.m x.d] 246 (Below.refl _ _)
 have hbx:w.heap.size<W.heap.size:=by have:=SW.out;omega
 have hpW:p<W.heap.size:=by omega
 have HM:=Lib.hid (fun w' (hw:Below W.heap.size W w')=>(hM.ext bW).ext hw)
 have HRX:=Lib.hid (fun w' (hw:Below W.heap.size W w')=>(hw.block w.heap.size hbx).trans R0.out)
 have HRO:=Lib.hid (fun w' (hw:Below W.heap.size W w')=>(show RunOk w' p base v r F from ⟨_,_,_,_,_,_,HM.out w' hw,(hF.size bW.size).size hw.size⟩))
 have HKF:=Lib.hid (fun w' (hw:Below W.heap.size W w')=>(show Keep F w w' from fun q hq h=>(hw.block q (by have:=bW.size;omega)).trans (bW.block q hq)))
 have HVP:=Lib.hid (fun w' (hw:Below W.heap.size W w')=>kC w' p base v r F (HRO.out w' hw) x.p pl S (ExOk.keep (Keep.of_below (Below.ext bW hw)) _ _ _ hp) rp hv)
 have HVV:=Lib.hid (fun w' (hw:Below W.heap.size W w')=>kC w' p base v r F (HRO.out w' hw) x.v vl S (ExOk.keep (Keep.of_below (Below.ext bW hw)) _ _ _ hvl) rv hv)
 have ivp:InR (ev3 r v pl):=mM hM.ci hv 3 pl rp
 have ivv:InR (ev3 r v vl):=mM hM.ci hv 3 vl rv
 have q0:W.cell? ⟨w.heap.size,0,none⟩=some (.int .i64 x.kind):=aA R0.out 0 _ rfl
 have hWW:=Below.refl W.heap.size W
 obtain ⟨pv,hpv⟩:∃z,z=ev3 r v pl:=⟨_,rfl⟩
 obtain ⟨vv,hvv⟩:∃z,z=ev3 r v vl:=⟨_,rfl⟩
 rw [←hpv] at HVP ivp
 rw [←hvv] at HVV ivv
 have HPV:=Lib.hid hpv
 have HVV' :=Lib.hid hvv
 have HMr:=Lib.hid hM
 clear hp hvl rp rv hpv hvv hM
 by_cases k1:x.kind=1
 ·have d1:(x.kind==1)=true:=by simpa using k1
  have ds:decide ((0:Int)≤x.slot)=true:=by simp;omega
  rw [KQ k1]
  clear k1
  by_cases hlt:x.slot<nc
  ·have dl:decide (x.slot<(nc:Int))=true:=by simpa using hlt
   obtain ⟨j,hj⟩:∃j:Nat,x.slot=(j:Int):=⟨x.slot.toNat,by omega⟩
   have hjn:j<nc:=by omega
   obtain ⟨g,rfl,hg1,hg2⟩:=HMr.out.cel.some_ (by have:=HLC.out;omega)
   rw [if_pos ⟨hs.1,by have:=HLC.out;omega⟩]
   have HJ:=Lib.hid hj
   have hjt:x.slot.toNat=j:=by omega
   rw [hjt,HVV'.out.symm]
   clear hj hjt
   go_enter Tryz.func203,Tryz.ntmps203
   go_upto_region 1 with fail
   try rw [←hW]
   clear hW
   go_wp2_with fail
   refine aM ((fun w' =>Below W.heap.size W w')) (by kernel_rfl) (by kernel_rfl) (hWW.drew) ?_
   refine TkA ?_
   refine aE (⟨w.heap.size,2,none⟩) (.int .i64 x.slot) rfl rfl rfl (fun w' hw' =>aG (aU _) (aA (HRX.out w' hw') 2 _ rfl)) ?_
   refine TkI ?_
   refine TkA ?_
   refine aE (⟨w.heap.size,2,none⟩) (.int .i64 x.slot) rfl rfl rfl (fun w' hw' =>aG (aU _) (aA (HRX.out w' hw') 2 _ rfl)) ?_
   refine TkI ?_
   refine TkA ?_
   refine aE (⟨p,0,none⟩) (.slice (some ⟨g,0,none⟩) nc cc) rfl rfl rfl (fun w' hw' =>aG (fC _) (aA (HM.out w' hw').row 0 _ rfl)) ?_
   refine TkI ?_
   refine TkA ?_
   refine aZ ?_
   go_wp2_with fail
   go_wp2_with fail
   refine aM ((fun w' =>w'.heap[p]? =some (.cells #[.slice (some ⟨g,0,none⟩) nc cc,.slice Al nl cl,.int .i64 v.self,.int .i64 v.procs,.int .i64 v.frm,.int .i64 v.value,.int .i64 (r.used:Int)] 262 (0,0))∧w'.heap[w.heap.size]? =some (.cells #[.int .i64 x.kind,.string x.name,.int .i64 x.slot,.int .i64 x.size,.int .i64 x.p.op,.int .i64 x.p.val,.string x.p.name,.int .i64 x.p.slot,.int .i64 x.p.size,.slice x.p.A x.p.n x.p.c,.int .i64 x.v.op,.int .i64 x.v.val,.string x.v.name,.int .i64 x.v.slot,.int .i64 x.v.size,.slice x.v.A x.v.n x.v.c,.slice x.A x.n x.c,.slice x.B x.m x.d] 246 (0,0)))) (by kernel_rfl) (by kernel_rfl) (⟨(HM.out _ hWW.drew.drew).row,HRX.out _ hWW.drew.drew⟩) ?_
   refine TkA ?_
   refine aE (⟨p,0,none⟩) (.slice (some ⟨g,0,none⟩) nc cc) rfl rfl rfl (fun w' hw' =>aG (fC _) (aA hw'.1 0 _ rfl)) ?_
   refine TkI ?_
   refine TkA ?_
   refine aE (⟨w.heap.size,2,none⟩) (.int .i64 (j:Int)) rfl rfl rfl (fun w' hw' =>aG (aU _) (by rw [←HJ.out];exact aA hw'.2 2 _ rfl)) ?_
   refine TkI ?_
   refine TkA ?_
   refine aE (⟨w.heap.size,10,none⟩) (.agg #[.int .i64 x.v.op,.int .i64 x.v.val,.string x.v.name,.int .i64 x.v.slot,.int .i64 x.v.size,.slice x.v.A x.v.n x.v.c]) rfl rfl rfl (fun w' hw' =>cK (y:=x.v) hw'.2 rfl) ?_
   refine TkI ?_
   refine TkA ?_
   refine aL rfl ?_
   go_wp2_with fail
   refine (HVV.out _ hWW.drew.drew).mono ?_
   rintro e w2 ⟨rfl,hb2⟩
   have y2:=Below.ext hWW.drew.drew hb2
   exact Tzaw
  ·have dl:decide (x.slot<(nc:Int))=false:=by simpa using hlt
   rw [if_neg (by have:=HLC.out;omega)]
   go_enter Tryz.func203,Tryz.ntmps203
   go_upto_region 1 with fail
   try rw [←hW]
   clear hW
   go_wp2_with fail
   refine aM ((fun w' =>Below W.heap.size W w')) (by kernel_rfl) (by kernel_rfl) (hWW.drew) ?_
   refine TkA ?_
   refine aE (⟨w.heap.size,2,none⟩) (.int .i64 x.slot) rfl rfl rfl (fun w' hw' =>aG (aU _) (aA (HRX.out w' hw') 2 _ rfl)) ?_
   refine TkI ?_
   refine TkA ?_
   refine aE (⟨w.heap.size,2,none⟩) (.int .i64 x.slot) rfl rfl rfl (fun w' hw' =>aG (aU _) (aA (HRX.out w' hw') 2 _ rfl)) ?_
   refine TkI ?_
   refine TkA ?_
   refine aE (⟨p,0,none⟩) (.slice Ac nc cc) rfl rfl rfl (fun w' hw' =>aG (fC _) (aA (HM.out w' hw').row 0 _ rfl)) ?_
   refine TkI ?_
   refine TkA ?_
   refine aZ ?_
   go_wp2_with fail
   go_end0
   exact ⟨rfl,HRO.out _ hWW.drew,(bW.mono hbw).drew,HKF.out _ hWW.drew⟩
 have e1:(x.kind==1)=false:=by simpa using k1
 by_cases k2:x.kind=2
 ·have d2:(x.kind==2)=true:=by simpa using k2
  rw [KP k2,←HPV.out,←HVV'.out]
  clear k2 k1 hk
  obtain ⟨nn,hnn⟩:∃z,z=dQ x.slot x.size pv r.cells:=⟨_,rfl⟩
  rw [←hnn]
  have hpl2:=fun (w' :World)=>sT Ac nc cc r.cells x.slot x.size pv w' HLC.out hn1 hs hz ivp
  rw [←hnn] at hpl2
  have HPL:=Lib.hid hpl2
  have hnlt:0≤nn→nn<nc:=fun h=>by have:=AS (hnn▸h);rw [←hnn,HLC.out] at this;exact this
  clear hpl2 hnn
  by_cases hge:0≤nn
  ·have dg:decide ((0:Int)≤nn)=true:=by simpa using hge
   obtain ⟨j,rfl⟩:∃j:Nat,nn=(j:Int):=⟨nn.toNat,by omega⟩
   have hjn:j<nc:=by have:=hnlt hge;omega
   obtain ⟨g,rfl,hg1,hg2⟩:=HMr.out.cel.some_ (by have:=HLC.out;omega)
   rw [if_pos hge,show ((j:Int)).toNat=j from rfl]
   clear hnlt hge
   go_enter Tryz.func203,Tryz.ntmps203
   go_upto_region 1 with fail
   try rw [←hW]
   clear hW
   go_upto_region 6 with fail
   go_wp2_with fail
   refine aM ((fun w' =>Below W.heap.size W w')) (by kernel_rfl) (by kernel_rfl) (hWW.drew) ?_
   refine TkA ?_
   refine aE (⟨w.heap.size,2,none⟩) (.int .i64 x.slot) rfl rfl rfl (fun w' hw' =>aG (aU _) (aA (HRX.out w' hw') 2 _ rfl)) ?_
   refine TkI ?_
   refine TkA ?_
   refine aE (⟨w.heap.size,3,none⟩) (.int .i64 x.size) rfl rfl rfl (fun w' hw' =>aG (aU _) (aA (HRX.out w' hw') 3 _ rfl)) ?_
   refine TkI ?_
   refine TkA ?_
   refine aE (⟨w.heap.size,4,none⟩) (.agg #[.int .i64 x.p.op,.int .i64 x.p.val,.string x.p.name,.int .i64 x.p.slot,.int .i64 x.p.size,.slice x.p.A x.p.n x.p.c]) rfl rfl rfl (fun w' hw' =>cK (y:=x.p) (HRX.out w' hw') rfl) ?_
   refine TkI ?_
   refine TkA ?_
   refine aL rfl ?_
   go_wp2_with fail
   refine (HVP.out _ hWW.drew).mono ?_
   rintro e w5 ⟨rfl,hb5⟩
   have y5:=Below.ext hWW.drew hb5
   go_wp2_with fail
   refine aI (y5) ?_
   refine TkA ?_
   refine aE (⟨p,0,none⟩) (.slice (some ⟨g,0,none⟩) nc cc) rfl rfl rfl (fun w' hw' =>aG (fC _) (aA (HM.out w' hw').row 0 _ rfl)) ?_
   refine TkI ?_
   refine TkA ?_
   refine aL rfl ?_
   go_wp2_with fail
   refine (HPL.out w5).mono ?_
   rintro e w6 ⟨rfl,rfl⟩
   go_wp2_with fail
   refine aI (y5) ?_
   refine TkA ?_
   refine aZ ?_
   go_wp2_with fail
   go_upto_region 8 with fail
   go_wp2_with fail
   refine aM ((fun w' =>w'.heap[p]? =some (.cells #[.slice (some ⟨g,0,none⟩) nc cc,.slice Al nl cl,.int .i64 v.self,.int .i64 v.procs,.int .i64 v.frm,.int .i64 v.value,.int .i64 (r.used:Int)] 262 (0,0))∧w'.heap[w.heap.size]? =some (.cells #[.int .i64 x.kind,.string x.name,.int .i64 x.slot,.int .i64 x.size,.int .i64 x.p.op,.int .i64 x.p.val,.string x.p.name,.int .i64 x.p.slot,.int .i64 x.p.size,.slice x.p.A x.p.n x.p.c,.int .i64 x.v.op,.int .i64 x.v.val,.string x.v.name,.int .i64 x.v.slot,.int .i64 x.v.size,.slice x.v.A x.v.n x.v.c,.slice x.A x.n x.c,.slice x.B x.m x.d] 246 (0,0)))) (by kernel_rfl) (by kernel_rfl) (⟨(HM.out _ y5.drew).row,HRX.out _ y5.drew⟩) ?_
   refine TkA ?_
   refine aE (⟨p,0,none⟩) (.slice (some ⟨g,0,none⟩) nc cc) rfl rfl rfl (fun w' hw' =>aG (fC _) (aA hw'.1 0 _ rfl)) ?_
   refine TkI ?_
   refine TkA ?_
   refine aE (⟨w.heap.size,10,none⟩) (.agg #[.int .i64 x.v.op,.int .i64 x.v.val,.string x.v.name,.int .i64 x.v.slot,.int .i64 x.v.size,.slice x.v.A x.v.n x.v.c]) rfl rfl rfl (fun w' hw' =>cK (y:=x.v) hw'.2 rfl) ?_
   refine TkI ?_
   refine TkA ?_
   refine aL rfl ?_
   go_wp2_with fail
   refine (HVV.out _ y5.drew).mono ?_
   rintro e w2 ⟨rfl,hb2⟩
   have y2:=Below.ext y5.drew hb2
   exact Tzaw
  ·have dg:decide ((0:Int)≤nn)=false:=by simpa using hge
   rw [if_neg hge]
   clear hnlt hge
   go_enter Tryz.func203,Tryz.ntmps203
   go_upto_region 1 with fail
   try rw [←hW]
   clear hW
   go_upto_region 6 with fail
   go_wp2_with fail
   refine aM ((fun w' =>Below W.heap.size W w')) (by kernel_rfl) (by kernel_rfl) (hWW.drew) ?_
   refine TkA ?_
   refine aE (⟨w.heap.size,2,none⟩) (.int .i64 x.slot) rfl rfl rfl (fun w' hw' =>aG (aU _) (aA (HRX.out w' hw') 2 _ rfl)) ?_
   refine TkI ?_
   refine TkA ?_
   refine aE (⟨w.heap.size,3,none⟩) (.int .i64 x.size) rfl rfl rfl (fun w' hw' =>aG (aU _) (aA (HRX.out w' hw') 3 _ rfl)) ?_
   refine TkI ?_
   refine TkA ?_
   refine aE (⟨w.heap.size,4,none⟩) (.agg #[.int .i64 x.p.op,.int .i64 x.p.val,.string x.p.name,.int .i64 x.p.slot,.int .i64 x.p.size,.slice x.p.A x.p.n x.p.c]) rfl rfl rfl (fun w' hw' =>cK (y:=x.p) (HRX.out w' hw') rfl) ?_
   refine TkI ?_
   refine TkA ?_
   refine aL rfl ?_
   go_wp2_with fail
   refine (HVP.out _ hWW.drew).mono ?_
   rintro e w5 ⟨rfl,hb5⟩
   have y5:=Below.ext hWW.drew hb5
   go_wp2_with fail
   refine aI (y5) ?_
   refine TkA ?_
   refine aE (⟨p,0,none⟩) (.slice Ac nc cc) rfl rfl rfl (fun w' hw' =>aG (fC _) (aA (HM.out w' hw').row 0 _ rfl)) ?_
   refine TkI ?_
   refine TkA ?_
   refine aL rfl ?_
   go_wp2_with fail
   refine (HPL.out w5).mono ?_
   rintro e w6 ⟨rfl,rfl⟩
   go_wp2_with fail
   refine aI (y5) ?_
   refine TkA ?_
   refine aZ ?_
   go_wp2_with fail
   go_wp2
   go_end0
   exact ⟨rfl,HRO.out _ y5,(bW.mono hbw).trans (y5.mono (by have:=bW.size;omega)),HKF.out _ y5⟩
 have e2:(x.kind==2)=false:=by simpa using k2
 by_cases k5:x.kind=5
 ·have d5:(x.kind==5)=true:=by simpa using k5
  rw [KO k5,←HPV.out,←HVV'.out]
  obtain ⟨rr,hrr⟩:∃q,q=(if 0≤pv∧pv<v.procs∧pv≠v.self then r.eff ⟨1,pv,vv⟩ else r):=⟨_,rfl⟩
  rw [←hrr]
  have HRR:=Lib.hid hrr
  clear k5 k2 k1 hk hrr
  go_enter Tryz.func203,Tryz.ntmps203
  go_upto_region 1 with fail
  try rw [←hW]
  clear hW
  go_upto_region 10 with fail
  go_wp2_with (refine aD (t:=244) (A:=⟨w.heap.size,4,none⟩) rfl rfl rfl (cK (y:=x.p) R0.out rfl) ?_)
  refine (HVP.out W hWW).mono ?_
  rintro e w2 ⟨rfl,y2⟩
  have M2:=HM.out w2 y2
  have RP2:=Lib.hid M2.row
  have RX2:=Lib.hid (HRX.out w2 y2)
  have q2:w2.cell? ⟨p,2,none⟩=some (.int .i64 v.self):=aA RP2.out 2 _ rfl
  have q3:w2.cell? ⟨p,3,none⟩=some (.int .i64 v.procs):=aA RP2.out 3 _ rfl
  have b2:Below base w w2:=(bW.mono hbw).trans (y2.mono (by have:=bW.size;omega))
  have HM2:=Lib.hid M2
  have HV2:=Lib.hid (HVV.out w2 y2)
  have HV3:=Lib.hid (fun w' (hw:Below w2.heap.size w2 w')=>HM.out w' (Below.ext y2 hw))
  clear M2
  by_cases c1:0≤pv
  ·have g1:decide ((0:Int)≤pv)=true:=by simpa using c1
   by_cases c2:pv<v.procs
   ·have g2:decide (pv<v.procs)=true:=by simpa using c2
    by_cases c3:pv=v.self
    ·have g3:(pv != v.self)=false:=by simpa using c3
     have hq:=Lib.hid (HRR.out.trans (if_neg (fun h=>h.2.2 c3)))
     clear c3
     go_wp2
     go_end0
     exact ⟨rfl,by rw [hq.out];exact HRO.out w2 y2,b2,HKF.out w2 y2⟩
    ·have g3:(pv != v.self)=true:=by simpa using c3
     have hq:=Lib.hid (HRR.out.trans (if_pos ⟨c1,c2,c3⟩))
     clear c3
     go_upto_region 12 with fail
     go_wp2_with (refine aD (t:=244) (A:=⟨w.heap.size,10,none⟩) rfl rfl rfl (cK (y:=x.v) RX2.out rfl) ?_)
     refine HV2.out.mono ?_
     rintro e w3 ⟨rfl,y3⟩
     go_wp2_with fail
     refine (rK w3 p base v r F (HRO.out w3 (Below.ext y2 y3)) ⟨1,pv,vv⟩ ⟨.inl rfl,ivp,ivv⟩).mono ?_
     rintro e w4 ⟨rfl,h4,b4,f4⟩
     go_wp2
     go_end0
     exact ⟨rfl,by rw [hq.out];exact h4,b2.trans ((y3.mono (by have:=b2.size;omega)).trans b4),fun q hq' h=>(f4 q (by have:=bW.size;have:=y2.size;have:=y3.size;omega) h).trans (HKF.out w3 (Below.ext y2 y3) q hq' h)⟩
   ·have g2:decide (pv<v.procs)=false:=by simpa using c2
    have hq:=Lib.hid (HRR.out.trans (if_neg (fun h=>c2 h.2.1)))
    go_wp2
    go_end0
    exact ⟨rfl,by rw [hq.out];exact HRO.out w2 y2,b2,HKF.out w2 y2⟩
  ·have g1:decide ((0:Int)≤pv)=false:=by simpa using c1
   have hq:=Lib.hid (HRR.out.trans (if_neg (fun h=>c1 h.1)))
   go_wp2
   go_end0
   exact ⟨rfl,by rw [hq.out];exact HRO.out w2 y2,b2,HKF.out w2 y2⟩
 have e5:(x.kind==5)=false:=by simpa using k5
 have k6:x.kind=6:=by omega
 have d6:(x.kind==6)=true:=by simpa using k6
 rw [KN k6,←HVV'.out]
 clear k6 k5 k2 k1 hk
 go_enter Tryz.func203,Tryz.ntmps203
 go_upto_region 1 with fail
 try rw [←hW]
 clear hW
 go_upto_region 14 with fail
 go_wp2_with (refine aD (t:=244) (A:=⟨w.heap.size,10,none⟩) rfl rfl rfl (cK (y:=x.v) R0.out rfl) ?_)
 refine (HVV.out W hWW).mono ?_
 rintro e w2 ⟨rfl,y2⟩
 go_wp2_with fail
 refine (rK w2 p base v r F (HRO.out w2 y2) ⟨2,0,vv⟩ ⟨.inr rfl,(show InR 0 from ⟨by decide,by decide⟩),ivv⟩).mono ?_
 rintro e w4 ⟨rfl,h4,b4,f4⟩
 go_wp2
 go_end0
 exact ⟨rfl,h4,((bW.mono hbw).trans (y2.mono (by have:=bW.size;omega))).trans b4,fun q hq' h=>(f4 q (by have:=bW.size;have:=y2.size;omega) h).trans (HKF.out w2 y2 q hq' h)⟩
end Go.Proofs.YtiblijmngokcgaaGreatDoor
namespace Go.Proofs.YtiblijmngokcgaaGreatDoor
open Go.RowKit
set_option maxRecDepth 100000
set_option linter.unusedVariables false
set_option linter.unusedSimpArgs false
theorem lS {fs:List Fil} {k:Nat} {f:Fil} (h:fs[k]? =some f):cH fs (k:Int)=f.s++f.p:=by
 unfold cH
 rw [if_neg (by omega),Int.toNat_natCast,h]
theorem tG {fs:List Fil} {k:Int} (h:k<0∨(fs.length:Int)≤k):cH fs k=[]:=by
 unfold cH
 split
 ·rfl
 ·rw [List.getElem?_eq_none (by omega)]
def iY (fs:List Fil):Prop:=∀f∈fs,f.s.length+f.p.length≤1000000
theorem tH {fs:List Fil} (h:iY fs) (k:Int):(cH fs k).length≤1000000:=by
 unfold cH
 split
 ·simp
 ·split
  ·rename_i f hf
   have:=h f (List.mem_of_getElem? hf)
   simp
   omega
  ·simp
theorem CV (A:Option Addr) (n c:Nat) (fs:List Fil) (S:Nat→Prop) (w:World) (hD:Dsk S w (.slice A n c) fs) (hn:n≤1000) (k:Int) (hf:iY fs):
 Calls Tryz.prog 27 #[.agg #[.slice A n c],.int .i64 k] w fun e w' =>∃A' m' c' x,e= .returned (.tuple #[.slice A' m' c',.int .i64 x])∧Bytes (w.heap.size≤·) w' (.slice A' m' c') (cH fs k)∧(x=0∨cH fs k=[])∧Below w.heap.size w w' :=by
 have hl:=hD.len.1
 by_cases hk:k<0∨(n:Int)≤k
 ·refine (IM A n c k hk hn w).mono ?_
  rintro e w' ⟨rfl,hb⟩
  have e0:=tG (fs:=fs) (k:=k) (by omega)
  exact ⟨none,0,0,11,rfl,by rw [e0];exact Bytes.nil_ _ _,.inr e0,hb⟩
 ·obtain ⟨j,rfl⟩:=Int.eq_ofNat_of_zero_le (by omega:0≤k)
  have hj:j<fs.length:=by omega
  have hfj:fs[j]? =some fs[j]:=List.getElem?_eq_getElem hj
  refine (xF A n c fs S w hD hn j fs[j] hfj (by have:=hf _ (List.getElem_mem hj);omega)).mono ?_
  rintro e w' ⟨A',c',rfl,hO,hb⟩
  exact ⟨A',_,c',0,rfl,by rw [lS hfj];exact hO.by_.bytes,.inl rfl,hb⟩
def wJ (base:Nat) (w:World) (L:List UInt8) (h:Hd) (V:Value) (q x:Nat):Prop:=
 (∃p,cF L= .ok (h,p)∧q=p∧x=0∧Bytes (base≤·) w V L)∨(cF L= .error x∧x≠0∧h=⟨0,0,0,0⟩∧q=0∧V= .slice none 0 0)
set_option maxHeartbeats 4000000 in
theorem iW (A:Option Addr) (n c:Nat) (fs:List Fil) (S:Nat→Prop) (w:World) (hD:Dsk S w (.slice A n c) fs) (hn:n≤1000) (k:Int) (hf:iY fs):
 Calls Tryz.prog 49 #[.agg #[.slice A n c],.int .i64 k] w fun e w' =>∃(h:Hd) (V:Value) (q x:Nat),e= .returned (.tuple #[.agg #[.int .i64 h.kind,.int .i64 h.stamp,.int .i64 h.base,.int .i64 h.under],V,.int .i64 q,.int .i64 x])∧wJ w.heap.size w' (cH fs k) h V q x∧Below w.heap.size w w' :=by
 obtain ⟨W,hW,hbW,SW,R0,R1⟩:∃W,W=(w.alloc (.cells #[.slice A n c] 36)).alloc (.cells #[.int .i64 0,.int .i64 0,.int .i64 0,.int .i64 0] 90)∧Below w.heap.size w W∧RowKit.Hid (W.heap.size=w.heap.size+2)∧
  RowKit.Hid (W.heap[w.heap.size]? =some (.cells #[.slice A n c] 36 (0,0)))∧RowKit.Hid (W.heap[w.heap.size+1]? =some (.cells #[.int .i64 0,.int .i64 0,.int .i64 0,.int .i64 0] 90 (0,0))):=by
  refine ⟨_,rfl,((Below.refl _ w).alloc (Nat.le_refl _) _).alloc (by simp) _,Lib.hid (by simp),Lib.hid ?_,Lib.hid ?_⟩
  ·exact Tzar
  ·have:=heap_alloc_new (w.alloc (.cells #[.slice A n c] 36)) (.cells #[.int .i64 0,.int .i64 0,.int .i64 0,.int .i64 0] 90)
   rw [World.size_alloc] at this
   exact this
 have hlt:w.heap.size+1<W.heap.size:=by have:=SW.out;omega
 have Hrd:=Lib.hid (CV A n c fs S W (hD.ext hbW) hn k hf)
 have hll:=tH hf k
 obtain ⟨L,hL⟩:∃L,L=cH fs k:=⟨_,rfl⟩
 rw [←hL] at Hrd hll ⊢
 clear hL hD hf
 go_enter Tryz.func49,Tryz.ntmps49
 go_upto_region 1 with fail
 rw [←hW]
 clear hW
 go_wp2_with (refine aD (t:=36) (A:=⟨w.heap.size,0,none⟩) rfl rfl rfl (aB R0.out Tryz.underlying36 rfl (by kernel_rfl)) ?_)
 refine Hrd.out.mono ?_
 rintro e w1 ⟨A1,m1,c1,x1,rfl,hy1,hx1,b1⟩
 have hm1:=hy1.len.1
 have sW:=SW.out
 have s1:=b1.size
 have R11:=Lib.hid ((b1.block (w.heap.size+1) hlt).trans R1.out)
 have hbw1:=Below.ext hbW b1
 have HM1:=Lib.hid hm1
 clear R0 R1 sW
 by_cases hL0:L=[]
 ·have e11:cF L= .error 11:=by rw [hL0];rfl
  obtain rfl:m1=0:=by rw [←hm1,hL0];rfl
  have FIN:wJ w.heap.size (w1.setRow (w.heap.size+1) #[.int .i64 0,.int .i64 0,.int .i64 0,.int .i64 0]) L ⟨0,0,0,0⟩ (.slice none 0 0) 0 11:= .inr ⟨e11,by decide,rfl,rfl,rfl⟩
  have HFIN:=Lib.hid FIN
  clear FIN e11 hy1 hm1 hx1 hL0
  by_cases hx:x1=0
  ·have d1:(x1 != 0)=false:=by simp [hx]
   exact Tzca
  ·have d1:(x1 != 0)=true:=by simpa using hx
   exact Tzca
 ·obtain rfl:x1=0:=hx1.resolve_right hL0
  have hm0:((m1:Int)==0)=false:=by
   have:m1≠0:=fun e=>hL0 (List.eq_nil_of_length_eq_zero (by omega))
   simpa using this
  have Hnx:=Lib.hid (tE _ L _ w1 0 hy1 (by omega))
  obtain ⟨bd,q,er,hN⟩:∃bd q er,bO L 0=(bd,q,er):=⟨_,_,_,rfl⟩
  have hbd:bd.length≤4096:=by have:=lM L 0;rw [hN] at this;exact this
  rw [hN] at Hnx
  dsimp only at Hnx
  have HN:=Lib.hid hN
  have HY1:=Lib.hid hy1
  clear hN hy1 hm1 hL0 hx1
  go_wp2_with fail
  refine Hnx.out.mono ?_
  rintro e w2 ⟨V2,rfl,hy2,b2⟩
  have R12:=Lib.hid ((b2.block (w.heap.size+1) (by omega)).trans R11.out)
  have hbw2:=Below.ext hbw1 b2
  have s2:=b2.size
  by_cases he:er=0
  ·subst he
   obtain ⟨A2,c2,rfl,hc21,hc22,hy2'⟩:=hy2
   obtain ⟨m2,hm2⟩:∃m,m=bd.length:=⟨_,rfl⟩
   rw [←hm2] at hc21 ⊢
   have hy2:Bytes _ w2 (.slice A2 m2 c2) bd:=⟨A2,c2,by rw [hm2],by omega,hc22,hy2'⟩
   have Hpa:=Lib.hid (AX A2 m2 c2 bd _ w2 hy2 (by omega))
   clear hm2 hy2 hy2' hc21 hc22
   go_wp2_with fail
   refine Hpa.out.mono ?_
   rintro e w3 ⟨g,ok,rfl,hpm,b3⟩
   obtain ⟨W4,hW4,_,k4,S4,R4⟩:=bP w3 w3 #[.int .i64 g.kind,.int .i64 g.stamp,.int .i64 g.base,.int .i64 g.under] 90 (Below.refl _ _)
   obtain ⟨bx,hbx⟩:∃b,b=w3.heap.size:=⟨_,rfl⟩
   rw [←hbx] at R4
   have HBX:=Lib.hid hbx
   have s3:=b3.size
   have y34:=Below.ext b3 k4
   have R14:=Lib.hid ((y34.block (w.heap.size+1) (by omega)).trans R12.out)
   have hbw4:=Below.ext hbw2 y34
   have hyW:=HY1.out.ext (Below.ext b2 y34)
   have hbxl:w.heap.size+1<bx:=by omega
   have hsz4:=k4.size
   clear hbx
   go_upto_region 8 with (refine aF rfl 90 _ _ rfl 90 _ #[.int .i64 g.kind,.int .i64 g.stamp,.int .i64 g.base,.int .i64 g.under] rfl rfl (by kernel_rfl) rfl (by simp [Value.oneCell']) ?_)
   try dsimp only
   rw [←hW4,←HBX.out]
   clear hW4
   try simp only [Act.put]
   cases ok with
   |false=>
    have FIN:wJ w.heap.size (W4.setRow (w.heap.size+1) #[.int .i64 0,.int .i64 0,.int .i64 0,.int .i64 0]) L ⟨0,0,0,0⟩ (.slice none 0 0) 0 9:= .inr ⟨by unfold cF;rw [HN.out];dsimp only;rw [if_pos rfl,hpm];rfl,by decide,rfl,rfl,rfl⟩
    have HFIN:=Lib.hid FIN
    clear FIN hpm
    go_wp2_with (refine aC rfl 90 _ _ rfl (w.heap.size+1) 90 _ _ rfl rfl R14.out (by kernel_rfl) rfl (by simp [Value.oneCell']) ?_)
    refine bodyPost_ret (gL rfl rfl (aB (setRow_heap _ _ _ _ _ _ R14.out) Tryz.underlying90 rfl (by kernel_rfl))) rfl ?_
    exact ⟨⟨0,0,0,0⟩,_,0,9,rfl,HFIN.out,hbw4.grown (aJ _ _ _) hbw4.size (fun o e=>by cases e;omega)⟩
   |true=>
    have FIN:wJ w.heap.size (W4.setRow (w.heap.size+1) #[.int .i64 g.kind,.int .i64 g.stamp,.int .i64 g.base,.int .i64 g.under]) L g (.slice A1 m1 c1) q 0:= .inl ⟨q,by unfold cF;rw [HN.out];dsimp only;rw [if_pos rfl,hpm];rfl,rfl,rfl,Recs.bytes ((Bytes.by_ hyW).mono (S' :=fun b=>w.heap.size+2≤b) (fun b _ h=>by have:=SW.out;omega) |>.keep (fun b hb hs=>(aJ W4 (w.heap.size+1) #[.int .i64 g.kind,.int .i64 g.stamp,.int .i64 g.base,.int .i64 g.under]).block b hb (by simp;omega)) |>.mono (fun b _ h=>by omega))⟩
    have HFIN:=Lib.hid FIN
    clear FIN hpm hyW
    go_wp2_with (first|(refine aD (t:=90) (A:=⟨bx,0,none⟩) rfl rfl rfl (aB R4.out Tryz.underlying90 rfl (by kernel_rfl)) ?_)|(refine aC rfl 90 _ _ rfl (w.heap.size+1) 90 _ _ rfl rfl R14.out (by kernel_rfl) rfl (by simp [Value.oneCell']) ?_))
    refine bodyPost_ret (gL rfl rfl (aB (setRow_heap _ _ _ _ _ _ R14.out) Tryz.underlying90 rfl (by kernel_rfl))) rfl ?_
    exact ⟨g,_,q,0,rfl,HFIN.out,hbw4.grown (aJ _ _ _) hbw4.size (fun o e=>by cases e;omega)⟩
  ·have d5:((er:Int) != 0)=true:=by simpa using he
   have FIN:wJ w.heap.size (w2.setRow (w.heap.size+1) #[.int .i64 0,.int .i64 0,.int .i64 0,.int .i64 0]) L ⟨0,0,0,0⟩ (.slice none 0 0) 0 er:= .inr ⟨by unfold cF;rw [HN.out];dsimp only;rw [if_neg he],he,rfl,rfl,rfl⟩
   have HFIN:=Lib.hid FIN
   clear FIN he hy2
   go_wp2_with (refine aC rfl 90 _ _ rfl (w.heap.size+1) 90 _ _ rfl rfl R12.out (by kernel_rfl) rfl (by simp [Value.oneCell']) ?_)
   refine bodyPost_ret (gL rfl rfl (aB (setRow_heap _ _ _ _ _ _ R12.out) Tryz.underlying90 rfl (by kernel_rfl))) rfl ?_
   exact ⟨⟨0,0,0,0⟩,_,0,er,rfl,HFIN.out,hbw2.grown (aJ _ _ _) hbw2.size (fun o e=>by cases e;omega)⟩
end Go.Proofs.YtiblijmngokcgaaGreatDoor
namespace Go.Proofs.YtiblijmngokcgaaGreatDoor
open Go.RowKit
set_option maxRecDepth 100000
set_option linter.unusedVariables false
set_option maxHeartbeats 1000000 in
theorem LP (A:Option Addr) (n c:Nat) (l:List Int) (S:Nat→Prop) (w:World) (r:Recs bJ S w (.slice A n c) l) (hb:n*8≤140737488355328):
 Calls Tryz.prog 166 #[.slice A n c] w fun e w' =>∃A' c',e= .returned (.slice A' n c')∧OwnR bJ 1 w' w.heap.size 3 (.slice A' n c') l∧Below w.heap.size w w' :=by
 have hn:n≤140737488355328:=by omega
 obtain ⟨hl1,hl2,hl3⟩:=r.len
 have Hl1:=Lib.hid hl1
 clear hl1
 have qn:∀(w:World) (a:Option Addr) (n c n' c' :Nat),(binOp .eql 23 (.slice a n c) (.slice none n' c')).run Tryz.prog w= .ok (.bool a.isNone) w:=fun w a n c n' c' =>Lib.run_eql_slice_nil w _ _ a n c n' c' Tryz.underlying23
 cases A with
 |none=>
  have hl0:l=[]:=by
   obtain ⟨A',c',e,_,_,h3⟩:=r
   cases e
   cases l with
   |nil=>rfl
   |cons x l=>
    obtain ⟨_,_,q,_⟩:=h3 (by rw [List.flatMap_cons,List.length_append,dH];omega)
    cases q
  subst hl0
  obtain rfl:n=0:=by have:=Hl1.out;simpa using this.symm
  go_enter Tryz.func166,Tryz.ntmps166
  go_wp2
  go_ret
  exact ⟨none,0,rfl,OwnR.nil_ _ _ _,Below.refl _ _⟩
 |some ad=>
  have ha:Below w.heap.size w (w.alloc (.cells #[] 3)):=(Below.refl _ _).alloc (Nat.le_refl _) _
  have how:=OwnR.empty_ (enc:=bJ) (k:=1) w w.heap.size 3 (Nat.le_refl _)
  go_enter Tryz.func166,Tryz.ntmps166
  go_wp2_with (refine aV (o:=⟨some 7,_,_,_,_,_⟩) dH jG (.int .i64 0) 8 _ _ 23 3 w.heap.size [] l (some ad) n c (.slice (some ⟨w.heap.size,0,none⟩) 0 0) n rfl rfl Tryz.underlying23 CA rfl (by omega) rfl rfl how (r.ext ha) (by simp) (by simp;omega) (by simp;omega) (by simp) ?_;intro A9 c9 w9 hown9 hgr9 hat9 hc91 hc92)
  exact Tzcj
end Go.Proofs.YtiblijmngokcgaaGreatDoor
