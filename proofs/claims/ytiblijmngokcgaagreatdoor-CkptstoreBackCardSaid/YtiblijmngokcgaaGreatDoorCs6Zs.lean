import Derived.Test.YtiblijmngokcgaaGreatDoorMacZs
import Derived.Test.YtiblijmngokcgaaGreatDoorG29Zs
namespace Go.Proofs.YtiblijmngokcgaaGreatDoor
open Go.RowKit
set_option maxRecDepth 100000
set_option linter.unusedVariables false
set_option linter.unusedSimpArgs false
set_option maxHeartbeats 2000000 in
theorem BQ (bb:Nat) (A:Option Addr) (n c:Nat) (L:List UInt8) (S:Nat→Prop) (w:World) (hr:w.heap[bb]? =some (.cells #[.slice A n c] 22 (0,0))) (hv:Bytes S w (.slice A n c) L) (hn:n≤100000000):
 Calls Tryz.prog 73 #[.pointer (some ⟨bb,0,none⟩)] w fun e w' =>kA w.heap.size w' (cR L 0) e∧Below w.heap.size w w' :=by
 obtain ⟨W,hW,bW,kW,SW,R0⟩:=bP w w #[.slice none 0 0,.slice none 0 0,.slice none 0 0,.slice none 0 0] 51 (Below.refl _ _)
 have hbb:bb<w.heap.size:=(Array.getElem?_eq_some_iff.1 hr).1
 have hlt:w.heap.size<W.heap.size:=by have:=SW.out;omega
 have qb:W.cell? ⟨bb,0,none⟩=some (.slice A n c):=aA ((bW.block bb hbb).trans hr) 0 _ rfl
 have HST:=Lib.hid (qP A n c L S W (hv.ext bW) hn 0 (by omega))
 clear hr hv
 go_enter Tryz.func73,Tryz.ntmps73
 go_upto_region 1 with fail
 rw [←hW]
 clear hW
 go_wp2_with fail
 refine HST.out.mono ?_
 rintro e w1 ⟨hg,b1⟩
 have R1:=Lib.hid ((b1.block w.heap.size hlt).trans R0.out)
 have hb1:=Below.ext bW b1
 have hb1s:=hb1.size
 have HL:=Lib.hid (fun (x:Option Stt) (h:x=cR L 0)=>h)
 cases hw:cR L 0 with
 |none=>
  rw [hw] at hg
  unfold kA at hg
  dsimp only at hg
  subst hg
  have FIN:=Lib.hid hw
  clear hw HL
  go_wp2
  refine ⟨rfl,?_,hb1⟩
  rw [FIN.out]
  rfl
 |some s=>
  rw [hw] at hg
  unfold kA at hg
  dsimp only at hg
  obtain ⟨E1,p1,q1,E2,p2,q2,E3,p3,q3,E4,p4,q4,rfl,hT⟩:=hg
  have FIN:=Lib.hid hw
  clear hw HL
  exact Tza9
set_option maxHeartbeats 2000000 in
theorem BP (bs bb:Nat) (s0:Stt) (A1:Option Addr) (n1 c1:Nat) (A2:Option Addr) (n2 c2:Nat) (A3:Option Addr) (n3 c3:Nat) (A4:Option Addr) (n4 c4:Nat) (Ss:Nat→Prop) (A:Option Addr) (n c:Nat) (L:List UInt8) (S:Nat→Prop) (w:World) (hr0:w.heap[bs]? =some (.cells #[.slice A1 n1 c1,.slice A2 n2 c2,.slice A3 n3 c3,.slice A4 n4 c4] 51 (0,0))) (hr:w.heap[bb]? =some (.cells #[.slice A n c] 22 (0,0))) (hM:StM Ss w s0 A1 n1 c1 A2 n2 c2 A3 n3 c3 A4 n4 c4) (hc:s0.cells.length≤1000000000) (he:s0.evs.length≤1000000000) (hs:s0.sent.length≤1000000000) (ho:s0.outs.length≤1000000000) (hv:Bytes S w (.slice A n c) L) (hn:n≤4096):
 Calls Tryz.prog 75 #[.pointer (some ⟨bs,0,none⟩),.pointer (some ⟨bb,0,none⟩)] w fun e w' =>kA w.heap.size w' (okM (dX s0 L)) e∧Below w.heap.size w w' :=by
 obtain ⟨W,hW,bW,kW,SW,R0⟩:=bP w w #[.slice none 0 0,.slice none 0 0,.slice none 0 0,.slice none 0 0] 51 (Below.refl _ _)
 have hbb:bb<w.heap.size:=(Array.getElem?_eq_some_iff.1 hr).1
 have hbs:bs<w.heap.size:=(Array.getElem?_eq_some_iff.1 hr0).1
 have hlt:w.heap.size<W.heap.size:=by have:=SW.out;omega
 have qb:W.cell? ⟨bb,0,none⟩=some (.slice A n c):=aA ((bW.block bb hbb).trans hr) 0 _ rfl
 have RS:=Lib.hid ((bW.block bs hbs).trans hr0)
 have HST:=Lib.hid (CI s0 A1 n1 c1 A2 n2 c2 A3 n3 c3 A4 n4 c4 Ss W (hM.ext bW) hc he hs ho A n c L S (hv.ext bW) hn)
 clear hr hv hr0 hM hc he hs ho
 go_enter Tryz.func75,Tryz.ntmps75
 go_upto_region 1 with fail
 rw [←hW]
 clear hW
 go_wp2_with (refine aD (t:=51) (A:=⟨bs,0,none⟩) rfl rfl rfl (aB RS.out Tryz.underlying51 rfl (by kernel_rfl)) ?_)
 refine HST.out.mono ?_
 rintro e w1 ⟨hg,b1⟩
 have R1:=Lib.hid ((b1.block w.heap.size hlt).trans R0.out)
 have hb1:=Below.ext bW b1
 have hb1s:=hb1.size
 cases hw:okM (dX s0 L) with
 |none=>
  rw [hw] at hg
  unfold kA at hg
  dsimp only at hg
  subst hg
  have FIN:=Lib.hid hw
  clear hw
  go_wp2
  refine ⟨rfl,?_,hb1⟩
  rw [FIN.out]
  rfl
 |some s=>
  rw [hw] at hg
  unfold kA at hg
  dsimp only at hg
  obtain ⟨E1,p1,q1,E2,p2,q2,E3,p3,q3,E4,p4,q4,rfl,hT⟩:=hg
  have FIN:=Lib.hid hw
  clear hw
  exact Tza9
def LdO (base:Nat) (w' :World) (x:Except Nat Stt) (e:Ending):Prop:=
 match x with
 | .ok s=>∃E1 p1 q1 E2 p2 q2 E3 p3 q3 E4 p4 q4,e= .returned (.tuple #[.agg #[.slice E1 p1 q1,.slice E2 p2 q2,.slice E3 p3 q3,.slice E4 p4 q4],.int .i64 0])∧StM (base≤·) w' s E1 p1 q1 E2 p2 q2 E3 p3 q3 E4 p4 q4
 | .error k=>k≠0∧e= .returned (.tuple #[.agg #[.slice none 0 0,.slice none 0 0,.slice none 0 0,.slice none 0 0],.int .i64 (k:Int)])
theorem FX {s:Stt} {b:List UInt8} (h:okM (dX s b)=none):dX s b= .error 9:=by
 unfold dX at*
 split at h
 ·rfl
 ·split at h
  ·rfl
  ·split at h
   ·rfl
   ·split at h
    ·cases h
    ·rename_i hn
     rw [if_neg hn]
theorem EQ {x:Except Nat Stt} {s:Stt} (h:okM x=some s):x= .ok s:=by
 cases x with
 |ok t=>cases h;rfl
 |error e=>cases h
theorem yR {b:List UInt8} {x:Nat} (h:cF b= .error x):dJ b= .err x:=by unfold dJ;rw [h]
theorem yQ {b:List UInt8} {g:Hd} {q:Nat} (h:cF b= .ok (g,q)) (he:(bO b q).2.2≠0):dJ b= .err (bO b q).2.2:=by unfold dJ;rw [h];dsimp only;rw [if_neg he]
theorem AZ {b:List UInt8} {g:Hd} {q:Nat} (h:cF b= .ok (g,q)) (he:(bO b q).2.2=0) (hn:(bO b q).2.1≠b.length):dJ b= .err 9:=by unfold dJ;rw [h];dsimp only;rw [if_pos he,if_neg hn]
theorem IZ {b:List UInt8} {g:Hd} {q:Nat} (h:cF b= .ok (g,q)) (he:(bO b q).2.2=0) (hn:(bO b q).2.1=b.length) (hk:g.kind=1):dJ b=(match cR (bO b q).1 0 with|some s=> .full s|none=> .err 9):=by unfold dJ;rw [h];dsimp only;rw [if_pos he,if_pos hn,if_pos hk];cases cR (bO b q).1 0<;>rfl
theorem IY {b:List UInt8} {g:Hd} {q:Nat} (h:cF b= .ok (g,q)) (he:(bO b q).2.2=0) (hn:(bO b q).2.1=b.length) (hk:g.kind≠1):dJ b= .inc g (bO b q).1:=by unfold dJ;rw [h];dsimp only;rw [if_pos he,if_pos hn,if_neg hk]
def LdS (fs:List Fil) (k:Int) (R:Int→Except Nat Stt→Prop) (r:Except Nat Stt):Prop:=
 match dJ (cH fs k) with
 | .err e=>r= .error e
 | .full s=>r= .ok s
 | .inc h body=>((∀g q,cF (cH fs h.base)= .ok (g,q)→g.stamp≠h.under)∧r= .error 11)∨∃g q r0,cF (cH fs h.base)= .ok (g,q)∧g.stamp=h.under∧R h.base r0∧r=(match r0 with| .error _=> .error 11| .ok s=>dX s body)
def LdR (fs:List Fil) (k:Int) (r:Except Nat Stt):Prop:=(∀s,r= .ok s→s.cells.length≤1000000000∧s.evs.length≤1000000000∧s.sent.length≤1000000000∧s.outs.length≤1000000000)∧∀(A:Option Addr) (n c:Nat) (S:Nat→Prop) (w:World),Dsk S w (.slice A n c) fs→n≤1000→Calls Tryz.prog 30 #[.agg #[.slice A n c],.int .i64 k] w fun e w' =>LdO w.heap.size w' r e∧Below w.heap.size w w'
set_option maxHeartbeats 8000000 in
theorem kZ (fs:List Fil) (hf:iY fs) (k:Int) (r:Except Nat Stt) (hv:LdS fs k (LdR fs) r) (A:Option Addr) (n c:Nat) (S:Nat→Prop) (w:World) (hD:Dsk S w (.slice A n c) fs) (hn:n≤1000):
 Calls Tryz.prog 30 #[.agg #[.slice A n c],.int .i64 k] w fun e w' =>LdO w.heap.size w' r e∧Below w.heap.size w w' :=by
 have hmf:∀(fn:Fn) (first cap:Array Value) (w:World),(Instr.makeFunc fn first cap).run Tryz.prog w= .ok (.func fn first cap) w:=fun _ _ _ _=>rfl
 obtain ⟨W,hW,hbW,SW,R0,R1⟩:∃W,W=(w.alloc (.cells #[.slice A n c] 36)).alloc (.cells #[.slice none 0 0,.slice none 0 0,.slice none 0 0,.slice none 0 0] 51)∧Below w.heap.size w W∧RowKit.Hid (W.heap.size=w.heap.size+2)∧
  RowKit.Hid (W.heap[w.heap.size]? =some (.cells #[.slice A n c] 36 (0,0)))∧RowKit.Hid (W.heap[w.heap.size+1]? =some (.cells #[.slice none 0 0,.slice none 0 0,.slice none 0 0,.slice none 0 0] 51 (0,0))):=by
  refine ⟨_,rfl,((Below.refl _ w).alloc (Nat.le_refl _) _).alloc (by simp) _,Lib.hid (by simp),Lib.hid ?_,Lib.hid ?_⟩
  ·exact Tzar
  ·have:=heap_alloc_new (w.alloc (.cells #[.slice A n c] 36)) (.cells #[.slice none 0 0,.slice none 0 0,.slice none 0 0,.slice none 0 0] 51)
   rw [World.size_alloc] at this
   exact this
 have hlt:w.heap.size+1<W.heap.size:=by have:=SW.out;omega
 have hbg:=iW A n c fs S W (hD.ext hbW) hn k hf
 have HDW:=Lib.hid (hD.ext hbW)
 have HF:=Lib.hid hf
 have hLl:=tH hf k
 unfold LdS at hv
 obtain ⟨L,hL⟩:∃L,L=cH fs k:=⟨_,rfl⟩
 rw [←hL] at hbg hv hLl
 have HBG:=Lib.hid hbg
 have HV:=Lib.hid hv
 clear hbg hv hD hf hL
 go_enter Tryz.func30,Tryz.ntmps30
 go_upto_region 1 with fail
 rw [←hW]
 clear hW
 go_wp2_with (refine aD (t:=36) (A:=⟨w.heap.size,0,none⟩) rfl rfl rfl (aB R0.out Tryz.underlying36 rfl (by kernel_rfl)) ?_)
 refine HBG.out.mono ?_
 rintro e w1 ⟨h,V,q,x,rfl,hbo,b1⟩
 have s1:=b1.size
 obtain ⟨W2,hW2,_,kh,Sh,Rh⟩:=bP w1 w1 #[.int .i64 h.kind,.int .i64 h.stamp,.int .i64 h.base,.int .i64 h.under] 90 (Below.refl _ _)
 obtain ⟨bh,hbh⟩:∃b,b=w1.heap.size:=⟨_,rfl⟩
 rw [←hbh] at Rh
 have HBh:=Lib.hid hbh
 have lh:bh<W2.heap.size:=by have:=Sh.out;omega
 have y2:=Below.ext b1 kh
 have R02:=Lib.hid ((y2.block w.heap.size (by omega)).trans R0.out)
 have R12:=Lib.hid ((y2.block (w.heap.size+1) hlt).trans R1.out)
 have hb2:=Below.ext hbW y2
 have hbh2:w.heap.size+1<bh:=by omega
 have hD2:=HDW.out.ext y2
 clear hbh
 rcases hbo with ⟨p,hhd,rfl,rfl,hyV⟩|⟨hhd,hx0,rfl,rfl,rfl⟩
 case inr=>
  have dx:((x:Int) != 0)=true:=by simpa using hx0
  have FIN:=Lib.hid (show r= .error x by have:=HV.out;rw [yR hhd] at this;exact this)
  have HX0:=Lib.hid hx0
  clear hhd hx0
  go_upto_region 2 with (refine aF rfl 90 _ _ rfl 90 _ #[.int .i64 0,.int .i64 0,.int .i64 0,.int .i64 0] rfl rfl (by kernel_rfl) rfl (by simp [Value.oneCell']) ?_)
  try dsimp only
  rw [←hW2,←HBh.out]
  clear hW2
  try simp only [Act.put]
  go_wp2_with (refine aC rfl 51 _ _ rfl (w.heap.size+1) 51 _ _ rfl rfl R12.out (by kernel_rfl) rfl (by simp [Value.oneCell']) ?_)
  refine bodyPost_ret (bI rfl rfl (aB (setRow_heap _ _ _ _ _ _ R12.out) Tryz.underlying51 rfl (by kernel_rfl))) rfl ?_
  rw [FIN.out]
  exact ⟨⟨HX0.out,rfl⟩,hb2.grown (aJ _ _ _) hb2.size (fun o e=>by cases e;omega)⟩
 obtain ⟨A1,c1,rfl,hc11,hc12,hyV'⟩:=hyV
 obtain ⟨m1,hm1⟩:∃m,m=L.length:=⟨_,rfl⟩
 rw [←hm1] at hc11 hLl ⊢
 have hyL:Bytes _ w1 (.slice A1 m1 c1) L:=⟨A1,c1,by rw [hm1],by omega,hc12,hyV'⟩
 have hnx:=tE (.slice A1 m1 c1) L _ W2 (q:Int) (hyL.ext kh) (by omega)
 obtain ⟨Bd,q2,er,hN⟩:∃Bd q2 er,bO L (q:Int)=(Bd,q2,er):=⟨_,_,_,rfl⟩
 have hBdl:Bd.length≤4096:=by have:=lM L (q:Int);rw [hN] at this;exact this
 rw [hN] at hnx
 dsimp only at hnx
 have HNX:=Lib.hid hnx
 have HN:=Lib.hid hN
 have HHD:=Lib.hid hhd
 have HM1:=Lib.hid hm1
 clear hnx hN hhd hyL hyV' hc11 hc12 hm1
 go_upto_region 2 with (refine aF rfl 90 _ _ rfl 90 _ #[.int .i64 h.kind,.int .i64 h.stamp,.int .i64 h.base,.int .i64 h.under] rfl rfl (by kernel_rfl) rfl (by simp [Value.oneCell']) ?_)
 try dsimp only
 rw [←hW2,←HBh.out]
 clear hW2
 try simp only [Act.put]
 go_wp2_with fail
 refine HNX.out.mono ?_
 rintro e w3 ⟨V2,rfl,hy2,b3⟩
 have s3:=b3.size
 obtain ⟨A2,c2,rfl,hc21,hc22,hy2'⟩:=hy2
 obtain ⟨m2,hm2⟩:∃m,m=Bd.length:=⟨_,rfl⟩
 rw [←hm2] at hc21 hBdl ⊢
 have hy3:Bytes _ w3 (.slice A2 m2 c2) Bd:=⟨A2,c2,by rw [hm2],by omega,hc22,hy2'⟩
 clear hm2 hy2' hc21 hc22
 obtain ⟨W4,hW4,_,kd,Sd,Rd⟩:=bP w3 w3 #[.slice A2 m2 c2] 22 (Below.refl _ _)
 obtain ⟨bd,hbd⟩:∃b,b=w3.heap.size:=⟨_,rfl⟩
 rw [←hbd] at Rd
 have HBd:=Lib.hid hbd
 have ld:bd<W4.heap.size:=by have:=Sd.out;omega
 have y24:=Below.ext b3 kd
 have R04:=Lib.hid ((y24.block w.heap.size (by omega)).trans R02.out)
 have R14:=Lib.hid ((y24.block (w.heap.size+1) (by omega)).trans R12.out)
 have RH4:=Lib.hid ((y24.block bh lh).trans Rh.out)
 have hb4:=Below.ext hb2 y24
 have hb4s:=hb4.size
 have hy4:=hy3.ext kd
 have hD4:=hD2.ext y24
 have hbd2:bh<bd:=by omega
 have q40:W4.cell? ⟨bh,0,none⟩=some (.int .i64 h.kind):=aA RH4.out 0 _ rfl
 have q42:W4.cell? ⟨bh,2,none⟩=some (.int .i64 h.base):=aA RH4.out 2 _ rfl
 clear hbd hD2 hy3
 by_cases her:er=0
 case neg=>
  have dx:((er:Int) != 0)=true:=by simpa using her
  have FIN:=Lib.hid (show r= .error er by have:=HV.out;have hq:=yQ HHD.out (by rw [HN.out];exact her);rw [hq,HN.out] at this;exact this)
  have HX0:=Lib.hid her
  clear her
  go_upto_region 5 with (refine aF rfl 22 _ _ rfl 22 _ #[.slice A2 m2 c2] rfl rfl (by kernel_rfl) rfl (by simp [Value.oneCell']) ?_)
  try dsimp only
  rw [←hW4,←HBd.out]
  clear hW4
  try simp only [Act.put]
  go_wp2_with (refine aC rfl 51 _ _ rfl (w.heap.size+1) 51 _ _ rfl rfl R14.out (by kernel_rfl) rfl (by simp [Value.oneCell']) ?_)
  refine bodyPost_ret (bI rfl rfl (aB (setRow_heap _ _ _ _ _ _ R14.out) Tryz.underlying51 rfl (by kernel_rfl))) rfl ?_
  rw [FIN.out]
  exact ⟨⟨HX0.out,rfl⟩,hb4.grown (aJ _ _ _) hb4.size (fun o e=>by cases e;omega)⟩
 subst her
 by_cases hq2:q2=m1
 case neg=>
  have dq:((q2:Int) != (m1:Int))=true:=by simp;omega
  have FIN:=Lib.hid (show r= .error 9 by have:=HV.out;have hq:=AZ HHD.out (by rw [HN.out]) (by rw [HN.out,←HM1.out];exact hq2);rw [hq] at this;exact this)
  clear hq2
  go_upto_region 5 with (refine aF rfl 22 _ _ rfl 22 _ #[.slice A2 m2 c2] rfl rfl (by kernel_rfl) rfl (by simp [Value.oneCell']) ?_)
  try dsimp only
  rw [←hW4,←HBd.out]
  clear hW4
  try simp only [Act.put]
  go_wp2_with (refine aC rfl 51 _ _ rfl (w.heap.size+1) 51 _ _ rfl rfl R14.out (by kernel_rfl) rfl (by simp [Value.oneCell']) ?_)
  refine bodyPost_ret (bI rfl rfl (aB (setRow_heap _ _ _ _ _ _ R14.out) Tryz.underlying51 rfl (by kernel_rfl))) rfl ?_
  rw [FIN.out]
  exact ⟨⟨by omega,rfl⟩,hb4.grown (aJ _ _ _) hb4.size (fun o e=>by cases e;omega)⟩
 have dq:((q2:Int) != (m1:Int))=false:=by simp [hq2]
 have HQ2:=Lib.hid hq2
 clear hq2
 by_cases hk1:h.kind=1
 ·have dk:(h.kind==1)=true:=by simpa using hk1
  have hop:=IZ HHD.out (by rw [HN.out]) (by rw [HN.out,←HM1.out];exact HQ2.out) hk1
  rw [HN.out] at hop
  dsimp only at hop
  have hvv:=HV.out
  rw [hop] at hvv
  have HFT:=Lib.hid (pS 73 #[.pointer (some ⟨bd,0,none⟩)] (cR Bd 0) W4 (by intro w;rfl) (fun w' hb' =>BQ bd A2 m2 c2 Bd _ w' ((hb'.block bd ld).trans Rd.out) (hy4.ext hb') (by omega)))
  clear hop hk1
  go_upto_region 5 with (refine aF rfl 22 _ _ rfl 22 _ #[.slice A2 m2 c2] rfl rfl (by kernel_rfl) rfl (by simp [Value.oneCell']) ?_)
  try dsimp only
  rw [←hW4,←HBd.out]
  clear hW4
  try simp only [Act.put]
  go_wp2_with fail
  refine HFT.out.mono ?_
  rintro e w5 ⟨hfo,b5⟩
  have R15:=Lib.hid ((b5.block (w.heap.size+1) (by omega)).trans R14.out)
  have hb5:=Below.ext hb4 b5
  have hb5s:=b5.size
  unfold GQ at hfo
  cases hw:cR Bd 0 with
  |none=>
   rw [hw] at hvv hfo
   dsimp only at hvv hfo
   subst hfo
   have FIN:=Lib.hid hvv
   clear hvv hw
   go_wp2_with (refine aC rfl 51 _ _ rfl (w.heap.size+1) 51 _ _ rfl rfl R15.out (by kernel_rfl) rfl (by simp [Value.oneCell']) ?_)
   refine bodyPost_ret (bI rfl rfl (aB (setRow_heap _ _ _ _ _ _ R15.out) Tryz.underlying51 rfl (by kernel_rfl))) rfl ?_
   rw [FIN.out]
   exact ⟨⟨by omega,rfl⟩,hb5.grown (aJ _ _ _) hb5.size (fun o e=>by cases e;omega)⟩
  |some s=>
   rw [hw] at hvv hfo
   dsimp only at hvv hfo
   obtain ⟨E1,p1,q1,E2,p2,q2',E3,p3,q3,E4,p4,q4,rfl,hT⟩:=hfo
   have FIN:=Lib.hid hvv
   clear hvv hw
   go_wp2_with (refine aC rfl 51 _ _ rfl (w.heap.size+1) 51 _ _ rfl rfl R15.out (by kernel_rfl) rfl (by simp [Value.oneCell']) ?_)
   refine bodyPost_ret (bI rfl rfl (aB (setRow_heap _ _ _ _ _ _ R15.out) Tryz.underlying51 rfl (by kernel_rfl))) rfl ?_
   rw [FIN.out]
   have gE:=aJ w5 (w.heap.size+1) #[.slice E1 p1 q1,.slice E2 p2 q2',.slice E3 p3 q3,.slice E4 p4 q4]
   have kE:Keep (fun b=>W4.heap.size≤b) w5 (w5.setRow (w.heap.size+1) #[.slice E1 p1 q1,.slice E2 p2 q2',.slice E3 p3 q3,.slice E4 p4 q4]):=fun b hb hs=>gE.block b hb (by simp;omega)
   exact ⟨⟨E1,_,q1,E2,_,q2',E3,_,q3,E4,_,q4,rfl,⟨(hT.1.keep kE).mono (fun b _ h=>by omega),(hT.2.keep kE).mono (fun b _ h=>by omega),(hT.3.keep kE).mono (fun b _ h=>by omega),(hT.4.keep kE).mono (fun b _ h=>by omega)⟩⟩,hb5.grown gE hb5.size (fun o e=>by cases e;omega)⟩
 ·have dk:(h.kind==1)=false:=by simpa using hk1
  have hop:=IY HHD.out (by rw [HN.out]) (by rw [HN.out,←HM1.out];exact HQ2.out) hk1
  rw [HN.out] at hop
  dsimp only at hop
  have hvv:=HV.out
  rw [hop] at hvv
  dsimp only at hvv
  have HVV:=Lib.hid hvv
  have HBU:=Lib.hid (iW A n c fs S W4 hD4 hn h.base HF.out)
  clear hop hk1 hvv
  go_upto_region 5 with (refine aF rfl 22 _ _ rfl 22 _ #[.slice A2 m2 c2] rfl rfl (by kernel_rfl) rfl (by simp [Value.oneCell']) ?_)
  try dsimp only
  rw [←hW4,←HBd.out]
  clear hW4
  try simp only [Act.put]
  go_wp2_with (refine aD (t:=36) (A:=⟨w.heap.size,0,none⟩) rfl rfl rfl (aB R04.out Tryz.underlying36 rfl (by kernel_rfl)) ?_)
  refine HBU.out.mono ?_
  rintro e w5 ⟨g,Vg,qg,xg,rfl,hbo,b5⟩
  have s5:=b5.size
  obtain ⟨W6,hW6,_,kg,Sg,Rg⟩:=bP w5 w5 #[.int .i64 g.kind,.int .i64 g.stamp,.int .i64 g.base,.int .i64 g.under] 90 (Below.refl _ _)
  obtain ⟨bg,hbg⟩:∃b,b=w5.heap.size:=⟨_,rfl⟩
  rw [←hbg] at Rg
  have HBg:=Lib.hid hbg
  have lg:bg<W6.heap.size:=by have:=Sg.out;omega
  have y46:=Below.ext b5 kg
  have R06:=Lib.hid ((y46.block w.heap.size (by omega)).trans R04.out)
  have R16:=Lib.hid ((y46.block (w.heap.size+1) (by omega)).trans R14.out)
  have RH6:=Lib.hid ((y46.block bh (by omega)).trans RH4.out)
  have Rd6:=Lib.hid ((y46.block bd ld).trans Rd.out)
  have hb6:=Below.ext hb4 y46
  have hb6s:=y46.size
  have hbg2:bd<bg:=by omega
  have g61:W6.cell? ⟨bg,1,none⟩=some (.int .i64 g.stamp):=aA Rg.out 1 _ rfl
  have g63:W6.cell? ⟨bh,3,none⟩=some (.int .i64 h.under):=aA RH6.out 3 _ rfl
  have g62:W6.cell? ⟨bh,2,none⟩=some (.int .i64 h.base):=aA RH6.out 2 _ rfl
  have hD6:=hD4.ext y46
  have hy6:=hy4.ext y46
  clear hbg q40 q42 hD4 hy4
  rcases hbo with ⟨p,hhd,rfl,rfl,_⟩|⟨hhd,hx0,rfl,rfl,rfl⟩
  case inr=>
   have dx:((xg:Int) != 0)=true:=by simpa using hx0
   have FIN:=Lib.hid (show r= .error 11 by
    rcases HVV.out with ⟨_,h2⟩|⟨g',q',r0,h2,_⟩
    ·exact h2
    ·rw [hhd] at h2;cases h2)
   clear hhd hx0
   go_upto_region 12 with (refine aF rfl 90 _ _ rfl 90 _ #[.int .i64 0,.int .i64 0,.int .i64 0,.int .i64 0] rfl rfl (by kernel_rfl) rfl (by simp [Value.oneCell']) ?_)
   exact Tzb4
  by_cases hst:g.stamp=h.under
  case neg=>
   have ds:(g.stamp != h.under)=true:=by simpa using hst
   have FIN:=Lib.hid (show r= .error 11 by
    rcases HVV.out with ⟨_,h2⟩|⟨g',q',r0,h2,h3,_⟩
    ·exact h2
    ·rw [hhd] at h2;cases h2;exact absurd h3 hst)
   clear hhd hst
   go_upto_region 12 with (refine aF rfl 90 _ _ rfl 90 _ #[.int .i64 g.kind,.int .i64 g.stamp,.int .i64 g.base,.int .i64 g.under] rfl rfl (by kernel_rfl) rfl (by simp [Value.oneCell']) ?_)
   exact Tzb4
  have ds:(g.stamp != h.under)=false:=by simpa using hst
  obtain ⟨r0,⟨hsz,hcall⟩,hrr⟩:∃r0,LdR fs h.base r0∧r=(match r0 with| .error _=> .error 11| .ok s=>dX s Bd):=by
   rcases HVV.out with ⟨h2,_⟩|⟨g',q',r0,h2,_,h3,h4⟩
   ·exact absurd hst (h2 g qg hhd)
   ·exact ⟨r0,h3,h4⟩
  have HCA:=Lib.hid (hcall A n c S W6 hD6 hn)
  have HSZ:=Lib.hid hsz
  have HRR:=Lib.hid hrr
  clear hhd hst hcall hsz hrr
  go_upto_region 12 with (refine aF rfl 90 _ _ rfl 90 _ #[.int .i64 g.kind,.int .i64 g.stamp,.int .i64 g.base,.int .i64 g.under] rfl rfl (by kernel_rfl) rfl (by simp [Value.oneCell']) ?_)
  try dsimp only
  rw [←hW6,←HBg.out]
  clear hW6
  try simp only [Act.put]
  go_wp2_with (refine aD (t:=36) (A:=⟨w.heap.size,0,none⟩) rfl rfl rfl (aB R06.out Tryz.underlying36 rfl (by kernel_rfl)) ?_)
  refine HCA.out.mono ?_
  rintro e w7 ⟨hld,b7⟩
  have s7:=b7.size
  have R17:=Lib.hid ((b7.block (w.heap.size+1) (by omega)).trans R16.out)
  have hb7:=Below.ext hb6 b7
  unfold LdO at hld
  cases r0 with
  |error e0=>
   dsimp only at hld
   obtain ⟨he0,rfl⟩:=hld
   have dx:((e0:Int) != 0)=true:=by simpa using he0
   have FIN:=HRR
   dsimp only at FIN
   obtain ⟨W8,hW8,_,ks,Ss,Rs⟩:=bP w7 w7 #[.slice none 0 0,.slice none 0 0,.slice none 0 0,.slice none 0 0] 51 (Below.refl _ _)
   obtain ⟨bs,hbs⟩:∃b,b=w7.heap.size:=⟨_,rfl⟩
   rw [←hbs] at Rs
   have HBs:=Lib.hid hbs
   have ls:bs<W8.heap.size:=by have:=Ss.out;omega
   have R18:=Lib.hid ((ks.block (w.heap.size+1) (by omega)).trans R17.out)
   have hb8:=Below.ext hb7 ks
   clear hbs
   go_upto_region 15 with (refine aF rfl 51 _ _ rfl 51 _ #[.slice none 0 0,.slice none 0 0,.slice none 0 0,.slice none 0 0] rfl rfl (by kernel_rfl) rfl (by simp [Value.oneCell']) ?_)
   try dsimp only
   rw [←hW8,←HBs.out]
   clear hW8
   try simp only [Act.put]
   go_wp2_with (refine aC rfl 51 _ _ rfl (w.heap.size+1) 51 _ _ rfl rfl R18.out (by kernel_rfl) rfl (by simp [Value.oneCell']) ?_)
   refine bodyPost_ret (bI rfl rfl (aB (setRow_heap _ _ _ _ _ _ R18.out) Tryz.underlying51 rfl (by kernel_rfl))) rfl ?_
   rw [FIN.out]
   exact ⟨⟨by omega,rfl⟩,hb8.grown (aJ _ _ _) hb8.size (fun o e=>by cases e;omega)⟩
  |ok s0=>
   dsimp only at hld
   obtain ⟨G1,u1,v1,G2,u2,v2,G3,u3,v3,G4,u4,v4,rfl,hU⟩:=hld
   have FIN0:=HRR
   dsimp only at FIN0
   obtain ⟨W8,hW8,_,ks,Ss,Rs⟩:=bP w7 w7 #[.slice G1 u1 v1,.slice G2 u2 v2,.slice G3 u3 v3,.slice G4 u4 v4] 51 (Below.refl _ _)
   obtain ⟨bs,hbs⟩:∃b,b=w7.heap.size:=⟨_,rfl⟩
   rw [←hbs] at Rs
   have HBs:=Lib.hid hbs
   have ls:bs<W8.heap.size:=by have:=Ss.out;omega
   have y68:=Below.ext b7 ks
   have R18:=Lib.hid ((ks.block (w.heap.size+1) (by omega)).trans R17.out)
   have Rd8:=Lib.hid ((y68.block bd (by omega)).trans Rd6.out)
   have hb8:=Below.ext hb7 ks
   have hb8s:=y68.size
   have hU8:=hU.ext ks
   have hy8:=hy6.ext y68
   have hz:=HSZ.out s0 rfl
   have HFT:=Lib.hid (pS 75 #[.pointer (some ⟨bs,0,none⟩),.pointer (some ⟨bd,0,none⟩)] (okM (dX s0 Bd)) W8 (by intro w;rfl) (fun w' hb' =>BP bs bd s0 G1 u1 v1 G2 u2 v2 G3 u3 v3 G4 u4 v4 _ A2 m2 c2 Bd _ w' ((hb'.block bs ls).trans Rs.out) ((hb'.block bd (by omega)).trans Rd8.out) (hU8.ext hb') hz.1 hz.2.1 hz.2.2.1 hz.2.2.2 (hy8.ext hb') (by omega)))
   clear hbs hz
   go_upto_region 15 with (refine aF rfl 51 _ _ rfl 51 _ #[.slice G1 u1 v1,.slice G2 u2 v2,.slice G3 u3 v3,.slice G4 u4 v4] rfl rfl (by kernel_rfl) rfl (by simp [Value.oneCell']) ?_)
   try dsimp only
   rw [←hW8,←HBs.out]
   clear hW8
   try simp only [Act.put]
   go_wp2_with fail
   refine HFT.out.mono ?_
   rintro e w9 ⟨hfo,b9⟩
   have R19:=Lib.hid ((b9.block (w.heap.size+1) (by omega)).trans R18.out)
   have hb9:=Below.ext hb8 b9
   have hb9s:=b9.size
   unfold GQ at hfo
   cases hw:okM (dX s0 Bd) with
   |none=>
    rw [hw] at hfo
    dsimp only at hfo
    subst hfo
    have FIN:=Lib.hid (FIN0.out.trans (FX hw))
    clear hw
    go_wp2_with (refine aC rfl 51 _ _ rfl (w.heap.size+1) 51 _ _ rfl rfl R19.out (by kernel_rfl) rfl (by simp [Value.oneCell']) ?_)
    refine bodyPost_ret (bI rfl rfl (aB (setRow_heap _ _ _ _ _ _ R19.out) Tryz.underlying51 rfl (by kernel_rfl))) rfl ?_
    rw [FIN.out]
    exact ⟨⟨by omega,rfl⟩,hb9.grown (aJ _ _ _) hb9.size (fun o e=>by cases e;omega)⟩
   |some s=>
    rw [hw] at hfo
    dsimp only at hfo
    obtain ⟨E1,p1,q1,E2,p2,q2',E3,p3,q3,E4,p4,q4,rfl,hT⟩:=hfo
    have FIN:=Lib.hid (FIN0.out.trans (EQ hw))
    clear hw
    go_wp2_with (refine aC rfl 51 _ _ rfl (w.heap.size+1) 51 _ _ rfl rfl R19.out (by kernel_rfl) rfl (by simp [Value.oneCell']) ?_)
    refine bodyPost_ret (bI rfl rfl (aB (setRow_heap _ _ _ _ _ _ R19.out) Tryz.underlying51 rfl (by kernel_rfl))) rfl ?_
    rw [FIN.out]
    have gE:=aJ w9 (w.heap.size+1) #[.slice E1 p1 q1,.slice E2 p2 q2',.slice E3 p3 q3,.slice E4 p4 q4]
    have kE:Keep (fun b=>W8.heap.size≤b) w9 (w9.setRow (w.heap.size+1) #[.slice E1 p1 q1,.slice E2 p2 q2',.slice E3 p3 q3,.slice E4 p4 q4]):=fun b hb hs=>gE.block b hb (by simp;omega)
    exact ⟨⟨E1,_,q1,E2,_,q2',E3,_,q3,E4,_,q4,rfl,⟨(hT.1.keep kE).mono (fun b _ h=>by omega),(hT.2.keep kE).mono (fun b _ h=>by omega),(hT.3.keep kE).mono (fun b _ h=>by omega),(hT.4.keep kE).mono (fun b _ h=>by omega)⟩⟩,hb9.grown gE hb9.size (fun o e=>by cases e;omega)⟩
theorem kY (fs:List Fil) (hf:iY fs) (m:Nat) (k:Int) (r:Except Nat Stt) (h:LoadR fs m k r):m≤100000→LdR fs k r:=by
 induction h with
 |err h1=>exact fun _=>⟨fun s hs=>(by cases hs),kZ fs hf _ _ (by unfold LdS;rw [h1])⟩
 |full h1=>
  exact fun _=>⟨fun s hs=>(by
   cases hs
   have h2:=LoadR.sz (.full (n:=0) h1)
   have:=h2.c
   have:=h2.e
   have:=h2.sn
   have:=h2.o
   omega),kZ fs hf _ _ (by unfold LdS;rw [h1])⟩
 |lost h1 h2=>exact fun _=>⟨fun s hs=>(by cases hs),kZ fs hf _ _ (by unfold LdS;rw [h1];exact .inl ⟨h2,rfl⟩)⟩
 |under h1 h2 h3 h4 ih=>exact fun hm=>⟨fun s hs=>(by cases hs),kZ fs hf _ _ (by unfold LdS;rw [h1];exact .inr ⟨_,_,_,h2,h3,ih (by omega),rfl⟩)⟩
 | @grown n k h g q body s r h1 h2 h3 h4 h5 ih=>
  exact fun hm=>⟨fun t ht=>(by
   subst ht
   have h6:=LoadR.sz (.grown h1 h2 h3 h4 h5)
   have:=h6.c
   have:=h6.e
   have:=h6.sn
   have:=h6.o
   omega),kZ fs hf _ _ (by unfold LdS;rw [h1];exact .inr ⟨_,_,_,h2,h3,ih (by omega),by rw [←h5]⟩)⟩
end Go.Proofs.YtiblijmngokcgaaGreatDoor
