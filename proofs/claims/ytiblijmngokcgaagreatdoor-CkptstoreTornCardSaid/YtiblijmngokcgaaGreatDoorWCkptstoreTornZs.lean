import Derived.Test.YtiblijmngokcgaaGreatDoorMacZs
import Derived.Test.YtiblijmngokcgaaGreatDoorExtLCkptstoreTornZs
import Derived.Test.YtiblijmngokcgaaGreatDoorCs21Zs
import Derived.Test.YtiblijmngokcgaaGreatDoorLateZs
import Derived.WalkKit
import Derived.ProofKit
import Derived.OpenShut
import Derived.ShutString
import Derived.Below
namespace Go.Proofs.YtiblijmngokcgaaGreatDoor.ckptstoreTorn
open Go.ChangeShapes Go.WideShapes Go.ChangeAt Go.RowKit
open Go.ChangeMaps (open_string shut_string)
set_option linter.unusedVariables false
set_option maxRecDepth 100000
set_option maxHeartbeats 8000000 in
theorem walk (a0:Option Addr) (len0 cap0:Nat) (z0:List Int) (a1:Int) (w:World) (w0:IsRow .u8 w a0 len0 cap0 z0) (w1:(Lit.int .i64 a1).wf=true) (hG:Glb 2 w):
 Calls Tryz.prog 4 #[.slice a0 len0 cap0,.int .i64 a1] w fun e w' =>e= .returned (.bool true)∧Below w.heap.size w w' :=by
 have h1:=wf_i64 w1
 obtain ⟨L,hk1,hk2,hk3,hkB⟩:=IsRow.bytes w0
 clear w0 w1
 have HL:=Lib.hid hk1
 have HG:=Lib.hid hG
 clear hk1 hG
 go_enter Tryz.func4,Tryz.ntmps4
 go_wp2_with fail
 refine (xC _).mono ?_
 rintro e x1 ⟨rfl,b1⟩
 have Hn:=Lib.hid (zH _ L _ x1 240 (by omega) (hkB.ext b1))
 go_wp2_with fail
 refine Hn.out.mono ?_
 rintro e x2 ⟨g,rfl,hC,b2⟩
 have s1:=b1.size
 have s2:=b2.size
 have hb2:=Below.ext b1 b2
 have Hs:=Lib.hid (zB x1.heap.size g x2 hC (LK HG.out hb2 s1 s2))
 have hgB:=hC.1
 clear hC hkB
 go_wp2_with fail
 refine Hs.out.mono ?_
 rintro e x3 ⟨c,I1,in1,ic1,Q1,k1,d1,Q2,k2,d2,Q3,k3,d3,Q4,k4,d4,L',ln,lc,l,rfl,hCM,hE,hLin,_,g3⟩
 have s3:=g3.size
 have hb3:Below w.heap.size w x3:=hb2.grown g3 hb2.size (fun o e=>by cases e;omega)
 have LI:=Lib.hid hLin
 have l10:=hLin.n
 have HLN:=Lib.hid hE.len.1
 have ln10:ln≤10:=by have:=HLN.out;omega
 clear hLin g3
 obtain ⟨W4,hW4,_,kx,Sx,Rx⟩:=bP x3 x3 #[.slice I1 in1 ic1,.slice Q1 k1 d1,.slice Q2 k2 d2,.slice Q3 k3 d3,.slice Q4 k4 d4,.slice L' ln lc] 32 (Below.refl _ _)
 obtain ⟨bx,hbx⟩:∃b,b=x3.heap.size:=⟨_,rfl⟩
 rw [←hbx] at Rx
 have HBx:=Lib.hid hbx
 have lx:bx<W4.heap.size:=by have:=Sx.out;omega
 have mx:x3.heap.size≤bx:=by omega
 have B4:=Below.ext hb3 kx
 have hC4:=hCM.ext kx
 have hE4:=hE.ext kx
 have wx:w.heap.size≤bx:=by omega
 clear hCM hE
 go_upto_region 5 with (refine aF rfl 32 _ _ rfl 32 _ _ rfl rfl (by kernel_rfl) rfl (by simp [Value.oneCell']) ?_)
 try dsimp only
 rw [←hW4,←HBx.out]
 clear hW4 hbx
 try simp only [Act.put]
 have hC4' :=hC4.lo
 have hE4' :=hE4.mono (S' :=(·<W4.heap.size)) (fun b h _=>h)
 clear hC4 hE4
 have hC4:=hC4'
 have hE4:=hE4'
 clear hC4' hE4'
 have hnew:=BC 3 (by omega) W4
 rw [show ((3:Nat):Int)=3 from rfl] at hnew
 have HNEW:=Lib.hid hnew
 clear hnew
 go_wp2_with fail
 refine HNEW.out.mono ?_
 rintro e v5 ⟨A1,c1,rfl,D1,b5⟩
 obtain ⟨W5,hW5,_,kd,Sd,Rd⟩:=bP v5 v5 #[.slice A1 3 c1] 36 (Below.refl _ _)
 obtain ⟨bd,hbd⟩:∃b,b=v5.heap.size:=⟨_,rfl⟩
 rw [←hbd] at Rd
 have HBd:=Lib.hid hbd
 have ld:bd<W5.heap.size:=by have:=Sd.out;omega
 have md:v5.heap.size≤bd:=by omega
 have y5:=b5.size
 have wd:w.heap.size≤bd:=by have:=B4.size;omega
 have D5:=(D1.mono (S' :=fun b=>b≠bd) (fun b hb _=>by omega)).ext kd
 have k5:=Below.ext b5 kd
 have B5:=Below.ext B4 k5
 have Rx5:=Lib.hid ((k5.block bx (by omega)).trans Rx.out)
 obtain ⟨hf,hhf⟩:∃x,x=ln / 2:=⟨_,rfl⟩
 have hfle:hf≤ln:=by omega
 have hdiv:((ln:Int).tdiv 2)=(hf:Int):=by rw [hhf];rfl
 have xbd:bx≠bd:=by omega
 have hC5:=hC4.ext k5
 have hE5:=hE4.ext k5
 have Hst:=Lib.hid (yZ W5 _ c I1 in1 ic1 Q1 k1 d1 Q2 k2 d2 Q3 k3 d3 Q4 k4 d4 L' ln lc l (hC4.ext k5) (hE4.ext k5) LI.out hf (by have:=HLN.out;omega))
 have q5:W5.cell? ⟨bx,5,none⟩=some (.slice L' ln lc):=aA Rx5.out 5 _ rfl
 clear D1 hhf
 go_upto_region 6 with (refine aF rfl 36 _ _ rfl 36 _ _ rfl rfl (by kernel_rfl) rfl (by simp [Value.oneCell']) ?_)
 try dsimp only
 rw [←hW5,←HBd.out]
 clear hW5 hbd
 try simp only [Act.put]
 go_wp2_with (refine aD (t:=32) (A:=⟨bx,0,none⟩) rfl rfl rfl (aB Rx5.out Tryz.underlying32 rfl (by kernel_rfl)) ?_)
 refine Hst.out.mono ?_
 rintro e v6 ⟨s,E1,En1,Ec1,E2,En2,Ec2,E3,En3,Ec3,E4,En4,Ec4,rfl,hRR,hM,b6⟩
 obtain ⟨hsb,hse⟩:=LI.out.st hRR
 have HRS:=Lib.hid hRR
 have HSB:=Lib.hid hsb
 have HSE:=Lib.hid hse
 have y6:=b6.size
 clear q5 hRR hsb hse hdiv
 obtain ⟨W6,hW6,_,kh,Sh,Rh⟩:=bP v6 v6 #[.slice E1 En1 Ec1,.slice E2 En2 Ec2,.slice E3 En3 Ec3,.slice E4 En4 Ec4] 51 (Below.refl _ _)
 obtain ⟨bh,hbh⟩:∃b,b=v6.heap.size:=⟨_,rfl⟩
 rw [←hbh] at Rh
 have HBh:=Lib.hid hbh
 have lh:bh<W6.heap.size:=by have:=Sh.out;omega
 have mh:v6.heap.size≤bh:=by omega
 have k6:=Below.ext b6 kh
 have B6:=Below.ext B5 k6
 have M6:=hM.ext kh
 have D6:=D5.ext k6
 have Rd6:=Lib.hid ((k6.block bd (by omega)).trans Rd.out)
 have Rx6:=Lib.hid ((k6.block bx (by omega)).trans Rx5.out)
 have hC6:=hC5.ext k6
 have hE6:=hE5.ext k6
 have HSV:=Lib.hid (mU A1 3 c1 _ _ W6 D6 (by omega) (uP (a:=dP) (b:=dP) (by decide) (by decide) 1) 0 s _ _ _ _ _ _ _ _ _ _ _ _ _ M6 HSB.out.sv (-1) _ (GV HSB.out.len 2))
 clear D5 hC4 hE4 hC5 hE5
 go_upto_region 7 with (refine aF rfl 51 _ _ rfl 51 _ _ rfl rfl (by kernel_rfl) rfl (by simp [Value.oneCell']) ?_)
 try dsimp only
 rw [←hW6,←HBh.out]
 clear hW6 hbh
 try simp only [Act.put]
 go_wp2_with (first|(refine aD (t:=36) (A:=⟨bd,0,none⟩) rfl rfl rfl (aB Rd6.out Tryz.underlying36 rfl (by kernel_rfl)) ?_)|(refine aD (t:=51) (A:=⟨bh,0,none⟩) rfl rfl rfl (aB Rh.out Tryz.underlying51 rfl (by kernel_rfl)) ?_))
 refine HSV.out.mono ?_
 rintro e v7 ⟨⟨A7,c7,rfl,Dv7⟩,b7⟩
 have y7:=b7.size
 have Bv7:=Below.ext B6 b7
 have Rhv7:=Lib.hid ((b7.block bh lh).trans Rh.out)
 have Rdv7:=Lib.hid ((b7.block (bd) (by omega)).trans Rd6.out)
 have Rxv7:=Lib.hid ((b7.block (bx) (by omega)).trans Rx6.out)
 obtain ⟨W7,hW7⟩:∃x,x=v7.setRow bd #[.slice A7 3 c7]:=⟨_,rfl⟩
 have g7:v7.grownBy W7 (some bd):=by rw [hW7];exact aJ _ _ _
 have Rd7:=Lib.hid (show W7.heap[bd]? =some (.cells #[.slice A7 3 c7] 36 (0,0)) by rw [hW7];exact setRow_heap _ _ _ _ _ _ Rdv7.out)
 have z7:v7.heap.size≤W7.heap.size:=g7.size
 have D7:=(Dv7.mono (S' :=fun b=>b≠bd) (fun b _ h=>by omega)).keep (w' :=W7) (fun b hb hs=>g7.block b hb (by simp;omega))
 have B7:Below w.heap.size w W7:=Bv7.grown g7 Bv7.size (fun o e=>by cases e;omega)
 have Rx7:=Lib.hid ((g7.block (bx) (by omega) (by simp;omega)).trans Rxv7.out)
 have Rh7:=Lib.hid ((g7.block (bh) (by omega) (by simp;omega)).trans Rhv7.out)
 go_upto_region 8 with (refine aC rfl 36 _ _ rfl (bd) 36 _ _ rfl rfl Rdv7.out (by kernel_rfl) rfl (by simp [Value.oneCell']) ?_)
 rw [←hW7]
 clear hW7 Dv7
 have M7:=(M6.ext b7).kept (S' :=fun b=>W5.heap.size≤b) (w' :=W7) (fun b hb hs=>g7.block b hb (by simp;omega)) (fun b h=>h)
 have hC7:=(hC6.ext b7).kept (S' :=fun b=>b<W4.heap.size) (w' :=W7) (fun b hb hs=>g7.block b hb (by simp;omega)) (fun b h=>h)
 have hE7:=(hE6.ext b7).keep (w' :=W7) (fun b hb hs=>g7.block b hb (by simp;omega))
 clear M6 hC6 hE6
 have hsy:=NJ A7 3 c7 _ _ W7 D7 (by omega) 0 ⟨[],ckA s⟩ rfl (by have:=FJ HSB.out.len;simp;omega)
 have HSY:=Lib.hid hsy
 clear hsy
 go_wp2_with (refine aD (t:=36) (A:=⟨bd,0,none⟩) rfl rfl rfl (aB Rd7.out Tryz.underlying36 rfl (by kernel_rfl)) ?_)
 refine HSY.out.mono ?_
 rintro e v8 ⟨A8,c8,rfl,Dv8,b8⟩
 have y8:=b8.size
 have Bv8:=Below.ext B7 b8
 have Rdv8:=Lib.hid ((b8.block (bd) (by omega)).trans Rd7.out)
 have Rxv8:=Lib.hid ((b8.block (bx) (by omega)).trans Rx7.out)
 have Rhv8:=Lib.hid ((b8.block (bh) (by omega)).trans Rh7.out)
 obtain ⟨W8,hW8⟩:∃x,x=v8.setRow bd #[.slice A8 3 c8]:=⟨_,rfl⟩
 have g8:v8.grownBy W8 (some bd):=by rw [hW8];exact aJ _ _ _
 have Rd8:=Lib.hid (show W8.heap[bd]? =some (.cells #[.slice A8 3 c8] 36 (0,0)) by rw [hW8];exact setRow_heap _ _ _ _ _ _ Rdv8.out)
 have z8:v8.heap.size≤W8.heap.size:=g8.size
 have D8:=(Dv8.mono (S' :=fun b=>b≠bd) (fun b _ h=>by omega)).keep (w' :=W8) (fun b hb hs=>g8.block b hb (by simp;omega))
 have B8:Below w.heap.size w W8:=Bv8.grown g8 Bv8.size (fun o e=>by cases e;omega)
 have Rx8:=Lib.hid ((g8.block (bx) (by omega) (by simp;omega)).trans Rxv8.out)
 have Rh8:=Lib.hid ((g8.block (bh) (by omega) (by simp;omega)).trans Rhv8.out)
 go_upto_region 9 with (refine aC rfl 36 _ _ rfl (bd) 36 _ _ rfl rfl Rdv8.out (by kernel_rfl) rfl (by simp [Value.oneCell']) ?_)
 rw [←hW8]
 clear hW8 Dv8
 have M8:=(M7.ext b8).kept (S' :=fun b=>W5.heap.size≤b) (w' :=W8) (fun b hb hs=>g8.block b hb (by simp;omega)) (fun b h=>h)
 have hC8:=(hC7.ext b8).kept (S' :=fun b=>b<W4.heap.size) (w' :=W8) (fun b hb hs=>g8.block b hb (by simp;omega)) (fun b h=>h)
 have hE8:=(hE7.ext b8).keep (w' :=W8) (fun b hb hs=>g8.block b hb (by simp;omega))
 clear M7 hC7 hE7
 obtain ⟨w9,hw9⟩:∃x,x=W8.drew:=⟨_,rfl⟩
 have kd9:Below W8.heap.size W8 w9:=by rw [hw9];exact (Below.refl _ W8).drew
 have hC9:=hC8.ext kd9
 have hE9:=hE8.ext kd9
 have D9:=D8.ext kd9
 have M9:=M8.ext kd9
 have yd9:=kd9.size
 have Rdw9:=Lib.hid ((kd9.block (bd) (by omega)).trans Rd8.out)
 have Rxw9:=Lib.hid ((kd9.block (bx) (by omega)).trans Rx8.out)
 have Rhw9:=Lib.hid ((kd9.block (bh) (by omega)).trans Rh8.out)
 have Hst2:=Lib.hid (yZ w9 _ c I1 in1 ic1 Q1 k1 d1 Q2 k2 d2 Q3 k3 d3 Q4 k4 d4 L' ln lc l hC9 hE9 LI.out ln (by have:=HLN.out;omega))
 clear hC8 hE8 D8 M8
 go_wp2_with fail
 refine wp_region_late (fun w' =>w'.heap[bd]? =some (.cells #[.slice A8 3 c8] 36 (0,0))∧w'.heap[bx]? =some (.cells #[.slice I1 in1 ic1,.slice Q1 k1 d1,.slice Q2 k2 d2,.slice Q3 k3 d3,.slice Q4 k4 d4,.slice L' ln lc] 32 (0,0))) 10 (by kernel_rfl) (by kernel_rfl) (by kernel_rfl) (by decide) ⟨Rd8.out,Rx8.out⟩ ?_
 simp only [List.take_succ_cons,List.take_zero,List.drop_succ_cons,List.drop_zero]
 refine TkB ?_
 refine aE (⟨bd,0,none⟩) (.agg #[.slice A8 3 c8]) rfl rfl rfl (fun w' h=>aB h.1 Tryz.underlying36 rfl (by kernel_rfl)) ?_
 refine TkI ?_
 refine TkB ?_
 refine aE (⟨bx,0,none⟩) (.agg #[.slice I1 in1 ic1,.slice Q1 k1 d1,.slice Q2 k2 d2,.slice Q3 k3 d3,.slice Q4 k4 d4,.slice L' ln lc]) rfl rfl rfl (fun w' h=>aB h.2 Tryz.underlying32 rfl (by kernel_rfl)) ?_
 refine TkI ?_
 refine TkB ?_
 refine aE (⟨bx,5,none⟩) (.slice L' ln lc) rfl rfl rfl (fun w' h=>aG (mO _) (aA h.2 5 _ rfl)) ?_
 refine TkI ?_
 refine TkB ?_
 rw [←hw9]
 clear hw9
 refine aL rfl ?_
 go_wp2_with fail
 refine Hst2.out.mono ?_
 rintro e v9 ⟨t,F1,Fn1,Fc1,F2,Fn2,Fc2,F3,Fn3,Fc3,F4,Fn4,Fc4,rfl,hRT,hMT,b9⟩
 obtain ⟨htb,hte⟩:=LI.out.st hRT
 have HX:=Lib.hid (LI.out.ext hfle HRS.out hRT)
 have HRT:=Lib.hid hRT
 have HTB:=Lib.hid htb
 have HTE:=Lib.hid hte
 have y9:=b9.size
 clear hRT htb hte
 have Rdv9:=Lib.hid ((b9.block (bd) (by omega)).trans Rdw9.out)
 have Rxv9:=Lib.hid ((b9.block (bx) (by omega)).trans Rxw9.out)
 have Rhv9:=Lib.hid ((b9.block (bh) (by omega)).trans Rhw9.out)
 go_wp2_with fail
 refine aI (⟨Rdv9.out,Rxv9.out⟩) ?_
 refine TkB ?_
 have D10:=D9.ext b9
 have hok:iY [⟨ckA s,[]⟩,dP,dP]:=uP (a:=⟨ckA s,[]⟩) (b:=dP) (by have:=FJ HSB.out.len;simpa using this) (by decide) 1
 have HSW:=Lib.hid (mU A8 3 c8 _ _ v9 D10 (by omega) hok 1 t _ _ _ _ _ _ _ _ _ _ _ _ _ hMT HTB.out.sv 0 _ (GU HSB.out.len HSB.out.sv HTB.out.dlen HX.out (f:=⟨ckA s,[]⟩) (by simp) 1))
 clear D9 hok
 refine aL rfl ?_
 go_wp2_with fail
 refine HSW.out.mono ?_
 rintro e v10 ⟨⟨A10,c10,rfl,Dv10⟩,b10⟩
 have y10:=b10.size
 have Rdv10:=Lib.hid ((b10.block (bd) (by omega)).trans Rdv9.out)
 have Rxv10:=Lib.hid ((b10.block (bx) (by omega)).trans Rxv9.out)
 have Rhv10:=Lib.hid ((b10.block (bh) (by omega)).trans Rhv9.out)
 go_wp2_with fail
 refine aI (⟨Rdv10.out,Rxv10.out⟩) ?_
 refine TkB ?_
 refine aZ ?_
 refine aL rfl ?_
 refine aC rfl 36 _ _ rfl bd 36 _ _ rfl rfl Rdv10.out (by kernel_rfl) rfl (by simp [Value.oneCell']) ?_
 refine aI trivial ?_
 simp only [Act.put]
 refine TkB ?_
 refine aZ ?_
 obtain ⟨W10,hW10⟩:∃x,x=v10.setRow bd #[.slice A10 3 c10]:=⟨_,rfl⟩
 have g10:v10.grownBy W10 (some bd):=by rw [hW10];exact aJ _ _ _
 have Rd10:=Lib.hid (show W10.heap[bd]? =some (.cells #[.slice A10 3 c10] 36 (0,0)) by rw [hW10];exact setRow_heap _ _ _ _ _ _ Rdv10.out)
 have z10:v10.heap.size≤W10.heap.size:=g10.size
 have D10' :=(Dv10.mono (S' :=fun b=>b≠bd) (fun b _ h=>by omega)).keep (w' :=W10) (fun b hb hs=>g10.block b hb (by simp;omega))
 have Rx10:=Lib.hid ((g10.block bx (by omega) (by simp;omega)).trans Rxv10.out)
 have Rh10:=Lib.hid ((g10.block bh (by omega) (by simp;omega)).trans Rhv10.out)
 have ky:=Below.ext kd9 (Below.ext b9 b10)
 have B10:Below w.heap.size w W10:=(Below.ext B8 ky).grown g10 (Below.ext B8 ky).size (fun o e=>by cases e;omega)
 have b910:=Below.ext b9 b10
 have M10:=(M9.ext b910).kept (S' :=fun b=>W5.heap.size≤b) (w' :=W10) (fun b hb hs=>g10.block b hb (by simp;omega)) (fun b h=>h)
 have hC10:=(hC9.ext b910).kept (S' :=fun b=>b<W4.heap.size) (w' :=W10) (fun b hb hs=>g10.block b hb (by simp;omega)) (fun b h=>h)
 have hE10:=(hE9.ext b910).keep (w' :=W10) (fun b hb hs=>g10.block b hb (by simp;omega))
 rw [←hW10]
 clear hW10 Dv10 D10 M9 hC9 hE9 hMT
 have hrd:=xF A10 3 c10 _ _ W10 D10' (by omega) 1 ⟨[],ckB s t⟩ rfl (by have:=FI HTB.out.dlen (s:=s) (t:=t);simp;omega)
 obtain ⟨m,hm⟩:∃m,m=(Fil.s ⟨[],ckB s t⟩).length+(Fil.p ⟨[],ckB s t⟩).length:=⟨_,rfl⟩
 rw [←hm,show ((1:Nat):Int)=1 from rfl] at hrd
 have hm2:m=(ckB s t).length:=by rw [hm];exact Nat.zero_add _
 have HM:=Lib.hid hm2
 have m5:m≤5000:=by have:=FI HTB.out.dlen (s:=s) (t:=t);omega
 have HRD:=Lib.hid hrd
 clear hrd hm hm2
 go_wp2_with (refine aD (t:=36) (A:=⟨bd,0,none⟩) rfl rfl rfl (aB Rd10.out Tryz.underlying36 rfl (by kernel_rfl)) ?_)
 refine HRD.out.mono ?_
 rintro e v11 ⟨A11,c11,rfl,_,b11⟩
 have y11:=b11.size
 have Hm:=Lib.hid (NG a1 ((m:Int)+40) v11 (by omega) (by omega) h1.1 h1.2)
 have hm1:=Int.emod_nonneg a1 (b:=(m:Int)+40) (by omega)
 have hm2:=Int.emod_lt_of_pos a1 (b:=(m:Int)+40) (by omega)
 obtain ⟨k,hk⟩:=Int.eq_ofNat_of_zero_le hm1
 rw [hk] at Hm hm2
 clear hm1 hk
 go_wp2_with fail
 refine Hm.out.mono ?_
 rintro e v12 ⟨rfl,rfl⟩
 have D12:=D10'.ext b11
 have M12:=M10.ext b11
 have hC12:=hC10.ext b11
 have hE12:=hE10.ext b11
 have B12:=Below.ext B10 b11
 have Rdv12:=Lib.hid ((b11.block (bd) (by omega)).trans Rd10.out)
 have Rxv12:=Lib.hid ((b11.block (bx) (by omega)).trans Rx10.out)
 have Rhv12:=Lib.hid ((b11.block (bh) (by omega)).trans Rh10.out)
 clear D10' M10 hC10 hE10
 obtain ⟨W13,hW13,_,kr,Sr,Rr⟩:=bP v12 v12 #[.int .i64 0,.slice none 0 0,.int .i64 (k:Int),.slice none 0 0] 45 (Below.refl _ _)
 obtain ⟨br,hbr⟩:∃b,b=v12.heap.size:=⟨_,rfl⟩
 rw [←hbr] at Rr
 have HBr:=Lib.hid hbr
 have lr:br<W13.heap.size:=by have:=Sr.out;omega
 have mr:v12.heap.size≤br:=by omega
 have D13:=D12.ext kr
 have hT:Trs (fun _=>True) W13 (.slice (some ⟨br,0,none⟩) 2 2) [⟨0,[]⟩,⟨(k:Int),[]⟩]:=⟨[⟨0,none,0,0⟩,⟨(k:Int),none,0,0⟩],mW _ Rr.out rfl (by simp) trivial rfl,rfl,fun i x t hx ht=>by
  rcases i with _|_|i
  ·simp at hx ht;subst hx;subst ht;exact ⟨rfl,Recs.nil_ _ _⟩
  ·simp at hx ht;subst hx;subst ht;exact ⟨rfl,Recs.nil_ _ _⟩
  ·simp at hx⟩
 have HCR:=Lib.hid (NB A10 3 c10 [⟨ckA s,[]⟩,⟨[],ckB s t⟩,dP] _ W13 D13 (by omega) (some ⟨br,0,none⟩) 2 2 [⟨0,[]⟩,⟨(k:Int),[]⟩] _ hT (fun f hf=>by have:=uP (a:=⟨ckA s,[]⟩) (b:=⟨[],ckB s t⟩) (by have:=FJ HSB.out.len;simpa using this) (by have:=FI HTB.out.dlen (s:=s) (t:=t);simpa using this) 1 f hf;omega))
 clear hT D12 hbr
 go_wp2_with (refine aD (t:=36) (A:=⟨bd,0,none⟩) rfl rfl rfl (aB Rdv12.out Tryz.underlying36 rfl (by kernel_rfl)) ?_)
 rw [←hW13,←HBr.out]
 clear hW13
 refine HCR.out.mono ?_
 rintro e v13 ⟨A13,c13,rfl,Dv13,b13⟩
 rw [NM] at Dv13
 have k13:=Below.ext kr b13
 have y13:=k13.size
 have yr:=kr.size
 have Bv13:=Below.ext B12 k13
 have Rdv13:=Lib.hid ((k13.block (bd) (by omega)).trans Rdv12.out)
 have Rxv13:=Lib.hid ((k13.block (bx) (by omega)).trans Rxv12.out)
 have Rhv13:=Lib.hid ((k13.block (bh) (by omega)).trans Rhv12.out)
 obtain ⟨W14,hW14⟩:∃x,x=v13.setRow bd #[.slice A13 3 c13]:=⟨_,rfl⟩
 have g14:v13.grownBy W14 (some bd):=by rw [hW14];exact aJ _ _ _
 have Rd14:=Lib.hid (show W14.heap[bd]? =some (.cells #[.slice A13 3 c13] 36 (0,0)) by rw [hW14];exact setRow_heap _ _ _ _ _ _ Rdv13.out)
 have z14:v13.heap.size≤W14.heap.size:=g14.size
 have D14:=(Dv13.mono (S' :=fun b=>b≠bd) (fun b _ h=>by omega)).keep (w' :=W14) (fun b hb hs=>g14.block b hb (by simp;omega))
 have B14:Below w.heap.size w W14:=Bv13.grown g14 Bv13.size (fun o e=>by cases e;omega)
 have Rx14:=Lib.hid ((g14.block (bx) (by omega) (by simp;omega)).trans Rxv13.out)
 have Rh14:=Lib.hid ((g14.block (bh) (by omega) (by simp;omega)).trans Rhv13.out)
 go_upto_region 15 with (refine aC rfl 36 _ _ rfl (bd) 36 _ _ rfl rfl Rdv13.out (by kernel_rfl) rfl (by simp [Value.oneCell']) ?_)
 rw [←hW14]
 clear hW14 Dv13
 have M14:=(M12.ext k13).kept (S' :=fun b=>W5.heap.size≤b) (w' :=W14) (fun b hb hs=>g14.block b hb (by simp;omega)) (fun b h=>h)
 have hC14:=(hC12.ext k13).kept (S' :=fun b=>b<W4.heap.size) (w' :=W14) (fun b hb hs=>g14.block b hb (by simp;omega)) (fun b h=>h)
 have hE14:=(hE12.ext k13).keep (w' :=W14) (fun b hb hs=>g14.block b hb (by simp;omega))
 have hok:iY [⟨ckA s,[]⟩,⟨(ckB s t).take k,[]⟩,dP]:=uP (a:=⟨ckA s,[]⟩) (b:=⟨(ckB s t).take k,[]⟩) (by have:=FJ HSB.out.len;simpa using this) (by have:=FI HTB.out.dlen (s:=s) (t:=t);simp;omega) 1
 have HOK:=Lib.hid hok
 have HL0:=Lib.hid ((kY _ hok _ _ _ (GZ HSB.out.len HSB.out.sv (f:=⟨ckA s,[]⟩) (by simp) [⟨(ckB s t).take k,[]⟩,dP]) (by omega)).2 A13 3 c13 _ W14 D14 (by omega))
 clear M12 hC12 hE12 D13 hok
 go_wp2_with (refine aD (t:=36) (A:=⟨bd,0,none⟩) rfl rfl rfl (aB Rd14.out Tryz.underlying36 rfl (by kernel_rfl)) ?_)
 refine HL0.out.mono ?_
 rintro e v15 ⟨⟨G1,Gn1,Gc1,G2,Gn2,Gc2,G3,Gn3,Gc3,G4,Gn4,Gc4,rfl,hU⟩,b15⟩
 have y15:=b15.size
 obtain ⟨W15,hW15,_,ku,Su,Ru⟩:=bP v15 v15 #[.slice G1 Gn1 Gc1,.slice G2 Gn2 Gc2,.slice G3 Gn3 Gc3,.slice G4 Gn4 Gc4] 51 (Below.refl _ _)
 obtain ⟨bu,hbu⟩:∃b,b=v15.heap.size:=⟨_,rfl⟩
 rw [←hbu] at Ru
 have HBu:=Lib.hid hbu
 have lu:bu<W15.heap.size:=by have:=Su.out;omega
 have mu:v15.heap.size≤bu:=by omega
 have k15:=Below.ext b15 ku
 have B15:=Below.ext B14 k15
 have D15:=D14.ext k15
 have U15:=hU.ext ku
 have M15:=M14.ext k15
 have hC15:=hC14.ext k15
 have hE15:=hE14.ext k15
 have Rd15:=Lib.hid ((k15.block (bd) (by omega)).trans Rd14.out)
 have Rx15:=Lib.hid ((k15.block (bx) (by omega)).trans Rx14.out)
 have Rh15:=Lib.hid ((k15.block (bh) (by omega)).trans Rh14.out)
 go_upto_region 16 with (refine aF rfl 51 _ _ rfl 51 _ _ rfl rfl (by kernel_rfl) rfl (by simp [Value.oneCell']) ?_)
 try dsimp only
 rw [←hW15,←HBu.out]
 clear hW15 hbu
 try simp only [Act.put]
 clear D14 M14 hC14 hE14 hU
 have ha:s.evs.length=hf:=by have:=HSE.out;rw [this];simp;have:=HLN.out;omega
 have hb:t.evs.length=ln:=by have:=HTE.out;rw [this];simp;have:=HLN.out;omega
 have HA:=Lib.hid ha
 have HB:=Lib.hid hb
 clear ha hb
 by_cases hkm:k<m
 case pos=>
  obtain ⟨e0,he0⟩:=tornB HTB.out.dlen (k:=k) (by rw [←HM.out];exact hkm) ⟨ckA s,[]⟩ [dP]
  have HL1:=Lib.hid ((kY _ HOK.out _ _ _ he0 (by omega)).2 A13 3 c13 _ W15 D15 (by omega))
  have hpts:=torn_lost HSB.out.len HSB.out.sv HTB.out.dlen (k:=k) (by rw [←HM.out];exact hkm)
  have hbest:vZ (ln:Int) (fD [⟨ckA s,[]⟩,⟨(ckB s t).take k,[]⟩,dP] 3)=some (0,s.evs.length):=by rw [hpts];exact best_one (by rw [HA.out];exact hfle)
  have HBE:=Lib.hid hbest
  have dkm:decide (m≤k)=false:=by simpa using hkm
  clear he0 hpts hbest
  go_wp2_with (refine aD (t:=36) (A:=⟨bd,0,none⟩) rfl rfl rfl (aB Rd15.out Tryz.underlying36 rfl (by kernel_rfl)) ?_)
  refine HL1.out.mono ?_
  rintro e v16 ⟨⟨hx0,rfl⟩,b16⟩
  have dx:((e0:Int) != 0)=true:=by simpa using hx0
  have y16:=b16.size
  obtain ⟨W16,hW16,_,kv,Sv,Rv⟩:=bP v16 v16 #[.slice none 0 0,.slice none 0 0,.slice none 0 0,.slice none 0 0] 51 (Below.refl _ _)
  obtain ⟨bv,hbv⟩:∃b,b=v16.heap.size:=⟨_,rfl⟩
  rw [←hbv] at Rv
  have HBv:=Lib.hid hbv
  have lv:bv<W16.heap.size:=by have:=Sv.out;omega
  have mv:v16.heap.size≤bv:=by omega
  have k16:=Below.ext b16 kv
  have B16:=Below.ext B15 k16
  have D16:=D15.ext k16
  have U16:=U15.ext k16
  have M16:=M15.ext k16
  have Rd16:=Lib.hid ((k16.block (bd) (by omega)).trans Rd15.out)
  have Rx16:=Lib.hid ((k16.block (bx) (by omega)).trans Rx15.out)
  have Rh16:=Lib.hid ((k16.block (bh) (by omega)).trans Rh15.out)
  have Ru16:=Lib.hid ((k16.block bu lu).trans Ru.out)
  have hbs:=NC A13 3 c13 _ _ W16 D16 (by omega) HOK.out (ln:Int)
  rw [HBE.out] at hbs
  have HBS:=Lib.hid hbs
  have q16:W16.cell? ⟨bx,5,none⟩=some (.slice L' ln lc):=aA Rx16.out 5 _ rfl
  have HSM:=Lib.hid (fun (w' :World) (hb:Below W16.heap.size W16 w')=>same06 s G1 Gn1 Gc1 G2 Gn2 Gc2 G3 Gn3 Gc3 G4 Gn4 Gc4 E1 En1 Ec1 E2 En2 Ec2 E3 En3 Ec3 E4 En4 Ec4 _ _ w' (U16.ext hb) (M16.ext hb))
  clear hbs hx0
  go_upto_region 17 with (refine aF rfl 51 _ _ rfl 51 _ _ rfl rfl (by kernel_rfl) rfl (by simp [Value.oneCell']) ?_)
  try dsimp only
  rw [←hW16,←HBv.out]
  clear hW16 hbv
  try simp only [Act.put]
  go_wp2_with (refine aD (t:=36) (A:=⟨bd,0,none⟩) rfl rfl rfl (aB Rd16.out Tryz.underlying36 rfl (by kernel_rfl)) ?_)
  refine HBS.out.mono ?_
  rintro e v17 ⟨rfl,b17⟩
  have Ru17:=Lib.hid ((b17.block bu (by have:=k16.size;omega)).trans Ru16.out)
  have Rh17:=Lib.hid ((b17.block bh (by have:=k16.size;have:=k15.size;omega)).trans Rh16.out)
  dsimp only [Option.getD_some,Option.isSome_some]
  go_wp2_with (first|(refine aD (t:=51) (A:=⟨bu,0,none⟩) rfl rfl rfl (aB Ru17.out Tryz.underlying51 rfl (by kernel_rfl)) ?_)|(refine aD (t:=51) (A:=⟨bh,0,none⟩) rfl rfl rfl (aB Rh17.out Tryz.underlying51 rfl (by kernel_rfl)) ?_))
  refine (HSM.out _ b17).mono ?_
  rintro e v18 ⟨rfl,b18⟩
  go_wp2
  go_ret
  exact ⟨rfl,Below.ext B16 (Below.ext b17 b18)⟩
 case neg=>
  have hmk:m≤k:=by omega
  have hlb:=MI HSB.out.len HSB.out.sv HTB.out.dlen HX.out HTB.out.sv (f:=⟨ckA s,[]⟩) (g:=⟨(ckB s t).take k,[]⟩) (by simp) (by simp [List.take_of_length_le (show (ckB s t).length≤k by rw [←HM.out];exact hmk)]) [dP]
  have HL1:=Lib.hid ((kY _ HOK.out _ _ _ hlb (by omega)).2 A13 3 c13 _ W15 D15 (by omega))
  have hpts:=torn_kept HSB.out.len HSB.out.sv HTB.out.dlen HX.out HTB.out.sv (k:=k) (by rw [←HM.out];exact hmk)
  have hbest:vZ (ln:Int) (fD [⟨ckA s,[]⟩,⟨(ckB s t).take k,[]⟩,dP] 3)=if hf<ln then some (1,ln) else some (0,hf):=by rw [hpts,HA.out,HB.out];exact best_two hfle (Nat.le_refl _)
  have HBE:=Lib.hid hbest
  have dkm:decide (m≤k)=true:=by simpa using hmk
  have hen:=M15.2.len.1
  rw [HA.out] at hen
  clear hlb hpts hbest hkm hmk
  go_wp2_with (refine aD (t:=36) (A:=⟨bd,0,none⟩) rfl rfl rfl (aB Rd15.out Tryz.underlying36 rfl (by kernel_rfl)) ?_)
  refine HL1.out.mono ?_
  rintro e v16 ⟨⟨H1,Hn1,Hc1,H2,Hn2,Hc2,H3,Hn3,Hc3,H4,Hn4,Hc4,rfl,hV⟩,b16⟩
  have y16:=b16.size
  obtain ⟨W16,hW16,_,kv,Sv,Rv⟩:=bP v16 v16 #[.slice H1 Hn1 Hc1,.slice H2 Hn2 Hc2,.slice H3 Hn3 Hc3,.slice H4 Hn4 Hc4] 51 (Below.refl _ _)
  obtain ⟨bv,hbv⟩:∃b,b=v16.heap.size:=⟨_,rfl⟩
  rw [←hbv] at Rv
  have HBv:=Lib.hid hbv
  have lv:bv<W16.heap.size:=by have:=Sv.out;omega
  have mv:v16.heap.size≤bv:=by omega
  have k16:=Below.ext b16 kv
  have B16:=Below.ext B15 k16
  have D16:=D15.ext k16
  have U16:=U15.ext k16
  have V16:=hV.ext kv
  have M16:=M15.ext k16
  have hC16:=hC15.ext k16
  have hE16:=hE15.ext k16
  have z16:=k16.size
  have z15:=k15.size
  have Rd16:=Lib.hid ((k16.block (bd) (by omega)).trans Rd15.out)
  have Rx16:=Lib.hid ((k16.block (bx) (by omega)).trans Rx15.out)
  have Rh16:=Lib.hid ((k16.block (bh) (by omega)).trans Rh15.out)
  have Ru16:=Lib.hid ((k16.block bu lu).trans Ru.out)
  have hbs:=NC A13 3 c13 _ _ W16 D16 (by omega) HOK.out (ln:Int)
  rw [HBE.out] at hbs
  have q16:W16.cell? ⟨bx,5,none⟩=some (.slice L' ln lc):=aA Rx16.out 5 _ rfl
  have HSM:=Lib.hid (fun (w' :World) (hb:Below W16.heap.size W16 w')=>same06 s G1 Gn1 Gc1 G2 Gn2 Gc2 G3 Gn3 Gc3 G4 Gn4 Gc4 E1 En1 Ec1 E2 En2 Ec2 E3 En3 Ec3 E4 En4 Ec4 _ _ w' (U16.ext hb) (M16.ext hb))
  clear hV hC15 hE15 M15 U15 D15
  go_upto_region 17 with (refine aF rfl 51 _ _ rfl 51 _ _ rfl rfl (by kernel_rfl) rfl (by simp [Value.oneCell']) ?_)
  try dsimp only
  rw [←hW16,←HBv.out]
  clear hW16 hbv
  try simp only [Act.put]
  by_cases hlt:hf<ln
  case pos=>
   rw [if_pos hlt] at hbs
   have HBS:=Lib.hid hbs
   clear hbs hlt hen
   go_wp2_with (refine aD (t:=36) (A:=⟨bd,0,none⟩) rfl rfl rfl (aB Rd16.out Tryz.underlying36 rfl (by kernel_rfl)) ?_)
   refine HBS.out.mono ?_
   rintro e v17 ⟨rfl,b17⟩
   have Ruv17:=Lib.hid ((b17.block (bu) (by omega)).trans Ru16.out)
   have Rhv17:=Lib.hid ((b17.block (bh) (by omega)).trans Rh16.out)
   have Rxv17:=Lib.hid ((b17.block (bx) (by omega)).trans Rx16.out)
   have Rvv17:=Lib.hid ((b17.block bv lv).trans Rv.out)
   dsimp only [Option.getD_some,Option.isSome_some]
   go_wp2_with (first|(refine aD (t:=51) (A:=⟨bu,0,none⟩) rfl rfl rfl (aB Ruv17.out Tryz.underlying51 rfl (by kernel_rfl)) ?_)|(refine aD (t:=51) (A:=⟨bh,0,none⟩) rfl rfl rfl (aB Rhv17.out Tryz.underlying51 rfl (by kernel_rfl)) ?_))
   refine (HSM.out _ b17).mono ?_
   rintro e v18 ⟨rfl,b18⟩
   have y17:=b17.size
   have Rhv18:=Lib.hid ((b18.block (bh) (by omega)).trans Rhv17.out)
   have Rxv18:=Lib.hid ((b18.block (bx) (by omega)).trans Rxv17.out)
   have Rvv18:=Lib.hid ((b18.block (bv) (by omega)).trans Rvv17.out)
   obtain ⟨w19,hw19⟩:∃x,x=v18.drew:=⟨_,rfl⟩
   have k19:Below v18.heap.size v18 w19:=by rw [hw19];exact (Below.refl _ v18).drew
   have k1619:=Below.ext b17 (Below.ext b18 k19)
   have B19:=Below.ext B16 k1619
   have y18:=b18.size
   have y19:=k19.size
   have Rhw19:=Lib.hid ((k19.block (bh) (by omega)).trans Rhv18.out)
   have Rxw19:=Lib.hid ((k19.block (bx) (by omega)).trans Rxv18.out)
   have Rvw19:=Lib.hid ((k19.block (bv) (by omega)).trans Rvv18.out)
   have Hst3:=Lib.hid (yZ w19 _ c I1 in1 ic1 Q1 k1 d1 Q2 k2 d2 Q3 k3 d3 Q4 k4 d4 L' ln lc l (hC16.ext k1619) (hE16.ext k1619) LI.out ln (by have:=HLN.out;omega))
   clear hC16 hE16
   go_upto_region 21 with fail
   go_wp2_with fail
   refine aM ((fun w' =>w'.heap[bv]? =some (.cells #[.slice H1 Hn1 Hc1,.slice H2 Hn2 Hc2,.slice H3 Hn3 Hc3,.slice H4 Hn4 Hc4] 51 (0,0))∧w'.heap[bx]? =some (.cells #[.slice I1 in1 ic1,.slice Q1 k1 d1,.slice Q2 k2 d2,.slice Q3 k3 d3,.slice Q4 k4 d4,.slice L' ln lc] 32 (0,0))∧w'.heap[bh]? =some (.cells #[.slice E1 En1 Ec1,.slice E2 En2 Ec2,.slice E3 En3 Ec3,.slice E4 En4 Ec4] 51 (0,0)))) (by kernel_rfl) (by kernel_rfl) (⟨Rvv18.out,Rxv18.out,Rhv18.out⟩) ?_
   refine TkB ?_
   refine aE (⟨bv,0,none⟩) (.agg #[.slice H1 Hn1 Hc1,.slice H2 Hn2 Hc2,.slice H3 Hn3 Hc3,.slice H4 Hn4 Hc4]) rfl rfl rfl (fun w' h=>aB h.1 Tryz.underlying51 rfl (by kernel_rfl)) ?_
   refine TkI ?_
   refine TkB ?_
   refine aE (⟨bx,0,none⟩) (.agg #[.slice I1 in1 ic1,.slice Q1 k1 d1,.slice Q2 k2 d2,.slice Q3 k3 d3,.slice Q4 k4 d4,.slice L' ln lc]) rfl rfl rfl (fun w' h=>aB h.2.1 Tryz.underlying32 rfl (by kernel_rfl)) ?_
   refine TkI ?_
   refine TkB ?_
   refine aE (⟨bx,5,none⟩) (.slice L' ln lc) rfl rfl rfl (fun w' h=>aG (mO _) (aA h.2.1 5 _ rfl)) ?_
   refine TkI ?_
   refine TkB ?_
   rw [←hw19]
   clear hw19
   refine aL rfl ?_
   go_wp2_with fail
   refine Hst3.out.mono ?_
   rintro e v20 ⟨t2,K1,Kn1,Kc1,K2,Kn2,Kc2,K3,Kn3,Kc3,K4,Kn4,Kc4,rfl,hRT2,hMT2,b20⟩
   obtain rfl:t=t2:=ReplayR.uniq HRT.out hRT2
   have V20:=V16.ext (Below.ext k1619 b20)
   have Rhv20:=Lib.hid ((b20.block (bh) (by omega)).trans Rhw19.out)
   have Rxv20:=Lib.hid ((b20.block (bx) (by omega)).trans Rxw19.out)
   have Rvv20:=Lib.hid ((b20.block (bv) (by omega)).trans Rvw19.out)
   go_wp2_with fail
   refine aI (⟨Rvv20.out,Rxv20.out,Rhv20.out⟩) ?_
   refine TkB ?_
   have HS2:=Lib.hid (same06 t H1 Hn1 Hc1 H2 Hn2 Hc2 H3 Hn3 Hc3 H4 Hn4 Hc4 K1 Kn1 Kc1 K2 Kn2 Kc2 K3 Kn3 Kc3 K4 Kn4 Kc4 _ _ v20 V20 hMT2)
   clear hRT2 V20 hMT2
   refine aL rfl ?_
   go_wp2_with fail
   refine HS2.out.mono ?_
   rintro e v21 ⟨rfl,b21⟩
   have y20:=b20.size
   have Rhv21:=Lib.hid ((b21.block (bh) (by omega)).trans Rhv20.out)
   have Rxv21:=Lib.hid ((b21.block (bx) (by omega)).trans Rxv20.out)
   have Rvv21:=Lib.hid ((b21.block (bv) (by omega)).trans Rvv20.out)
   go_wp2_with fail
   refine aI (⟨Rvv21.out,Rxv21.out,Rhv21.out⟩) ?_
   refine TkB ?_
   refine aZ ?_
   go_wp2
   go_ret
   exact ⟨rfl,Below.ext B19 (Below.ext b20 b21)⟩
  case neg=>
   rw [if_neg hlt] at hbs
   have HBS:=Lib.hid hbs
   obtain rfl:hf=ln:=by omega
   have den:((En2:Int)==(hf:Int))=true:=by simp;omega
   have den2:(En2==hf)=true:=by simp;omega
   clear hbs hlt hen
   go_wp2_with (refine aD (t:=36) (A:=⟨bd,0,none⟩) rfl rfl rfl (aB Rd16.out Tryz.underlying36 rfl (by kernel_rfl)) ?_)
   refine HBS.out.mono ?_
   rintro e v17 ⟨rfl,b17⟩
   have Ruv17:=Lib.hid ((b17.block (bu) (by omega)).trans Ru16.out)
   have Rhv17:=Lib.hid ((b17.block (bh) (by omega)).trans Rh16.out)
   have Rxv17:=Lib.hid ((b17.block (bx) (by omega)).trans Rx16.out)
   have Rvv17:=Lib.hid ((b17.block bv lv).trans Rv.out)
   dsimp only [Option.getD_some,Option.isSome_some]
   go_wp2_with (first|(refine aD (t:=51) (A:=⟨bu,0,none⟩) rfl rfl rfl (aB Ruv17.out Tryz.underlying51 rfl (by kernel_rfl)) ?_)|(refine aD (t:=51) (A:=⟨bh,0,none⟩) rfl rfl rfl (aB Rhv17.out Tryz.underlying51 rfl (by kernel_rfl)) ?_))
   refine (HSM.out _ b17).mono ?_
   rintro e v18 ⟨rfl,b18⟩
   have y17:=b17.size
   have Rhv18:=Lib.hid ((b18.block (bh) (by omega)).trans Rhv17.out)
   have Rxv18:=Lib.hid ((b18.block (bx) (by omega)).trans Rxv17.out)
   have Rvv18:=Lib.hid ((b18.block (bv) (by omega)).trans Rvv17.out)
   obtain ⟨w19,hw19⟩:∃x,x=v18.drew:=⟨_,rfl⟩
   have k19:Below v18.heap.size v18 w19:=by rw [hw19];exact (Below.refl _ v18).drew
   have k1619:=Below.ext b17 (Below.ext b18 k19)
   have B19:=Below.ext B16 k1619
   have y18:=b18.size
   have y19:=k19.size
   have Rhw19:=Lib.hid ((k19.block (bh) (by omega)).trans Rhv18.out)
   have Rxw19:=Lib.hid ((k19.block (bx) (by omega)).trans Rxv18.out)
   have Rvw19:=Lib.hid ((k19.block (bv) (by omega)).trans Rvv18.out)
   have Hst3:=Lib.hid (yZ w19 _ c I1 in1 ic1 Q1 k1 d1 Q2 k2 d2 Q3 k3 d3 Q4 k4 d4 L' hf lc l (hC16.ext k1619) (hE16.ext k1619) LI.out hf (by have:=HLN.out;omega))
   clear hC16 hE16
   go_upto_region 21 with fail
   go_wp2_with fail
   refine aM ((fun w' =>w'.heap[bv]? =some (.cells #[.slice H1 Hn1 Hc1,.slice H2 Hn2 Hc2,.slice H3 Hn3 Hc3,.slice H4 Hn4 Hc4] 51 (0,0))∧w'.heap[bx]? =some (.cells #[.slice I1 in1 ic1,.slice Q1 k1 d1,.slice Q2 k2 d2,.slice Q3 k3 d3,.slice Q4 k4 d4,.slice L' hf lc] 32 (0,0))∧w'.heap[bh]? =some (.cells #[.slice E1 En1 Ec1,.slice E2 En2 Ec2,.slice E3 En3 Ec3,.slice E4 En4 Ec4] 51 (0,0)))) (by kernel_rfl) (by kernel_rfl) (⟨Rvv18.out,Rxv18.out,Rhv18.out⟩) ?_
   refine TkB ?_
   refine aE (⟨bv,0,none⟩) (.agg #[.slice H1 Hn1 Hc1,.slice H2 Hn2 Hc2,.slice H3 Hn3 Hc3,.slice H4 Hn4 Hc4]) rfl rfl rfl (fun w' h=>aB h.1 Tryz.underlying51 rfl (by kernel_rfl)) ?_
   refine TkI ?_
   refine TkB ?_
   refine aE (⟨bx,0,none⟩) (.agg #[.slice I1 in1 ic1,.slice Q1 k1 d1,.slice Q2 k2 d2,.slice Q3 k3 d3,.slice Q4 k4 d4,.slice L' hf lc]) rfl rfl rfl (fun w' h=>aB h.2.1 Tryz.underlying32 rfl (by kernel_rfl)) ?_
   refine TkI ?_
   refine TkB ?_
   refine aE (⟨bx,5,none⟩) (.slice L' hf lc) rfl rfl rfl (fun w' h=>aG (mO _) (aA h.2.1 5 _ rfl)) ?_
   refine TkI ?_
   refine TkB ?_
   rw [←hw19]
   clear hw19
   refine aL rfl ?_
   go_wp2_with fail
   refine Hst3.out.mono ?_
   rintro e v20 ⟨t2,K1,Kn1,Kc1,K2,Kn2,Kc2,K3,Kn3,Kc3,K4,Kn4,Kc4,rfl,hRT2,hMT2,b20⟩
   obtain rfl:t=t2:=ReplayR.uniq HRT.out hRT2
   have V20:=V16.ext (Below.ext k1619 b20)
   have Rhv20:=Lib.hid ((b20.block (bh) (by omega)).trans Rhw19.out)
   have Rxv20:=Lib.hid ((b20.block (bx) (by omega)).trans Rxw19.out)
   have Rvv20:=Lib.hid ((b20.block (bv) (by omega)).trans Rvw19.out)
   go_wp2_with fail
   refine aI (⟨Rvv20.out,Rxv20.out,Rhv20.out⟩) ?_
   refine TkB ?_
   have HS2:=Lib.hid (same06 t H1 Hn1 Hc1 H2 Hn2 Hc2 H3 Hn3 Hc3 H4 Hn4 Hc4 K1 Kn1 Kc1 K2 Kn2 Kc2 K3 Kn3 Kc3 K4 Kn4 Kc4 _ _ v20 V20 hMT2)
   clear hRT2 V20 hMT2
   refine aL rfl ?_
   go_wp2_with fail
   refine HS2.out.mono ?_
   rintro e v21 ⟨rfl,b21⟩
   have y20:=b20.size
   have Rhv21:=Lib.hid ((b21.block (bh) (by omega)).trans Rhv20.out)
   have Rxv21:=Lib.hid ((b21.block (bx) (by omega)).trans Rxv20.out)
   have Rvv21:=Lib.hid ((b21.block (bv) (by omega)).trans Rvv20.out)
   go_wp2_with fail
   refine aI (⟨Rvv21.out,Rxv21.out,Rhv21.out⟩) ?_
   refine TkB ?_
   refine aE (⟨bh,1,none⟩) (.slice E2 En2 Ec2) rfl rfl rfl (fun w' h=>aG (mO _) (aA h.2.2 1 _ rfl)) ?_
   refine TkI ?_
   refine TkB ?_
   refine aE (⟨bx,5,none⟩) (.slice L' hf lc) rfl rfl rfl (fun w' h=>aG (mO _) (aA h.2.1 5 _ rfl)) ?_
   refine TkI ?_
   refine TkB ?_
   refine aZ ?_
   go_wp2
   go_ret
   exact ⟨rfl,Below.ext B19 (Below.ext b20 b21)⟩
end Go.Proofs.YtiblijmngokcgaaGreatDoor.ckptstoreTorn
