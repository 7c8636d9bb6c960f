import Derived.Test.YtiblijmngokcgaaGreatDoorMacZs
import Derived.Test.YtiblijmngokcgaaGreatDoorCs26Zs
import Derived.Test.YtiblijmngokcgaaGreatDoorLateZs
import Derived.WalkKit
import Derived.ProofKit
import Derived.OpenShut
import Derived.ShutString
import Derived.Below
namespace Go.Proofs.YtiblijmngokcgaaGreatDoor.ckptstoreBack
open Go.ChangeShapes Go.WideShapes Go.ChangeAt Go.RowKit
open Go.ChangeMaps (open_string shut_string)
set_option linter.unusedVariables false
set_option maxRecDepth 100000
set_option maxHeartbeats 16000000 in
theorem walk (a0:Option Addr) (len0 cap0:Nat) (z0:List Int) (a1:Int) (w:World) (w0:IsRow .u8 w a0 len0 cap0 z0) (w1:(Lit.int .u8 a1).wf=true) (hG:Glb 2 w):
 Calls Tryz.prog 8 #[.slice a0 len0 cap0,.int .u8 a1] w fun e w' =>e= .returned (.bool true)∧Below w.heap.size w w' :=by
 have h1:=GS w1
 obtain ⟨L,hk1,hk2,hk3,hkB⟩:=IsRow.bytes w0
 clear w0 w1
 have HL:=Lib.hid hk1
 have HG:=Lib.hid hG
 clear hk1 hG
 obtain ⟨av,rfl⟩:=Int.eq_ofNat_of_zero_le h1.1
 go_enter Tryz.func8,Tryz.ntmps8
 go_wp2_with fail
 refine (xC _).mono ?_
 rintro e x1 ⟨rfl,b1⟩
 have Hn:=Lib.hid (zH _ L _ x1 240 (by omega) (hkB.ext b1))
 go_wp2_with fail
 refine Hn.out.mono ?_
 rintro e x2 ⟨g,rfl,hC,b2⟩
 have s1:=b1.size
 have s2:=b2.size
 have hb2:=Below.ext b1 b2
 have Hs:=Lib.hid (zB x1.heap.size g x2 hC (LK HG.out hb2 s1 s2))
 have hgB:=hC.1
 clear hC hkB
 go_wp2_with fail
 refine Hs.out.mono ?_
 rintro e x3 ⟨c,I1,in1,ic1,Q1,k1,d1,Q2,k2,d2,Q3,k3,d3,Q4,k4,d4,L',ln,lc,l,rfl,hCM,hE,hLin,_,g3⟩
 have s3:=g3.size
 have hb3:Below w.heap.size w x3:=hb2.grown g3 hb2.size (fun o e=>by cases e;omega)
 have LI:=Lib.hid hLin
 have l10:=hLin.n
 have HLN:=Lib.hid hE.len.1
 have ln10:ln≤10:=by have:=HLN.out;omega
 clear hLin g3
 obtain ⟨W4,hW4,_,kx,Sx,Rx⟩:=bP x3 x3 #[.slice I1 in1 ic1,.slice Q1 k1 d1,.slice Q2 k2 d2,.slice Q3 k3 d3,.slice Q4 k4 d4,.slice L' ln lc] 32 (Below.refl _ _)
 obtain ⟨bx,hbx⟩:∃b,b=x3.heap.size:=⟨_,rfl⟩
 rw [←hbx] at Rx
 have HBx:=Lib.hid hbx
 have lx:bx<W4.heap.size:=by have:=Sx.out;omega
 have mx:x3.heap.size≤bx:=by omega
 have B4:=Below.ext hb3 kx
 have hC4:=hCM.ext kx
 have hE4:=hE.ext kx
 have wx:w.heap.size≤bx:=by omega
 clear hCM hE
 go_upto_region 5 with (refine aF rfl 32 _ _ rfl 32 _ _ rfl rfl (by kernel_rfl) rfl (by simp [Value.oneCell']) ?_)
 try dsimp only
 rw [←hW4,←HBx.out]
 clear hW4 hbx
 try simp only [Act.put]
 have hC4' :=hC4.lo
 have hE4' :=hE4.mono (S' :=(·<W4.heap.size)) (fun b h _=>h)
 clear hC4 hE4
 have hC4:=hC4'
 have hE4:=hE4'
 clear hC4' hE4'
 have hnew:=BC 6 (by omega) W4
 rw [show ((6:Nat):Int)=6 from rfl] at hnew
 have HNEW:=Lib.hid hnew
 clear hnew
 go_wp2_with fail
 refine HNEW.out.mono ?_
 rintro e v5 ⟨A1,c1,rfl,D1,b5⟩
 obtain ⟨W5,hW5,_,kd,Sd,Rd⟩:=bP v5 v5 #[.slice A1 6 c1] 36 (Below.refl _ _)
 obtain ⟨bd,hbd⟩:∃b,b=v5.heap.size:=⟨_,rfl⟩
 rw [←hbd] at Rd
 have HBd:=Lib.hid hbd
 have ld:bd<W5.heap.size:=by have:=Sd.out;omega
 have md:v5.heap.size≤bd:=by omega
 have y5:=b5.size
 have wd:w.heap.size≤bd:=by have:=B4.size;omega
 have xd:W4.heap.size≤bd:=by omega
 have D5:Dsk (fun b=>b≠bd) W5 (.slice A1 6 c1) (fB9_ (fun _=>⟨[],[],[],[]⟩) 0):=(D1.mono (S' :=fun b=>b≠bd) (fun b hb _=>by omega)).ext kd
 have k5:=Below.ext b5 kd
 have B5:=Below.ext B4 k5
 have Rx5:=Lib.hid ((k5.block (bx) (by omega)).trans Rx.out)
 have hC5:=hC4.ext k5
 have hE5:=hE4.ext k5
 have lxd:bx<bd:=by omega
 have y45:=k5.size
 clear D1 hC4 hE4
 go_upto_region 6 with (refine aF rfl 36 _ _ rfl 36 _ _ rfl rfl (by kernel_rfl) rfl (by simp [Value.oneCell']) ?_)
 try dsimp only
 rw [←hW5,←HBd.out]
 clear hW5 hbd
 try simp only [Act.put]
 obtain ⟨r,hr⟩:∃x,x=av%6:=⟨_,rfl⟩
 have hmod:((av:Int).tmod 6)=(r:Int):=by rw [hr];rfl
 obtain ⟨K,hK⟩:∃x,x=1+r:=⟨_,rfl⟩
 have hK1:1≤K:=by omega
 have hK6:K≤6:=by omega
 have hKi:(1:Int)+(r:Int)=(K:Int):=by omega
 clear hr hK
 go_upto_region 7 with fail
 clear hmod hKi
 go_wp2
 go_loopw [10,11] (fun v i wr=>∃(iv:Nat) (A:Option Addr) (c' :Nat) (st:Nat→Stt) (B:Option Addr) (m d:Nat) (xs:List SV),i= .int .i64 (iv:Int)∧iv≤K∧v= .slice B m d∧RowKit.Hid (∀j,j<iv→ReplayR c 0 3 (l.take (ln*j / K)) (st j))∧RowKit.Hid (wr.heap[bd]? =some (.cells #[.slice A 6 c'] 36 (0,0)))∧Dsk (fun b=>b≠bd∧(Value.slice B m d).ownBlock≠some b) wr (.slice A 6 c') (fB9_ st iv)∧RowKit.Hid (m=iv)∧OwnR encSV 4 wr W5.heap.size 51 (.slice B m d) xs∧Wnt (fun b=>b≠bd∧(Value.slice B m d).ownBlock≠some b) wr xs st∧W5.grownBy wr (some bd)) (fun _ i _=>K-(intOf i).toNat)
 case atStart=>exact ⟨0,A1,c1,fun _=>⟨[],[],[],[]⟩,none,0,0,[],rfl,by omega,rfl,Lib.hid (fun j hj=>by omega),Rd,D5.mono (fun b _ h=>⟨h,by simp [Value.ownBlock]⟩),Lib.hid rfl,OwnR.nil_ _ _ _,fun i x hx=>by simp at hx,bC _ _⟩
 case round=>
  obtain ⟨iv,A,c',st,B,m,d,xs,rfl,hiv,rfl,HST,Rdr,D,HMI,hO,hW_,hgr⟩:=hrel
  have szr:W5.heap.size≤wr.heap.size:=hgr.size
  by_cases hlt:iv<K
  ·have Rxr:=Lib.hid ((hgr.block bx (by omega) (by simp;omega)).trans Rx5.out)
   have Cr:=hC5.kept (S' :=fun b=>b<W4.heap.size) (w' :=wr) (fun b hb hs=>hgr.block b hb (by simp;omega)) (fun b h=>h)
   have Er:=hE5.keep (w' :=wr) (fun b hb hs=>hgr.block b hb (by simp;omega))
   have ldd:bd<wr.heap.size:=by omega
   have hpp:ln*iv≤100:=Nat.le_trans (Nat.mul_le_mul ln10 (show iv≤6 by omega)) (by omega)
   obtain ⟨pp,hpe⟩:∃x,x=ln*iv:=⟨_,rfl⟩
   rw [←hpe] at hpp
   have hmul:(ln:Int)*(iv:Int)=(pp:Int):=by rw [hpe];norm_cast
   obtain ⟨kk,hkk⟩:∃x,x=pp / K:=⟨_,rfl⟩
   have hkd:(pp:Int).tdiv (K:Int)=(kk:Int):=by rw [hkk];rfl
   have kln:kk≤ln:=by rw [hkk,hpe];exact Nat.div_le_of_le_mul (by rw [Nat.mul_comm K ln];exact Nat.mul_le_mul_left ln (by omega))
   have HKK:=Lib.hid (show kk=ln*iv / K by rw [hkk,hpe])
   clear hkk hpe
   try (go_wp2_with fail)
   refine qL (fun w' =>w'.heap[bx]? =some (.cells #[.slice I1 in1 ic1,.slice Q1 k1 d1,.slice Q2 k2 d2,.slice Q3 k3 d3,.slice Q4 k4 d4,.slice L' ln lc] 32 (0,0))) 9 12 51 (.cells #[.slice none 0 0,.slice none 0 0,.slice none 0 0,.slice none 0 0] 51) (by kernel_rfl) (by kernel_rfl) (alloc_st) (fun w' h=>jR h _) (Rxr.out) ?_
   refine TkC ?_
   refine LC (⟨bx,0,none⟩) (.agg #[.slice I1 in1 ic1,.slice Q1 k1 d1,.slice Q2 k2 d2,.slice Q3 k3 d3,.slice Q4 k4 d4,.slice L' ln lc]) rfl rfl rfl rfl (fun w' h=>aB h Tryz.underlying32 rfl (by kernel_rfl)) ?_
   refine TkI ?_
   refine TkC ?_
   refine LC (⟨bx,5,none⟩) (.slice L' ln lc) rfl rfl rfl rfl (fun w' h=>aG (mO _) (aA h 5 _ rfl)) ?_
   refine TkI ?_
   refine TkC ?_
   refine yY rfl rfl (fun m1 v1 hE1=> ?_)
   go_wp2_with fail
   have x1:=hE1.bx (Bx.none_ wr.heap.size _ _) (Nat.le_refl _)
   have f1:Below wr.heap.size wr v1:=Below.ext (Below.refl _ wr).drew hE1.below
   have Hst:=Lib.hid (yZ v1 _ c I1 in1 ic1 Q1 k1 d1 Q2 k2 d2 Q3 k3 d3 Q4 k4 d4 L' ln lc l (Cr.ext f1) (Er.ext f1) LI.out kk (by have:=HLN.out;omega))
   refine Hst.out.mono ?_
   rintro e v2 ⟨s,E1,En1,Ec1,E2,En2,Ec2,E3,En3,Ec3,E4,En4,Ec4,rfl,hRR,hM,z2⟩
   have x2_:=x1.ext z2
   have f2:=Below.ext f1 z2
   go_wp2_with fail
   refine uU ((f2.block bx (by omega)).trans Rxr.out) ?_
   refine TkC ?_
   refine MF rfl (fun X v3 hE3=> ?_)
   refine TkI ?_
   refine TkC ?_
   have x3_:=hE3.bx x2_ f2.size
   have f3:=Below.ext f2 hE3.below
   have rowX:=(x3_ X rfl).2
   have hWX:=(x3_ X rfl).1
   have yf1:=f1.size
   have M3:=((hM.mono_ (S' :=fun b=>wr.heap.size≤b∧m1≠some b) (fun b hb h=>⟨by omega,x1.lt h⟩)).mono_ (S' :=fun b=>wr.heap.size≤b∧b≠X) (fun b hb h=>⟨h.1,fun e=>hE3.ne hb h.2 (by rw [e])⟩)).ext hE3.below
   refine MG rfl rfl ?_
   refine aC rfl 51 _ _ rfl X 51 _ _ rfl rfl rowX (by kernel_rfl) rfl (by simp [Value.oneCell']) ?_
   obtain ⟨v4,hv4⟩:∃x,x=v3.setRow X #[.slice E1 En1 Ec1,.slice E2 En2 Ec2,.slice E3 En3 Ec3,.slice E4 En4 Ec4]:=⟨_,rfl⟩
   have g4:v3.grownBy v4 (some X):=by rw [hv4];exact aJ _ _ _
   have f4:Below wr.heap.size wr v4:=by rw [hv4];exact Below.setRow f3 hWX _
   have RX4:=Lib.hid (show v4.heap[X]? =some (.cells #[.slice E1 En1 Ec1,.slice E2 En2 Ec2,.slice E3 En3 Ec3,.slice E4 En4 Ec4] 51 (0,0)) by rw [hv4];exact setRow_heap _ _ _ _ _ _ rowX)
   have M4:=M3.kept (S' :=fun b=>wr.heap.size≤b∧b≠X) (w' :=v4) (fun b hb hs=>g4.block b hb (by simp;omega)) (fun b h=>h)
   have lX:X<v4.heap.size:=(Array.getElem?_eq_some_iff.1 RX4.out).1
   rw [←hv4]
   clear hv4 x1 x2_ x3_ hE1 hE3 f1 f2 f3 rowX M3 hM g4 z2
   refine uU ((f4.block bx (by omega)).trans Rxr.out) ?_
   simp only [Act.put]
   refine TkC ?_
   refine JE ?_
   rw [HKK.out] at hRR
   obtain ⟨st',hst'⟩:∃st' :Nat→Stt,st' =fun j=>if j=iv then s else st j:=⟨_,rfl⟩
   have e0:st' iv=s:=by rw [hst'];simp
   have e1:∀j,j<iv→st' j=st j:=fun j hj=>by rw [hst'];simp;omega
   have hR' :∀j,j<iv+1→ReplayR c 0 3 (l.take (ln*j / K)) (st' j):=fun j hj=>by
    by_cases hji:j=iv
    ·subst hji;rw [e0];exact hRR
    ·rw [e1 j (by omega)];exact HST.out j (by omega)
   have CH_:Chn st' (iv+1):=⟨fun j hj=>(LI.out.st (hR' j hj)).1,fun j hj=>LI.out.ext (Nat.div_le_div_right (Nat.mul_le_mul_left ln (by omega))) (hR' j (by omega)) (hR' (j+1) hj)⟩
   have hsv:=saveCh (st:=st') (i:=iv) (by omega) CH_
   have hsin:=(CH_.b iv (by omega)).sv
   rw [e0] at hsv hsin
   have D4:=D.ext f4
   rw [←fB_up e1] at D4
   have HSV:=Lib.hid (mU A 6 c' _ _ v4 D4 (by omega) (fB_ok (CH_.down (by omega))) (iv:Int) s _ _ _ _ _ _ _ _ _ _ _ _ _ M4 hsin ((iv:Int)-1) _ hsv)
   have HRP:=Lib.hid hR'
   have E0:=Lib.hid e0
   have E1_:=Lib.hid e1
   have Rd4:=Lib.hid ((f4.block bd ldd).trans Rdr.out)
   have yf4:=f4.size
   have hO4:=hO.ext f4
   have hW4_:=hW_.keep (Keep.of_below f4)
   have HXL:=Lib.hid hO.len.1
   have hown:∀b,(Value.slice B m d).ownBlock=some b→W5.heap.size≤b∧b<wr.heap.size:=fun b e=>World.ownsRow.lt hO b e
   have HOW:=Lib.hid hown
   clear hRR hR' hsv hsin e0 e1 hst' D4 CH_ hown D hO hW_
   go_wp2_with (first|(refine aD (t:=36) (A:=⟨bd,0,none⟩) rfl rfl rfl (aB Rd4.out Tryz.underlying36 rfl (by kernel_rfl)) ?_)|(refine aD (t:=51) (A:=⟨X,0,none⟩) rfl rfl rfl (aB RX4.out Tryz.underlying51 rfl (by kernel_rfl)) ?_))
   refine HSV.out.mono ?_
   rintro e v5_ ⟨⟨A5,c5,rfl,D5_⟩,z5⟩
   have y5_:=z5.size
   obtain ⟨W6,hW6,_,kw,Sw,Rw⟩:=bP v5_ v5_ #[.slice A5 6 c5] 36 (Below.refl _ _)
   obtain ⟨bw,hbw⟩:∃b,b=v5_.heap.size:=⟨_,rfl⟩
   rw [←hbw] at Rw
   have HBw:=Lib.hid hbw
   have lw:bw<W6.heap.size:=by have:=Sw.out;omega
   have mw:v5_.heap.size≤bw:=by omega
   have k6:=Below.ext z5 kw
   have y6:=k6.size
   have D6:=(D5_.ext kw).mono (S' :=fun b=>b≠bd∧some b≠(Value.slice B m d).ownBlock) (fun b _ h=>by
    rcases h with h|h
    ·exact ⟨h.1,fun e=>h.2 e.symm⟩
    ·exact ⟨by omega,fun e=>by have:=HOW.out b e.symm;omega⟩)
   have RX6:=Lib.hid ((k6.block X lX).trans RX4.out)
   have Rd6:=Lib.hid ((k6.block bd (by omega)).trans Rd4.out)
   have O6:=hO4.ext k6
   have Wn6:=hW4_.keep (Keep.of_below k6)
   have M6:=M4.ext k6
   clear D5_ hO4 hW4_ M4
   go_upto_region 13 with (refine aF rfl 36 _ _ rfl 36 _ _ rfl rfl (by kernel_rfl) rfl (by simp [Value.oneCell']) ?_)
   try dsimp only
   rw [←hW6,←HBw.out]
   clear hW6 hbw
   try simp only [Act.put]
   obtain ⟨w7,hw7⟩:∃x,x=W6.drew:=⟨_,rfl⟩
   have k7:Below W6.heap.size W6 w7:=by rw [hw7];exact (Below.refl _ W6).drew
   obtain ⟨W8,hW8,_,ko,So,Ro⟩:=bP w7 w7 #[.slice E1 En1 Ec1,.slice E2 En2 Ec2,.slice E3 En3 Ec3,.slice E4 En4 Ec4] 51 (Below.refl _ _)
   obtain ⟨bo,hbo⟩:∃b,b=w7.heap.size:=⟨_,rfl⟩
   rw [←hbo] at Ro
   have HBo:=Lib.hid hbo
   have lo:bo<W8.heap.size:=by have:=So.out;omega
   have mo:w7.heap.size≤bo:=by omega
   have k8:=Below.ext k7 ko
   have y8:=k8.size
   have O8:=O6.ext k8
   have Wn8:=Wn6.keep (Keep.of_below k8)
   have M8:=M6.ext k8
   have D8:=D6.ext k8
   have Rd8:=Lib.hid ((k8.block bd (by omega)).trans Rd6.out)
   have RX8:=Lib.hid ((k8.block X (by omega)).trans RX6.out)
   have Rw8:=Lib.hid ((k8.block bw lw).trans Rw.out)
   have hone:Recs encSV (fun _=>True) W8 (.slice (some ⟨bo,0,none⟩) 1 1) [(⟨E1,En1,Ec1,E2,En2,Ec2,E3,En3,Ec3,E4,En4,Ec4⟩:SV)]:=mW [_] Ro.out rfl (by simp) trivial rfl
   clear O6 Wn6 M6 D6 hbo
   go_upto_region 15 with fail
   go_wp2_with fail
   refine wp_region_late (fun w' =>w'.heap[bw]? =some (.cells #[.slice A5 6 c5] 36 (0,0))∧w'.heap[X]? =some (.cells #[.slice E1 En1 Ec1,.slice E2 En2 Ec2,.slice E3 En3 Ec3,.slice E4 En4 Ec4] 51 (0,0))) 5 (by kernel_rfl) (by kernel_rfl) (by kernel_rfl) (by decide) ⟨Rw.out,RX6.out⟩ ?_
   simp only [List.take_succ_cons,List.take_zero,List.drop_succ_cons,List.drop_zero]
   refine TkB ?_
   refine aE (⟨bw,0,none⟩) (.agg #[.slice A5 6 c5]) rfl rfl rfl (fun w' h=>aB h.1 Tryz.underlying36 rfl (by kernel_rfl)) ?_
   refine TkI ?_
   refine TkB ?_
   refine aE (⟨X,0,none⟩) (.agg #[.slice E1 En1 Ec1,.slice E2 En2 Ec2,.slice E3 En3 Ec3,.slice E4 En4 Ec4]) rfl rfl rfl (fun w' h=>aB h.2 Tryz.underlying51 rfl (by kernel_rfl)) ?_
   refine TkI ?_
   refine TkB ?_
   rw [←hw7]
   clear hw7
   refine aL rfl ?_
   go_wp2_with fail
   rw [←hW8,←HBo.out]
   clear hW8
   refine aI ⟨Rw8.out,RX8.out⟩ ?_
   refine TkB ?_
   refine aL rfl ?_
   refine aV encSV_len encSV_one (.agg #[.slice none 0 0,.slice none 0 0,.slice none 0 0,.slice none 0 0]) 96 _ _ 72 51 W5.heap.size xs [(⟨E1,En1,Ec1,E2,En2,Ec2,E3,En3,Ec3,E4,En4,Ec4⟩:SV)] (some ⟨bo,0,none⟩) 1 1 (.slice B m d) (m+1) rfl rfl Tryz.underlying72 infoSV rfl (by omega) rfl rfl O8 hone (by rw [HXL.out]) (by rw [HXL.out];have:=HMI.out;omega) (by rw [HXL.out];have:=HMI.out;omega) (by omega) ?_
   intro A9 c9 w9 hown9 hgr9 hat9 hc91 hc92
   have s9:W8.heap.size≤w9.heap.size:=hgr9.size
   have nown:∀b,b<W5.heap.size∨wr.heap.size≤b→some b≠(Value.slice B m d).ownBlock:=fun b hb e=>by have:=HOW.out b e.symm;omega
   have Rd9:=Lib.hid ((hgr9.block bd (by omega) (nown bd (by omega))).trans Rd8.out)
   have RX9:=Lib.hid ((hgr9.block X (by omega) (nown X (by omega))).trans RX8.out)
   have Rw9:=Lib.hid ((hgr9.block bw (by omega) (nown bw (by omega))).trans Rw8.out)
   have D9:=D8.mono (S' :=fun b=>(b≠bd∧some b≠(Value.slice B m d).ownBlock)∧b<W8.heap.size) (fun b hb h=>⟨h,hb⟩)
   refine aI ⟨Rw9.out,RX9.out⟩ ?_
   refine TkI ?_
   refine TkB ?_
   refine aZ ?_
   refine aL rfl ?_
   refine aC rfl 36 _ _ rfl bd 36 _ _ rfl rfl Rd9.out (by kernel_rfl) rfl (by simp [Value.oneCell']) ?_
   refine aI trivial ?_
   simp only [Act.put]
   refine TkB ?_
   refine aZ ?_
   obtain ⟨W10,hW10⟩:∃x,x=w9.setRow bd #[.slice A5 6 c5]:=⟨_,rfl⟩
   have g10:w9.grownBy W10 (some bd):=by rw [hW10];exact aJ _ _ _
   have Rd10:=Lib.hid (show W10.heap[bd]? =some (.cells #[.slice A5 6 c5] 36 (0,0)) by rw [hW10];exact setRow_heap _ _ _ _ _ _ Rd9.out)
   have hne9:(Value.slice A9 (m+1) c9).ownBlock≠some bd:=fun e=>by have:=(World.ownsRow.lt hown9 _ e).1;omega
   have own10:=hown9.kept g10 (.inr hne9)
   have Wn8' :=Wn8.mono_ (S' :=fun b=>(b≠bd∧some b≠(Value.slice B m d).ownBlock)∧b<W8.heap.size) (fun b hb h=>⟨⟨h.1,fun e=>h.2 e.symm⟩,hb⟩)
   have M8' :=M8.mono_ (S' :=fun b=>(b≠bd∧some b≠(Value.slice B m d).ownBlock)∧b<W8.heap.size) (fun b hb h=>⟨⟨by omega,nown b (by omega)⟩,hb⟩)
   have kp:Keep (fun b=>(b≠bd∧some b≠(Value.slice B m d).ownBlock)∧b<W8.heap.size) W8 W10:=fun b hb hs=>(g10.block b (by omega) (by simp;exact hs.1.1)).trans (hgr9.block b hb hs.1.2)
   have Wn10:=Wn8'.keep kp
   have D10:=D9.keep kp
   have M10:=M8'.kept (S' :=fun b=>(b≠bd∧some b≠(Value.slice B m d).ownBlock)∧b<W8.heap.size) kp (fun b h=>h)
   have cls:∀b,((b≠bd∧some b≠(Value.slice B m d).ownBlock)∧b<W8.heap.size)→(b≠bd∧(Value.slice A9 (m+1) c9).ownBlock≠some b):=fun b h=>⟨h.1.1,fun e=>by
    rcases hat9 with h9|h9
    ·rw [h9] at e;exact h.1.2 e.symm
    ·rw [h9] at e;cases e;omega⟩
   have DF9_:=D10.mono (fun b _ h=>cls b h)
   have hxl:xs.length=iv:=by rw [HXL.out,HMI.out]
   have WnF:Wnt (fun b=>b≠bd∧(Value.slice A9 (m+1) c9).ownBlock≠some b) W10 (xs++ [(⟨E1,En1,Ec1,E2,En2,Ec2,E3,En3,Ec3,E4,En4,Ec4⟩:SV)]) st' :=(Wn10.mono cls).snoc (fun j hj=>E1_.out j (by omega)) (by rw [hxl,E0.out];exact M10.kept (fun _ _ _=>rfl) cls)
   have GR9_:W5.grownBy W10 (some bd):=aH (cD (aH hgr (aQ (Below.ext f4 (Below.ext k6 k8)) _)) hgr9 (fun q hq=> .inl (HOW.out q hq).1)) g10
   have HF1:=Lib.hid (show m+1=iv+1 by rw [HMI.out])
   rw [←hW10]
   clear hW10 Wn8 Wn8' M8 M8' Wn10 M10 kp cls D8 D9 O8 hown9 hat9 g10 nown
   go_wp2
   go_roundw
   case rel=>exact ⟨iv+1,A5,c5,st',A9,m+1,c9,_,by go_num,by omega,rfl,HRP,Rd10,DF9_,HF1,own10,WnF,GR9_⟩
   case measure=>simp [intOf];omega
  ·obtain rfl:K=iv:=by omega
   obtain ⟨wq,hwq⟩:∃x,x=wr:=⟨_,rfl⟩
   subst hwq
   have CHN:Chn st K:=⟨fun j hj=>(LI.out.st (HST.out j hj)).1,fun j hj=>LI.out.ext (Nat.div_le_div_right (Nat.mul_le_mul_left ln (by omega))) (HST.out j (by omega)) (HST.out (j+1) hj)⟩
   have HCH:=Lib.hid CHN
   have HFO:=Lib.hid (fB_ok CHN)
   have Bq:Below w.heap.size w wq:=B5.grown hgr B5.size (fun o e=>by cases e;omega)
   have ldq:bd<wq.heap.size:=by omega
   have HXL:=Lib.hid hO.len.1
   have hm:m=K:=HMI.out
   have HM:=Lib.hid hm
   have m6:m≤6:=by omega
   have RC:=hO.recs.mono (S' :=fun b=>b≠bd) (fun b _ h=>by have h2:W5.heap.size≤b:=h.1;omega)
   have D0:=D.mono (S' :=fun b=>b≠bd) (fun b _ h=>h.1)
   have Wn:=hW_.mono (S' :=fun b=>b≠bd) (fun b h=>h.1)
   clear hm HST hC5 hE5 hgr CHN hO D hW_ D5
   go_wp2
   go_loopw [66] (fun v w2=>∃(j:Nat),v= .int .i64 (j:Int)∧j≤m∧Below wq.heap.size wq w2) (fun v _=>m-(intOf v).toNat)
   case atStart=>exact ⟨0,rfl,by omega,Below.refl _ _⟩
   case round=>
    obtain ⟨j,rfl,hj,hbr⟩:=hrel
    have szr:=hbr.size
    by_cases hlt:j<m
    ·have hjK:j<K:=by have:=HM.out;omega
     have Rdr2:=Lib.hid ((hbr.block bd ldq).trans Rdr.out)
     have HL:=Lib.hid ((kY _ HFO.out _ _ _ (loadCh HCH.out j (by omega) hjK) (by omega)).2 A 6 c' _ wr (D0.ext hbr) (by omega))
     obtain ⟨cb,co,x,rfl,_,hcb,hcx,hcc⟩:=(RC.ext hbr).at_ encSV_len (j:=j) (by rw [HXL.out];exact hlt) (by omega)
     obtain ⟨F1,Fn1,Fc1,F2,Fn2,Fc2,F3,Fn3,Fc3,F4,Fn4,Fc4⟩:=x
     have hWx:=(Wn _ _ hcx).kept (Keep.of_below hbr) (fun b h=>h)
     clear hcx
     go_wp2_with (refine aD (t:=36) (A:=⟨bd,0,none⟩) rfl rfl rfl (aB Rdr2.out Tryz.underlying36 rfl (by kernel_rfl)) ?_)
     refine HL.out.mono ?_
     rintro e v2 ⟨⟨G1,Gn1,Gc1,G2,Gn2,Gc2,G3,Gn3,Gc3,G4,Gn4,Gc4,rfl,hU⟩,b2_⟩
     obtain ⟨W3,hW3,_,ku,Su,Ru⟩:=bP v2 v2 #[.slice G1 Gn1 Gc1,.slice G2 Gn2 Gc2,.slice G3 Gn3 Gc3,.slice G4 Gn4 Gc4] 51 (Below.refl _ _)
     obtain ⟨bu,hbu⟩:∃b,b=v2.heap.size:=⟨_,rfl⟩
     rw [←hbu] at Ru
     have HBu:=Lib.hid hbu
     have lu:bu<W3.heap.size:=by have:=Su.out;omega
     have mu:v2.heap.size≤bu:=by omega
     have k3:=Below.ext b2_ ku
     have y3:=k3.size
     have hU3:=hU.ext ku
     have hW3_:=hWx.ext k3
     have rQ:∀q u,(encSV ⟨F1,Fn1,Fc1,F2,Fn2,Fc2,F3,Fn3,Fc3,F4,Fn4,Fc4⟩)[q]? =some u→W3.cell? ⟨cb,co+j*4+q,none⟩=some u:=fun q u hq=>(World.cell?_of_block (k3.block cb (by omega))).trans (hcc q u hq)
     obtain ⟨w4_,hw4_⟩:∃x,x=W3.drew:=⟨_,rfl⟩
     have k4:Below W3.heap.size W3 w4_:=by rw [hw4_];exact (Below.refl _ W3).drew
     have y4:=k4.size
     have S1:=Lib.hid (same06 (st j) G1 Gn1 Gc1 G2 Gn2 Gc2 G3 Gn3 Gc3 G4 Gn4 Gc4 F1 Fn1 Fc1 F2 Fn2 Fc2 F3 Fn3 Fc3 F4 Fn4 Fc4 _ _ w4_ (hU3.ext k4) (hW3_.ext k4))
     have cellsUp:∀w',Below W3.heap.size W3 w'→∀q u,(encSV ⟨F1,Fn1,Fc1,F2,Fn2,Fc2,F3,Fn3,Fc3,F4,Fn4,Fc4⟩)[q]? =some u→w'.cell? ⟨cb,co+j*4+q,none⟩=some u:=fun w' hb q u hq=>(World.cell?_of_block (hb.block cb (by omega))).trans (rQ q u hq)
     have CUP:=Lib.hid cellsUp
     clear hcc hWx hU
     go_upto_region 20 with (refine aF rfl 51 _ _ rfl 51 _ _ rfl rfl (by kernel_rfl) rfl (by simp [Value.oneCell']) ?_)
     try dsimp only
     rw [←hW3,←HBu.out]
     clear hW3 hbu
     try simp only [Act.put]
     go_wp2_with fail
     refine aM ((fun w' =>w'.heap[bu]? =some (.cells #[.slice G1 Gn1 Gc1,.slice G2 Gn2 Gc2,.slice G3 Gn3 Gc3,.slice G4 Gn4 Gc4] 51 (0,0))∧∀q u,(encSV ⟨F1,Fn1,Fc1,F2,Fn2,Fc2,F3,Fn3,Fc3,F4,Fn4,Fc4⟩)[q]? =some u→w'.cell? ⟨cb,co+j*4+q,none⟩=some u)) (by kernel_rfl) (by kernel_rfl) (⟨Ru.out,rQ⟩) ?_
     refine TkB ?_
     refine aE (⟨bu,0,none⟩) (.agg #[.slice G1 Gn1 Gc1,.slice G2 Gn2 Gc2,.slice G3 Gn3 Gc3,.slice G4 Gn4 Gc4]) rfl rfl rfl (fun w' h=>aB h.1 Tryz.underlying51 rfl (by kernel_rfl)) ?_
     refine TkI ?_
     refine TkB ?_
     refine aE (⟨cb,co+j*4,none⟩) (.agg #[.slice F1 Fn1 Fc1,.slice F2 Fn2 Fc2,.slice F3 Fn3 Fc3,.slice F4 Fn4 Fc4]) rfl rfl rfl (fun w' h=>ld_sv h.2) ?_
     refine TkI ?_
     refine TkB ?_
     rw [←hw4_]
     clear hw4_ rQ cellsUp
     refine aL rfl ?_
     go_wp2_with fail
     refine S1.out.mono ?_
     rintro e v5_ ⟨rfl,b5_⟩
     have k5_:=Below.ext k4 b5_
     have S2:=Lib.hid (ND (st j) G1 Gn1 Gc1 G2 Gn2 Gc2 G3 Gn3 Gc3 G4 Gn4 Gc4 F1 Fn1 Fc1 F2 Fn2 Fc2 F3 Fn3 Fc3 F4 Fn4 Fc4 _ _ v5_ (hU3.ext k5_) (hW3_.ext k5_))
     go_wp2_with fail
     refine aI (⟨(k5_.block bu lu).trans Ru.out,CUP.out _ k5_⟩) ?_
     refine TkB ?_
     refine aE (⟨bu,0,none⟩) (.agg #[.slice G1 Gn1 Gc1,.slice G2 Gn2 Gc2,.slice G3 Gn3 Gc3,.slice G4 Gn4 Gc4]) rfl rfl rfl (fun w' h=>aB h.1 Tryz.underlying51 rfl (by kernel_rfl)) ?_
     refine TkI ?_
     refine TkB ?_
     refine aE (⟨cb,co+j*4,none⟩) (.agg #[.slice F1 Fn1 Fc1,.slice F2 Fn2 Fc2,.slice F3 Fn3 Fc3,.slice F4 Fn4 Fc4]) rfl rfl rfl (fun w' h=>ld_sv h.2) ?_
     refine TkI ?_
     refine TkB ?_
     refine aL rfl ?_
     go_wp2_with fail
     refine S2.out.mono ?_
     rintro e v6_ ⟨rfl,b6_⟩
     have k6_:=Below.ext k5_ b6_
     go_wp2_with fail
     refine aI (⟨(k6_.block bu lu).trans Ru.out,CUP.out _ k6_⟩) ?_
     refine TkB ?_
     refine aZ ?_
     go_wp2
     go_roundw
     case rel=>exact ⟨j+1,by go_num,by omega,Below.ext hbr (Below.ext k3 k6_)⟩
     case measure=>simp [intOf];omega
    ·obtain rfl:m=j:=by omega
     obtain ⟨wz,hwz⟩:∃x,x=wr:=⟨_,rfl⟩
     subst hwz
     obtain rfl:m=K:=HM.out
     have Bz:=Below.ext Bq hbr
     have Rdz:=Lib.hid ((hbr.block bd ldq).trans Rdr.out)
     have Dz:=D0.ext hbr
     have ldz:bd<wz.heap.size:=by omega
     clear RC D0 Wn hbr Rdr HM HMI HXL
     obtain ⟨W8,hW8,_,ko,So,Ro⟩:=bP wz wz #[.int .i64 ((m:Int)-1)] 3 (Below.refl _ _)
     obtain ⟨bo,hbo⟩:∃b,b=wz.heap.size:=⟨_,rfl⟩
     rw [←hbo] at Ro
     have HBo:=Lib.hid hbo
     have lo:bo<W8.heap.size:=by have:=So.out;omega
     have mo:wz.heap.size≤bo:=by omega
     have hE8:Recs bJ (fun _=>True) W8 (.slice (some ⟨bo,0,none⟩) 1 1) [(m:Int)-1]:=mW [_] Ro.out rfl (by simp) trivial rfl
     have HNE:=Lib.hid (needed_any A 6 c' (fB9_ st m) _ W8 (Dz.ext ko) (by omega) HFO.out (some ⟨bo,0,none⟩) 1 1 [(m:Int)-1] _ hE8 (fun z hz=>by simp at hz;subst hz;exact ⟨by omega,by omega⟩))
     clear hE8 hbo
     go_wp2_with (refine aD (t:=36) (A:=⟨bd,0,none⟩) rfl rfl rfl (aB Rdz.out Tryz.underlying36 rfl (by kernel_rfl)) ?_)
     rw [←hW8,←HBo.out]
     clear hW8
     refine HNE.out.mono ?_
     rintro e v9 ⟨A9,q9,c9,rfl,hO9,b9⟩
     rw [marks_ch HCH.out hK1 hK6] at hO9
     obtain rfl:m=q9:=by have:=hO9.len.1;simpa using this
     have rc9:=hO9.recs
     have k9:=Below.ext ko b9
     have y9:=k9.size
     have Rd9:=Lib.hid ((k9.block bd ldz).trans Rdz.out)
     have D9:=Dz.ext k9
     have B9:=Below.ext Bz k9
     clear hO9 Dz
     go_wp2
     go_loopw [103] (fun v w2=>∃(j:Nat),v= .int .i64 (j:Int)∧j≤m∧Below v9.heap.size v9 w2) (fun v _=>m-(intOf v).toNat)
     case atStart=>exact ⟨0,rfl,by omega,Below.refl _ _⟩
     case round=>
      obtain ⟨j,rfl,hj,hbr⟩:=hrel
      by_cases hlt:j<m
      ·obtain ⟨cb,co,z,rfl,_,hcb,hcx,hcc⟩:=(rc9.ext hbr).at_ dH (j:=j) (by simp;exact hlt) (by omega)
       obtain rfl:z=(j:Int):=by
        rw [List.getElem?_map,List.getElem?_range hlt] at hcx
        simpa using hcx.symm
       have e0:wr.cell? ⟨cb,co+j,none⟩=some (.int .i64 (j:Int)):=by have:=hcc 0 _ rfl;simpa using this
       clear hcx hcc
       go_wp2
       go_roundw
       case rel=>exact ⟨j+1,by go_num,by omega,hbr⟩
       case measure=>simp [intOf];omega
      ·obtain rfl:m=j:=by omega
       have Rd10:=Lib.hid ((hbr.block bd (by omega)).trans Rd9.out)
       have HLS:=Lib.hid (DC A 6 c' (fB9_ st m) _ wr (D9.ext hbr) (by omega) HFO.out)
       go_wp2_with (refine aD (t:=36) (A:=⟨bd,0,none⟩) rfl rfl rfl (aB Rd10.out Tryz.underlying36 rfl (by kernel_rfl)) ?_)
       refine HLS.out.mono ?_
       rintro e v20 ⟨A20,k20,c20,rfl,_,hO20,b20⟩
       obtain rfl:m=k20:=by have h1:=hO20.len.1;rw [pts_len HCH.out 6 (Nat.le_refl _)] at h1;omega
       go_wp2
       go_ret
       exact ⟨rfl,Below.ext B9 (Below.ext hbr b20)⟩
end Go.Proofs.YtiblijmngokcgaaGreatDoor.ckptstoreBack
