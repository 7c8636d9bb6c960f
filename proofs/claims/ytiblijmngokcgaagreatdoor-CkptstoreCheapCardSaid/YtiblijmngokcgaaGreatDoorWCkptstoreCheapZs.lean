import Derived.Test.YtiblijmngokcgaaGreatDoorMacZs
import Derived.Test.YtiblijmngokcgaaGreatDoorG42Zs
import Derived.WalkKit
import Derived.ProofKit
import Derived.OpenShut
import Derived.ShutString
import Derived.Below
namespace Go.Proofs.YtiblijmngokcgaaGreatDoor.ckptstoreCheap
open Go.ChangeShapes Go.WideShapes Go.ChangeAt Go.RowKit
open Go.ChangeMaps (open_string shut_string)
set_option linter.unusedVariables false
set_option maxRecDepth 100000
set_option maxHeartbeats 8000000 in
theorem walk (a0:Option Addr) (len0 cap0:Nat) (z0:List Int) (a1 a2:Int) (w:World) (w0:IsRow .u8 w a0 len0 cap0 z0) (w1:(Lit.int .u8 a1).wf=true) (w2:(Lit.int .i8 a2).wf=true) (hG:Glb 2 w):
 Calls Tryz.prog 6 #[.slice a0 len0 cap0,.int .u8 a1,.int .i8 a2] w fun e w' =>e= .returned (.bool true)∧Below w.heap.size w w' :=by
 have h1:=GS w1
 have h2: -128≤a2∧a2≤127:=by
  simp [Lit.wf,IntKind.min,IntKind.max,IntKind.bits,IntKind.signed] at w2
  omega
 obtain ⟨L,hk1,hk2,hk3,hkB⟩:=IsRow.bytes w0
 clear w0 w1 w2
 have HL:=Lib.hid hk1
 have HG:=Lib.hid hG
 clear hk1 hG
 go_enter Tryz.func6,Tryz.ntmps6
 go_wp2_with fail
 refine (xC _).mono ?_
 rintro e x1 ⟨rfl,b1⟩
 have Hn:=Lib.hid (zH _ L _ x1 240 (by omega) (hkB.ext b1))
 go_wp2_with fail
 refine Hn.out.mono ?_
 rintro e x2 ⟨g,rfl,hC,b2⟩
 have s1:=b1.size
 have s2:=b2.size
 have hb2:=Below.ext b1 b2
 have Hs:=Lib.hid (zB x1.heap.size g x2 hC (LK HG.out hb2 s1 s2))
 have hgB:=hC.1
 clear hC hkB
 go_wp2_with fail
 refine Hs.out.mono ?_
 rintro e x3 ⟨c,I1,in1,ic1,Q1,k1,d1,Q2,k2,d2,Q3,k3,d3,Q4,k4,d4,L',ln,lc,l,rfl,hCM,hE,hLin,_,g3⟩
 have s3:=g3.size
 have hb3:Below w.heap.size w x3:=hb2.grown g3 hb2.size (fun o e=>by cases e;omega)
 have LI:=Lib.hid hLin
 have l10:=hLin.n
 have HLN:=Lib.hid hE.len.1
 have ln10:ln≤10:=by have:=HLN.out;omega
 clear hLin g3
 obtain ⟨W4,hW4,_,kx,Sx,Rx⟩:=bP x3 x3 #[.slice I1 in1 ic1,.slice Q1 k1 d1,.slice Q2 k2 d2,.slice Q3 k3 d3,.slice Q4 k4 d4,.slice L' ln lc] 32 (Below.refl _ _)
 obtain ⟨bx,hbx⟩:∃b,b=x3.heap.size:=⟨_,rfl⟩
 rw [←hbx] at Rx
 have HBx:=Lib.hid hbx
 have lx:bx<W4.heap.size:=by have:=Sx.out;omega
 have mx:x3.heap.size≤bx:=by omega
 have B4:=Below.ext hb3 kx
 have hC4:=hCM.ext kx
 have hE4:=hE.ext kx
 have wx:w.heap.size≤bx:=by omega
 clear hCM hE
 go_upto_region 5 with (refine aF rfl 32 _ _ rfl 32 _ _ rfl rfl (by kernel_rfl) rfl (by simp [Value.oneCell']) ?_)
 try dsimp only
 rw [←hW4,←HBx.out]
 clear hW4 hbx
 try simp only [Act.put]
 have Hst:=Lib.hid (yZ W4 _ c I1 in1 ic1 Q1 k1 d1 Q2 k2 d2 Q3 k3 d3 Q4 k4 d4 L' ln lc l hC4 hE4 LI.out ln (by have:=HLN.out;omega))
 have q4:W4.cell? ⟨bx,5,none⟩=some (.slice L' ln lc):=aA Rx.out 5 _ rfl
 clear hC4 hE4
 go_wp2_with (refine aD (t:=32) (A:=⟨bx,0,none⟩) rfl rfl rfl (aB Rx.out Tryz.underlying32 rfl (by kernel_rfl)) ?_)
 refine Hst.out.mono ?_
 rintro e x5 ⟨s,E1,En1,Ec1,E2,En2,Ec2,E3,En3,Ec3,E4,En4,Ec4,rfl,hRR,hM,b5⟩
 obtain ⟨hsb,hse⟩:=LI.out.st hRR
 have B5:=Below.ext B4 b5
 have y5:=b5.size
 clear q4 hRR hse
 obtain ⟨W6,hW6,_,ks,Ss,Rs⟩:=bP x5 x5 #[.slice E1 En1 Ec1,.slice E2 En2 Ec2,.slice E3 En3 Ec3,.slice E4 En4 Ec4] 51 (Below.refl _ _)
 obtain ⟨bs,hbs⟩:∃b,b=x5.heap.size:=⟨_,rfl⟩
 rw [←hbs] at Rs
 have HBs:=Lib.hid hbs
 have ls:bs<W6.heap.size:=by have:=Ss.out;omega
 have ms:x5.heap.size≤bs:=by omega
 go_upto_region 6 with (refine aF rfl 51 _ _ rfl 51 _ _ rfl rfl (by kernel_rfl) rfl (by simp [Value.oneCell']) ?_)
 try dsimp only
 rw [←hW6,←HBs.out]
 clear hW6 hbs
 try simp only [Act.put]
 obtain ⟨W7,hW7,_,kt,St,Rt⟩:=bP W6 W6 #[.slice E1 En1 Ec1,.slice E2 En2 Ec2,.slice E3 En3 Ec3,.slice E4 En4 Ec4] 51 (Below.refl _ _)
 obtain ⟨bt,hbt⟩:∃b,b=W6.heap.size:=⟨_,rfl⟩
 rw [←hbt] at Rt
 have HBt:=Lib.hid hbt
 have lt:bt<W7.heap.size:=by have:=St.out;omega
 have mt:W6.heap.size≤bt:=by omega
 have Rs7:=Lib.hid ((kt.block bs ls).trans Rs.out)
 have M7:=(hM.lo.ext ks).ext kt
 have B7:=Below.ext (Below.ext B5 ks) kt
 have y7:=B7.size
 go_upto_region 7 with (first|(refine aD (t:=51) (A:=⟨bs,0,none⟩) rfl rfl rfl (aB Rs.out Tryz.underlying51 rfl (by kernel_rfl)) ?_)|(refine aF rfl 51 _ _ rfl 51 _ _ rfl rfl (by kernel_rfl) rfl (by simp [Value.oneCell']) ?_))
 try dsimp only
 rw [←hW7,←HBt.out]
 clear hW7 hbt
 try simp only [Act.put]
 have hp1:=Lib.hid M7.1.len.1
 have hp5:=hsb.c5
 have hp30:=hsb.c
 have n5:5≤En1:=by have:=hp1.out;omega
 have n30:En1≤30:=by have:=hp1.out;omega
 have q7:W7.cell? ⟨bs,0,none⟩=some (.slice E1 En1 Ec1):=aA Rs7.out 0 _ rfl
 have HSB:=Lib.hid hsb
 have HMC:=Lib.hid M7.1
 have d7:((En1:Int)==0)=false:=by simp;omega
 clear hp5 hp30 hsb hM
 go_wp2_with (refine aV (o:=⟨some 31,_,_,_,_,_⟩) dH jG (.int .i64 0) 8 _ _ 23 3 W7.heap.size [] s.cells E1 En1 Ec1 (.slice none 0 0) En1 rfl rfl Tryz.underlying23 oZ rfl (by omega) rfl rfl (OwnR.nil_ _ _ _) HMC.out (by simp) (by simp;omega) (by simp;omega) (Nat.le_refl _) ?_;intro A7 c7 w8 hown8 hgr8 hat8 hc81 hc82;rw [List.nil_append] at hown8;have b8:Below W7.heap.size W7 w8:=(Below.refl _ W7).grown hgr8 (Nat.le_refl _) (fun o e=>by cases e);have Rt8:=Lib.hid ((b8.block bt lt).trans Rt.out);have q8:w8.cell? ⟨bt,0,none⟩=some (.slice E1 En1 Ec1):=aA Rt8.out 0 _ rfl;have f8:w8.frozen? ⟨bt,0,none⟩=false:=frozen_of_row _ _ _ _ _ Rt8.out;have q9:(w8.setCell ⟨bt,0,none⟩ (.slice A7 En1 c7)).cell? ⟨bt,0,none⟩=some (.slice A7 En1 c7):=aA (heap_setCell_same _ _ 0 _ _ (.slice A7 En1 c7) Rt8.out) 0 _ rfl)
 obtain ⟨W9,hW9⟩:∃x,x=w8.setCell ⟨bt,0,none⟩ (.slice A7 En1 c7):=⟨_,rfl⟩
 have g9:w8.grownBy W9 (some bt):=by rw [hW9];exact aO (bC _ _)
 have Rt9:=Lib.hid (show W9.heap[bt]? =some (.cells #[.slice A7 En1 c7,.slice E2 En2 Ec2,.slice E3 En3 Ec3,.slice E4 En4 Ec4] 51 (0,0)) by rw [hW9];exact heap_setCell_same _ _ 0 _ _ (.slice A7 En1 c7) Rt8.out)
 have own9:=hown8.kept g9 (.inr (fun e=>by have:=(World.ownsRow.lt hown8 _ e).1;omega))
 have y8:=b8.size
 have z9:w8.heap.size≤W9.heap.size:=g9.size
 have Rs9:=Lib.hid ((g9.block bs (by omega) (by simp;omega)).trans ((b8.block bs (by omega)).trans Rs7.out))
 have B9:Below w.heap.size w W9:=(Below.ext B7 b8).grown g9 (Below.ext B7 b8).size (fun o e=>by cases e;omega)
 have M9:=(M7.ext b8).kept (S' :=fun b=>b<x5.heap.size) (w' :=W9) (fun b hb hs=>g9.block b hb (by simp;omega)) (fun b h=>h)
 obtain ⟨gz,rfl,hgz1,hgz2⟩:=own9.some_ (by have:=hp1.out;omega)
 obtain ⟨av,rfl⟩:=Int.eq_ofNat_of_zero_le h1.1
 obtain ⟨j,hj⟩:∃j,j=av%En1:=⟨_,rfl⟩
 have hjn:j<En1:=by rw [hj];exact Nat.mod_lt _ (by omega)
 have hmod:((av:Int).tmod (En1:Int))=(j:Int):=by rw [hj];rfl
 obtain ⟨cb,co,cx,ce,_,hcb,hcx,hcc⟩:=own9.recs.at_ dH (j:=j) (by have:=hp1.out;omega) (by omega)
 cases ce
 have c9:W9.cell? ⟨gz,j,none⟩=some (.int .i64 cx):=by have:=hcc 0 _ rfl;simpa using this
 have f9:=own9.frozenZ j
 rw [←hW9]
 clear hW9 q8 f8 q9 q7 hj hcx hcc
 go_wp2_with fail
 refine aM ((fun w' =>w'.heap[bt]? =some (.cells #[.slice (some ⟨gz,0,none⟩) En1 c7,.slice E2 En2 Ec2,.slice E3 En3 Ec3,.slice E4 En4 Ec4] 51 (0,0)))) (by kernel_rfl) (by kernel_rfl) (Rt9.out) ?_
 refine TkB ?_
 refine aE (⟨bt,0,none⟩) (.slice (some ⟨gz,0,none⟩) En1 c7) rfl rfl rfl (fun w' hw' =>aG (fC _) (aA hw' 0 _ rfl)) ?_
 refine TkI ?_
 refine TkB ?_
 refine aE (⟨bt,0,none⟩) (.slice (some ⟨gz,0,none⟩) En1 c7) rfl rfl rfl (fun w' hw' =>aG (fC _) (aA hw' 0 _ rfl)) ?_
 refine TkI ?_
 refine TkB ?_
 have c9d:W9.drew.cell? ⟨gz,j,none⟩=some (.int .i64 cx):=c9
 have f9d:W9.drew.frozen? ⟨gz,j,none⟩=false:=f9
 obtain ⟨WX,hWX⟩:∃x,x=(W9.setCell ⟨gz,j,none⟩ (.int .i64 a2)).drew:=⟨_,rfl⟩
 have gX:W9.grownBy WX (some gz):=by rw [hWX];exact bN (aO (bC _ _))
 have ownX:=(own9.setZ j a2).drew
 rw [←hWX] at ownX
 have RtX:=Lib.hid ((gX.block bt (by omega) (by simp;omega)).trans Rt9.out)
 have RsX:=Lib.hid ((gX.block bs (by omega) (by simp;omega)).trans Rs9.out)
 have zX:W9.heap.size≤WX.heap.size:=gX.size
 have BX:Below w.heap.size w WX:=B9.grown gX B9.size (fun o e=>by cases e;omega)
 have MX:=M9.kept (S' :=fun b=>b<W9.heap.size) (w' :=WX) (fun b hb hs=>gX.block b hb (by simp;omega)) (fun b h=>by omega)
 have hv:InR a2:=⟨by omega,by omega⟩
 have MT:StM (fun b=>b<WX.heap.size) WX {s with cells:=s.cells.set j a2} (some ⟨gz,0,none⟩) En1 c7 E2 En2 Ec2 E3 En3 Ec3 E4 En4 Ec4:=⟨ownX.recs.mono (fun b h _=>h),MX.2.mono (fun b h _=>h),MX.3.mono (fun b h _=>h),MX.4.mono (fun b h _=>h)⟩
 have hdl:=JV HSB.out j hv
 obtain ⟨tt,htt⟩:∃t:Stt,t={s with cells:=s.cells.set j a2}:=⟨_,rfl⟩
 have htx:=ExtM.set_ s j a2
 have htb:=HSB.out.set_ j hv
 rw [←htt] at MT hdl htx htb
 have HTX:=Lib.hid htx
 have HTB:=Lib.hid htb
 have HDL:=Lib.hid hdl
 clear ownX own9 hown8 M9 M7 htt hdl htx htb hat8 hmod hgr8
 refine aL rfl ?_
 go_wp2_with fail
 rw [←hWX]
 clear hWX c9d f9d c9 f9 gX
 refine aI RtX.out ?_
 refine TkB ?_
 refine aZ ?_
 have hnew:=BC 2 (by omega) WX
 rw [show ((2:Nat):Int)=2 from rfl,show List.replicate 2 dP=[dP,dP] from rfl] at hnew
 have HNEW:=Lib.hid hnew
 clear hnew
 go_wp2_with fail
 refine HNEW.out.mono ?_
 rintro e v1 ⟨A1,c1,rfl,D1,hb1⟩
 obtain ⟨W1,hW1,_,kd,Sd,Rd⟩:=bP v1 v1 #[.slice A1 2 c1] 36 (Below.refl _ _)
 obtain ⟨bd,hbd⟩:∃b,b=v1.heap.size:=⟨_,rfl⟩
 rw [←hbd] at Rd
 have HBd:=Lib.hid hbd
 have ld:bd<W1.heap.size:=by have:=Sd.out;omega
 have md:v1.heap.size≤bd:=by omega
 have kX1:=Below.ext hb1 kd
 have yv1:=hb1.size
 have wd:w.heap.size≤bd:=by have:=BX.size;omega
 have D1d:=(D1.mono (S' :=fun b=>b≠bd) (fun b hb _=>by omega)).ext kd
 have Rs1:=Lib.hid ((kX1.block bs (by omega)).trans RsX.out)
 have Rt1:=Lib.hid ((kX1.block bt (by omega)).trans RtX.out)
 have MS1:=MX.ext kX1
 have MT1:=MT.ext kX1
 have B1:=Below.ext BX kX1
 have HSV:=Lib.hid (mU A1 2 c1 [dP,dP] _ W1 D1d (by omega) IC 0 s _ _ _ _ _ _ _ _ _ _ _ _ _ MS1 HSB.out.sv (-1) _ (GV HSB.out.len 1))
 clear D1 D1d MX MS1 MT
 go_upto_region 12 with (refine aF rfl 36 _ _ rfl 36 _ _ rfl rfl (by kernel_rfl) rfl (by simp [Value.oneCell']) ?_)
 try dsimp only
 rw [←hW1,←HBd.out]
 clear hW1 hbd
 try simp only [Act.put]
 go_wp2_with (first|(refine aD (t:=36) (A:=⟨bd,0,none⟩) rfl rfl rfl (aB Rd.out Tryz.underlying36 rfl (by kernel_rfl)) ?_)|(refine aD (t:=51) (A:=⟨bs,0,none⟩) rfl rfl rfl (aB Rs1.out Tryz.underlying51 rfl (by kernel_rfl)) ?_))
 refine HSV.out.mono ?_
 rintro e v4 ⟨⟨A4,c4,rfl,Dv4⟩,b4⟩
 have y4:=b4.size
 have MT4:=MT1.ext b4
 have Bv4:=Below.ext B1 b4
 have Rdv4:=Lib.hid ((b4.block bd (by omega)).trans Rd.out)
 have Rtv4:=Lib.hid ((b4.block bt (by omega)).trans Rt1.out)
 obtain ⟨W15,hW15⟩:∃x,x=v4.setRow bd #[.slice A4 2 c4]:=⟨_,rfl⟩
 have g15:v4.grownBy W15 (some bd):=by rw [hW15];exact aJ _ _ _
 have Rd15:=Lib.hid (show W15.heap[bd]? =some (.cells #[.slice A4 2 c4] 36 (0,0)) by rw [hW15];exact setRow_heap _ _ _ _ _ _ Rdv4.out)
 have z15:v4.heap.size≤W15.heap.size:=g15.size
 have D15:=(Dv4.mono (S' :=fun b=>b≠bd) (fun b _ h=>by omega)).keep (w' :=W15) (fun b hb hs=>g15.block b hb (by simp;omega))
 have B15:Below w.heap.size w W15:=Bv4.grown g15 Bv4.size (fun o e=>by cases e;omega)
 have Rt15:=Lib.hid ((g15.block (bt) (by omega) (by simp;omega)).trans Rtv4.out)
 go_upto_region 13 with (refine aC rfl 36 _ _ rfl (bd) 36 _ _ rfl rfl Rdv4.out (by kernel_rfl) rfl (by simp [Value.oneCell']) ?_)
 rw [←hW15]
 clear hW15 Dv4
 have MT5:=(MT4.kept (S' :=fun b=>b≠bd) (fun b hb hs=>g15.block b hb (by simp;omega)) (fun b h=>by omega))
 have hok5:iY [⟨[],ckA s⟩,dP]:=uP (a:=⟨[],ckA s⟩) (b:=dP) (by have:=FJ HSB.out.len;simpa using this) (by decide) 0
 have HSW:=Lib.hid (mU A4 2 c4 _ _ W15 D15 (by omega) hok5 1 tt _ _ _ _ _ _ _ _ _ _ _ _ _ MT5 HTB.out.sv 0 _ (GU HSB.out.len HSB.out.sv (by have:=HDL.out;omega) HTX.out (f:=⟨[],ckA s⟩) rfl 0))
 clear MT1 MT4 hok5
 go_wp2_with (first|(refine aD (t:=36) (A:=⟨bd,0,none⟩) rfl rfl rfl (aB Rd15.out Tryz.underlying36 rfl (by kernel_rfl)) ?_)|(refine aD (t:=51) (A:=⟨bt,0,none⟩) rfl rfl rfl (aB Rt15.out Tryz.underlying51 rfl (by kernel_rfl)) ?_))
 refine HSW.out.mono ?_
 rintro e v6 ⟨⟨A6,c6,rfl,Dv6⟩,b6⟩
 have y6:=b6.size
 have Bv6:=Below.ext B15 b6
 have Rdv6:=Lib.hid ((b6.block (bd) (by omega)).trans Rd15.out)
 obtain ⟨W17,hW17⟩:∃x,x=v6.setRow bd #[.slice A6 2 c6]:=⟨_,rfl⟩
 have g17:v6.grownBy W17 (some bd):=by rw [hW17];exact aJ _ _ _
 have Rd17:=Lib.hid (show W17.heap[bd]? =some (.cells #[.slice A6 2 c6] 36 (0,0)) by rw [hW17];exact setRow_heap _ _ _ _ _ _ Rdv6.out)
 have z17:v6.heap.size≤W17.heap.size:=g17.size
 have D17:=(Dv6.mono (S' :=fun b=>b≠bd) (fun b _ h=>by omega)).keep (w' :=W17) (fun b hb hs=>g17.block b hb (by simp;omega))
 have B17:Below w.heap.size w W17:=Bv6.grown g17 Bv6.size (fun o e=>by cases e;omega)
 go_upto_region 14 with (refine aC rfl 36 _ _ rfl (bd) 36 _ _ rfl rfl Rdv6.out (by kernel_rfl) rfl (by simp [Value.oneCell']) ?_)
 rw [←hW17]
 clear hW17 Dv6
 have hrd:=xF A6 2 c6 _ _ W17 D17 (by omega) 1 ⟨[],ckB s tt⟩ rfl (by have:=FI (s:=s) (t:=tt) (by have:=HDL.out;omega);simp;omega)
 obtain ⟨m,hm⟩:∃m,m=(Fil.s ⟨[],ckB s tt⟩).length+(Fil.p ⟨[],ckB s tt⟩).length:=⟨_,rfl⟩
 rw [←hm,show ((1:Nat):Int)=1 from rfl] at hrd
 have HRD:=Lib.hid hrd
 have hml:m=20+(dN tt s).length:=by
  rw [hm]
  have h4:=FN (h:=⟨2,2,0,1⟩) (by decide)
  have h5:=vV ⟨2,2,0,1⟩ (dN tt s)
  rw [h4] at h5
  show 0+(ckB s tt).length=_
  unfold ckB
  omega
 have m1:16<m:=by omega
 have m2:m≤80:=by have:=HDL.out;omega
 have e1:decide (16<m)=true:=by simpa using m1
 have e2:decide ((m:Int)≤80)=true:=by simp;omega
 clear hrd hm hml MT5 D15
 go_wp2_with (refine aD (t:=36) (A:=⟨bd,0,none⟩) rfl rfl rfl (aB Rd17.out Tryz.underlying36 rfl (by kernel_rfl)) ?_)
 refine HRD.out.mono ?_
 rintro e v8 ⟨A8,c8,rfl,_,b8'⟩
 go_wp2
 go_ret
 exact ⟨rfl,Below.ext B17 b8'⟩
end Go.Proofs.YtiblijmngokcgaaGreatDoor.ckptstoreCheap
