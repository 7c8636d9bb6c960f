import Derived.Test.YtiblijmngokcgaaGreatDoorMacZs
import Derived.Test.YtiblijmngokcgaaGreatDoorExtLCkptstoreDropsZs
import Derived.Test.YtiblijmngokcgaaGreatDoorCs24Zs
import Derived.WalkKit
import Derived.ProofKit
import Derived.OpenShut
import Derived.ShutString
import Derived.Below
namespace Go.Proofs.YtiblijmngokcgaaGreatDoor.ckptstoreDrops
open Go.ChangeShapes Go.WideShapes Go.ChangeAt Go.RowKit
open Go.ChangeMaps (open_string shut_string)
set_option linter.unusedVariables false
set_option maxRecDepth 100000
set_option maxHeartbeats 16000000 in
theorem walk (a0:Option Addr) (len0 cap0:Nat) (z0:List Int) (a1:Int) (w:World) (w0:IsRow .u8 w a0 len0 cap0 z0) (w1:(Lit.int .u8 a1).wf=true) (hG:Glb 2 w):
 Calls Tryz.prog 7 #[.slice a0 len0 cap0,.int .u8 a1] w fun e w' =>e= .returned (.bool true)∧Below w.heap.size w w' :=by
 have h1:=GS w1
 obtain ⟨L,hk1,hk2,hk3,hkB⟩:=IsRow.bytes w0
 clear w0 w1
 have HL:=Lib.hid hk1
 have HG:=Lib.hid hG
 clear hk1 hG
 obtain ⟨av,rfl⟩:=Int.eq_ofNat_of_zero_le h1.1
 go_enter Tryz.func7,Tryz.ntmps7
 go_wp2_with fail
 refine (xC _).mono ?_
 rintro e x1 ⟨rfl,b1⟩
 have Hn:=Lib.hid (zH _ L _ x1 240 (by omega) (hkB.ext b1))
 go_wp2_with fail
 refine Hn.out.mono ?_
 rintro e x2 ⟨g,rfl,hC,b2⟩
 have s1:=b1.size
 have s2:=b2.size
 have hb2:=Below.ext b1 b2
 have Hs:=Lib.hid (zB x1.heap.size g x2 hC (LK HG.out hb2 s1 s2))
 have hgB:=hC.1
 clear hC hkB
 go_wp2_with fail
 refine Hs.out.mono ?_
 rintro e x3 ⟨c,I1,in1,ic1,Q1,k1,d1,Q2,k2,d2,Q3,k3,d3,Q4,k4,d4,L',ln,lc,l,rfl,hCM,hE,hLin,_,g3⟩
 have s3:=g3.size
 have hb3:Below w.heap.size w x3:=hb2.grown g3 hb2.size (fun o e=>by cases e;omega)
 have LI:=Lib.hid hLin
 have l10:=hLin.n
 have HLN:=Lib.hid hE.len.1
 have ln10:ln≤10:=by have:=HLN.out;omega
 clear hLin g3
 obtain ⟨W4,hW4,_,kx,Sx,Rx⟩:=bP x3 x3 #[.slice I1 in1 ic1,.slice Q1 k1 d1,.slice Q2 k2 d2,.slice Q3 k3 d3,.slice Q4 k4 d4,.slice L' ln lc] 32 (Below.refl _ _)
 obtain ⟨bx,hbx⟩:∃b,b=x3.heap.size:=⟨_,rfl⟩
 rw [←hbx] at Rx
 have HBx:=Lib.hid hbx
 have lx:bx<W4.heap.size:=by have:=Sx.out;omega
 have mx:x3.heap.size≤bx:=by omega
 have B4:=Below.ext hb3 kx
 have hC4:=hCM.ext kx
 have hE4:=hE.ext kx
 have wx:w.heap.size≤bx:=by omega
 clear hCM hE
 go_upto_region 5 with (refine aF rfl 32 _ _ rfl 32 _ _ rfl rfl (by kernel_rfl) rfl (by simp [Value.oneCell']) ?_)
 try dsimp only
 rw [←hW4,←HBx.out]
 clear hW4 hbx
 try simp only [Act.put]
 have hC4' :=hC4.lo
 have hE4' :=hE4.mono (S' :=(·<W4.heap.size)) (fun b h _=>h)
 clear hC4 hE4
 have hC4:=hC4'
 have hE4:=hE4'
 clear hC4' hE4'
 have hnew:=BC 4 (by omega) W4
 rw [show ((4:Nat):Int)=4 from rfl,show List.replicate 4 dP=[dP,dP,dP,dP] from rfl] at hnew
 have HNEW:=Lib.hid hnew
 clear hnew
 go_wp2_with fail
 refine HNEW.out.mono ?_
 rintro e v5 ⟨A1,c1,rfl,D1,b5⟩
 obtain ⟨W5,hW5,_,kd,Sd,Rd⟩:=bP v5 v5 #[.slice A1 4 c1] 36 (Below.refl _ _)
 obtain ⟨bd,hbd⟩:∃b,b=v5.heap.size:=⟨_,rfl⟩
 rw [←hbd] at Rd
 have HBd:=Lib.hid hbd
 have ld:bd<W5.heap.size:=by have:=Sd.out;omega
 have md:v5.heap.size≤bd:=by omega
 have y5:=b5.size
 have wd:w.heap.size≤bd:=by have:=B4.size;omega
 have xd:W4.heap.size≤bd:=by omega
 have D5:=(D1.mono (S' :=fun b=>b≠bd) (fun b hb _=>by omega)).ext kd
 have k5:=Below.ext b5 kd
 have B5:=Below.ext B4 k5
 have Rx5:=Lib.hid ((k5.block (bx) (by omega)).trans Rx.out)
 clear D1
 go_upto_region 6 with (refine aF rfl 36 _ _ rfl 36 _ _ rfl rfl (by kernel_rfl) rfl (by simp [Value.oneCell']) ?_)
 try dsimp only
 rw [←hW5,←HBd.out]
 clear hW5 hbd
 try simp only [Act.put]
 obtain ⟨W6,hW6,_,kb,Sb,Rb⟩:=bP W5 W5 #[.int .i64 (-1),.int .i64 0,.int .i64 (-1),.int .i64 2] 3 (Below.refl _ _)
 obtain ⟨bb,hbb⟩:∃b,b=W5.heap.size:=⟨_,rfl⟩
 rw [←hbb] at Rb
 have HBb:=Lib.hid hbb
 have lb:bb<W6.heap.size:=by have:=Sb.out;omega
 have mb:W5.heap.size≤bb:=by omega
 have B6:=Below.ext B5 kb
 have D6:=D5.ext kb
 have Rd6:=Lib.hid ((kb.block bd ld).trans Rd.out)
 have Rx6:=Lib.hid ((kb.block bx (by have:=k5.size;omega)).trans Rx5.out)
 have hC6:=(hC4.ext k5).ext kb
 have hE6:=(hE4.ext k5).ext kb
 have y6:W4.heap.size≤W6.heap.size:=(Below.ext k5 kb).size
 have xbd:bx≠bd:=by have:=xd;omega
 have xbb:bb≠bd:=by omega
 clear D5 hC4 hE4
 go_upto_region 7 with fail
 try dsimp only
 rw [←hW6,←HBb.out]
 clear hW6 hbb
 try simp only [Act.put]
 go_wp2
 go_loopw [10] (fun v wr=>∃(i:Nat) (A:Option Addr) (c' :Nat) (st:Nat→Stt),v= .int .i64 (i:Int)∧i≤4∧RowKit.Hid (∀j,j<i→ReplayR c 0 3 (l.take (ln*j / 4)) (st j))∧RowKit.Hid (wr.heap[bd]? =some (.cells #[.slice A 4 c'] 36 (0,0)))∧Dsk (fun b=>b≠bd) wr (.slice A 4 c') (fD9_ st i)∧W6.grownBy wr (some bd)) (fun v _=>4-(intOf v).toNat)
 case atStart=>exact ⟨0,A1,c1,fun _=>⟨[],[],[],[]⟩,rfl,by omega,Lib.hid (fun j hj=>by omega),Rd6,D6,bC _ _⟩
 case round=>
  obtain ⟨i,A,c',st,rfl,hi,HST,Rd,D,hgr⟩:=hrel
  have szr:W6.heap.size≤wr.heap.size:=hgr.size
  by_cases hlt:i<4
  ·have Rxr:=Lib.hid ((hgr.block bx (by omega) (by simp;omega)).trans Rx6.out)
   have Rbr:=Lib.hid ((hgr.block bb lb (by simp;omega)).trans Rb.out)
   have Cr:=hC6.kept (S' :=fun b=>b<W4.heap.size) (w' :=wr) (fun b hb hs=>hgr.block b hb (by simp;omega)) (fun b h=>h)
   have Er:=hE6.keep (w' :=wr) (fun b hb hs=>hgr.block b hb (by simp;omega))
   have ldd:bd<wr.heap.size:=by omega
   have D0:=D.mono (S' :=fun b=>b≠bd∧b<wr.heap.size) (fun b hb h=>⟨h,hb⟩)
   clear D
   have hi4:i=0∨i=1∨i=2∨i=3:=by omega
   have hpp:ln*i≤40:=by rcases hi4 with rfl|rfl|rfl|rfl<;>omega
   obtain ⟨pp,hpe⟩:∃x,x=ln*i:=⟨_,rfl⟩
   rw [←hpe] at hpp
   have hmul:(ln:Int)*(i:Int)=(pp:Int):=by rw [hpe];norm_cast
   obtain ⟨kk,hkk⟩:∃x,x=pp / 4:=⟨_,rfl⟩
   have hkd:(pp:Int).tdiv 4=(kk:Int):=by rw [hkk];rfl
   have kln:kk≤ln:=by rw [hkk,hpe];rcases hi4 with rfl|rfl|rfl|rfl<;>omega
   have HKK:=Lib.hid (show kk=ln*i / 4 by rw [hkk,hpe])
   have hbs:(#[Value.int .i64 (-1),Value.int .i64 0,Value.int .i64 (-1),Value.int .i64 2]:Array Value)[i]? =some (Value.int .i64 (bsD i)):=by rcases hi4 with rfl|rfl|rfl|rfl<;>rfl
   have HBS:=Lib.hid hbs
   have HI4:=Lib.hid hi4
   obtain ⟨bas,hbas⟩:∃x,x=bsD i:=⟨_,rfl⟩
   rw [←hbas] at HBS
   have HBA:=Lib.hid hbas
   clear hkk hpe hbs hi4 hbas
   try (go_wp2_with fail)
   refine qL (fun w' =>w'.heap[bd]? =some (.cells #[.slice A 4 c'] 36 (0,0))∧w'.heap[bx]? =some (.cells #[.slice I1 in1 ic1,.slice Q1 k1 d1,.slice Q2 k2 d2,.slice Q3 k3 d3,.slice Q4 k4 d4,.slice L' ln lc] 32 (0,0))∧w'.heap[bb]? =some (.cells #[.int .i64 (-1),.int .i64 0,.int .i64 (-1),.int .i64 2] 3 (0,0))) 18 11 36 (.cells #[.slice none 0 0] 36) (by kernel_rfl) (by kernel_rfl) (alloc_disk) (fun w' h=>⟨jR h.1 _,jR h.2.1 _,jR h.2.2 _⟩) (⟨Rd.out,Rxr.out,Rbr.out⟩) ?_
   refine TkC ?_
   refine LC (⟨bd,0,none⟩) (.agg #[.slice A 4 c']) rfl rfl rfl rfl (fun w' h=>aB h.1 Tryz.underlying36 rfl (by kernel_rfl)) ?_
   refine TkI ?_
   refine TkC ?_
   refine LC (⟨bx,0,none⟩) (.agg #[.slice I1 in1 ic1,.slice Q1 k1 d1,.slice Q2 k2 d2,.slice Q3 k3 d3,.slice Q4 k4 d4,.slice L' ln lc]) rfl rfl rfl rfl (fun w' h=>aB h.2.1 Tryz.underlying32 rfl (by kernel_rfl)) ?_
   refine TkI ?_
   refine TkC ?_
   refine LC (⟨bx,5,none⟩) (.slice L' ln lc) rfl rfl rfl rfl (fun w' h=>aG (mO _) (aA h.2.1 5 _ rfl)) ?_
   refine TkI ?_
   refine TkC ?_
   refine yY rfl rfl (fun m1 v1 hE1=> ?_)
   go_wp2_with fail
   have x1:=hE1.bx (Bx.none_ wr.heap.size _ _) (Nat.le_refl _)
   have f1:Below wr.heap.size wr v1:=Below.ext (Below.refl _ wr).drew hE1.below
   have Hst:=Lib.hid (yZ v1 _ c I1 in1 ic1 Q1 k1 d1 Q2 k2 d2 Q3 k3 d3 Q4 k4 d4 L' ln lc l (Cr.ext f1) (Er.ext f1) LI.out kk (by have:=HLN.out;omega))
   refine Hst.out.mono ?_
   rintro e v2 ⟨s,E1,En1,Ec1,E2,En2,Ec2,E3,En3,Ec3,E4,En4,Ec4,rfl,hRR,hM,z2⟩
   have x2_:=x1.ext z2
   have f2:=Below.ext f1 z2
   go_wp2_with fail
   refine uU (⟨(f2.block bd ldd).trans Rd.out,(f2.block bx (by omega)).trans Rxr.out,(f2.block bb (by omega)).trans Rbr.out⟩) ?_
   refine TkC ?_
   refine LC (⟨bb,i,none⟩) (.int .i64 bas) rfl rfl rfl rfl (fun w' h=>aG (aU _) (aA h.2.2 i _ HBS.out)) ?_
   refine TkI ?_
   refine TkC ?_
   refine yY rfl rfl (fun m3 v3 hE3=> ?_)
   go_wp2_with fail
   have x3_:=hE3.bx x2_ f2.size
   have f3:=Below.ext f2 hE3.below
   rw [HKK.out] at hRR
   obtain ⟨st',hst'⟩:∃st' :Nat→Stt,st' =fun j=>if j=i then s else st j:=⟨_,rfl⟩
   have e0:st' i=s:=by rw [hst'];simp
   have e1:∀j,j<i→st' j=st j:=fun j hj=>by rw [hst'];simp;omega
   have hR' :∀j,j<i+1→ReplayR c 0 3 (l.take (ln*j / 4)) (st' j):=fun j hj=>by
    by_cases hji:j=i
    ·subst hji;rw [e0];exact hRR
    ·rw [e1 j (by omega)];exact HST.out j (by omega)
   have hSB:∀j,j≤i→StB (st' j):=fun j hj=>(LI.out.st (hR' j (by omega))).1
   have hsv:=saveD (st:=st') (i:=i) (by omega) hSB ⟨fun h=>LI.out.ext (by omega) (hR' 0 (by omega)) (hR' 1 (by omega)),fun h=>LI.out.ext (by omega) (hR' 2 (by omega)) (hR' 3 (by omega))⟩
   rw [e0,←HBA.out] at hsv
   have D3:=D0.ext f3
   rw [←fD_up e1 (by omega)] at D3
   have HSV:=Lib.hid (mU A 4 c' _ _ v3 D3 (by omega) (fD_ok (by omega) (fun j hj=>hSB j (by omega))) i s _ _ _ _ _ _ _ _ _ _ _ _ _ (hM.ext hE3.below) (by have:=(hSB i (by omega)).sv;rw [e0] at this;exact this) bas _ hsv)
   have HRP:=Lib.hid hR'
   clear hRR hR' hsv e0 e1 hst' hM D3
   refine HSV.out.mono ?_
   rintro e v4 ⟨⟨A4,c4,rfl,D4⟩,z4⟩
   have x4:=x3_.ext z4
   have f4:=Below.ext f3 z4
   go_wp2_with fail
   refine uU (⟨(f4.block bd ldd).trans Rd.out,(f4.block bx (by omega)).trans Rxr.out,(f4.block bb (by omega)).trans Rbr.out⟩) ?_
   refine TkC ?_
   refine MF rfl (fun X v5 hE5=> ?_)
   refine TkI ?_
   refine TkC ?_
   have x5:=hE5.bx x4 f4.size
   have f5:=Below.ext f4 hE5.below
   have rowX:=(x5 X rfl).2
   have hWX:=(x5 X rfl).1
   have yf3:=f3.size
   have D4' :=D4.mono (S' :=fun b=>b≠bd∧m3≠some b) (fun b hb h=>by
    rcases h with ⟨h1,h2⟩|h
    ·exact ⟨h1,fun e=>by have:=(x3_ b e).1;omega⟩
    ·exact ⟨by omega,x3_.lt h⟩)
   have D5:=(D4'.mono (S' :=fun b=>b≠bd∧b≠X) (fun b hb h=>⟨h.1,fun e=>hE5.ne hb h.2 (by rw [e])⟩)).ext hE5.below
   refine MG rfl rfl ?_
   refine aC rfl 36 _ _ rfl X 36 _ _ rfl rfl rowX (by kernel_rfl) rfl (by simp [Value.oneCell']) ?_
   obtain ⟨v6,hv6⟩:∃x,x=v5.setRow X #[.slice A4 4 c4]:=⟨_,rfl⟩
   have g6:v5.grownBy v6 (some X):=by rw [hv6];exact aJ _ _ _
   have f6:Below wr.heap.size wr v6:=by rw [hv6];exact Below.setRow f5 hWX _
   have D6_:=D5.keep (w' :=v6) (fun b hb hs=>g6.block b hb (by simp;omega))
   have RX6:=Lib.hid (show v6.heap[X]? =some (.cells #[.slice A4 4 c4] 36 (0,0)) by rw [hv6];exact setRow_heap _ _ _ _ _ _ rowX)
   rw [←hv6]
   clear hv6 D5 D4 D4' rowX x1 x2_ x3_ x4 x5 hE1 hE3 hE5 f1 f2 f3 f4 f5 z2 z4
   refine uU ⟨(f6.block bd ldd).trans Rd.out,(f6.block bx (by omega)).trans Rxr.out,(f6.block bb (by omega)).trans Rbr.out⟩ ?_
   simp only [Act.put]
   refine TkC ?_
   refine JE ?_
   have Rd7:=Lib.hid ((f6.block bd ldd).trans Rd.out)
   obtain ⟨v7,hv7⟩:∃x,x=v6.setRow bd #[.slice A4 4 c4]:=⟨_,rfl⟩
   have g7:v6.grownBy v7 (some bd):=by rw [hv7];exact aJ _ _ _
   have RD7:=Lib.hid (show v7.heap[bd]? =some (.cells #[.slice A4 4 c4] 36 (0,0)) by rw [hv7];exact setRow_heap _ _ _ _ _ _ Rd7.out)
   have D7:=(D6_.mono (S' :=fun b=>b≠bd) (fun b _ h=>h.1)).keep (w' :=v7) (fun b hb hs=>g7.block b hb (by simp;omega))
   have G7:W6.grownBy v7 (some bd):=aH hgr (aH (aQ f6 _) g7)
   clear D6_ g6
   go_wp2_with (first|(refine aD (t:=36) (A:=⟨X,0,none⟩) rfl rfl rfl (aB RX6.out Tryz.underlying36 rfl (by kernel_rfl)) ?_)|(refine aC rfl 36 _ _ rfl (bd) 36 _ _ rfl rfl Rd7.out (by kernel_rfl) rfl (by simp [Value.oneCell']) ?_))
   rw [←hv7]
   clear hv7
   go_roundw
   case rel=>exact ⟨i+1,A4,c4,st',by go_num,by omega,HRP,RD7,D7,G7⟩
   case measure=>simp [intOf];omega
  ·obtain rfl:i=4:=by omega
   obtain ⟨wq,hwq⟩:∃x,x=wr:=⟨_,rfl⟩
   subst hwq
   have LNG:Lng st:=⟨fun j hj=>(LI.out.st (HST.out j hj)).1,LI.out.ext (by omega) (HST.out 0 (by omega)) (HST.out 1 (by omega)),LI.out.ext (by omega) (HST.out 2 (by omega)) (HST.out 3 (by omega))⟩
   have HLG:=Lib.hid LNG
   have Bq:Below w.heap.size w wq:=B6.grown hgr B6.size (fun o e=>by cases e;omega)
   have Rxq:=Lib.hid ((hgr.block bx (by omega) (by simp;omega)).trans Rx6.out)
   have Cq:=hC6.kept (S' :=fun b=>b<W4.heap.size) (w' :=wq) (fun b hb hs=>hgr.block b hb (by simp;omega)) (fun b h=>h)
   have Eq_:=hE6.keep (w' :=wq) (fun b hb hs=>hgr.block b hb (by simp;omega))
   obtain ⟨k,hk⟩:∃x,x=av%4:=⟨_,rfl⟩
   have hk4:k<4:=by omega
   have hmod:((av:Int).tmod 4)=(k:Int):=by rw [hk];rfl
   have ldq:bd<wq.heap.size:=by omega
   have lxq:bx<bd:=by omega
   have fok:=fD_ok (st:=st) (i:=4) (by omega) (fun j hj=>LNG.b j hj)
   have HFO:=Lib.hid fok
   clear hk HST hC6 hE6 hgr LNG
   go_upto_region 15 with fail
   clear hmod
   obtain ⟨W8,hW8,_,ko,So,Ro⟩:=bP wq wq #[.int .i64 (k:Int)] 3 (Below.refl _ _)
   obtain ⟨bo,hbo⟩:∃b,b=wq.heap.size:=⟨_,rfl⟩
   rw [←hbo] at Ro
   have HBo:=Lib.hid hbo
   have lo:bo<W8.heap.size:=by have:=So.out;omega
   have mo:wq.heap.size≤bo:=by omega
   have D8:=D.ext ko
   have hE8:Recs bJ (fun _=>True) W8 (.slice (some ⟨bo,0,none⟩) 1 1) [(k:Int)]:=mW [(k:Int)] Ro.out rfl (by simp) trivial rfl
   have HNE:=Lib.hid (needed_any A 4 c' (fD9_ st 4) _ W8 D8 (by omega) fok (some ⟨bo,0,none⟩) 1 1 [(k:Int)] _ hE8 (fun z hz=>by simp at hz;subst hz;exact ⟨by omega,by omega⟩))
   clear hE8 fok hbo
   go_wp2_with (refine aD (t:=36) (A:=⟨bd,0,none⟩) rfl rfl rfl (aB Rd.out Tryz.underlying36 rfl (by kernel_rfl)) ?_)
   rw [←hW8,←HBo.out]
   clear hW8
   refine HNE.out.mono ?_
   rintro e v9 ⟨A9,m9,c9,rfl,hO9,b9⟩
   rw [marks4 HLG.out hk4] at hO9
   have k9:=Below.ext ko b9
   have y9:=k9.size
   have D9:=D.ext k9
   have C9:=Cq.ext k9
   have E9:=Eq_.ext k9
   have HM9:=Lib.hid hO9.len.1
   have m94:m9≤4:=by have:=idxTo_len (mkD k) 4;have:=HM9.out;omega
   have rc9:=hO9.recs
   have Rd9:=Lib.hid ((k9.block (bd) (by omega)).trans Rd.out)
   have Rx9:=Lib.hid ((k9.block bx (by omega)).trans Rxq.out)
   have hmk:=mkBl 4 (by omega) v9
   have ho1:=mkOwnBl 4 (by omega) v9
   rw [show ((4:Nat):Int)=4 from rfl] at hmk
   obtain ⟨W10,hW10⟩:∃x,x=v9.alloc (.cells (madeCells (encBl false).toArray (4*1)) 4):=⟨_,rfl⟩
   rw [←hW10] at ho1 hmk
   have k10:Below v9.heap.size v9 W10:=by rw [hW10];exact (Below.refl _ _).alloc (Nat.le_refl _) _
   obtain ⟨gk,hgk⟩:∃g,g=v9.heap.size:=⟨_,rfl⟩
   have lgk:gk<W10.heap.size:=by rw [hW10];simp;omega
   have mgk:wq.heap.size≤gk:=by omega
   have rc10:=(rc9.mono (S' :=fun b=>b<gk) (fun b hb h=>by omega)).ext k10
   rw [←hgk] at ho1 hmk
   have D10:=(D9.mono (S' :=fun b=>b≠bd∧b<gk) (fun b hb h=>⟨h,by omega⟩)).ext k10
   have C10:=C9.ext k10
   have E10:=E9.ext k10
   have Rd10:=Lib.hid ((k10.block (bd) (by omega)).trans Rd9.out)
   have Rx10:=Lib.hid ((k10.block (bx) (by omega)).trans Rx9.out)
   have B10:=Below.ext Bq (Below.ext k9 k10)
   clear hgk hW10 hO9 D9 C9 E9 D Cq Eq_ rc9 D8
   go_wp2
   clear hmk
   go_loopw [78] (fun v wr=>∃(j:Nat) (bs:List Bool),v= .int .i64 (j:Int)∧j≤m9∧RowKit.Hid (bs=setTo ((idxTo (mkD k) 4).take j))∧OwnR encBl 1 wr gk 4 (.slice (some ⟨gk,0,none⟩) 4 4) bs∧W10.grownBy wr (some gk)) (fun v _=>m9-(intOf v).toNat)
   case atStart=>exact ⟨0,_,rfl,by omega,Lib.hid rfl,ho1,bC _ _⟩
   case round=>
    obtain ⟨j,bs,rfl,hj,HB,hO,hgr⟩:=hrel
    have szr:W10.heap.size≤wr.heap.size:=hgr.size
    by_cases hlt:j<m9
    ·obtain ⟨cb,co,z,rfl,_,hcb,hcx,hcc⟩:=(rc10.keep (w' :=wr) (fun b hb hs=>hgr.block b hb (by simp;omega))).at_ dH (j:=j) (by have:=HM9.out;omega) (by omega)
     have e0:wr.cell? ⟨cb,co+j,none⟩=some (.int .i64 z):=by have:=hcc 0 _ rfl;simpa using this
     have hzi:=idx_in hk4 z (List.mem_of_getElem? hcx)
     have hst:=setTo_step hcx
     rw [←HB.out] at hst
     obtain ⟨zn,rfl⟩:=Int.eq_ofNat_of_zero_le hzi.1
     rw [Int.toNat_natCast] at hst
     have HST:=Lib.hid hst
     have hz3:zn≤3:=by omega
     obtain ⟨b',_,hbc,hbf⟩:=hO.cellBl (j:=zn) (by omega)
     have hO2:=hO.setBl zn true
     have gr2:W10.grownBy (wr.setCell ⟨gk,zn,none⟩ (.bool true)) (some gk):=aO hgr
     clear hcx hcc hst hzi
     go_wp2
     go_roundw
     case rel=>exact ⟨j+1,bs.set zn true,by go_num,by omega,Lib.hid HST.out.symm,hO2,gr2⟩
     case measure=>simp [intOf];omega
    ·obtain rfl:j=m9:=by omega
     have hbs:bs=mkD k:=by
      have h:=HB.out
      rw [List.take_of_length_le (by have:=HM9.out;omega),setTo_all hk4] at h
      exact h
     subst hbs
     obtain ⟨wp,hwp⟩:∃x,x=wr:=⟨_,rfl⟩
     subst hwp
     have Dp:=D10.keep (w' :=wp) (fun b hb hs=>hgr.block b hb (by simp;omega))
     have Cp:=C10.kept (S' :=fun b=>b<W4.heap.size) (w' :=wp) (fun b hb hs=>hgr.block b hb (by simp;omega)) (fun b h=>h)
     have Ep:=E10.keep (w' :=wp) (fun b hb hs=>hgr.block b hb (by simp;omega))
     have Rdp:=Lib.hid ((hgr.block bd (by omega) (by simp;omega)).trans Rd10.out)
     have Rxp:=Lib.hid ((hgr.block bx (by omega) (by simp;omega)).trans Rx10.out)
     have Bp:Below w.heap.size w wp:=B10.grown hgr B10.size (fun o e=>by cases e;have:=Bq.size;omega)
     clear D10 C10 E10 rc10 HB ho1 hgr
     have HLK:=Lib.hid ((kY _ HFO.out _ _ _ (fD_load HLG.out hk4) (by omega)).2 A 4 c' _ wp Dp (by omega))
     have lgp:gk<wp.heap.size:=by omega
     go_wp2_with (refine aD (t:=36) (A:=⟨bd,0,none⟩) rfl rfl rfl (aB Rdp.out Tryz.underlying36 rfl (by kernel_rfl)) ?_)
     refine HLK.out.mono ?_
     rintro e v11 ⟨⟨E1,En1,Ec1,E2,En2,Ec2,E3,En3,Ec3,E4,En4,Ec4,rfl,hU⟩,b11⟩
     obtain ⟨W11,hW11,_,ke,Se,Re⟩:=bP v11 v11 #[.slice E1 En1 Ec1,.slice E2 En2 Ec2,.slice E3 En3 Ec3,.slice E4 En4 Ec4] 51 (Below.refl _ _)
     obtain ⟨be,hbe⟩:∃b,b=v11.heap.size:=⟨_,rfl⟩
     rw [←hbe] at Re
     have HBe:=Lib.hid hbe
     have le:be<W11.heap.size:=by have:=Se.out;omega
     have me:v11.heap.size≤be:=by omega
     have k11:=Below.ext b11 ke
     have y11:=k11.size
     have y11' :=b11.size
     have D11:=Dp.ext k11
     have C11:=Cp.ext k11
     have E11:=Ep.ext k11
     have O11:=hO.ext k11
     have U11:=hU.lo.ext ke
     have Rd11:=Lib.hid ((k11.block bd (by omega)).trans Rdp.out)
     have Rx11:=Lib.hid ((k11.block bx (by omega)).trans Rxp.out)
     have B11:=Below.ext Bp k11
     clear Dp Cp Ep hO hU
     go_upto_region 25 with (refine aF rfl 51 _ _ rfl 51 _ _ rfl rfl (by kernel_rfl) rfl (by simp [Value.oneCell']) ?_)
     try dsimp only
     rw [←hW11,←HBe.out]
     clear hW11 hbe
     try simp only [Act.put]
     obtain ⟨W12,hW12,_,ka,Sa,Ra⟩:=bP W11 W11 #[.slice A 4 c'] 36 (Below.refl _ _)
     obtain ⟨ba,hba⟩:∃b,b=W11.heap.size:=⟨_,rfl⟩
     rw [←hba] at Ra
     have HBa:=Lib.hid hba
     have la:ba<W12.heap.size:=by have:=Sa.out;omega
     have ma:W11.heap.size≤ba:=by omega
     have D12:=D11.ext ka
     have C12:=C11.ext ka
     have E12:=E11.ext ka
     have O12:=O11.ext ka
     have U12:=U11.ext ka
     have Rd12:=Lib.hid ((ka.block bd (by omega)).trans Rd11.out)
     have Rx12:=Lib.hid ((ka.block bx (by omega)).trans Rx11.out)
     have Re12:=Lib.hid ((ka.block be le).trans Re.out)
     have B12:=Below.ext B11 ka
     have DA9_:Dsk (fun b=>b≠ba) W12 (.slice A 4 c') (fA9_ st k 0):=by rw [fA_zero];exact D12.mono (fun b _ h=>by omega)
     have lae:be<ba:=by omega
     clear D11 C11 E11 O11 U11
     go_upto_region 26 with (first|(refine aD (t:=36) (A:=⟨bd,0,none⟩) rfl rfl rfl (aB Rd11.out Tryz.underlying36 rfl (by kernel_rfl)) ?_)|(refine aF rfl 36 _ _ rfl 36 _ _ rfl rfl (by kernel_rfl) rfl (by simp [Value.oneCell']) ?_))
     try dsimp only
     rw [←hW12,←HBa.out]
     clear hW12 hba
     try simp only [Act.put]
     go_wp2
     go_loopw [21] (fun v wr=>∃(i:Nat) (A5:Option Addr) (c5:Nat),v= .int .i64 (i:Int)∧i≤4∧RowKit.Hid (wr.heap[ba]? =some (.cells #[.slice A5 4 c5] 36 (0,0)))∧Dsk (fun b=>b≠ba) wr (.slice A5 4 c5) (fA9_ st k i)∧W12.grownBy wr (some ba)) (fun v _=>4-(intOf v).toNat)
     case atStart=>exact ⟨0,A,c',rfl,by omega,Ra,DA9_,bC _ _⟩
     case round=>
      obtain ⟨i,A5,c5,rfl,hi5,Ra5,D5,hgr⟩:=hrel
      have szr:W12.heap.size≤wr.heap.size:=hgr.size
      have hne:(Value.slice (some ⟨gk,0,none⟩) 4 4).ownBlock≠some ba:=by
       intro e
       have e2:gk=ba:=by simpa [Value.ownBlock] using e
       omega
      have Ok:=O12.kept hgr (.inr hne)
      by_cases hlt:i<4
      ·obtain ⟨b',hb',hbc',hbf'⟩:=Ok.cellBl hlt
       cases b' with
       |true=>
        have HE:=Lib.hid (fA_keep st hb')
        clear hb'
        go_wp2
        go_roundw
        case rel=>exact ⟨i+1,A5,c5,by go_num,by omega,Ra5,by rw [HE.out];exact D5,hgr⟩
        case measure=>simp [intOf];omega
       |false=>
        have HE:=Lib.hid (fA_drop st hb')
        have HDR:=Lib.hid (GC A5 4 c5 (fA9_ st k i) _ wr D5 (by omega) i hlt)
        clear hb'
        go_wp2_with (refine aD (t:=36) (A:=⟨ba,0,none⟩) rfl rfl rfl (aB Ra5.out Tryz.underlying36 rfl (by kernel_rfl)) ?_)
        refine HDR.out.mono ?_
        rintro e v14 ⟨A14,c14,rfl,D14,b14⟩
        obtain ⟨W15,hW15,_,kw,Sw,Rw⟩:=bP v14 v14 #[.slice A14 4 c14] 36 (Below.refl _ _)
        obtain ⟨bw,hbw⟩:∃b,b=v14.heap.size:=⟨_,rfl⟩
        rw [←hbw] at Rw
        have HBw:=Lib.hid hbw
        have lw:bw<W15.heap.size:=by have:=Sw.out;omega
        have mw:v14.heap.size≤bw:=by omega
        have k15:=Below.ext b14 kw
        have y15:=k15.size
        have D15:=(D14.ext kw).mono (S' :=fun b=>b≠ba) (fun b _ h=>by omega)
        have Ra15:=Lib.hid ((k15.block ba (by omega)).trans Ra5.out)
        obtain ⟨W16,hW16⟩:∃x,x=W15.setRow ba #[.slice A14 4 c14]:=⟨_,rfl⟩
        have g16:W15.grownBy W16 (some ba):=by rw [hW16];exact aJ _ _ _
        have Ra16:=Lib.hid (show W16.heap[ba]? =some (.cells #[.slice A14 4 c14] 36 (0,0)) by rw [hW16];exact setRow_heap _ _ _ _ _ _ Ra15.out)
        have D16:=D15.keep (w' :=W16) (fun b hb hs=>g16.block b hb (by simp;omega))
        have G16:W12.grownBy W16 (some ba):=aH hgr (aH (aQ k15 _) g16)
        clear D14 D15 g16
        go_upto_region 31 with (refine aF rfl 36 _ _ rfl 36 _ _ rfl rfl (by kernel_rfl) rfl (by simp [Value.oneCell']) ?_)
        try dsimp only
        rw [←hW15,←HBw.out]
        clear hW15 hbw
        try simp only [Act.put]
        go_wp2_with (first|(refine aD (t:=36) (A:=⟨bw,0,none⟩) rfl rfl rfl (aB Rw.out Tryz.underlying36 rfl (by kernel_rfl)) ?_)|(refine aC rfl 36 _ _ rfl (ba) 36 _ _ rfl rfl Ra15.out (by kernel_rfl) rfl (by simp [Value.oneCell']) ?_))
        rw [←hW16]
        clear hW16
        go_roundw
        case rel=>exact ⟨i+1,A14,c14,by go_num,by omega,Ra16,by rw [HE.out];exact D16,G16⟩
        case measure=>simp [intOf];omega
      ·obtain rfl:i=4:=by omega
       obtain ⟨wz,hwz⟩:∃x,x=wr:=⟨_,rfl⟩
       subst hwz
       have Bz:Below w.heap.size w wz:=B12.grown hgr B12.size (fun o e=>by cases e;have:=Bp.size;omega)
       have Dz:=D12.keep (w' :=wz) (fun b hb hs=>hgr.block b hb (by simp;omega))
       have Cz:=C12.kept (S' :=fun b=>b<W4.heap.size) (w' :=wz) (fun b hb hs=>hgr.block b hb (by simp;omega)) (fun b h=>h)
       have Ez:=E12.keep (w' :=wz) (fun b hb hs=>hgr.block b hb (by simp;omega))
       have Uz:=U12.kept (S' :=fun b=>b<v11.heap.size) (w' :=wz) (fun b hb hs=>hgr.block b hb (by simp;omega)) (fun b h=>h)
       have Rdz:=Lib.hid ((hgr.block bd (by omega) (by simp;omega)).trans Rd12.out)
       have Rxz:=Lib.hid ((hgr.block bx (by omega) (by simp;omega)).trans Rx12.out)
       have Rez:=Lib.hid ((hgr.block be (by omega) (by simp;omega)).trans Re12.out)
       have HLA:=Lib.hid ((kY _ (fA_ok HLG.out k 4) _ _ _ (fA_load HLG.out hk4) (by omega)).2 A5 4 c5 _ wz D5 (by omega))
       clear D12 C12 E12 U12 O12 DA9_ hgr
       go_wp2_with (refine aD (t:=36) (A:=⟨ba,0,none⟩) rfl rfl rfl (aB Ra5.out Tryz.underlying36 rfl (by kernel_rfl)) ?_)
       refine HLA.out.mono ?_
       rintro e v17 ⟨⟨F1,Fn1,Fc1,F2,Fn2,Fc2,F3,Fn3,Fc3,F4,Fn4,Fc4,rfl,hV⟩,b17⟩
       obtain ⟨W17,hW17,_,kf,Sf,Rf⟩:=bP v17 v17 #[.slice F1 Fn1 Fc1,.slice F2 Fn2 Fc2,.slice F3 Fn3 Fc3,.slice F4 Fn4 Fc4] 51 (Below.refl _ _)
       obtain ⟨bf,hbf⟩:∃b,b=v17.heap.size:=⟨_,rfl⟩
       rw [←hbf] at Rf
       have HBf:=Lib.hid hbf
       have lf:bf<W17.heap.size:=by have:=Sf.out;omega
       have mf:v17.heap.size≤bf:=by omega
       have k17:=Below.ext b17 kf
       have y17:=k17.size
       have B17:=Below.ext Bz k17
       have Re17:=Lib.hid ((k17.block be (by omega)).trans Rez.out)
       have HSM:=Lib.hid (same06 (st k) E1 En1 Ec1 E2 En2 Ec2 E3 En3 Ec3 E4 En4 Ec4 F1 Fn1 Fc1 F2 Fn2 Fc2 F3 Fn3 Fc3 F4 Fn4 Fc4 _ _ W17 (Uz.ext k17) (hV.ext kf))
       clear hV
       go_upto_region 35 with (refine aF rfl 51 _ _ rfl 51 _ _ rfl rfl (by kernel_rfl) rfl (by simp [Value.oneCell']) ?_)
       try dsimp only
       rw [←hW17,←HBf.out]
       clear hW17 hbf
       try simp only [Act.put]
       go_wp2_with (first|(refine aD (t:=51) (A:=⟨be,0,none⟩) rfl rfl rfl (aB Re17.out Tryz.underlying51 rfl (by kernel_rfl)) ?_)|(refine aD (t:=51) (A:=⟨bf,0,none⟩) rfl rfl rfl (aB Rf.out Tryz.underlying51 rfl (by kernel_rfl)) ?_))
       refine HSM.out.mono ?_
       rintro e v18 ⟨rfl,b18⟩
       have k18:=Below.ext k17 b18
       have y18:=k18.size
       have O18:=Ok.ext k18
       have ck:=own_at O18 hk4 (mk_k hk4)
       have D18:=Dz.ext k18
       have C18:=Cz.ext k18
       have E18:=Ez.ext k18
       have B18:=Below.ext Bz k18
       have lzw:W12.heap.size≤wz.heap.size:=szr
       have Rd18:=Lib.hid ((k18.block bd (by omega)).trans Rdz.out)
       have Rx18:=Lib.hid ((k18.block bx (by omega)).trans Rxz.out)
       clear Dz Cz Ez Uz D5
       by_cases hk2:k<2
       case pos=>
        have c0:=own_at O18 (j:=0) (by omega) (mk_lo hk2).1
        have c2_:=own_at O18 (j:=2) (by omega) (mk_lo hk2).2
        have d2:decide (k<2)=true:=by simpa using hk2
        have d1:decide (1<k)=false:=by simp;omega
        have d2i:decide ((k:Int)<2)=true:=by simp;omega
        have d1i:decide (1<(k:Int))=false:=by simp;omega
        go_upto_region 37 with fail
        clear d1 d2 d1i d2i c0 c2_ ck
        have HDR2:=Lib.hid (GC A 4 c' (fD9_ st 4) _ v18 D18 (by omega) 2 (by omega))
        go_wp2_with (refine aD (t:=36) (A:=⟨bd,0,none⟩) rfl rfl rfl (aB Rd18.out Tryz.underlying36 rfl (by kernel_rfl)) ?_)
        refine HDR2.out.mono ?_
        rintro e v19 ⟨A19,c19,rfl,D19,b19⟩
        obtain ⟨W19,hW19,_,kq,Sq,Rq⟩:=bP v19 v19 #[.slice A19 4 c19] 36 (Below.refl _ _)
        obtain ⟨bq,hbq⟩:∃b,b=v19.heap.size:=⟨_,rfl⟩
        rw [←hbq] at Rq
        have HBq:=Lib.hid hbq
        have lq:bq<W19.heap.size:=by have:=Sq.out;omega
        have mq:v19.heap.size≤bq:=by omega
        have k19:=Below.ext b19 kq
        have y19:=k19.size
        have DQ9_:=(D19.mono (S' :=fun b=>b<v19.heap.size) (fun b h _=>h)).ext kq
        have C19:=C18.ext k19
        have E19:=E18.ext k19
        have B19:=Below.ext B18 k19
        have Rx19:=Lib.hid ((k19.block bx (by omega)).trans Rx18.out)
        clear D19 C18 E18 D18
        go_upto_region 38 with (refine aF rfl 36 _ _ rfl 36 _ _ rfl rfl (by kernel_rfl) rfl (by simp [Value.oneCell']) ?_)
        try dsimp only
        rw [←hW19,←HBq.out]
        clear hW19 hbq
        try simp only [Act.put]
        try (go_wp2_with fail)
        refine qL (fun w' =>w'.heap[bq]? =some (.cells #[.slice A19 4 c19] 36 (0,0))∧w'.heap[bx]? =some (.cells #[.slice I1 in1 ic1,.slice Q1 k1 d1,.slice Q2 k2 d2,.slice Q3 k3 d3,.slice Q4 k4 d4,.slice L' ln lc] 32 (0,0))) 7 28 36 (.cells #[.slice none 0 0] 36) (by kernel_rfl) (by kernel_rfl) (alloc_disk) (fun w' h=>⟨jR h.1 _,jR h.2 _⟩) (⟨Rq.out,Rx19.out⟩) ?_
        refine TkC ?_
        refine LC (⟨bq,0,none⟩) (.agg #[.slice A19 4 c19]) rfl rfl rfl rfl (fun w' h=>aB h.1 Tryz.underlying36 rfl (by kernel_rfl)) ?_
        refine TkI ?_
        refine TkC ?_
        refine LC (⟨bx,0,none⟩) (.agg #[.slice I1 in1 ic1,.slice Q1 k1 d1,.slice Q2 k2 d2,.slice Q3 k3 d3,.slice Q4 k4 d4,.slice L' ln lc]) rfl rfl rfl rfl (fun w' h=>aB h.2 Tryz.underlying32 rfl (by kernel_rfl)) ?_
        refine TkI ?_
        refine TkC ?_
        refine yY rfl rfl (fun m1 v21 hE1=> ?_)
        go_wp2_with fail
        have x1_:=hE1.bx (Bx.none_ W19.heap.size _ _) (Nat.le_refl _)
        have f1:Below W19.heap.size W19 v21:=Below.ext (Below.refl _ W19).drew hE1.below
        have hst0:=yZ v21 _ c I1 in1 ic1 Q1 k1 d1 Q2 k2 d2 Q3 k3 d3 Q4 k4 d4 L' ln lc l (C19.ext f1) (E19.ext f1) LI.out 0 (by omega)
        rw [show ((0:Nat):Int)=0 from rfl] at hst0
        have Hst0:=Lib.hid hst0
        clear hst0
        refine Hst0.out.mono ?_
        rintro e v22 ⟨s0,G1,Gn1,Gc1,G2,Gn2,Gc2,G3,Gn3,Gc3,G4,Gn4,Gc4,rfl,hR0,hM0,z2⟩
        have hs0:=(LI.out.st hR0).1
        have HS0:=Lib.hid hs0
        have x2_:=x1_.ext z2
        have f2:=Below.ext f1 z2
        clear hR0 hs0
        go_wp2_with fail
        refine uU (⟨(f2.block bq lq).trans Rq.out,(f2.block bx (by omega)).trans Rx19.out⟩) ?_
        refine TkC ?_
        refine yY rfl rfl (fun m3 v23 hE3=> ?_)
        go_wp2_with fail
        have x3_:=hE3.bx x2_ f2.size
        have f3:=Below.ext f2 hE3.below
        have HSU:=Lib.hid (mU A19 4 c19 _ _ v23 (DQ9_.ext f3) (by omega) (fY_ok HLG.out) 2 s0 _ _ _ _ _ _ _ _ _ _ _ _ _ (hM0.ext hE3.below) HS0.out.sv (-1) _ (saveU HS0.out))
        clear hM0
        refine HSU.out.mono ?_
        rintro e v24 ⟨⟨A24,c24,rfl,D24⟩,z4⟩
        have x4_:=x3_.ext z4
        have f4:=Below.ext f3 z4
        go_wp2_with fail
        refine uU (⟨(f4.block bq lq).trans Rq.out,(f4.block bx (by omega)).trans Rx19.out⟩) ?_
        refine TkC ?_
        refine MF rfl (fun X v25 hE5=> ?_)
        refine TkI ?_
        refine TkC ?_
        have x5_:=hE5.bx x4_ f4.size
        have f5:=Below.ext f4 hE5.below
        have rowX:=(x5_ X rfl).2
        have hWX:=(x5_ X rfl).1
        have yf3:=f3.size
        have D24' :=D24.mono (S' :=fun b=>m3≠some b) (fun b hb h=>by
         rcases h with h|h
         ·exact fun e=>by have:=(x3_ b e).1;have:=kq.size;omega
         ·exact x3_.lt h)
        have D25:=(D24'.mono (S' :=fun b=>b≠X) (fun b hb h e=>hE5.ne hb h (by rw [e]))).ext hE5.below
        refine MG rfl rfl ?_
        refine aC rfl 36 _ _ rfl X 36 _ _ rfl rfl rowX (by kernel_rfl) rfl (by simp [Value.oneCell']) ?_
        obtain ⟨v26,hv26⟩:∃x,x=v25.setRow X #[.slice A24 4 c24]:=⟨_,rfl⟩
        have g26:v25.grownBy v26 (some X):=by rw [hv26];exact aJ _ _ _
        have f26:Below W19.heap.size W19 v26:=by rw [hv26];exact Below.setRow f5 hWX _
        have D26:=D25.keep (w' :=v26) (fun b hb hs=>g26.block b hb (by simp;omega))
        have RX26:=Lib.hid (show v26.heap[X]? =some (.cells #[.slice A24 4 c24] 36 (0,0)) by rw [hv26];exact setRow_heap _ _ _ _ _ _ rowX)
        have HLU:=Lib.hid ((kY _ (fU_ok HLG.out HS0.out) _ _ _ (lostU HLG.out) (by omega)).2 A24 4 c24 _ v26 D26 (by omega))
        rw [←hv26]
        clear hv26 D25 D24 D24' rowX x1_ x2_ x3_ x4_ x5_ hE1 hE3 hE5 f1 f2 f3 f4 f5 z2 z4 D26 DQ9_
        refine uU ⟨(f26.block bq lq).trans Rq.out,(f26.block bx (by omega)).trans Rx19.out⟩ ?_
        simp only [Act.put]
        refine TkC ?_
        refine JE ?_
        go_wp2_with (refine aD (t:=36) (A:=⟨X,0,none⟩) rfl rfl rfl (aB RX26.out Tryz.underlying36 rfl (by kernel_rfl)) ?_)
        refine HLU.out.mono ?_
        rintro e v27 ⟨⟨_,rfl⟩,b27⟩
        obtain ⟨W28,hW28,_,ku,Su,Ru⟩:=bP v27 v27 #[.slice none 0 0,.slice none 0 0,.slice none 0 0,.slice none 0 0] 51 (Below.refl _ _)
        obtain ⟨bu,hbu⟩:∃b,b=v27.heap.size:=⟨_,rfl⟩
        rw [←hbu] at Ru
        have HBu:=Lib.hid hbu
        have lu:bu<W28.heap.size:=by have:=Su.out;omega
        have mu:v27.heap.size≤bu:=by omega
        go_upto_region 40 with (refine aF rfl 51 _ _ rfl 51 _ _ rfl rfl (by kernel_rfl) rfl (by simp [Value.oneCell']) ?_)
        try dsimp only
        rw [←hW28,←HBu.out]
        clear hW28 hbu
        try simp only [Act.put]
        go_wp2
        go_ret
        exact ⟨rfl,Below.ext B19 (Below.ext f26 (Below.ext b27 ku))⟩
       case neg=>
        have c0:=own_at O18 (j:=0) (by omega) (mk_hi hk4 hk2).1
        have c2_:=own_at O18 (j:=2) (by omega) (mk_hi hk4 hk2).2
        have d2:decide (k<2)=false:=by simpa using hk2
        have d1:decide (1<k)=true:=by simp;omega
        have d2i:decide ((k:Int)<2)=false:=by simp;omega
        have d1i:decide (1<(k:Int))=true:=by simp;omega
        go_upto_region 37 with fail
        clear d1 d2 d1i d2i c0 c2_ ck
        have HDR2:=Lib.hid (GC A 4 c' (fD9_ st 4) _ v18 D18 (by omega) 2 (by omega))
        go_wp2_with (refine aD (t:=36) (A:=⟨bd,0,none⟩) rfl rfl rfl (aB Rd18.out Tryz.underlying36 rfl (by kernel_rfl)) ?_)
        refine HDR2.out.mono ?_
        rintro e v19 ⟨A19,c19,rfl,D19,b19⟩
        obtain ⟨W19,hW19,_,kq,Sq,Rq⟩:=bP v19 v19 #[.slice A19 4 c19] 36 (Below.refl _ _)
        obtain ⟨bq,hbq⟩:∃b,b=v19.heap.size:=⟨_,rfl⟩
        rw [←hbq] at Rq
        have HBq:=Lib.hid hbq
        have lq:bq<W19.heap.size:=by have:=Sq.out;omega
        have mq:v19.heap.size≤bq:=by omega
        have k19:=Below.ext b19 kq
        have y19:=k19.size
        have DQ9_:=(D19.mono (S' :=fun b=>b<v19.heap.size) (fun b h _=>h)).ext kq
        have C19:=C18.ext k19
        have E19:=E18.ext k19
        have B19:=Below.ext B18 k19
        have Rx19:=Lib.hid ((k19.block bx (by omega)).trans Rx18.out)
        clear D19 C18 E18 D18
        go_upto_region 38 with (refine aF rfl 36 _ _ rfl 36 _ _ rfl rfl (by kernel_rfl) rfl (by simp [Value.oneCell']) ?_)
        try dsimp only
        rw [←hW19,←HBq.out]
        clear hW19 hbq
        try simp only [Act.put]
        try (go_wp2_with fail)
        refine qL (fun w' =>w'.heap[bq]? =some (.cells #[.slice A19 4 c19] 36 (0,0))∧w'.heap[bx]? =some (.cells #[.slice I1 in1 ic1,.slice Q1 k1 d1,.slice Q2 k2 d2,.slice Q3 k3 d3,.slice Q4 k4 d4,.slice L' ln lc] 32 (0,0))) 7 28 36 (.cells #[.slice none 0 0] 36) (by kernel_rfl) (by kernel_rfl) (alloc_disk) (fun w' h=>⟨jR h.1 _,jR h.2 _⟩) (⟨Rq.out,Rx19.out⟩) ?_
        refine TkC ?_
        refine LC (⟨bq,0,none⟩) (.agg #[.slice A19 4 c19]) rfl rfl rfl rfl (fun w' h=>aB h.1 Tryz.underlying36 rfl (by kernel_rfl)) ?_
        refine TkI ?_
        refine TkC ?_
        refine LC (⟨bx,0,none⟩) (.agg #[.slice I1 in1 ic1,.slice Q1 k1 d1,.slice Q2 k2 d2,.slice Q3 k3 d3,.slice Q4 k4 d4,.slice L' ln lc]) rfl rfl rfl rfl (fun w' h=>aB h.2 Tryz.underlying32 rfl (by kernel_rfl)) ?_
        refine TkI ?_
        refine TkC ?_
        refine yY rfl rfl (fun m1 v21 hE1=> ?_)
        go_wp2_with fail
        have x1_:=hE1.bx (Bx.none_ W19.heap.size _ _) (Nat.le_refl _)
        have f1:Below W19.heap.size W19 v21:=Below.ext (Below.refl _ W19).drew hE1.below
        have hst0:=yZ v21 _ c I1 in1 ic1 Q1 k1 d1 Q2 k2 d2 Q3 k3 d3 Q4 k4 d4 L' ln lc l (C19.ext f1) (E19.ext f1) LI.out 0 (by omega)
        rw [show ((0:Nat):Int)=0 from rfl] at hst0
        have Hst0:=Lib.hid hst0
        clear hst0
        refine Hst0.out.mono ?_
        rintro e v22 ⟨s0,G1,Gn1,Gc1,G2,Gn2,Gc2,G3,Gn3,Gc3,G4,Gn4,Gc4,rfl,hR0,hM0,z2⟩
        have hs0:=(LI.out.st hR0).1
        have HS0:=Lib.hid hs0
        have x2_:=x1_.ext z2
        have f2:=Below.ext f1 z2
        clear hR0 hs0
        go_wp2_with fail
        refine uU (⟨(f2.block bq lq).trans Rq.out,(f2.block bx (by omega)).trans Rx19.out⟩) ?_
        refine TkC ?_
        refine yY rfl rfl (fun m3 v23 hE3=> ?_)
        go_wp2_with fail
        have x3_:=hE3.bx x2_ f2.size
        have f3:=Below.ext f2 hE3.below
        have HSU:=Lib.hid (mU A19 4 c19 _ _ v23 (DQ9_.ext f3) (by omega) (fY_ok HLG.out) 2 s0 _ _ _ _ _ _ _ _ _ _ _ _ _ (hM0.ext hE3.below) HS0.out.sv (-1) _ (saveU HS0.out))
        clear hM0
        refine HSU.out.mono ?_
        rintro e v24 ⟨⟨A24,c24,rfl,D24⟩,z4⟩
        have x4_:=x3_.ext z4
        have f4:=Below.ext f3 z4
        go_wp2_with fail
        refine uU (⟨(f4.block bq lq).trans Rq.out,(f4.block bx (by omega)).trans Rx19.out⟩) ?_
        refine TkC ?_
        refine MF rfl (fun X v25 hE5=> ?_)
        refine TkI ?_
        refine TkC ?_
        have x5_:=hE5.bx x4_ f4.size
        have f5:=Below.ext f4 hE5.below
        have rowX:=(x5_ X rfl).2
        have hWX:=(x5_ X rfl).1
        have yf3:=f3.size
        have D24' :=D24.mono (S' :=fun b=>m3≠some b) (fun b hb h=>by
         rcases h with h|h
         ·exact fun e=>by have:=(x3_ b e).1;have:=kq.size;omega
         ·exact x3_.lt h)
        have D25:=(D24'.mono (S' :=fun b=>b≠X) (fun b hb h e=>hE5.ne hb h (by rw [e]))).ext hE5.below
        refine MG rfl rfl ?_
        refine aC rfl 36 _ _ rfl X 36 _ _ rfl rfl rowX (by kernel_rfl) rfl (by simp [Value.oneCell']) ?_
        obtain ⟨v26,hv26⟩:∃x,x=v25.setRow X #[.slice A24 4 c24]:=⟨_,rfl⟩
        have g26:v25.grownBy v26 (some X):=by rw [hv26];exact aJ _ _ _
        have f26:Below W19.heap.size W19 v26:=by rw [hv26];exact Below.setRow f5 hWX _
        have D26:=D25.keep (w' :=v26) (fun b hb hs=>g26.block b hb (by simp;omega))
        have RX26:=Lib.hid (show v26.heap[X]? =some (.cells #[.slice A24 4 c24] 36 (0,0)) by rw [hv26];exact setRow_heap _ _ _ _ _ _ rowX)
        have HLU:=Lib.hid ((kY _ (fU_ok HLG.out HS0.out) _ _ _ (lostU HLG.out) (by omega)).2 A24 4 c24 _ v26 D26 (by omega))
        rw [←hv26]
        clear hv26 D25 D24 D24' rowX x1_ x2_ x3_ x4_ x5_ hE1 hE3 hE5 f1 f2 f3 f4 f5 z2 z4 D26 DQ9_
        refine uU ⟨(f26.block bq lq).trans Rq.out,(f26.block bx (by omega)).trans Rx19.out⟩ ?_
        simp only [Act.put]
        refine TkC ?_
        refine JE ?_
        go_wp2_with (refine aD (t:=36) (A:=⟨X,0,none⟩) rfl rfl rfl (aB RX26.out Tryz.underlying36 rfl (by kernel_rfl)) ?_)
        refine HLU.out.mono ?_
        rintro e v27 ⟨⟨_,rfl⟩,b27⟩
        obtain ⟨W28,hW28,_,ku,Su,Ru⟩:=bP v27 v27 #[.slice none 0 0,.slice none 0 0,.slice none 0 0,.slice none 0 0] 51 (Below.refl _ _)
        obtain ⟨bu,hbu⟩:∃b,b=v27.heap.size:=⟨_,rfl⟩
        rw [←hbu] at Ru
        have HBu:=Lib.hid hbu
        have lu:bu<W28.heap.size:=by have:=Su.out;omega
        have mu:v27.heap.size≤bu:=by omega
        go_upto_region 40 with (refine aF rfl 51 _ _ rfl 51 _ _ rfl rfl (by kernel_rfl) rfl (by simp [Value.oneCell']) ?_)
        try dsimp only
        rw [←hW28,←HBu.out]
        clear hW28 hbu
        try simp only [Act.put]
        go_wp2
        go_ret
        exact ⟨rfl,Below.ext B19 (Below.ext f26 (Below.ext b27 ku))⟩
end Go.Proofs.YtiblijmngokcgaaGreatDoor.ckptstoreDrops
