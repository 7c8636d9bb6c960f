import Derived.Test.YtiblijmngokcgaaGreatDoorMacZs
import Derived.Test.YtiblijmngokcgaaGreatDoorG34Zs
namespace Go.Proofs.YtiblijmngokcgaaGreatDoor
open Go.RowKit
set_option maxRecDepth 100000
set_option linter.unusedVariables false
set_option linter.unusedSimpArgs false
def wF (n:Nat):Prop:=∀(A:Option Addr) (m c:Nat) (ts:List Sm) (w:World),SmL n w (.slice A m c) ts→(∀s∈ts,DrS n s)→
 Calls Tryz.prog 186 #[.slice A m c] w fun e w' =>e= .returned (.bool true)∧Below w.heap.size w w'
set_option maxHeartbeats 16000000 in
theorem CP (n:Nat) (ih:∀k,k<n→wF k):wF n:=by
 intro A m c ts w hL hrs
 have HL:=Lib.hid hL.len.1
 have hlc:=hL.len.2
 have HRS:=Lib.hid hrs
 have HIH:=Lib.hid ih
 clear hrs ih
 go_enter Tryz.func186,Tryz.ntmps186
 go_wp2
 go_loopw [3] (fun b wr=>∃(k:Nat),b= .int .i64 k∧k≤m∧Below w.heap.size w wr) (fun b _=>m-(intOf b).toNat)
 case atStart=>exact ⟨0,rfl,by omega,Below.refl _ _⟩
 case round=>
  obtain ⟨k,rfl,hk,hb⟩:=hrel
  by_cases hlt:k<m
  ·obtain ⟨ba,oa,x,t,rfl,hSb,hba,ht,hok,hcx⟩:=hL.at_ cS (j:=k) hlt (by omega)
   cases n with
   |zero=>exact hok.elim
   |succ n=>
    have hrt:=HRS.out t (List.mem_of_getElem? ht)
    obtain ⟨kind,name,slot,size,place,value,body,els⟩:=t
    obtain ⟨rfl,rfl,rfl,rfl,hpl,hvl,hbd,hel⟩:=hok
    obtain ⟨hsl,hsz,nvl,nbd,nel,ncl⟩:=hrt
    obtain ⟨xk,xm,xs,xz,⟨po,pv,pm,ps,pz,pA,pn,pc⟩,vx,xA,xn,xc,xB,xm2,xd⟩:=x
    dsimp only at*
    subst hsl hsz
    have HC:=Lib.hid (fun i u h2=>((Below.refl _ _).trans hb |>.cell (p:=⟨ba,oa+k*18+i,none⟩) hba).trans (hcx i u h2))
    rcases ncl with ⟨rfl,nn,rfl,rfl,rfl⟩|⟨rfl,nn,npl,rfl,rfl⟩|⟨rfl,rfl,npl,rfl,rfl⟩|⟨rfl,rfl,rfl,rfl,rfl⟩|⟨rfl,rfl,rfl,_,_⟩|⟨rfl,rfl,rfl,rfl,_⟩
    ·obtain ⟨cc,hcc,rfl⟩:=lR (.inl nn)
     clear nn
     obtain ⟨rfl,rfl,rfl,rfl,rfl,hpa⟩:=hpl
     dsimp only at*
     obtain rfl:pn=0:=by have:=hpa.len.1;simpa using this.symm
     obtain rfl:xn=0:=by have:=hbd.len.1;simpa using this.symm
     obtain rfl:xm2=0:=by have:=hel.len.1;simpa using this.symm
     obtain ⟨W,hW,bW,kW,SW,R0⟩:=bP wr wr #[.int .i64 1,.string (ByteArray.mk #[cc]),.int .i64 0,.int .i64 0,.int .i64 0,.int .i64 0,.string (ByteArray.mk #[]),.int .i64 0,.int .i64 0,.slice pA 0 pc,.int .i64 vx.op,.int .i64 vx.val,.string vx.name,.int .i64 vx.slot,.int .i64 vx.size,.slice vx.A vx.n vx.c,.slice xA 0 xc,.slice xB 0 xd] 246 (Below.refl _ _)
     obtain ⟨bx,hbx⟩:∃b,b=wr.heap.size:=⟨_,rfl⟩
     rw [←hbx] at R0
     have HBX:=Lib.hid hbx
     have hbxW:bx<W.heap.size:=by have:=SW.out;omega
     have yW:=Below.ext hb kW
     have HVL:=Lib.hid (fun (w' :World) (h:Below W.heap.size W w')=>fX 3 vx value _ w' (ExOk.keep (Keep.of_below (Below.ext yW h)) _ _ _ hvl) nvl)
     have HB:=Lib.hid (fun (w' :World) (h:Below W.heap.size W w')=>HIH.out n (by omega) xA 0 xc _ w' (SmL.ext hbd (Below.ext yW h)) nbd)
     have HE:=Lib.hid (fun (w' :World) (h:Below W.heap.size W w')=>HIH.out n (by omega) xB 0 xd _ w' (SmL.ext hel (Below.ext yW h)) nel)
     clear hbx hvl hbd hel hcx ht hL hpa
     go_upto_region 5 with (first|(refine aD (t:=246) (A:=⟨ba,oa+k*18,none⟩) rfl rfl rfl (jI HC.out) ?_)|(refine aF rfl 246 _ _ rfl 246 _ #[.int .i64 1,.string (ByteArray.mk #[cc]),.int .i64 0,.int .i64 0,.int .i64 0,.int .i64 0,.string (ByteArray.mk #[]),.int .i64 0,.int .i64 0,.slice pA 0 pc,.int .i64 vx.op,.int .i64 vx.val,.string vx.name,.int .i64 vx.slot,.int .i64 vx.size,.slice vx.A vx.n vx.c,.slice xA 0 xc,.slice xB 0 xd] rfl rfl (by kernel_rfl) rfl (by simp [Value.oneCell']) ?_))
     try dsimp only
     rw [←hW,←HBX.out]
     clear hW
     try simp only [Act.put]
     go_wp2_with fail
     refine aM ((fun w' =>Below W.heap.size W w')) (by kernel_rfl) (by kernel_rfl) ((Below.refl _ W).drew) ?_
     refine TkA ?_
     refine aE (⟨bx,0,none⟩) (.int .i64 1) rfl rfl rfl (fun w' hw' =>aG (aU _) (aA ((hw'.block bx hbxW).trans R0.out) 0 _ rfl)) ?_
     refine TkI ?_
     refine TkA ?_
     refine aE (⟨bx,0,none⟩) (.int .i64 1) rfl rfl rfl (fun w' hw' =>aG (aU _) (aA ((hw'.block bx hbxW).trans R0.out) 0 _ rfl)) ?_
     refine TkI ?_
     refine TkA ?_
     refine aE (⟨bx,0,none⟩) (.int .i64 1) rfl rfl rfl (fun w' hw' =>aG (aU _) (aA ((hw'.block bx hbxW).trans R0.out) 0 _ rfl)) ?_
     refine TkI ?_
     refine TkA ?_
     refine aE (⟨bx,0,none⟩) (.int .i64 1) rfl rfl rfl (fun w' hw' =>aG (aU _) (aA ((hw'.block bx hbxW).trans R0.out) 0 _ rfl)) ?_
     refine TkI ?_
     refine TkA ?_
     refine aE (⟨bx,0,none⟩) (.int .i64 1) rfl rfl rfl (fun w' hw' =>aG (aU _) (aA ((hw'.block bx hbxW).trans R0.out) 0 _ rfl)) ?_
     refine TkI ?_
     refine TkA ?_
     refine aZ ?_
     obtain ⟨w1,hw1⟩:∃w1,w1=W.drew:=⟨_,rfl⟩
     rw [←hw1]
     have y1:Below W.heap.size W w1:=by rw [hw1];exact (Below.refl _ W).drew
     clear hw1
     have Rw1:=Lib.hid ((y1.block bx hbxW).trans R0.out)
     have cw10:w1.cell? ⟨bx,0,none⟩=some (.int .i64 1):=aA Rw1.out 0 _ rfl
     have cw11:w1.cell? ⟨bx,1,none⟩=some (.string (ByteArray.mk #[cc])):=aA Rw1.out 1 _ rfl
     have cw12:w1.cell? ⟨bx,2,none⟩=some (.int .i64 0):=aA Rw1.out 2 _ rfl
     have cw13:w1.cell? ⟨bx,3,none⟩=some (.int .i64 0):=aA Rw1.out 3 _ rfl
     go_wp2_with fail
     refine (jO cc hcc w1).mono ?_
     rintro e w2 ⟨rfl,rfl⟩
     go_wp2_with (refine aD (t:=244) (A:=⟨bx,10,none⟩) rfl rfl rfl (cK (y:=vx) Rw1.out rfl) ?_)
     refine (HVL.out _ y1).mono ?_
     rintro e w3 ⟨rfl,b3⟩
     have y3:=Below.ext y1 b3
     have Rw3:=Lib.hid ((y3.block bx hbxW).trans R0.out)
     have cw30:w3.cell? ⟨bx,0,none⟩=some (.int .i64 1):=aA Rw3.out 0 _ rfl
     have cw316:w3.cell? ⟨bx,16,none⟩=some (.slice xA 0 xc):=aA Rw3.out 16 _ rfl
     have cw317:w3.cell? ⟨bx,17,none⟩=some (.slice xB 0 xd):=aA Rw3.out 17 _ rfl
     go_wp2_with (refine aD (t:=244) (A:=⟨bx,4,none⟩) rfl rfl rfl (cK (y:=⟨0,0,ByteArray.mk #[],0,0,pA,0,pc⟩) Rw3.out rfl) ?_)
     refine (mP pA pc w3).mono ?_
     rintro e w4 ⟨rfl,b4⟩
     have y4:=Below.ext y3 b4
     have Rw4:=Lib.hid ((y4.block bx hbxW).trans R0.out)
     have cw40:w4.cell? ⟨bx,0,none⟩=some (.int .i64 1):=aA Rw4.out 0 _ rfl
     have cw416:w4.cell? ⟨bx,16,none⟩=some (.slice xA 0 xc):=aA Rw4.out 16 _ rfl
     exact Tzaj
    ·obtain ⟨cc,hcc,rfl⟩:=lR (.inr nn)
     clear nn
     obtain rfl:xn=0:=by have:=hbd.len.1;simpa using this.symm
     obtain rfl:xm2=0:=by have:=hel.len.1;simpa using this.symm
     obtain ⟨W,hW,bW,kW,SW,R0⟩:=bP wr wr #[.int .i64 2,.string (ByteArray.mk #[cc]),.int .i64 0,.int .i64 0,.int .i64 po,.int .i64 pv,.string pm,.int .i64 ps,.int .i64 pz,.slice pA pn pc,.int .i64 vx.op,.int .i64 vx.val,.string vx.name,.int .i64 vx.slot,.int .i64 vx.size,.slice vx.A vx.n vx.c,.slice xA 0 xc,.slice xB 0 xd] 246 (Below.refl _ _)
     obtain ⟨bx,hbx⟩:∃b,b=wr.heap.size:=⟨_,rfl⟩
     rw [←hbx] at R0
     have HBX:=Lib.hid hbx
     have hbxW:bx<W.heap.size:=by have:=SW.out;omega
     have yW:=Below.ext hb kW
     have HVL:=Lib.hid (fun (w' :World) (h:Below W.heap.size W w')=>fX 3 vx value _ w' (ExOk.keep (Keep.of_below (Below.ext yW h)) _ _ _ hvl) nvl)
     have HB:=Lib.hid (fun (w' :World) (h:Below W.heap.size W w')=>HIH.out n (by omega) xA 0 xc _ w' (SmL.ext hbd (Below.ext yW h)) nbd)
     have HE:=Lib.hid (fun (w' :World) (h:Below W.heap.size W w')=>HIH.out n (by omega) xB 0 xd _ w' (SmL.ext hel (Below.ext yW h)) nel)
     have HP:=Lib.hid (fun (w' :World) (h:Below W.heap.size W w')=>fX 3 ⟨po,pv,pm,ps,pz,pA,pn,pc⟩ place _ w' (ExOk.keep (Keep.of_below (Below.ext yW h)) _ _ _ hpl) npl)
     clear hbx hvl hbd hel hcx ht hL hpl
     go_upto_region 5 with (first|(refine aD (t:=246) (A:=⟨ba,oa+k*18,none⟩) rfl rfl rfl (jI HC.out) ?_)|(refine aF rfl 246 _ _ rfl 246 _ #[.int .i64 2,.string (ByteArray.mk #[cc]),.int .i64 0,.int .i64 0,.int .i64 po,.int .i64 pv,.string pm,.int .i64 ps,.int .i64 pz,.slice pA pn pc,.int .i64 vx.op,.int .i64 vx.val,.string vx.name,.int .i64 vx.slot,.int .i64 vx.size,.slice vx.A vx.n vx.c,.slice xA 0 xc,.slice xB 0 xd] rfl rfl (by kernel_rfl) rfl (by simp [Value.oneCell']) ?_))
     try dsimp only
     rw [←hW,←HBX.out]
     clear hW
     try simp only [Act.put]
     go_wp2_with fail
     refine aM ((fun w' =>Below W.heap.size W w')) (by kernel_rfl) (by kernel_rfl) ((Below.refl _ W).drew) ?_
     refine TkA ?_
     refine aE (⟨bx,0,none⟩) (.int .i64 2) rfl rfl rfl (fun w' hw' =>aG (aU _) (aA ((hw'.block bx hbxW).trans R0.out) 0 _ rfl)) ?_
     refine TkI ?_
     refine TkA ?_
     refine aE (⟨bx,0,none⟩) (.int .i64 2) rfl rfl rfl (fun w' hw' =>aG (aU _) (aA ((hw'.block bx hbxW).trans R0.out) 0 _ rfl)) ?_
     refine TkI ?_
     refine TkA ?_
     refine aE (⟨bx,0,none⟩) (.int .i64 2) rfl rfl rfl (fun w' hw' =>aG (aU _) (aA ((hw'.block bx hbxW).trans R0.out) 0 _ rfl)) ?_
     refine TkI ?_
     refine TkA ?_
     refine aE (⟨bx,0,none⟩) (.int .i64 2) rfl rfl rfl (fun w' hw' =>aG (aU _) (aA ((hw'.block bx hbxW).trans R0.out) 0 _ rfl)) ?_
     refine TkI ?_
     refine TkA ?_
     refine aE (⟨bx,0,none⟩) (.int .i64 2) rfl rfl rfl (fun w' hw' =>aG (aU _) (aA ((hw'.block bx hbxW).trans R0.out) 0 _ rfl)) ?_
     refine TkI ?_
     refine TkA ?_
     refine aZ ?_
     obtain ⟨w1,hw1⟩:∃w1,w1=W.drew:=⟨_,rfl⟩
     rw [←hw1]
     have y1:Below W.heap.size W w1:=by rw [hw1];exact (Below.refl _ W).drew
     clear hw1
     have Rw1:=Lib.hid ((y1.block bx hbxW).trans R0.out)
     have cw10:w1.cell? ⟨bx,0,none⟩=some (.int .i64 2):=aA Rw1.out 0 _ rfl
     have cw11:w1.cell? ⟨bx,1,none⟩=some (.string (ByteArray.mk #[cc])):=aA Rw1.out 1 _ rfl
     have cw12:w1.cell? ⟨bx,2,none⟩=some (.int .i64 0):=aA Rw1.out 2 _ rfl
     have cw13:w1.cell? ⟨bx,3,none⟩=some (.int .i64 0):=aA Rw1.out 3 _ rfl
     go_wp2_with fail
     refine (jO cc hcc w1).mono ?_
     rintro e w2 ⟨rfl,rfl⟩
     go_wp2_with (refine aD (t:=244) (A:=⟨bx,10,none⟩) rfl rfl rfl (cK (y:=vx) Rw1.out rfl) ?_)
     refine (HVL.out _ y1).mono ?_
     rintro e w3 ⟨rfl,b3⟩
     have y3:=Below.ext y1 b3
     have Rw3:=Lib.hid ((y3.block bx hbxW).trans R0.out)
     have cw30:w3.cell? ⟨bx,0,none⟩=some (.int .i64 2):=aA Rw3.out 0 _ rfl
     have cw316:w3.cell? ⟨bx,16,none⟩=some (.slice xA 0 xc):=aA Rw3.out 16 _ rfl
     have cw317:w3.cell? ⟨bx,17,none⟩=some (.slice xB 0 xd):=aA Rw3.out 17 _ rfl
     go_wp2_with (refine aD (t:=244) (A:=⟨bx,4,none⟩) rfl rfl rfl (cK (y:=⟨po,pv,pm,ps,pz,pA,pn,pc⟩) Rw3.out rfl) ?_)
     refine (HP.out _ y3).mono ?_
     rintro e w4 ⟨rfl,b4⟩
     have y4:=Below.ext y3 b4
     have Rw4:=Lib.hid ((y4.block bx hbxW).trans R0.out)
     have cw40:w4.cell? ⟨bx,0,none⟩=some (.int .i64 2):=aA Rw4.out 0 _ rfl
     have cw416:w4.cell? ⟨bx,16,none⟩=some (.slice xA 0 xc):=aA Rw4.out 16 _ rfl
     exact Tzaj
    ·obtain rfl:xn=0:=by have:=hbd.len.1;simpa using this.symm
     obtain rfl:xm2=0:=by have:=hel.len.1;simpa using this.symm
     obtain ⟨W,hW,bW,kW,SW,R0⟩:=bP wr wr #[.int .i64 5,.string (ByteArray.mk #[]),.int .i64 0,.int .i64 0,.int .i64 po,.int .i64 pv,.string pm,.int .i64 ps,.int .i64 pz,.slice pA pn pc,.int .i64 vx.op,.int .i64 vx.val,.string vx.name,.int .i64 vx.slot,.int .i64 vx.size,.slice vx.A vx.n vx.c,.slice xA 0 xc,.slice xB 0 xd] 246 (Below.refl _ _)
     obtain ⟨bx,hbx⟩:∃b,b=wr.heap.size:=⟨_,rfl⟩
     rw [←hbx] at R0
     have HBX:=Lib.hid hbx
     have hbxW:bx<W.heap.size:=by have:=SW.out;omega
     have yW:=Below.ext hb kW
     have HVL:=Lib.hid (fun (w' :World) (h:Below W.heap.size W w')=>fX 3 vx value _ w' (ExOk.keep (Keep.of_below (Below.ext yW h)) _ _ _ hvl) nvl)
     have HB:=Lib.hid (fun (w' :World) (h:Below W.heap.size W w')=>HIH.out n (by omega) xA 0 xc _ w' (SmL.ext hbd (Below.ext yW h)) nbd)
     have HE:=Lib.hid (fun (w' :World) (h:Below W.heap.size W w')=>HIH.out n (by omega) xB 0 xd _ w' (SmL.ext hel (Below.ext yW h)) nel)
     have HP:=Lib.hid (fun (w' :World) (h:Below W.heap.size W w')=>fX 3 ⟨po,pv,pm,ps,pz,pA,pn,pc⟩ place _ w' (ExOk.keep (Keep.of_below (Below.ext yW h)) _ _ _ hpl) npl)
     clear hbx hvl hbd hel hcx ht hL hpl
     go_upto_region 5 with (first|(refine aD (t:=246) (A:=⟨ba,oa+k*18,none⟩) rfl rfl rfl (jI HC.out) ?_)|(refine aF rfl 246 _ _ rfl 246 _ #[.int .i64 5,.string (ByteArray.mk #[]),.int .i64 0,.int .i64 0,.int .i64 po,.int .i64 pv,.string pm,.int .i64 ps,.int .i64 pz,.slice pA pn pc,.int .i64 vx.op,.int .i64 vx.val,.string vx.name,.int .i64 vx.slot,.int .i64 vx.size,.slice vx.A vx.n vx.c,.slice xA 0 xc,.slice xB 0 xd] rfl rfl (by kernel_rfl) rfl (by simp [Value.oneCell']) ?_))
     try dsimp only
     rw [←hW,←HBX.out]
     clear hW
     try simp only [Act.put]
     go_wp2_with fail
     refine aM ((fun w' =>Below W.heap.size W w')) (by kernel_rfl) (by kernel_rfl) ((Below.refl _ W).drew) ?_
     refine TkA ?_
     refine aE (⟨bx,0,none⟩) (.int .i64 5) rfl rfl rfl (fun w' hw' =>aG (aU _) (aA ((hw'.block bx hbxW).trans R0.out) 0 _ rfl)) ?_
     refine TkI ?_
     refine TkA ?_
     refine aE (⟨bx,0,none⟩) (.int .i64 5) rfl rfl rfl (fun w' hw' =>aG (aU _) (aA ((hw'.block bx hbxW).trans R0.out) 0 _ rfl)) ?_
     refine TkI ?_
     refine TkA ?_
     refine aE (⟨bx,0,none⟩) (.int .i64 5) rfl rfl rfl (fun w' hw' =>aG (aU _) (aA ((hw'.block bx hbxW).trans R0.out) 0 _ rfl)) ?_
     refine TkI ?_
     refine TkA ?_
     refine aE (⟨bx,0,none⟩) (.int .i64 5) rfl rfl rfl (fun w' hw' =>aG (aU _) (aA ((hw'.block bx hbxW).trans R0.out) 0 _ rfl)) ?_
     refine TkI ?_
     refine TkA ?_
     refine aE (⟨bx,0,none⟩) (.int .i64 5) rfl rfl rfl (fun w' hw' =>aG (aU _) (aA ((hw'.block bx hbxW).trans R0.out) 0 _ rfl)) ?_
     refine TkI ?_
     refine TkA ?_
     refine aE (⟨bx,0,none⟩) (.int .i64 5) rfl rfl rfl (fun w' hw' =>aG (aU _) (aA ((hw'.block bx hbxW).trans R0.out) 0 _ rfl)) ?_
     refine TkI ?_
     refine TkA ?_
     refine aZ ?_
     obtain ⟨w1,hw1⟩:∃w1,w1=W.drew:=⟨_,rfl⟩
     rw [←hw1]
     have y1:Below W.heap.size W w1:=by rw [hw1];exact (Below.refl _ W).drew
     clear hw1
     have Rw1:=Lib.hid ((y1.block bx hbxW).trans R0.out)
     have cw10:w1.cell? ⟨bx,0,none⟩=some (.int .i64 5):=aA Rw1.out 0 _ rfl
     have cw11:w1.cell? ⟨bx,1,none⟩=some (.string (ByteArray.mk #[])):=aA Rw1.out 1 _ rfl
     have cw12:w1.cell? ⟨bx,2,none⟩=some (.int .i64 0):=aA Rw1.out 2 _ rfl
     have cw13:w1.cell? ⟨bx,3,none⟩=some (.int .i64 0):=aA Rw1.out 3 _ rfl
     obtain ⟨w2,hw2⟩:∃w2,w2=w1:=⟨_,rfl⟩
     subst hw2
     go_wp2_with (refine aD (t:=244) (A:=⟨bx,10,none⟩) rfl rfl rfl (cK (y:=vx) Rw1.out rfl) ?_)
     refine (HVL.out _ y1).mono ?_
     rintro e w3 ⟨rfl,b3⟩
     have y3:=Below.ext y1 b3
     have Rw3:=Lib.hid ((y3.block bx hbxW).trans R0.out)
     have cw30:w3.cell? ⟨bx,0,none⟩=some (.int .i64 5):=aA Rw3.out 0 _ rfl
     have cw316:w3.cell? ⟨bx,16,none⟩=some (.slice xA 0 xc):=aA Rw3.out 16 _ rfl
     have cw317:w3.cell? ⟨bx,17,none⟩=some (.slice xB 0 xd):=aA Rw3.out 17 _ rfl
     go_wp2_with (refine aD (t:=244) (A:=⟨bx,4,none⟩) rfl rfl rfl (cK (y:=⟨po,pv,pm,ps,pz,pA,pn,pc⟩) Rw3.out rfl) ?_)
     refine (HP.out _ y3).mono ?_
     rintro e w4 ⟨rfl,b4⟩
     have y4:=Below.ext y3 b4
     have Rw4:=Lib.hid ((y4.block bx hbxW).trans R0.out)
     have cw40:w4.cell? ⟨bx,0,none⟩=some (.int .i64 5):=aA Rw4.out 0 _ rfl
     have cw416:w4.cell? ⟨bx,16,none⟩=some (.slice xA 0 xc):=aA Rw4.out 16 _ rfl
     exact Tzaj
    ·obtain ⟨rfl,rfl,rfl,rfl,rfl,hpa⟩:=hpl
     dsimp only at*
     obtain rfl:pn=0:=by have:=hpa.len.1;simpa using this.symm
     obtain rfl:xn=0:=by have:=hbd.len.1;simpa using this.symm
     obtain rfl:xm2=0:=by have:=hel.len.1;simpa using this.symm
     obtain ⟨W,hW,bW,kW,SW,R0⟩:=bP wr wr #[.int .i64 6,.string (ByteArray.mk #[]),.int .i64 0,.int .i64 0,.int .i64 0,.int .i64 0,.string (ByteArray.mk #[]),.int .i64 0,.int .i64 0,.slice pA 0 pc,.int .i64 vx.op,.int .i64 vx.val,.string vx.name,.int .i64 vx.slot,.int .i64 vx.size,.slice vx.A vx.n vx.c,.slice xA 0 xc,.slice xB 0 xd] 246 (Below.refl _ _)
     obtain ⟨bx,hbx⟩:∃b,b=wr.heap.size:=⟨_,rfl⟩
     rw [←hbx] at R0
     have HBX:=Lib.hid hbx
     have hbxW:bx<W.heap.size:=by have:=SW.out;omega
     have yW:=Below.ext hb kW
     have HVL:=Lib.hid (fun (w' :World) (h:Below W.heap.size W w')=>fX 3 vx value _ w' (ExOk.keep (Keep.of_below (Below.ext yW h)) _ _ _ hvl) nvl)
     have HB:=Lib.hid (fun (w' :World) (h:Below W.heap.size W w')=>HIH.out n (by omega) xA 0 xc _ w' (SmL.ext hbd (Below.ext yW h)) nbd)
     have HE:=Lib.hid (fun (w' :World) (h:Below W.heap.size W w')=>HIH.out n (by omega) xB 0 xd _ w' (SmL.ext hel (Below.ext yW h)) nel)
     clear hbx hvl hbd hel hcx ht hL hpa
     go_upto_region 5 with (first|(refine aD (t:=246) (A:=⟨ba,oa+k*18,none⟩) rfl rfl rfl (jI HC.out) ?_)|(refine aF rfl 246 _ _ rfl 246 _ #[.int .i64 6,.string (ByteArray.mk #[]),.int .i64 0,.int .i64 0,.int .i64 0,.int .i64 0,.string (ByteArray.mk #[]),.int .i64 0,.int .i64 0,.slice pA 0 pc,.int .i64 vx.op,.int .i64 vx.val,.string vx.name,.int .i64 vx.slot,.int .i64 vx.size,.slice vx.A vx.n vx.c,.slice xA 0 xc,.slice xB 0 xd] rfl rfl (by kernel_rfl) rfl (by simp [Value.oneCell']) ?_))
     try dsimp only
     rw [←hW,←HBX.out]
     clear hW
     try simp only [Act.put]
     go_wp2_with fail
     refine aM ((fun w' =>Below W.heap.size W w')) (by kernel_rfl) (by kernel_rfl) ((Below.refl _ W).drew) ?_
     refine TkA ?_
     refine aE (⟨bx,0,none⟩) (.int .i64 6) rfl rfl rfl (fun w' hw' =>aG (aU _) (aA ((hw'.block bx hbxW).trans R0.out) 0 _ rfl)) ?_
     refine TkI ?_
     refine TkA ?_
     refine aE (⟨bx,0,none⟩) (.int .i64 6) rfl rfl rfl (fun w' hw' =>aG (aU _) (aA ((hw'.block bx hbxW).trans R0.out) 0 _ rfl)) ?_
     refine TkI ?_
     refine TkA ?_
     refine aE (⟨bx,0,none⟩) (.int .i64 6) rfl rfl rfl (fun w' hw' =>aG (aU _) (aA ((hw'.block bx hbxW).trans R0.out) 0 _ rfl)) ?_
     refine TkI ?_
     refine TkA ?_
     refine aE (⟨bx,0,none⟩) (.int .i64 6) rfl rfl rfl (fun w' hw' =>aG (aU _) (aA ((hw'.block bx hbxW).trans R0.out) 0 _ rfl)) ?_
     refine TkI ?_
     refine TkA ?_
     refine aE (⟨bx,0,none⟩) (.int .i64 6) rfl rfl rfl (fun w' hw' =>aG (aU _) (aA ((hw'.block bx hbxW).trans R0.out) 0 _ rfl)) ?_
     refine TkI ?_
     refine TkA ?_
     refine aE (⟨bx,0,none⟩) (.int .i64 6) rfl rfl rfl (fun w' hw' =>aG (aU _) (aA ((hw'.block bx hbxW).trans R0.out) 0 _ rfl)) ?_
     refine TkI ?_
     refine TkA ?_
     refine aZ ?_
     obtain ⟨w1,hw1⟩:∃w1,w1=W.drew:=⟨_,rfl⟩
     rw [←hw1]
     have y1:Below W.heap.size W w1:=by rw [hw1];exact (Below.refl _ W).drew
     clear hw1
     have Rw1:=Lib.hid ((y1.block bx hbxW).trans R0.out)
     have cw10:w1.cell? ⟨bx,0,none⟩=some (.int .i64 6):=aA Rw1.out 0 _ rfl
     have cw11:w1.cell? ⟨bx,1,none⟩=some (.string (ByteArray.mk #[])):=aA Rw1.out 1 _ rfl
     have cw12:w1.cell? ⟨bx,2,none⟩=some (.int .i64 0):=aA Rw1.out 2 _ rfl
     have cw13:w1.cell? ⟨bx,3,none⟩=some (.int .i64 0):=aA Rw1.out 3 _ rfl
     obtain ⟨w2,hw2⟩:∃w2,w2=w1:=⟨_,rfl⟩
     subst hw2
     go_wp2_with (refine aD (t:=244) (A:=⟨bx,10,none⟩) rfl rfl rfl (cK (y:=vx) Rw1.out rfl) ?_)
     refine (HVL.out _ y1).mono ?_
     rintro e w3 ⟨rfl,b3⟩
     have y3:=Below.ext y1 b3
     have Rw3:=Lib.hid ((y3.block bx hbxW).trans R0.out)
     have cw30:w3.cell? ⟨bx,0,none⟩=some (.int .i64 6):=aA Rw3.out 0 _ rfl
     have cw316:w3.cell? ⟨bx,16,none⟩=some (.slice xA 0 xc):=aA Rw3.out 16 _ rfl
     have cw317:w3.cell? ⟨bx,17,none⟩=some (.slice xB 0 xd):=aA Rw3.out 17 _ rfl
     go_wp2_with (refine aD (t:=244) (A:=⟨bx,4,none⟩) rfl rfl rfl (cK (y:=⟨0,0,ByteArray.mk #[],0,0,pA,0,pc⟩) Rw3.out rfl) ?_)
     refine (mP pA pc w3).mono ?_
     rintro e w4 ⟨rfl,b4⟩
     have y4:=Below.ext y3 b4
     have Rw4:=Lib.hid ((y4.block bx hbxW).trans R0.out)
     have cw40:w4.cell? ⟨bx,0,none⟩=some (.int .i64 6):=aA Rw4.out 0 _ rfl
     have cw416:w4.cell? ⟨bx,16,none⟩=some (.slice xA 0 xc):=aA Rw4.out 16 _ rfl
     exact Tzaj
    ·obtain ⟨rfl,rfl,rfl,rfl,rfl,hpa⟩:=hpl
     dsimp only at*
     obtain rfl:pn=0:=by have:=hpa.len.1;simpa using this.symm
     obtain ⟨W,hW,bW,kW,SW,R0⟩:=bP wr wr #[.int .i64 3,.string (ByteArray.mk #[]),.int .i64 0,.int .i64 0,.int .i64 0,.int .i64 0,.string (ByteArray.mk #[]),.int .i64 0,.int .i64 0,.slice pA 0 pc,.int .i64 vx.op,.int .i64 vx.val,.string vx.name,.int .i64 vx.slot,.int .i64 vx.size,.slice vx.A vx.n vx.c,.slice xA xn xc,.slice xB xm2 xd] 246 (Below.refl _ _)
     obtain ⟨bx,hbx⟩:∃b,b=wr.heap.size:=⟨_,rfl⟩
     rw [←hbx] at R0
     have HBX:=Lib.hid hbx
     have hbxW:bx<W.heap.size:=by have:=SW.out;omega
     have yW:=Below.ext hb kW
     have HVL:=Lib.hid (fun (w' :World) (h:Below W.heap.size W w')=>fX 3 vx value _ w' (ExOk.keep (Keep.of_below (Below.ext yW h)) _ _ _ hvl) nvl)
     have HB:=Lib.hid (fun (w' :World) (h:Below W.heap.size W w')=>HIH.out n (by omega) xA xn xc _ w' (SmL.ext hbd (Below.ext yW h)) nbd)
     have HE:=Lib.hid (fun (w' :World) (h:Below W.heap.size W w')=>HIH.out n (by omega) xB xm2 xd _ w' (SmL.ext hel (Below.ext yW h)) nel)
     clear hbx hvl hbd hel hcx ht hL hpa
     go_upto_region 5 with (first|(refine aD (t:=246) (A:=⟨ba,oa+k*18,none⟩) rfl rfl rfl (jI HC.out) ?_)|(refine aF rfl 246 _ _ rfl 246 _ #[.int .i64 3,.string (ByteArray.mk #[]),.int .i64 0,.int .i64 0,.int .i64 0,.int .i64 0,.string (ByteArray.mk #[]),.int .i64 0,.int .i64 0,.slice pA 0 pc,.int .i64 vx.op,.int .i64 vx.val,.string vx.name,.int .i64 vx.slot,.int .i64 vx.size,.slice vx.A vx.n vx.c,.slice xA xn xc,.slice xB xm2 xd] rfl rfl (by kernel_rfl) rfl (by simp [Value.oneCell']) ?_))
     try dsimp only
     rw [←hW,←HBX.out]
     clear hW
     try simp only [Act.put]
     go_wp2_with fail
     refine aM ((fun w' =>Below W.heap.size W w')) (by kernel_rfl) (by kernel_rfl) ((Below.refl _ W).drew) ?_
     refine TkA ?_
     refine aE (⟨bx,0,none⟩) (.int .i64 3) rfl rfl rfl (fun w' hw' =>aG (aU _) (aA ((hw'.block bx hbxW).trans R0.out) 0 _ rfl)) ?_
     refine TkI ?_
     refine TkA ?_
     refine aE (⟨bx,0,none⟩) (.int .i64 3) rfl rfl rfl (fun w' hw' =>aG (aU _) (aA ((hw'.block bx hbxW).trans R0.out) 0 _ rfl)) ?_
     refine TkI ?_
     refine TkA ?_
     refine aE (⟨bx,0,none⟩) (.int .i64 3) rfl rfl rfl (fun w' hw' =>aG (aU _) (aA ((hw'.block bx hbxW).trans R0.out) 0 _ rfl)) ?_
     refine TkI ?_
     refine TkA ?_
     refine aE (⟨bx,0,none⟩) (.int .i64 3) rfl rfl rfl (fun w' hw' =>aG (aU _) (aA ((hw'.block bx hbxW).trans R0.out) 0 _ rfl)) ?_
     refine TkI ?_
     refine TkA ?_
     refine aE (⟨bx,0,none⟩) (.int .i64 3) rfl rfl rfl (fun w' hw' =>aG (aU _) (aA ((hw'.block bx hbxW).trans R0.out) 0 _ rfl)) ?_
     refine TkI ?_
     refine TkA ?_
     refine aZ ?_
     obtain ⟨w1,hw1⟩:∃w1,w1=W.drew:=⟨_,rfl⟩
     rw [←hw1]
     have y1:Below W.heap.size W w1:=by rw [hw1];exact (Below.refl _ W).drew
     clear hw1
     have Rw1:=Lib.hid ((y1.block bx hbxW).trans R0.out)
     have cw10:w1.cell? ⟨bx,0,none⟩=some (.int .i64 3):=aA Rw1.out 0 _ rfl
     have cw11:w1.cell? ⟨bx,1,none⟩=some (.string (ByteArray.mk #[])):=aA Rw1.out 1 _ rfl
     have cw12:w1.cell? ⟨bx,2,none⟩=some (.int .i64 0):=aA Rw1.out 2 _ rfl
     have cw13:w1.cell? ⟨bx,3,none⟩=some (.int .i64 0):=aA Rw1.out 3 _ rfl
     obtain ⟨w2,hw2⟩:∃w2,w2=w1:=⟨_,rfl⟩
     subst hw2
     go_wp2_with (refine aD (t:=244) (A:=⟨bx,10,none⟩) rfl rfl rfl (cK (y:=vx) Rw1.out rfl) ?_)
     refine (HVL.out _ y1).mono ?_
     rintro e w3 ⟨rfl,b3⟩
     have y3:=Below.ext y1 b3
     have Rw3:=Lib.hid ((y3.block bx hbxW).trans R0.out)
     have cw30:w3.cell? ⟨bx,0,none⟩=some (.int .i64 3):=aA Rw3.out 0 _ rfl
     have cw316:w3.cell? ⟨bx,16,none⟩=some (.slice xA xn xc):=aA Rw3.out 16 _ rfl
     have cw317:w3.cell? ⟨bx,17,none⟩=some (.slice xB xm2 xd):=aA Rw3.out 17 _ rfl
     go_wp2_with (refine aD (t:=244) (A:=⟨bx,4,none⟩) rfl rfl rfl (cK (y:=⟨0,0,ByteArray.mk #[],0,0,pA,0,pc⟩) Rw3.out rfl) ?_)
     refine (mP pA pc w3).mono ?_
     rintro e w4 ⟨rfl,b4⟩
     have y4:=Below.ext y3 b4
     have Rw4:=Lib.hid ((y4.block bx hbxW).trans R0.out)
     have cw40:w4.cell? ⟨bx,0,none⟩=some (.int .i64 3):=aA Rw4.out 0 _ rfl
     have cw416:w4.cell? ⟨bx,16,none⟩=some (.slice xA xn xc):=aA Rw4.out 16 _ rfl
     have cw417:w4.cell? ⟨bx,17,none⟩=some (.slice xB xm2 xd):=aA Rw4.out 17 _ rfl
     go_wp2_with fail
     refine (HB.out _ y4).mono ?_
     rintro e w5 ⟨rfl,b5⟩
     have y5:=Below.ext y4 b5
     have Rw5:=Lib.hid ((y5.block bx hbxW).trans R0.out)
     have cw517:w5.cell? ⟨bx,17,none⟩=some (.slice xB xm2 xd):=aA Rw5.out 17 _ rfl
     go_wp2_with fail
     refine (HE.out _ y5).mono ?_
     rintro e w6 ⟨rfl,b6⟩
     go_wp2
     go_roundw
     case rel=>exact ⟨k+1,by go_num,by omega,Below.ext yW (Below.ext y5 b6)⟩
     case measure=>simp [intOf];omega
    ·obtain ⟨rfl,rfl,rfl,rfl,rfl,hpa⟩:=hpl
     dsimp only at*
     obtain rfl:pn=0:=by have:=hpa.len.1;simpa using this.symm
     obtain rfl:xm2=0:=by have:=hel.len.1;simpa using this.symm
     obtain ⟨W,hW,bW,kW,SW,R0⟩:=bP wr wr #[.int .i64 4,.string (ByteArray.mk #[]),.int .i64 0,.int .i64 0,.int .i64 0,.int .i64 0,.string (ByteArray.mk #[]),.int .i64 0,.int .i64 0,.slice pA 0 pc,.int .i64 vx.op,.int .i64 vx.val,.string vx.name,.int .i64 vx.slot,.int .i64 vx.size,.slice vx.A vx.n vx.c,.slice xA xn xc,.slice xB 0 xd] 246 (Below.refl _ _)
     obtain ⟨bx,hbx⟩:∃b,b=wr.heap.size:=⟨_,rfl⟩
     rw [←hbx] at R0
     have HBX:=Lib.hid hbx
     have hbxW:bx<W.heap.size:=by have:=SW.out;omega
     have yW:=Below.ext hb kW
     have HVL:=Lib.hid (fun (w' :World) (h:Below W.heap.size W w')=>fX 3 vx value _ w' (ExOk.keep (Keep.of_below (Below.ext yW h)) _ _ _ hvl) nvl)
     have HB:=Lib.hid (fun (w' :World) (h:Below W.heap.size W w')=>HIH.out n (by omega) xA xn xc _ w' (SmL.ext hbd (Below.ext yW h)) nbd)
     have HE:=Lib.hid (fun (w' :World) (h:Below W.heap.size W w')=>HIH.out n (by omega) xB 0 xd _ w' (SmL.ext hel (Below.ext yW h)) nel)
     clear hbx hvl hbd hel hcx ht hL hpa
     go_upto_region 5 with (first|(refine aD (t:=246) (A:=⟨ba,oa+k*18,none⟩) rfl rfl rfl (jI HC.out) ?_)|(refine aF rfl 246 _ _ rfl 246 _ #[.int .i64 4,.string (ByteArray.mk #[]),.int .i64 0,.int .i64 0,.int .i64 0,.int .i64 0,.string (ByteArray.mk #[]),.int .i64 0,.int .i64 0,.slice pA 0 pc,.int .i64 vx.op,.int .i64 vx.val,.string vx.name,.int .i64 vx.slot,.int .i64 vx.size,.slice vx.A vx.n vx.c,.slice xA xn xc,.slice xB 0 xd] rfl rfl (by kernel_rfl) rfl (by simp [Value.oneCell']) ?_))
     try dsimp only
     rw [←hW,←HBX.out]
     clear hW
     try simp only [Act.put]
     go_wp2_with fail
     refine aM ((fun w' =>Below W.heap.size W w')) (by kernel_rfl) (by kernel_rfl) ((Below.refl _ W).drew) ?_
     refine TkA ?_
     refine aE (⟨bx,0,none⟩) (.int .i64 4) rfl rfl rfl (fun w' hw' =>aG (aU _) (aA ((hw'.block bx hbxW).trans R0.out) 0 _ rfl)) ?_
     refine TkI ?_
     refine TkA ?_
     refine aE (⟨bx,0,none⟩) (.int .i64 4) rfl rfl rfl (fun w' hw' =>aG (aU _) (aA ((hw'.block bx hbxW).trans R0.out) 0 _ rfl)) ?_
     refine TkI ?_
     refine TkA ?_
     refine aE (⟨bx,0,none⟩) (.int .i64 4) rfl rfl rfl (fun w' hw' =>aG (aU _) (aA ((hw'.block bx hbxW).trans R0.out) 0 _ rfl)) ?_
     refine TkI ?_
     refine TkA ?_
     refine aE (⟨bx,0,none⟩) (.int .i64 4) rfl rfl rfl (fun w' hw' =>aG (aU _) (aA ((hw'.block bx hbxW).trans R0.out) 0 _ rfl)) ?_
     refine TkI ?_
     refine TkA ?_
     refine aE (⟨bx,0,none⟩) (.int .i64 4) rfl rfl rfl (fun w' hw' =>aG (aU _) (aA ((hw'.block bx hbxW).trans R0.out) 0 _ rfl)) ?_
     refine TkI ?_
     refine TkA ?_
     refine aE (⟨bx,0,none⟩) (.int .i64 4) rfl rfl rfl (fun w' hw' =>aG (aU _) (aA ((hw'.block bx hbxW).trans R0.out) 0 _ rfl)) ?_
     refine TkI ?_
     refine TkA ?_
     refine aZ ?_
     obtain ⟨w1,hw1⟩:∃w1,w1=W.drew:=⟨_,rfl⟩
     rw [←hw1]
     have y1:Below W.heap.size W w1:=by rw [hw1];exact (Below.refl _ W).drew
     clear hw1
     have Rw1:=Lib.hid ((y1.block bx hbxW).trans R0.out)
     have cw10:w1.cell? ⟨bx,0,none⟩=some (.int .i64 4):=aA Rw1.out 0 _ rfl
     have cw11:w1.cell? ⟨bx,1,none⟩=some (.string (ByteArray.mk #[])):=aA Rw1.out 1 _ rfl
     have cw12:w1.cell? ⟨bx,2,none⟩=some (.int .i64 0):=aA Rw1.out 2 _ rfl
     have cw13:w1.cell? ⟨bx,3,none⟩=some (.int .i64 0):=aA Rw1.out 3 _ rfl
     obtain ⟨w2,hw2⟩:∃w2,w2=w1:=⟨_,rfl⟩
     subst hw2
     go_wp2_with (refine aD (t:=244) (A:=⟨bx,10,none⟩) rfl rfl rfl (cK (y:=vx) Rw1.out rfl) ?_)
     refine (HVL.out _ y1).mono ?_
     rintro e w3 ⟨rfl,b3⟩
     have y3:=Below.ext y1 b3
     have Rw3:=Lib.hid ((y3.block bx hbxW).trans R0.out)
     have cw30:w3.cell? ⟨bx,0,none⟩=some (.int .i64 4):=aA Rw3.out 0 _ rfl
     have cw316:w3.cell? ⟨bx,16,none⟩=some (.slice xA xn xc):=aA Rw3.out 16 _ rfl
     have cw317:w3.cell? ⟨bx,17,none⟩=some (.slice xB 0 xd):=aA Rw3.out 17 _ rfl
     go_wp2_with (refine aD (t:=244) (A:=⟨bx,4,none⟩) rfl rfl rfl (cK (y:=⟨0,0,ByteArray.mk #[],0,0,pA,0,pc⟩) Rw3.out rfl) ?_)
     refine (mP pA pc w3).mono ?_
     rintro e w4 ⟨rfl,b4⟩
     have y4:=Below.ext y3 b4
     have Rw4:=Lib.hid ((y4.block bx hbxW).trans R0.out)
     have cw40:w4.cell? ⟨bx,0,none⟩=some (.int .i64 4):=aA Rw4.out 0 _ rfl
     have cw416:w4.cell? ⟨bx,16,none⟩=some (.slice xA xn xc):=aA Rw4.out 16 _ rfl
     exact Tzaj
  ·obtain rfl:k=m:=by omega
   go_wp2
   go_ret
   exact ⟨rfl,hb⟩
theorem nF:∀(n:Nat),wF n:=fun n=>Nat.strongRecOn n fun n ih=>CP n ih
end Go.Proofs.YtiblijmngokcgaaGreatDoor
namespace Go.Proofs.YtiblijmngokcgaaGreatDoor
open Go.RowKit
set_option maxRecDepth 100000
set_option linter.unusedVariables false
set_option linter.unusedSimpArgs false
structure PrM (w:World) (p:Prg) (V:Nat) (A1:Option Addr) (m1 c1:Nat) (A2:Option Addr) (m2 c2:Nat) (A3:Option Addr) (m3 c3:Nat) (A4:Option Addr) (m4 c4:Nat):Prop where
 var:w.heap[V]? =some (.cells (eC p.i p.s p.k) 199 (0,0))
 st:SmL 3 w (.slice A1 m1 c1) p.st
 me:SmL 3 w (.slice A2 m2 c2) p.me
 ti:SmL 3 w (.slice A3 m3 c3) p.ti
 inp:SmL 3 w (.slice A4 m4 c4) p.inp
theorem PrM.vlt {w:World} {p:Prg} {V:Nat} {A1:Option Addr} {m1 c1:Nat} {A2:Option Addr} {m2 c2:Nat} {A3:Option Addr} {m3 c3:Nat} {A4:Option Addr} {m4 c4:Nat} (h:PrM w p V A1 m1 c1 A2 m2 c2 A3 m3 c3 A4 m4 c4):V<w.heap.size:=(Array.getElem?_eq_some_iff.1 h.var).1
theorem PrM.ext {w w' :World} {p:Prg} {V:Nat} {A1:Option Addr} {m1 c1:Nat} {A2:Option Addr} {m2 c2:Nat} {A3:Option Addr} {m3 c3:Nat} {A4:Option Addr} {m4 c4:Nat} (h:PrM w p V A1 m1 c1 A2 m2 c2 A3 m3 c3 A4 m4 c4) (hb:Below w.heap.size w w'):PrM w' p V A1 m1 c1 A2 m2 c2 A3 m3 c3 A4 m4 c4:=
 ⟨(hb.block V h.vlt).trans h.var,h.st.ext hb,h.me.ext hb,h.ti.ext hb,h.inp.ext hb⟩
theorem PrM.of {S:Nat→Prop} {w:World} {v:Value} {p:Prg} (h:IE S w v p):∃V A1 m1 c1 A2 m2 c2 A3 m3 c3 A4 m4 c4,v= .agg #[.slice (some ⟨V,0,none⟩) 5 5,.slice A1 m1 c1,.slice A2 m2 c2,.slice A3 m3 c3,.slice A4 m4 c4]∧PrM w p V A1 m1 c1 A2 m2 c2 A3 m3 c3 A4 m4 c4:=by
 obtain ⟨V,A1,m1,c1,A2,m2,c2,A3,m3,c3,A4,m4,c4,rfl,_,hv,h1,h2,h3,h4⟩:=h
 have mn:∀{v ts},fA S w v ts→SmL 3 w v ts:=fun h=>LsOk.mono h (fun b hb _=>hb) (fun x t h=>SmOk.mono (fun b hb _=>hb) 3 x t h)
 exact ⟨V,A1,m1,c1,A2,m2,c2,A3,m3,c3,A4,m4,c4,rfl,hv,mn h1,mn h2,mn h3,mn h4⟩
set_option maxHeartbeats 4000000 in
theorem CY (w:World) (p:Prg) (V:Nat) (A1:Option Addr) (m1 c1:Nat) (A2:Option Addr) (m2 c2:Nat) (A3:Option Addr) (m3 c3:Nat) (A4:Option Addr) (m4 c4:Nat) (hP:PrM w p V A1 m1 c1 A2 m2 c2 A3 m3 c3 A4 m4 c4) (hI:PrgIn p):
 Calls Tryz.prog 184 #[.agg #[.slice (some ⟨V,0,none⟩) 5 5,.slice A1 m1 c1,.slice A2 m2 c2,.slice A3 m3 c3,.slice A4 m4 c4]] w fun e w' =>∃d:Int,e= .returned (.int .i64 d)∧0≤d∧d≤6∧Below w.heap.size w w' :=by
 obtain ⟨W,hW,bW,kW,SW,R0⟩:=bP w w #[.slice (some ⟨V,0,none⟩) 5 5,.slice A1 m1 c1,.slice A2 m2 c2,.slice A3 m3 c3,.slice A4 m4 c4] 145 (Below.refl _ _)
 have hlt:w.heap.size<W.heap.size:=by have:=SW.out;omega
 have HR:=Lib.hid (fun (w' :World) (h:Below W.heap.size W w')=>(h.block w.heap.size hlt).trans R0.out)
 have H1:=Lib.hid (fun (w' :World) (h:Below W.heap.size W w')=>mX 3 (by omega) A1 m1 c1 p.st w' (hP.st.ext (Below.ext bW h)) (fun s hs=>NmS.of (hI.st s hs)))
 have H2:=Lib.hid (fun (w' :World) (h:Below W.heap.size W w')=>mX 3 (by omega) A2 m2 c2 p.me w' (hP.me.ext (Below.ext bW h)) (fun s hs=>NmS.of (hI.me s hs)))
 have H3:=Lib.hid (fun (w' :World) (h:Below W.heap.size W w')=>mX 3 (by omega) A3 m3 c3 p.ti w' (hP.ti.ext (Below.ext bW h)) (fun s hs=>NmS.of (hI.ti s hs)))
 have H4:=Lib.hid (fun (w' :World) (h:Below W.heap.size W w')=>mX 3 (by omega) A4 m4 c4 p.inp w' (hP.inp.ext (Below.ext bW h)) (fun s hs=>NmS.of (hI.inp s hs)))
 clear hP R0
 go_enter Tryz.func184,Tryz.ntmps184
 go_upto_region 1 with fail
 rw [←hW]
 clear hW
 have y0:Below W.heap.size W W.drew:=(Below.refl _ W).drew
 go_wp2_with fail
 refine aM ((fun w' =>Below W.heap.size W w')) (by kernel_rfl) (by kernel_rfl) ((Below.refl _ W).drew) ?_
 refine TkA ?_
 refine aE (⟨w.heap.size,1,none⟩) (.slice A1 m1 c1) rfl rfl rfl (fun w' hw' =>aG (kO _) (aA (HR.out w' hw') 1 _ rfl)) ?_
 refine TkI ?_
 refine TkA ?_
 refine aL rfl ?_
 go_wp2_with fail
 refine (H1.out _ y0).mono ?_
 rintro e w1 ⟨d1,rfl,g1,l1,b1⟩
 have y1:=Below.ext y0 b1
 go_wp2_with fail
 refine aI (y1) ?_
 refine TkA ?_
 refine aE (⟨w.heap.size,2,none⟩) (.slice A2 m2 c2) rfl rfl rfl (fun w' hw' =>aG (kO _) (aA (HR.out w' hw') 2 _ rfl)) ?_
 refine TkI ?_
 refine TkA ?_
 refine aL rfl ?_
 go_wp2_with fail
 refine (H2.out _ y1).mono ?_
 rintro e w2 ⟨d2,rfl,g2,l2,b2⟩
 have y2:=Below.ext y1 b2
 go_wp2_with fail
 refine aI (y2) ?_
 refine TkA ?_
 refine aE (⟨w.heap.size,3,none⟩) (.slice A3 m3 c3) rfl rfl rfl (fun w' hw' =>aG (kO _) (aA (HR.out w' hw') 3 _ rfl)) ?_
 refine TkI ?_
 refine TkA ?_
 refine aL rfl ?_
 go_wp2_with fail
 refine (H3.out _ y2).mono ?_
 rintro e w3 ⟨d3,rfl,g3,l3,b3⟩
 have y3:=Below.ext y2 b3
 go_wp2_with fail
 refine aI (y3) ?_
 refine TkA ?_
 refine aE (⟨w.heap.size,4,none⟩) (.slice A4 m4 c4) rfl rfl rfl (fun w' hw' =>aG (kO _) (aA (HR.out w' hw') 4 _ rfl)) ?_
 refine TkI ?_
 refine TkA ?_
 refine aL rfl ?_
 go_wp2_with fail
 refine (H4.out _ y3).mono ?_
 rintro e w4 ⟨d4,rfl,g4,l4,b4⟩
 have y4:=Below.ext y3 b4
 go_wp2_with fail
 refine aI (y4) ?_
 refine TkA ?_
 refine tB rfl rfl rfl rfl rfl rfl ?_
 refine TkI ?_
 have hmx:0≤mx4 d1 d2 d3 d4∧mx4 d1 d2 d3 d4≤6:=by unfold mx4;omega
 obtain ⟨dm,hdm⟩:∃dm,dm=mx4 d1 d2 d3 d4:=⟨_,rfl⟩
 rw [←hdm] at hmx ⊢
 clear hdm
 obtain ⟨hm0,hm1⟩:=hmx
 refine TkA ?_
 refine aZ ?_
 go_wp2_with fail
 go_wp2
 go_ret
 exact ⟨dm,rfl,hm0,hm1,Below.ext bW y4⟩
theorem KJ {i s k:Int} (h1:1≤s) (h5:s≤5) (hi1: -2≤i) (hi2:i≤4) (hk1:0≤k) (hk2:k≤2) {j:Nat} (hj:j<5):∃(c:UInt8) (z y:Int),zF c∧0≤z∧z≤5∧(z=0∨y=0)∧-2≤y∧y≤4∧((eC i s k).toList.drop (j*3)).take 3=[.string (ByteArray.mk #[c]),.int .i64 z,.int .i64 y]:=by
 have:j=0∨j=1∨j=2∨j=3∨j=4:=by omega
 rcases this with rfl|rfl|rfl|rfl|rfl
 ·exact ⟨120,0,i,.inr (.inr (.inl rfl)),by omega,by omega,.inl rfl,hi1,hi2,rfl⟩
 ·exact ⟨97,s,0,.inl rfl,by omega,by omega,.inr rfl,by omega,by omega,rfl⟩
 ·exact ⟨121,0,0,.inr (.inr (.inr (.inl rfl))),by omega,by omega,.inl rfl,by omega,by omega,rfl⟩
 ·exact ⟨122,0,k,.inr (.inr (.inr (.inr rfl))),by omega,by omega,.inl rfl,by omega,by omega,rfl⟩
 ·exact ⟨98,2,0,.inr (.inl rfl),by omega,by omega,.inr rfl,by omega,by omega,rfl⟩
set_option maxHeartbeats 8000000 in
theorem DD (w:World) (p:Prg) (V:Nat) (A1:Option Addr) (m1 c1:Nat) (A2:Option Addr) (m2 c2:Nat) (A3:Option Addr) (m3 c3:Nat) (A4:Option Addr) (m4 c4:Nat) (hP:PrM w p V A1 m1 c1 A2 m2 c2 A3 m3 c3 A4 m4 c4) (hI:PrgIn p):
 Calls Tryz.prog 152 #[.agg #[.slice (some ⟨V,0,none⟩) 5 5,.slice A1 m1 c1,.slice A2 m2 c2,.slice A3 m3 c3,.slice A4 m4 c4]] w fun e w' =>e= .returned (.int .i64 0)∧Below w.heap.size w w' :=by
 obtain ⟨W,hW,bW,kW,SW,R0⟩:=bP w w #[.slice (some ⟨V,0,none⟩) 5 5,.slice A1 m1 c1,.slice A2 m2 c2,.slice A3 m3 c3,.slice A4 m4 c4] 145 (Below.refl _ _)
 have hlt:w.heap.size<W.heap.size:=by have:=SW.out;omega
 have HP:=Lib.hid (fun (w' :World) (h:Below W.heap.size W w')=>hP.ext (Below.ext bW h))
 have HR:=Lib.hid (fun (w' :World) (h:Below W.heap.size W w')=>(h.block w.heap.size hlt).trans R0.out)
 have HI:=Lib.hid hI
 have hDp:=Lib.hid (CY W p V A1 m1 c1 A2 m2 c2 A3 m3 c3 A4 m4 c4 (HP.out W (Below.refl _ _)) hI)
 clear hP hI
 go_enter Tryz.func152,Tryz.ntmps152
 go_upto_region 1 with fail
 rw [←hW]
 clear hW
 go_wp2_with (refine aD (t:=145) (A:=⟨w.heap.size,0,none⟩) rfl rfl rfl (aB R0.out Tryz.underlying145 rfl (by kernel_rfl)) ?_)
 refine hDp.out.mono ?_
 rintro e w1 ⟨d,rfl,hd0,hd6,b1⟩
 have d7:decide (16<d)=false:=by simp;omega
 have q1:w1.cell? ⟨w.heap.size,0,none⟩=some (.slice (some ⟨V,0,none⟩) 5 5):=aA (HR.out w1 b1) 0 _ rfl
 clear hd0 hd6 R0
 go_wp2
 go_loopw [3] (fun a wr=>∃j:Nat,a= .int .i64 j∧j≤5∧Below W.heap.size W wr) (fun a _=>5-(intOf a).toNat)
 case atStart=>exact ⟨0,rfl,by omega,b1⟩
 case round=>
  obtain ⟨j,rfl,hj,hb⟩:=hrel
  have qr:wr.cell? ⟨w.heap.size,0,none⟩=some (.slice (some ⟨V,0,none⟩) 5 5):=aA (HR.out wr hb) 0 _ rfl
  by_cases hl:j<5
  ·have hp0:=HP.out wr hb
   have hi0:=HI.out
   obtain ⟨c,z,y,hc5,hz0,hz5,hzy,hy1,hy2,hrow⟩:=KJ hi0.s1 hi0.s2 hi0.i1 hi0.i2 hi0.k1 hi0.k2 hl
   have RV:=Lib.hid hp0.var
   have hld:=Lib.hid (eT (o:=j*3) (nm:=ByteArray.mk #[c]) (z:=z) (y:=y) hp0.var hrow)
   clear hp0 hi0 hrow
   obtain ⟨W2,hW2,b2,k2,S2,R2⟩:=bP wr wr #[.string (ByteArray.mk #[c]),.int .i64 z,.int .i64 y] 199 (Below.refl _ _)
   obtain ⟨bx,hbx⟩:∃b,b=wr.heap.size:=⟨_,rfl⟩
   rw [←hbx] at R2
   have HBX:=Lib.hid hbx
   have e0:W2.cell? ⟨bx,0,none⟩=some (.string (ByteArray.mk #[c])):=aA R2.out 0 _ rfl
   have e1:W2.cell? ⟨bx,1,none⟩=some (.int .i64 z):=aA R2.out 1 _ rfl
   have e2:W2.cell? ⟨bx,2,none⟩=some (.int .i64 y):=aA R2.out 2 _ rfl
   clear hbx
   have f1:decide (z<0)=false:=by simp;omega
   have f2:(y== -9223372036854775808)=false:=by simp;omega
   go_upto_region 7 with (first|(refine aD (t:=199) (A:=⟨V,j*3,none⟩) rfl rfl rfl hld.out ?_)|(refine aF rfl 199 _ _ rfl 199 _ #[.string (ByteArray.mk #[c]),.int .i64 z,.int .i64 y] rfl rfl (by kernel_rfl) rfl (by simp [Value.oneCell']) ?_))
   try dsimp only
   rw [←hW2,←HBX.out]
   clear hW2
   try simp only [Act.put]
   go_wp2_with fail
   refine (jO c hc5 W2).mono ?_
   rintro e w3 ⟨rfl,rfl⟩
   have bend:Below W.heap.size W w3:=Below.ext hb k2
   clear hc5
   by_cases hz:z=0
   ·have f3:(z != 0)=false:=by simp [hz]
    exact Tzdb
   ·have f3:(z != 0)=true:=by simpa using hz
    obtain rfl:y=0:=hzy.resolve_left hz
    exact Tzdb
  ·obtain rfl:j=5:=by omega
   have y0:=hb
   have q2:wr.cell? ⟨w.heap.size,1,none⟩=some (.slice A1 m1 c1):=aA (HR.out wr y0) 1 _ rfl
   have h1:=Lib.hid (nF 3 A1 m1 c1 p.st wr (HP.out wr y0).st HI.out.st)
   go_wp2_with fail
   refine h1.out.mono ?_
   rintro e x1 ⟨rfl,z1⟩
   have y1:=Below.ext y0 z1
   have q3:x1.cell? ⟨w.heap.size,2,none⟩=some (.slice A2 m2 c2):=aA (HR.out x1 y1) 2 _ rfl
   have h2:=Lib.hid (nF 3 A2 m2 c2 p.me x1 (HP.out x1 y1).me HI.out.me)
   go_wp2_with fail
   refine h2.out.mono ?_
   rintro e x2 ⟨rfl,z2⟩
   have y2:=Below.ext y1 z2
   have q4:x2.cell? ⟨w.heap.size,3,none⟩=some (.slice A3 m3 c3):=aA (HR.out x2 y2) 3 _ rfl
   have h3:=Lib.hid (nF 3 A3 m3 c3 p.ti x2 (HP.out x2 y2).ti HI.out.ti)
   go_wp2_with fail
   refine h3.out.mono ?_
   rintro e x3 ⟨rfl,z3⟩
   have y3:=Below.ext y2 z3
   have q5:x3.cell? ⟨w.heap.size,4,none⟩=some (.slice A4 m4 c4):=aA (HR.out x3 y3) 4 _ rfl
   have h4:=Lib.hid (nF 3 A4 m4 c4 p.inp x3 (HP.out x3 y3).inp HI.out.inp)
   go_wp2_with fail
   refine h4.out.mono ?_
   rintro e x4 ⟨rfl,z4⟩
   have y4:=Below.ext y3 z4
   go_wp2
   go_ret
   exact ⟨rfl,Below.ext bW y4⟩
end Go.Proofs.YtiblijmngokcgaaGreatDoor
