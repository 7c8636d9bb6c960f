import Derived.Test.YtiblijmngokcgaaGreatDoorMacZs
import Derived.Test.YtiblijmngokcgaaGreatDoorCkIZs
import Derived.Deep.MidRow
namespace Go.Proofs.YtiblijmngokcgaaGreatDoor
open Go.RowKit
set_option maxRecDepth 100000
set_option linter.unusedVariables false
set_option linter.unusedSimpArgs false
theorem iF {w:World} {b o:Nat} {cs:Array Value} {e:TypeId} (h:w.heap[b]? =some (.cells cs e (0,0))) (a0 a1 a2 a3 a4 a5:Value):(w.setCells b o [a0,a1,a2,a3,a4,a5]).heap[b]? =some (.cells ((((((cs.setIfInBounds o a0).setIfInBounds (o+1) a1).setIfInBounds (o+2) a2).setIfInBounds (o+3) a3).setIfInBounds (o+4) a4).setIfInBounds (o+5) a5) e (0,0)):=by
 simp only [World.setCells]
 exact heap_setCell_same _ _ _ _ _ _ (heap_setCell_same _ _ _ _ _ _ (heap_setCell_same _ _ _ _ _ _ (heap_setCell_same _ _ _ _ _ _ (heap_setCell_same _ _ _ _ _ _ (heap_setCell_same _ _ _ _ _ _ h)))))
theorem eW (w:World) (b o:Nat) (a0 a1 a2 a3 a4 a5:Value):w.grownBy (w.setCells b o [a0,a1,a2,a3,a4,a5]) (some b):=by
 simp only [World.setCells]
 exact aO (aO (aO (aO (aO (aO (bC _ _))))))
theorem mH {w:World} {b o n:Nat} {cs:Array Value} {e:TypeId} (h:w.heap[b]? =some (.cells cs e (0,0))) (hn:o+n≤cs.size):w.there b o n:=fun j hj=>by
 refine ⟨?_,frozen_of_row _ _ _ _ _ h⟩
 rw [cell_of_row _ _ _ _ _ _ h,Array.getElem?_eq_getElem (by omega)]
 rfl
theorem Below.grown2 {B g:Nat} {a b c d:World} (h:Below B a b) (hg:b.grownBy c (some g)) (hd:Below c.heap.size c d) (hB:B≤g) (hs:B≤a.heap.size):Below B a d:=
 have hb:=h.size
 Below.trans (h.grown hg (by omega) (fun o e=>by cases e;exact hB)) (hd.mono (by have:=hg.size;omega))
theorem DrS.lens {n:Nat} {kind:Int} {name:ByteArray} {slot size:Int} {place value:Ex} {body els:List Sm} (h:DrS (n+1) (.mk kind name slot size place value body els)):body.length≤10∧els.length≤10:=by
 obtain ⟨h1,h2,h3,h4,h5,h6⟩:=h
 rcases h6 with ⟨_,_,_,rfl,rfl⟩|⟨_,_,_,rfl,rfl⟩|⟨_,_,_,rfl,rfl⟩|⟨_,_,_,rfl,rfl⟩|⟨_,_,_,h,h'⟩|⟨_,_,_,rfl,h⟩
 all_goals simp_all
def zQ (n:Nat):Prop:=∀(A:Option Addr) (m c:Nat) (ts:List Sm) (w:World) (V:Nat) (i s k:Int),1≤s→s≤5→w.heap[V]? =some (.cells (eC i s k) 199 (0,0))→SmL n w (.slice A m c) ts→(∀s∈ts,DrS n s)→m≤10→
 Calls Tryz.prog 155 #[.slice (some ⟨V,0,none⟩) 5 5,.slice A m c] w fun e w' =>∃A' m' c' us,e= .returned (.tuple #[.slice A' m' c',.bool true])∧OwLs bM 18 (fun S w=>SmOk n S w) w' w.heap.size 246 (.slice A' m' c') us∧(∀u∈us,RsS n u)∧Below w.heap.size w w'
set_option maxHeartbeats 32000000 in
theorem DN (n:Nat) (ih:∀k,k<n→zQ k):zQ n:=by
 intro A0 m c0 ts w V i s k0 hs1 hs5 hV hL hrs hm10
 have HL:=Lib.hid hL.len.1
 have hlc:=hL.len.2
 have HRS:=Lib.hid hrs
 have HIH:=Lib.hid ih
 have hVl:V<w.heap.size:=(Array.getElem?_eq_some_iff.1 hV).1
 have HVV:=Lib.hid (fun (w' :World) (hb:Below w.heap.size w w')=>(hb.block V hVl).trans hV)
 clear hrs ih hV
 go_enter Tryz.func155,Tryz.ntmps155
 go_wp2
 go_loopw [6,7,8] (fun v o b wr=>∃(k:Nat) (A:Option Addr) (c:Nat) (us:List Sm),v= .slice A k c∧o= .bool true∧b= .int .i64 k∧k≤m∧OwLs bM 18 (fun S w=>SmOk n S w) wr w.heap.size 246 (.slice A k c) us∧RowKit.Hid (∀u∈us,RsS n u)∧Below w.heap.size w wr) (fun _ _ b _=>m-(intOf b).toNat)
 case atStart=>exact ⟨0,none,0,[],rfl,rfl,rfl,by omega,OwLs.nil_ _ _ _ _ _ _,Lib.hid (fun u hu=>by simp at hu),Below.refl _ _⟩
 case round=>
  obtain ⟨k,A,c,us,rfl,rfl,rfl,hk,hO,hus,hb⟩:=hrel
  by_cases hlt:k<m
  ·obtain ⟨ba,oa,x,t,rfl,hSb,hba,ht,hok,hcx⟩:=hL.at_ cS (j:=k) hlt (by omega)
   cases n with
   |zero=>exact hok.elim
   |succ n=>
    have hrt:=HRS.out t (List.mem_of_getElem? ht)
    obtain ⟨kind,name,slot,size,place,value,body,els⟩:=t
    obtain ⟨rfl,rfl,rfl,rfl,hpl,hvl,hbd,hel⟩:=hok
    have hlens:=DrS.lens hrt
    have hDb:=hrt.2.2.2.1
    have hDe:=hrt.2.2.2.2.1
    obtain ⟨hkd,hsl,hsz,npl,nvl,nnm,_,_⟩:=NmS.of hrt
    have nbd:=hDb
    have nel:=hDe
    obtain ⟨xk,xm,xs,xz,⟨po,pv,pm,ps,pz,pA,pn,pc⟩,⟨vo,vv,vm,vs,vz,vA,vn,vc⟩,xA,xn,xc,xB,xm2,xd⟩:=x
    dsimp only at*
    subst hsl hsz
    have HC:=Lib.hid (fun i u h2=>(hb.cell (p:=⟨ba,oa+k*18+i,none⟩) hba).trans (hcx i u h2))
    have hkl:=Lib.hid (show k+1≤1000 by omega)
    clear hcx ht hL hrt hDb hDe
    rcases nnm with ⟨rfl,g⟩|⟨rfl,g⟩|⟨g2,rfl⟩
    ·have HKD:=Lib.hid (show 1≤(1:Int)∧(1:Int)≤6 from ⟨by omega,by omega⟩)
     obtain ⟨W9,hW9,_,k9,S9,R9⟩:=bP wr wr #[.int .i64 1,.string xm,.int .i64 0,.int .i64 0,.int .i64 po,.int .i64 pv,.string pm,.int .i64 ps,.int .i64 pz,.slice pA pn pc,.int .i64 vo,.int .i64 vv,.string vm,.int .i64 vs,.int .i64 vz,.slice vA vn vc,.slice xA xn xc,.slice xB xm2 xd] 246 (Below.refl _ _)
     obtain ⟨b9,hb9_⟩:∃b,b=wr.heap.size:=⟨_,rfl⟩
     rw [←hb9_] at R9
     have HB9:=Lib.hid hb9_
     have q0:W9.cell? ⟨b9,0,none⟩=some (.int .i64 1):=aA R9.out 0 _ rfl
     have h9l:wr.heap.size≤b9:=by omega
     have h9h:b9<W9.heap.size:=by have:=S9.out;omega
     clear hb9_
     go_upto_region 7 with (first|(refine aD (t:=246) (A:=⟨ba,oa+k*18,none⟩) rfl rfl rfl (jI HC.out) ?_)|(refine aF rfl 246 _ _ rfl 246 _ #[.int .i64 1,.string xm,.int .i64 0,.int .i64 0,.int .i64 po,.int .i64 pv,.string pm,.int .i64 ps,.int .i64 pz,.slice pA pn pc,.int .i64 vo,.int .i64 vv,.string vm,.int .i64 vs,.int .i64 vz,.slice vA vn vc,.slice xA xn xc,.slice xB xm2 xd] rfl rfl (by kernel_rfl) rfl (by simp [Value.oneCell']) ?_))
     try dsimp only
     rw [←hW9,←HB9.out]
     clear hW9
     try simp only [Act.put]
     have q1:W9.cell? ⟨b9,1,none⟩=some (.string xm):=aA R9.out 1 _ rfl
     have HLK:=Lib.hid (gQ W9 V i s k0 hs1 hs5 (HVV.out W9 (Below.ext hb k9)) xm (.inl g))
     go_upto_region 8 with fail
     go_wp2_with fail
     refine HLK.out.mono ?_
     rintro e w5 ⟨sl,sz,ok,rfl,hout,b5⟩
     have s5:=b5.size
     have R95:=Lib.hid ((b5.block b9 h9h).trans R9.out)
     obtain rfl:sz=0:=(hout.2.2.1 g).1
     have HSL:=Lib.hid hout.1
     have HSZ:=Lib.hid hout.2.1
     clear hout g
     have q3:w5.cell? ⟨b9,2,none⟩=some (.int .i64 0):=aA R95.out 2 _ rfl
     have f3:w5.frozen? ⟨b9,2,none⟩=false:=frozen_of_row _ _ _ _ _ R95.out
     have R96:=heap_setCell_same _ _ 2 _ _ (.int .i64 sl) R95.out
     have q4:(w5.setCell ⟨b9,2,none⟩ (.int .i64 sl)).cell? ⟨b9,3,none⟩=some (.int .i64 0):=aA R96 3 _ rfl
     have f4:(w5.setCell ⟨b9,2,none⟩ (.int .i64 sl)).frozen? ⟨b9,3,none⟩=false:=frozen_of_row _ _ _ _ _ R96
     obtain ⟨Wc,hWc⟩:∃Wc,Wc=(w5.setCell ⟨b9,2,none⟩ (.int .i64 sl)).setCell ⟨b9,3,none⟩ (.int .i64 0):=⟨_,rfl⟩
     have gc:w5.grownBy Wc (some b9):=by rw [hWc];exact aO (aO (bC _ _))
     have RC9:=Lib.hid (show Wc.heap[b9]? =some (.cells #[.int .i64 1,.string xm,.int .i64 sl,.int .i64 0,.int .i64 po,.int .i64 pv,.string pm,.int .i64 ps,.int .i64 pz,.slice pA pn pc,.int .i64 vo,.int .i64 vv,.string vm,.int .i64 vs,.int .i64 vz,.slice vA vn vc,.slice xA xn xc,.slice xB xm2 xd] 246 (0,0)) by rw [hWc];exact heap_setCell_same _ _ _ _ _ _ R96)
     have ycc:Below wr.heap.size wr Wc:=(Below.ext k9 b5).grown gc (by have:=k9.size;omega) (fun o e=>by cases e;exact h9l)
     clear R96
     have qc0:Wc.cell? ⟨b9,0,none⟩=some (.int .i64 1):=aA RC9.out 0 _ rfl
     go_upto_region 10 with fail
     rw [←hWc]
     clear hWc gc R95 q3 f3 q4 f4 q0 q1 R9
     have hb9:b9<Wc.heap.size:=(Array.getElem?_eq_some_iff.1 RC9.out).1
     have scc:=ycc.size
     have HE1:=Lib.hid (iD 3 ⟨po,pv,pm,ps,pz,pA,pn,pc⟩ place _ Wc V i s k0 hs1 hs5 (HVV.out Wc (Below.ext hb ycc)) (ExOk.keep (Keep.of_below (Below.ext hb ycc)) _ _ _ hpl) npl)
     have HVL:=Lib.hid (fun (w' :World) (h:Below wr.heap.size wr w')=>iD 3 ⟨vo,vv,vm,vs,vz,vA,vn,vc⟩ value _ w' V i s k0 hs1 hs5 (HVV.out w' (Below.ext hb h)) (ExOk.keep (Keep.of_below (Below.ext hb h)) _ _ _ hvl) nvl)
     have HB:=Lib.hid (fun (w' :World) (h:Below wr.heap.size wr w')=>HIH.out n (by omega) xA xn xc body w' V i s k0 hs1 hs5 (HVV.out w' (Below.ext hb h)) (SmL.ext hbd (Below.ext hb h)) nbd (by have:=hbd.len.1;omega))
     have HE:=Lib.hid (fun (w' :World) (h:Below wr.heap.size wr w')=>HIH.out n (by omega) xB xm2 xd els w' V i s k0 hs1 hs5 (HVV.out w' (Below.ext hb h)) (SmL.ext hel (Below.ext hb h)) nel (by have:=hel.len.1;omega))
     clear hpl hvl hbd hel
     go_upto_region 11 with fail
     go_wp2_with (refine aD (t:=244) (A:=⟨b9,4,none⟩) rfl rfl rfl (cK (y:=⟨po,pv,pm,ps,pz,pA,pn,pc⟩) RC9.out rfl) ?_)
     refine HE1.out.mono ?_
     rintro e w11 ⟨z1,u1,rfl,hz1,hr1,b11⟩
     obtain ⟨W11,hW11,_,k11,S11,R13⟩:=bP w11 w11 #[.int .i64 z1.op,.int .i64 z1.val,.string z1.name,.int .i64 z1.slot,.int .i64 z1.size,.slice z1.A z1.n z1.c] 244 (Below.refl _ _)
     obtain ⟨b13,hb13⟩:∃b,b=w11.heap.size:=⟨_,rfl⟩
     rw [←hb13] at R13
     have HB13:=Lib.hid hb13
     have s11:=b11.size
     have g13:b9<b13:=by omega
     have g13W:b13<W11.heap.size:=by have:=S11.out;omega
     have y11:Below Wc.heap.size Wc W11:=Below.ext b11 k11
     have R911:=Lib.hid ((y11.block b9 hb9).trans RC9.out)
     clear hb13
     go_upto_region 12 with (refine aF rfl 244 _ _ rfl 244 _ #[.int .i64 z1.op,.int .i64 z1.val,.string z1.name,.int .i64 z1.slot,.int .i64 z1.size,.slice z1.A z1.n z1.c] rfl rfl (by kernel_rfl) rfl (by simp [Value.oneCell']) ?_)
     try dsimp only
     rw [←hW11,←HB13.out]
     clear hW11
     try simp only [Act.put]
     go_wp2_with (refine aD (t:=244) (A:=⟨b9,10,none⟩) rfl rfl rfl (cK (y:=⟨vo,vv,vm,vs,vz,vA,vn,vc⟩) R911.out rfl) ?_)
     refine (HVL.out W11 (Below.ext ycc y11)).mono ?_
     rintro e w12 ⟨z2,u2,rfl,hz2,hr2,b12⟩
     obtain ⟨W12,hW12,_,k12,S12,R15⟩:=bP w12 w12 #[.int .i64 z2.op,.int .i64 z2.val,.string z2.name,.int .i64 z2.slot,.int .i64 z2.size,.slice z2.A z2.n z2.c] 244 (Below.refl _ _)
     obtain ⟨b15,hb15⟩:∃b,b=w12.heap.size:=⟨_,rfl⟩
     rw [←hb15] at R15
     have HB15:=Lib.hid hb15
     have s12:=b12.size
     have g15:b13<b15:=by omega
     have g15W:b15<W12.heap.size:=by have:=S12.out;omega
     have y12:Below W11.heap.size W11 W12:=Below.ext b12 k12
     have sW11:=y11.size
     have R912:=Lib.hid ((y12.block b9 (by omega)).trans R911.out)
     have R1312:=Lib.hid ((y12.block b13 g13W).trans R13.out)
     have yc12:=Below.ext y11 y12
     clear hb15 R911 R13
     go_upto_region 13 with (refine aF rfl 244 _ _ rfl 244 _ #[.int .i64 z2.op,.int .i64 z2.val,.string z2.name,.int .i64 z2.slot,.int .i64 z2.size,.slice z2.A z2.n z2.c] rfl rfl (by kernel_rfl) rfl (by simp [Value.oneCell']) ?_)
     try dsimp only
     rw [←hW12,←HB15.out]
     clear hW12
     try simp only [Act.put]
     have q16:W12.cell? ⟨b9,16,none⟩=some (.slice xA xn xc):=aA R912.out 16 _ rfl
     go_wp2_with fail
     refine (HB.out W12 (Below.ext ycc yc12)).mono ?_
     rintro e w13 ⟨A3,m3,c3,us3,rfl,hO3,hr3,b13_⟩
     have yc13:=Below.ext yc12 b13_
     have R913:=Lib.hid ((yc13.block b9 hb9).trans RC9.out)
     have q17:w13.cell? ⟨b9,17,none⟩=some (.slice xB xm2 xd):=aA R913.out 17 _ rfl
     go_wp2_with fail
     refine (HE.out w13 (Below.ext ycc yc13)).mono ?_
     rintro e w14 ⟨A4,m4,c4,us4,rfl,hO4,hr4,b14⟩
     have s13:=b13_.size
     have s14:=b14.size
     have sW12:=y12.size
     have yc14:=Below.ext yc13 b14
     have b1314:=Below.ext b13_ b14
     have R914:=Lib.hid ((yc14.block b9 hb9).trans RC9.out)
     have R1314:=Lib.hid ((b1314.block b13 (by omega)).trans R1312.out)
     have R1514:=Lib.hid ((b1314.block b15 g15W).trans R15.out)
     clear R912 R1312 R15 q16 q17 R913
     have hsz14:=Lib.hid (show b15<w14.heap.size by omega)
     have hZ1:=ExOk.keep (Keep.of_below (Below.ext k11 (Below.ext y12 b1314))) _ _ _ hz1
     have hZ2:=ExOk.keep (Keep.of_below (Below.ext k12 b1314)) _ _ _ hz2
     have hO34:=hO3.ext (bF n) b14
     clear hz1 hz2 hO3
     go_upto_region 15 with fail
     go_wp2_with fail
     refine aM ((fun w' =>w'.heap[b13]? =some (.cells #[.int .i64 z1.op,.int .i64 z1.val,.string z1.name,.int .i64 z1.slot,.int .i64 z1.size,.slice z1.A z1.n z1.c] 244 (0,0))∧w'.heap[b15]? =some (.cells #[.int .i64 z2.op,.int .i64 z2.val,.string z2.name,.int .i64 z2.slot,.int .i64 z2.size,.slice z2.A z2.n z2.c] 244 (0,0)))) (by kernel_rfl) (by kernel_rfl) (⟨R1314.out,R1514.out⟩) ?_
     refine TkA ?_
     refine aE (⟨b13,0,none⟩) (.agg #[.int .i64 z1.op,.int .i64 z1.val,.string z1.name,.int .i64 z1.slot,.int .i64 z1.size,.slice z1.A z1.n z1.c]) rfl rfl rfl (fun w' hw' =>aB hw'.1 Tryz.underlying244 rfl (by kernel_rfl)) ?_
     refine TkI ?_
     refine TkA ?_
     refine aE (⟨b15,0,none⟩) (.agg #[.int .i64 z2.op,.int .i64 z2.val,.string z2.name,.int .i64 z2.slot,.int .i64 z2.size,.slice z2.A z2.n z2.c]) rfl rfl rfl (fun w' hw' =>aB hw'.2 Tryz.underlying244 rfl (by kernel_rfl)) ?_
     refine TkI ?_
     refine TkA ?_
     obtain ⟨v0,hv0⟩:∃v0,v0=w14.drew:=⟨_,rfl⟩
     have y0:Below w14.heap.size w14 v0:=by rw [hv0];exact (Below.refl _ w14).drew
     have R90:=Lib.hid ((y0.block b9 (by omega)).trans R914.out)
     have R130:=Lib.hid ((y0.block b13 (by omega)).trans R1314.out)
     have R150:=Lib.hid ((y0.block b15 (by omega)).trans R1514.out)
     rw [←hv0]
     clear hv0 R914 R1314 R1514
     refine aL rfl ?_
     refine wpList_store_mid rfl 244 _ _ rfl b9 4 #[.int .i64 z1.op,.int .i64 z1.val,.string z1.name,.int .i64 z1.slot,.int .i64 z1.size,.slice z1.A z1.n z1.c] rfl rfl (mH R90.out (by simp)) (by kernel_rfl) (by simp [Value.oneCell']) ?_
     obtain ⟨v1,hv1⟩:∃v1,v1=v0.setCells b9 4 [.int .i64 z1.op,.int .i64 z1.val,.string z1.name,.int .i64 z1.slot,.int .i64 z1.size,.slice z1.A z1.n z1.c]:=⟨_,rfl⟩
     have g1:v0.grownBy v1 (some b9):=by rw [hv1];exact eW _ _ _ _ _ _ _ _ _
     have R91:=Lib.hid (show v1.heap[b9]? =some (.cells #[.int .i64 1,.string xm,.int .i64 sl,.int .i64 0,.int .i64 z1.op,.int .i64 z1.val,.string z1.name,.int .i64 z1.slot,.int .i64 z1.size,.slice z1.A z1.n z1.c,.int .i64 vo,.int .i64 vv,.string vm,.int .i64 vs,.int .i64 vz,.slice vA vn vc,.slice xA xn xc,.slice xB xm2 xd] 246 (0,0)) by rw [hv1];exact iF R90.out _ _ _ _ _ _)
     have R131:=Lib.hid ((g1.block b13 (by have:=y0.size;omega) (by simp;omega)).trans R130.out)
     have R151:=Lib.hid ((g1.block b15 (by have:=y0.size;omega) (by simp;omega)).trans R150.out)
     rw [←hv1]
     clear hv1 R90 R130 R150
     refine aI ⟨R131.out,R151.out⟩ ?_
     refine TkI ?_
     refine TkA ?_
     refine aL rfl ?_
     refine wpList_store_mid rfl 244 _ _ rfl b9 10 #[.int .i64 z2.op,.int .i64 z2.val,.string z2.name,.int .i64 z2.slot,.int .i64 z2.size,.slice z2.A z2.n z2.c] rfl rfl (mH R91.out (by simp)) (by kernel_rfl) (by simp [Value.oneCell']) ?_
     obtain ⟨v2,hv2⟩:∃v2,v2=v1.setCells b9 10 [.int .i64 z2.op,.int .i64 z2.val,.string z2.name,.int .i64 z2.slot,.int .i64 z2.size,.slice z2.A z2.n z2.c]:=⟨_,rfl⟩
     have g2:v1.grownBy v2 (some b9):=by rw [hv2];exact eW _ _ _ _ _ _ _ _ _
     have R92:=Lib.hid (show v2.heap[b9]? =some (.cells #[.int .i64 1,.string xm,.int .i64 sl,.int .i64 0,.int .i64 z1.op,.int .i64 z1.val,.string z1.name,.int .i64 z1.slot,.int .i64 z1.size,.slice z1.A z1.n z1.c,.int .i64 z2.op,.int .i64 z2.val,.string z2.name,.int .i64 z2.slot,.int .i64 z2.size,.slice z2.A z2.n z2.c,.slice xA xn xc,.slice xB xm2 xd] 246 (0,0)) by rw [hv2];exact iF R91.out _ _ _ _ _ _)
     have e1s:=g1.size
     have R132:=Lib.hid ((g2.block b13 (by have:=y0.size;omega) (by simp;omega)).trans R131.out)
     have R152:=Lib.hid ((g2.block b15 (by have:=y0.size;omega) (by simp;omega)).trans R151.out)
     rw [←hv2]
     clear hv2 R91 R131 R151
     refine aI ⟨R132.out,R152.out⟩ ?_
     refine TkI ?_
     refine TkA ?_
     have q216:v2.cell? ⟨b9,16,none⟩=some (.slice xA xn xc):=aA R92.out 16 _ rfl
     have f216:v2.frozen? ⟨b9,16,none⟩=false:=frozen_of_row _ _ _ _ _ R92.out
     obtain ⟨v3,hv3⟩:∃v3,v3=v2.setCell ⟨b9,16,none⟩ (.slice A3 m3 c3):=⟨_,rfl⟩
     have g3:v2.grownBy v3 (some b9):=by rw [hv3];exact aO (bC _ _)
     have R93:=Lib.hid (show v3.heap[b9]? =some (.cells #[.int .i64 1,.string xm,.int .i64 sl,.int .i64 0,.int .i64 z1.op,.int .i64 z1.val,.string z1.name,.int .i64 z1.slot,.int .i64 z1.size,.slice z1.A z1.n z1.c,.int .i64 z2.op,.int .i64 z2.val,.string z2.name,.int .i64 z2.slot,.int .i64 z2.size,.slice z2.A z2.n z2.c,.slice A3 m3 c3,.slice xB xm2 xd] 246 (0,0)) by rw [hv3];exact heap_setCell_same _ _ _ _ _ _ R92.out)
     have e2s:=g2.size
     have R133:=Lib.hid ((g3.block b13 (by have:=y0.size;omega) (by simp;omega)).trans R132.out)
     have R153:=Lib.hid ((g3.block b15 (by have:=y0.size;omega) (by simp;omega)).trans R152.out)
     refine aL rfl ?_
     go_wp2_with fail
     rw [←hv3]
     clear hv3 R92 R132 R152 q216 f216
     refine aI ⟨R133.out,R153.out⟩ ?_
     try refine TkI ?_
     refine TkA ?_
     have q317:v3.cell? ⟨b9,17,none⟩=some (.slice xB xm2 xd):=aA R93.out 17 _ rfl
     have f317:v3.frozen? ⟨b9,17,none⟩=false:=frozen_of_row _ _ _ _ _ R93.out
     obtain ⟨v4,hv4⟩:∃v4,v4=v3.setCell ⟨b9,17,none⟩ (.slice A4 m4 c4):=⟨_,rfl⟩
     have g4:v3.grownBy v4 (some b9):=by rw [hv4];exact aO (bC _ _)
     have R94:=Lib.hid (show v4.heap[b9]? =some (.cells #[.int .i64 1,.string xm,.int .i64 sl,.int .i64 0,.int .i64 z1.op,.int .i64 z1.val,.string z1.name,.int .i64 z1.slot,.int .i64 z1.size,.slice z1.A z1.n z1.c,.int .i64 z2.op,.int .i64 z2.val,.string z2.name,.int .i64 z2.slot,.int .i64 z2.size,.slice z2.A z2.n z2.c,.slice A3 m3 c3,.slice A4 m4 c4] 246 (0,0)) by rw [hv4];exact heap_setCell_same _ _ _ _ _ _ R93.out)
     have e3s:=g3.size
     have R134:=Lib.hid ((g4.block b13 (by have:=y0.size;omega) (by simp;omega)).trans R133.out)
     have R154:=Lib.hid ((g4.block b15 (by have:=y0.size;omega) (by simp;omega)).trans R153.out)
     refine aL rfl ?_
     go_wp2_with fail
     rw [←hv4]
     clear hv4 R93 R133 R153 q317 f317
     refine aI ⟨R134.out,R154.out⟩ ?_
     try refine TkI ?_
     refine TkA ?_
     refine aZ ?_
     have gAll:w14.grownBy v4 (some b9):=bD (bD (bD (bD (aQ y0 _) g1) g2) g3) g4
     have eAll:=gAll.size
     have KA:∀b,b<w14.heap.size→b≠b9→v4.heap[b]? =w14.heap[b]? :=fun b hb' hne=>gAll.block b hb' (by simp;omega)
     clear g1 g2 g3 g4 y0 R134 R154 e1s e2s e3s
     have ha:Below v4.heap.size v4 (v4.alloc (.cells #[.int .i64 1,.string xm,.int .i64 sl,.int .i64 0,.int .i64 z1.op,.int .i64 z1.val,.string z1.name,.int .i64 z1.slot,.int .i64 z1.size,.slice z1.A z1.n z1.c,.int .i64 z2.op,.int .i64 z2.val,.string z2.name,.int .i64 z2.slot,.int .i64 z2.size,.slice z2.A z2.n z2.c,.slice A3 m3 c3,.slice A4 m4 c4] 246)):=(Below.refl _ _).alloc (Nat.le_refl _) _
     obtain ⟨va,hva⟩:∃va,va=v4.alloc (.cells #[.int .i64 1,.string xm,.int .i64 sl,.int .i64 0,.int .i64 z1.op,.int .i64 z1.val,.string z1.name,.int .i64 z1.slot,.int .i64 z1.size,.slice z1.A z1.n z1.c,.int .i64 z2.op,.int .i64 z2.val,.string z2.name,.int .i64 z2.slot,.int .i64 z2.size,.slice z2.A z2.n z2.c,.slice A3 m3 c3,.slice A4 m4 c4] 246):=⟨_,rfl⟩
     rw [←hva] at ha
     have hva_row:va.heap[v4.heap.size]? =some (.cells #[.int .i64 1,.string xm,.int .i64 sl,.int .i64 0,.int .i64 z1.op,.int .i64 z1.val,.string z1.name,.int .i64 z1.slot,.int .i64 z1.size,.slice z1.A z1.n z1.c,.int .i64 z2.op,.int .i64 z2.val,.string z2.name,.int .i64 z2.slot,.int .i64 z2.size,.slice z2.A z2.n z2.c,.slice A3 m3 c3,.slice A4 m4 c4] 246 (0,0)):=by rw [hva];exact heap_alloc_new _ _
     have hvas:va.heap.size=v4.heap.size+1:=by rw [hva];simp
     have HVAS:=Lib.hid hvas
     have HVAR:=Lib.hid hva_row
     have esz:=hsz14.out
     have hbva:w.heap.size≤va.heap.size:=by have:=hb.size;omega
     have KW:∀b,b<wr.heap.size→va.heap[b]? =wr.heap[b]? :=fun b h=>(ha.block b (by omega)).trans ((KA b (by omega) (by omega)).trans (((Below.ext ycc yc14).block b h)))
     have hOa:OwLs bM 18 (fun S w=>SmOk (n+1) S w) va w.heap.size 246 (.slice A k c) us:=hO.keepR (bF (n+1)) (fun b h _=>KW b h)
     have KZ:Keep (fun b=>b9<b) w14 va:=fun b h hs=>(ha.block b (by omega)).trans (KA b h (by omega))
     have hZ1a:=ExOk.keep KZ 3 z1 u1 (ExOk.mono (fun b _ h=>by omega) _ _ _ hZ1)
     have hZ2a:=ExOk.keep KZ 3 z2 u2 (ExOk.mono (fun b _ h=>by omega) _ _ _ hZ2)
     have hL3:=((hO34.ls (bF n)).mono (S' :=fun b=>b9<b) (P' :=SmOk n (fun b=>b9<b) w14) (fun b _ h=>by omega) (fun y u h=>SmOk.mono (fun b _ h=>by omega) n y u h)).keep KZ (fun y u h=>SmOk.keep KZ n y u h)
     have hL4:=((hO4.ls (bF n)).mono (S' :=fun b=>b9<b) (P' :=SmOk n (fun b=>b9<b) w14) (fun b _ h=>by omega) (fun y u h=>SmOk.mono (fun b _ h=>by omega) n y u h)).keep KZ (fun y u h=>SmOk.keep KZ n y u h)
     have hOlt:∀o,(Value.slice A k c).ownBlock=some o→w.heap.size≤o∧o<wr.heap.size:=fun o e=>hO.lt_ o e
     have CLS:∀b,b9<b→w.heap.size≤b∧(Value.slice A k c).ownBlock≠some b:=fun b h=>⟨by have:=hb.size;omega,fun e=>by have:=hOlt b e;omega⟩
     have hok:SmOk (n+1) (fun b=>w.heap.size≤b∧(Value.slice A k c).ownBlock≠some b) va ⟨1,xm,sl,0,z1,z2,A3,m3,c3,A4,m4,c4⟩ (.mk 1 xm sl 0 u1 u2 us3 us4):=⟨rfl,rfl,rfl,rfl,ExOk.mono (fun b _ h=>CLS b h) _ _ _ hZ1a,ExOk.mono (fun b _ h=>CLS b h) _ _ _ hZ2a,hL3.mono (fun b _ h=>CLS b h) (fun y u h=>SmOk.mono (fun b _ h=>CLS b h) n y u h),hL4.mono (fun b _ h=>CLS b h) (fun y u h=>SmOk.mono (fun b _ h=>CLS b h) n y u h)⟩
     have HNEW:=Lib.hid (show RsS (n+1) (.mk 1 xm sl 0 u1 u2 us3 us4) from ⟨HKD.out,HSL.out,HSZ.out,hr1,hr2,hr3,hr4⟩)
     have HUS:=Lib.hid (fun v hv=>(List.mem_append.1 hv).elim (hus.out v) (fun h=>by rw [List.mem_singleton] at h;subst h;exact HNEW.out):∀v∈us++ [Sm.mk 1 xm sl 0 u1 u2 us3 us4],RsS (n+1) v)
     obtain ⟨xs_,ho,hxl,hxs_⟩:=hOa
     have hlx:=Lib.hid ho.len.1
     have hone:Recs bM (fun _=>True) va (.slice (some ⟨v4.heap.size,0,none⟩) 1 1) [⟨1,xm,sl,0,z1,z2,A3,m3,c3,A4,m4,c4⟩]:=fI HVAR.out trivial
     have hbeva:Below w.heap.size w va:=Below.grown2 (Below.ext hb (Below.ext ycc yc14)) gAll ha (by have:=hb.size;omega) (Nat.le_refl _)
     have hblk:∀o,(Value.slice A k c).ownBlock=some o→w.heap.size≤o:=fun o e=>(hOlt o e).1
     have HVA:=Lib.hid hva
     clear hZ1 hZ2 hO34 hO4 hZ1a hZ2a hL3 hL4 hva hva_row hvas hO
     go_wp2_with (first|(refine aD (t:=246) (A:=⟨b9,0,none⟩) rfl rfl rfl (aB R94.out Tryz.underlying246 rfl (by kernel_rfl)) ?_)|(rw [←HVA.out];refine aV (o:=⟨some 99,_,_,_,_,_⟩) cS dY (.agg #[.int .i64 0,.string (ByteArray.mk #[]),.int .i64 0,.int .i64 0,.int .i64 0,.int .i64 0,.string (ByteArray.mk #[]),.int .i64 0,.int .i64 0,.slice none 0 0,.int .i64 0,.int .i64 0,.string (ByteArray.mk #[]),.int .i64 0,.int .i64 0,.slice none 0 0,.slice none 0 0,.slice none 0 0]) 232 _ _ 27 246 w.heap.size xs_ [⟨1,xm,sl,0,z1,z2,A3,m3,c3,A4,m4,c4⟩] (some ⟨v4.heap.size,0,none⟩) 1 1 (.slice A k c) (k+1) rfl rfl Tryz.underlying27 fJ rfl (by omega) rfl rfl ho hone (by rw [hlx.out]) (by rw [hlx.out];omega) (by rw [hlx.out];omega) hbva ?_;intro A9 c9 w9 hown9 hgr9 hat9 hc91 hc92))
     have hb10:Below w.heap.size w w9:=hbeva.grown hgr9 hbva (fun o e=>hblk _ e)
     have hO10:=OwLs.push (bF (n+1)) ⟨hxl,hxs_⟩ _ _ hok hown9 hgr9 hat9
     clear hok hown9 hgr9 hat9 ho hxs_
     go_wp2
     go_roundw
     case rel=>exact ⟨k+1,A9,c9,us++ [Sm.mk 1 xm sl 0 u1 u2 us3 us4],rfl,rfl,by go_num,by omega,hO10,HUS,hb10⟩
     case measure=>simp [intOf];omega
    ·have HKD:=Lib.hid (show 1≤(2:Int)∧(2:Int)≤6 from ⟨by omega,by omega⟩)
     obtain ⟨W9,hW9,_,k9,S9,R9⟩:=bP wr wr #[.int .i64 2,.string xm,.int .i64 0,.int .i64 0,.int .i64 po,.int .i64 pv,.string pm,.int .i64 ps,.int .i64 pz,.slice pA pn pc,.int .i64 vo,.int .i64 vv,.string vm,.int .i64 vs,.int .i64 vz,.slice vA vn vc,.slice xA xn xc,.slice xB xm2 xd] 246 (Below.refl _ _)
     obtain ⟨b9,hb9_⟩:∃b,b=wr.heap.size:=⟨_,rfl⟩
     rw [←hb9_] at R9
     have HB9:=Lib.hid hb9_
     have q0:W9.cell? ⟨b9,0,none⟩=some (.int .i64 2):=aA R9.out 0 _ rfl
     have h9l:wr.heap.size≤b9:=by omega
     have h9h:b9<W9.heap.size:=by have:=S9.out;omega
     clear hb9_
     go_upto_region 7 with (first|(refine aD (t:=246) (A:=⟨ba,oa+k*18,none⟩) rfl rfl rfl (jI HC.out) ?_)|(refine aF rfl 246 _ _ rfl 246 _ #[.int .i64 2,.string xm,.int .i64 0,.int .i64 0,.int .i64 po,.int .i64 pv,.string pm,.int .i64 ps,.int .i64 pz,.slice pA pn pc,.int .i64 vo,.int .i64 vv,.string vm,.int .i64 vs,.int .i64 vz,.slice vA vn vc,.slice xA xn xc,.slice xB xm2 xd] rfl rfl (by kernel_rfl) rfl (by simp [Value.oneCell']) ?_))
     try dsimp only
     rw [←hW9,←HB9.out]
     clear hW9
     try simp only [Act.put]
     have q1:W9.cell? ⟨b9,1,none⟩=some (.string xm):=aA R9.out 1 _ rfl
     have HLK:=Lib.hid (gQ W9 V i s k0 hs1 hs5 (HVV.out W9 (Below.ext hb k9)) xm (.inr (.inl g)))
     go_upto_region 8 with fail
     go_wp2_with fail
     refine HLK.out.mono ?_
     rintro e w5 ⟨sl,sz,ok,rfl,hout,b5⟩
     have s5:=b5.size
     have R95:=Lib.hid ((b5.block b9 h9h).trans R9.out)
     have hz1:1≤sz:=(hout.2.2.2 g).1
     have dz:decide (0<sz)=true:=by simp;omega
     clear hz1
     have HSL:=Lib.hid hout.1
     have HSZ:=Lib.hid hout.2.1
     clear hout g
     have q3:w5.cell? ⟨b9,2,none⟩=some (.int .i64 0):=aA R95.out 2 _ rfl
     have f3:w5.frozen? ⟨b9,2,none⟩=false:=frozen_of_row _ _ _ _ _ R95.out
     have R96:=heap_setCell_same _ _ 2 _ _ (.int .i64 sl) R95.out
     have q4:(w5.setCell ⟨b9,2,none⟩ (.int .i64 sl)).cell? ⟨b9,3,none⟩=some (.int .i64 0):=aA R96 3 _ rfl
     have f4:(w5.setCell ⟨b9,2,none⟩ (.int .i64 sl)).frozen? ⟨b9,3,none⟩=false:=frozen_of_row _ _ _ _ _ R96
     obtain ⟨Wc,hWc⟩:∃Wc,Wc=(w5.setCell ⟨b9,2,none⟩ (.int .i64 sl)).setCell ⟨b9,3,none⟩ (.int .i64 sz):=⟨_,rfl⟩
     have gc:w5.grownBy Wc (some b9):=by rw [hWc];exact aO (aO (bC _ _))
     have RC9:=Lib.hid (show Wc.heap[b9]? =some (.cells #[.int .i64 2,.string xm,.int .i64 sl,.int .i64 sz,.int .i64 po,.int .i64 pv,.string pm,.int .i64 ps,.int .i64 pz,.slice pA pn pc,.int .i64 vo,.int .i64 vv,.string vm,.int .i64 vs,.int .i64 vz,.slice vA vn vc,.slice xA xn xc,.slice xB xm2 xd] 246 (0,0)) by rw [hWc];exact heap_setCell_same _ _ _ _ _ _ R96)
     have ycc:Below wr.heap.size wr Wc:=(Below.ext k9 b5).grown gc (by have:=k9.size;omega) (fun o e=>by cases e;exact h9l)
     clear R96
     have qc0:Wc.cell? ⟨b9,0,none⟩=some (.int .i64 2):=aA RC9.out 0 _ rfl
     go_upto_region 10 with fail
     rw [←hWc]
     clear hWc gc R95 q3 f3 q4 f4 q0 q1 R9
     have hb9:b9<Wc.heap.size:=(Array.getElem?_eq_some_iff.1 RC9.out).1
     have scc:=ycc.size
     have HE1:=Lib.hid (iD 3 ⟨po,pv,pm,ps,pz,pA,pn,pc⟩ place _ Wc V i s k0 hs1 hs5 (HVV.out Wc (Below.ext hb ycc)) (ExOk.keep (Keep.of_below (Below.ext hb ycc)) _ _ _ hpl) npl)
     have HVL:=Lib.hid (fun (w' :World) (h:Below wr.heap.size wr w')=>iD 3 ⟨vo,vv,vm,vs,vz,vA,vn,vc⟩ value _ w' V i s k0 hs1 hs5 (HVV.out w' (Below.ext hb h)) (ExOk.keep (Keep.of_below (Below.ext hb h)) _ _ _ hvl) nvl)
     have HB:=Lib.hid (fun (w' :World) (h:Below wr.heap.size wr w')=>HIH.out n (by omega) xA xn xc body w' V i s k0 hs1 hs5 (HVV.out w' (Below.ext hb h)) (SmL.ext hbd (Below.ext hb h)) nbd (by have:=hbd.len.1;omega))
     have HE:=Lib.hid (fun (w' :World) (h:Below wr.heap.size wr w')=>HIH.out n (by omega) xB xm2 xd els w' V i s k0 hs1 hs5 (HVV.out w' (Below.ext hb h)) (SmL.ext hel (Below.ext hb h)) nel (by have:=hel.len.1;omega))
     clear hpl hvl hbd hel
     go_upto_region 11 with fail
     go_wp2_with (refine aD (t:=244) (A:=⟨b9,4,none⟩) rfl rfl rfl (cK (y:=⟨po,pv,pm,ps,pz,pA,pn,pc⟩) RC9.out rfl) ?_)
     refine HE1.out.mono ?_
     rintro e w11 ⟨z1,u1,rfl,hz1,hr1,b11⟩
     obtain ⟨W11,hW11,_,k11,S11,R13⟩:=bP w11 w11 #[.int .i64 z1.op,.int .i64 z1.val,.string z1.name,.int .i64 z1.slot,.int .i64 z1.size,.slice z1.A z1.n z1.c] 244 (Below.refl _ _)
     obtain ⟨b13,hb13⟩:∃b,b=w11.heap.size:=⟨_,rfl⟩
     rw [←hb13] at R13
     have HB13:=Lib.hid hb13
     have s11:=b11.size
     have g13:b9<b13:=by omega
     have g13W:b13<W11.heap.size:=by have:=S11.out;omega
     have y11:Below Wc.heap.size Wc W11:=Below.ext b11 k11
     have R911:=Lib.hid ((y11.block b9 hb9).trans RC9.out)
     clear hb13
     go_upto_region 12 with (refine aF rfl 244 _ _ rfl 244 _ #[.int .i64 z1.op,.int .i64 z1.val,.string z1.name,.int .i64 z1.slot,.int .i64 z1.size,.slice z1.A z1.n z1.c] rfl rfl (by kernel_rfl) rfl (by simp [Value.oneCell']) ?_)
     try dsimp only
     rw [←hW11,←HB13.out]
     clear hW11
     try simp only [Act.put]
     go_wp2_with (refine aD (t:=244) (A:=⟨b9,10,none⟩) rfl rfl rfl (cK (y:=⟨vo,vv,vm,vs,vz,vA,vn,vc⟩) R911.out rfl) ?_)
     refine (HVL.out W11 (Below.ext ycc y11)).mono ?_
     rintro e w12 ⟨z2,u2,rfl,hz2,hr2,b12⟩
     obtain ⟨W12,hW12,_,k12,S12,R15⟩:=bP w12 w12 #[.int .i64 z2.op,.int .i64 z2.val,.string z2.name,.int .i64 z2.slot,.int .i64 z2.size,.slice z2.A z2.n z2.c] 244 (Below.refl _ _)
     obtain ⟨b15,hb15⟩:∃b,b=w12.heap.size:=⟨_,rfl⟩
     rw [←hb15] at R15
     have HB15:=Lib.hid hb15
     have s12:=b12.size
     have g15:b13<b15:=by omega
     have g15W:b15<W12.heap.size:=by have:=S12.out;omega
     have y12:Below W11.heap.size W11 W12:=Below.ext b12 k12
     have sW11:=y11.size
     have R912:=Lib.hid ((y12.block b9 (by omega)).trans R911.out)
     have R1312:=Lib.hid ((y12.block b13 g13W).trans R13.out)
     have yc12:=Below.ext y11 y12
     clear hb15 R911 R13
     go_upto_region 13 with (refine aF rfl 244 _ _ rfl 244 _ #[.int .i64 z2.op,.int .i64 z2.val,.string z2.name,.int .i64 z2.slot,.int .i64 z2.size,.slice z2.A z2.n z2.c] rfl rfl (by kernel_rfl) rfl (by simp [Value.oneCell']) ?_)
     try dsimp only
     rw [←hW12,←HB15.out]
     clear hW12
     try simp only [Act.put]
     have q16:W12.cell? ⟨b9,16,none⟩=some (.slice xA xn xc):=aA R912.out 16 _ rfl
     go_wp2_with fail
     refine (HB.out W12 (Below.ext ycc yc12)).mono ?_
     rintro e w13 ⟨A3,m3,c3,us3,rfl,hO3,hr3,b13_⟩
     have yc13:=Below.ext yc12 b13_
     have R913:=Lib.hid ((yc13.block b9 hb9).trans RC9.out)
     have q17:w13.cell? ⟨b9,17,none⟩=some (.slice xB xm2 xd):=aA R913.out 17 _ rfl
     go_wp2_with fail
     refine (HE.out w13 (Below.ext ycc yc13)).mono ?_
     rintro e w14 ⟨A4,m4,c4,us4,rfl,hO4,hr4,b14⟩
     have s13:=b13_.size
     have s14:=b14.size
     have sW12:=y12.size
     have yc14:=Below.ext yc13 b14
     have b1314:=Below.ext b13_ b14
     have R914:=Lib.hid ((yc14.block b9 hb9).trans RC9.out)
     have R1314:=Lib.hid ((b1314.block b13 (by omega)).trans R1312.out)
     have R1514:=Lib.hid ((b1314.block b15 g15W).trans R15.out)
     clear R912 R1312 R15 q16 q17 R913
     have hsz14:=Lib.hid (show b15<w14.heap.size by omega)
     have hZ1:=ExOk.keep (Keep.of_below (Below.ext k11 (Below.ext y12 b1314))) _ _ _ hz1
     have hZ2:=ExOk.keep (Keep.of_below (Below.ext k12 b1314)) _ _ _ hz2
     have hO34:=hO3.ext (bF n) b14
     clear hz1 hz2 hO3
     go_upto_region 15 with fail
     go_wp2_with fail
     refine aM ((fun w' =>w'.heap[b13]? =some (.cells #[.int .i64 z1.op,.int .i64 z1.val,.string z1.name,.int .i64 z1.slot,.int .i64 z1.size,.slice z1.A z1.n z1.c] 244 (0,0))∧w'.heap[b15]? =some (.cells #[.int .i64 z2.op,.int .i64 z2.val,.string z2.name,.int .i64 z2.slot,.int .i64 z2.size,.slice z2.A z2.n z2.c] 244 (0,0)))) (by kernel_rfl) (by kernel_rfl) (⟨R1314.out,R1514.out⟩) ?_
     refine TkA ?_
     refine aE (⟨b13,0,none⟩) (.agg #[.int .i64 z1.op,.int .i64 z1.val,.string z1.name,.int .i64 z1.slot,.int .i64 z1.size,.slice z1.A z1.n z1.c]) rfl rfl rfl (fun w' hw' =>aB hw'.1 Tryz.underlying244 rfl (by kernel_rfl)) ?_
     refine TkI ?_
     refine TkA ?_
     refine aE (⟨b15,0,none⟩) (.agg #[.int .i64 z2.op,.int .i64 z2.val,.string z2.name,.int .i64 z2.slot,.int .i64 z2.size,.slice z2.A z2.n z2.c]) rfl rfl rfl (fun w' hw' =>aB hw'.2 Tryz.underlying244 rfl (by kernel_rfl)) ?_
     refine TkI ?_
     refine TkA ?_
     obtain ⟨v0,hv0⟩:∃v0,v0=w14.drew:=⟨_,rfl⟩
     have y0:Below w14.heap.size w14 v0:=by rw [hv0];exact (Below.refl _ w14).drew
     have R90:=Lib.hid ((y0.block b9 (by omega)).trans R914.out)
     have R130:=Lib.hid ((y0.block b13 (by omega)).trans R1314.out)
     have R150:=Lib.hid ((y0.block b15 (by omega)).trans R1514.out)
     rw [←hv0]
     clear hv0 R914 R1314 R1514
     refine aL rfl ?_
     refine wpList_store_mid rfl 244 _ _ rfl b9 4 #[.int .i64 z1.op,.int .i64 z1.val,.string z1.name,.int .i64 z1.slot,.int .i64 z1.size,.slice z1.A z1.n z1.c] rfl rfl (mH R90.out (by simp)) (by kernel_rfl) (by simp [Value.oneCell']) ?_
     obtain ⟨v1,hv1⟩:∃v1,v1=v0.setCells b9 4 [.int .i64 z1.op,.int .i64 z1.val,.string z1.name,.int .i64 z1.slot,.int .i64 z1.size,.slice z1.A z1.n z1.c]:=⟨_,rfl⟩
     have g1:v0.grownBy v1 (some b9):=by rw [hv1];exact eW _ _ _ _ _ _ _ _ _
     have R91:=Lib.hid (show v1.heap[b9]? =some (.cells #[.int .i64 2,.string xm,.int .i64 sl,.int .i64 sz,.int .i64 z1.op,.int .i64 z1.val,.string z1.name,.int .i64 z1.slot,.int .i64 z1.size,.slice z1.A z1.n z1.c,.int .i64 vo,.int .i64 vv,.string vm,.int .i64 vs,.int .i64 vz,.slice vA vn vc,.slice xA xn xc,.slice xB xm2 xd] 246 (0,0)) by rw [hv1];exact iF R90.out _ _ _ _ _ _)
     have R131:=Lib.hid ((g1.block b13 (by have:=y0.size;omega) (by simp;omega)).trans R130.out)
     have R151:=Lib.hid ((g1.block b15 (by have:=y0.size;omega) (by simp;omega)).trans R150.out)
     rw [←hv1]
     clear hv1 R90 R130 R150
     refine aI ⟨R131.out,R151.out⟩ ?_
     refine TkI ?_
     refine TkA ?_
     refine aL rfl ?_
     refine wpList_store_mid rfl 244 _ _ rfl b9 10 #[.int .i64 z2.op,.int .i64 z2.val,.string z2.name,.int .i64 z2.slot,.int .i64 z2.size,.slice z2.A z2.n z2.c] rfl rfl (mH R91.out (by simp)) (by kernel_rfl) (by simp [Value.oneCell']) ?_
     obtain ⟨v2,hv2⟩:∃v2,v2=v1.setCells b9 10 [.int .i64 z2.op,.int .i64 z2.val,.string z2.name,.int .i64 z2.slot,.int .i64 z2.size,.slice z2.A z2.n z2.c]:=⟨_,rfl⟩
     have g2:v1.grownBy v2 (some b9):=by rw [hv2];exact eW _ _ _ _ _ _ _ _ _
     have R92:=Lib.hid (show v2.heap[b9]? =some (.cells #[.int .i64 2,.string xm,.int .i64 sl,.int .i64 sz,.int .i64 z1.op,.int .i64 z1.val,.string z1.name,.int .i64 z1.slot,.int .i64 z1.size,.slice z1.A z1.n z1.c,.int .i64 z2.op,.int .i64 z2.val,.string z2.name,.int .i64 z2.slot,.int .i64 z2.size,.slice z2.A z2.n z2.c,.slice xA xn xc,.slice xB xm2 xd] 246 (0,0)) by rw [hv2];exact iF R91.out _ _ _ _ _ _)
     have e1s:=g1.size
     have R132:=Lib.hid ((g2.block b13 (by have:=y0.size;omega) (by simp;omega)).trans R131.out)
     have R152:=Lib.hid ((g2.block b15 (by have:=y0.size;omega) (by simp;omega)).trans R151.out)
     rw [←hv2]
     clear hv2 R91 R131 R151
     refine aI ⟨R132.out,R152.out⟩ ?_
     refine TkI ?_
     refine TkA ?_
     have q216:v2.cell? ⟨b9,16,none⟩=some (.slice xA xn xc):=aA R92.out 16 _ rfl
     have f216:v2.frozen? ⟨b9,16,none⟩=false:=frozen_of_row _ _ _ _ _ R92.out
     obtain ⟨v3,hv3⟩:∃v3,v3=v2.setCell ⟨b9,16,none⟩ (.slice A3 m3 c3):=⟨_,rfl⟩
     have g3:v2.grownBy v3 (some b9):=by rw [hv3];exact aO (bC _ _)
     have R93:=Lib.hid (show v3.heap[b9]? =some (.cells #[.int .i64 2,.string xm,.int .i64 sl,.int .i64 sz,.int .i64 z1.op,.int .i64 z1.val,.string z1.name,.int .i64 z1.slot,.int .i64 z1.size,.slice z1.A z1.n z1.c,.int .i64 z2.op,.int .i64 z2.val,.string z2.name,.int .i64 z2.slot,.int .i64 z2.size,.slice z2.A z2.n z2.c,.slice A3 m3 c3,.slice xB xm2 xd] 246 (0,0)) by rw [hv3];exact heap_setCell_same _ _ _ _ _ _ R92.out)
     have e2s:=g2.size
     have R133:=Lib.hid ((g3.block b13 (by have:=y0.size;omega) (by simp;omega)).trans R132.out)
     have R153:=Lib.hid ((g3.block b15 (by have:=y0.size;omega) (by simp;omega)).trans R152.out)
     refine aL rfl ?_
     go_wp2_with fail
     rw [←hv3]
     clear hv3 R92 R132 R152 q216 f216
     refine aI ⟨R133.out,R153.out⟩ ?_
     try refine TkI ?_
     refine TkA ?_
     have q317:v3.cell? ⟨b9,17,none⟩=some (.slice xB xm2 xd):=aA R93.out 17 _ rfl
     have f317:v3.frozen? ⟨b9,17,none⟩=false:=frozen_of_row _ _ _ _ _ R93.out
     obtain ⟨v4,hv4⟩:∃v4,v4=v3.setCell ⟨b9,17,none⟩ (.slice A4 m4 c4):=⟨_,rfl⟩
     have g4:v3.grownBy v4 (some b9):=by rw [hv4];exact aO (bC _ _)
     have R94:=Lib.hid (show v4.heap[b9]? =some (.cells #[.int .i64 2,.string xm,.int .i64 sl,.int .i64 sz,.int .i64 z1.op,.int .i64 z1.val,.string z1.name,.int .i64 z1.slot,.int .i64 z1.size,.slice z1.A z1.n z1.c,.int .i64 z2.op,.int .i64 z2.val,.string z2.name,.int .i64 z2.slot,.int .i64 z2.size,.slice z2.A z2.n z2.c,.slice A3 m3 c3,.slice A4 m4 c4] 246 (0,0)) by rw [hv4];exact heap_setCell_same _ _ _ _ _ _ R93.out)
     have e3s:=g3.size
     have R134:=Lib.hid ((g4.block b13 (by have:=y0.size;omega) (by simp;omega)).trans R133.out)
     have R154:=Lib.hid ((g4.block b15 (by have:=y0.size;omega) (by simp;omega)).trans R153.out)
     refine aL rfl ?_
     go_wp2_with fail
     rw [←hv4]
     clear hv4 R93 R133 R153 q317 f317
     refine aI ⟨R134.out,R154.out⟩ ?_
     try refine TkI ?_
     refine TkA ?_
     refine aZ ?_
     have gAll:w14.grownBy v4 (some b9):=bD (bD (bD (bD (aQ y0 _) g1) g2) g3) g4
     have eAll:=gAll.size
     have KA:∀b,b<w14.heap.size→b≠b9→v4.heap[b]? =w14.heap[b]? :=fun b hb' hne=>gAll.block b hb' (by simp;omega)
     clear g1 g2 g3 g4 y0 R134 R154 e1s e2s e3s
     have ha:Below v4.heap.size v4 (v4.alloc (.cells #[.int .i64 2,.string xm,.int .i64 sl,.int .i64 sz,.int .i64 z1.op,.int .i64 z1.val,.string z1.name,.int .i64 z1.slot,.int .i64 z1.size,.slice z1.A z1.n z1.c,.int .i64 z2.op,.int .i64 z2.val,.string z2.name,.int .i64 z2.slot,.int .i64 z2.size,.slice z2.A z2.n z2.c,.slice A3 m3 c3,.slice A4 m4 c4] 246)):=(Below.refl _ _).alloc (Nat.le_refl _) _
     obtain ⟨va,hva⟩:∃va,va=v4.alloc (.cells #[.int .i64 2,.string xm,.int .i64 sl,.int .i64 sz,.int .i64 z1.op,.int .i64 z1.val,.string z1.name,.int .i64 z1.slot,.int .i64 z1.size,.slice z1.A z1.n z1.c,.int .i64 z2.op,.int .i64 z2.val,.string z2.name,.int .i64 z2.slot,.int .i64 z2.size,.slice z2.A z2.n z2.c,.slice A3 m3 c3,.slice A4 m4 c4] 246):=⟨_,rfl⟩
     rw [←hva] at ha
     have hva_row:va.heap[v4.heap.size]? =some (.cells #[.int .i64 2,.string xm,.int .i64 sl,.int .i64 sz,.int .i64 z1.op,.int .i64 z1.val,.string z1.name,.int .i64 z1.slot,.int .i64 z1.size,.slice z1.A z1.n z1.c,.int .i64 z2.op,.int .i64 z2.val,.string z2.name,.int .i64 z2.slot,.int .i64 z2.size,.slice z2.A z2.n z2.c,.slice A3 m3 c3,.slice A4 m4 c4] 246 (0,0)):=by rw [hva];exact heap_alloc_new _ _
     have hvas:va.heap.size=v4.heap.size+1:=by rw [hva];simp
     have HVAS:=Lib.hid hvas
     have HVAR:=Lib.hid hva_row
     have esz:=hsz14.out
     have hbva:w.heap.size≤va.heap.size:=by have:=hb.size;omega
     have KW:∀b,b<wr.heap.size→va.heap[b]? =wr.heap[b]? :=fun b h=>(ha.block b (by omega)).trans ((KA b (by omega) (by omega)).trans (((Below.ext ycc yc14).block b h)))
     have hOa:OwLs bM 18 (fun S w=>SmOk (n+1) S w) va w.heap.size 246 (.slice A k c) us:=hO.keepR (bF (n+1)) (fun b h _=>KW b h)
     have KZ:Keep (fun b=>b9<b) w14 va:=fun b h hs=>(ha.block b (by omega)).trans (KA b h (by omega))
     have hZ1a:=ExOk.keep KZ 3 z1 u1 (ExOk.mono (fun b _ h=>by omega) _ _ _ hZ1)
     have hZ2a:=ExOk.keep KZ 3 z2 u2 (ExOk.mono (fun b _ h=>by omega) _ _ _ hZ2)
     have hL3:=((hO34.ls (bF n)).mono (S' :=fun b=>b9<b) (P' :=SmOk n (fun b=>b9<b) w14) (fun b _ h=>by omega) (fun y u h=>SmOk.mono (fun b _ h=>by omega) n y u h)).keep KZ (fun y u h=>SmOk.keep KZ n y u h)
     have hL4:=((hO4.ls (bF n)).mono (S' :=fun b=>b9<b) (P' :=SmOk n (fun b=>b9<b) w14) (fun b _ h=>by omega) (fun y u h=>SmOk.mono (fun b _ h=>by omega) n y u h)).keep KZ (fun y u h=>SmOk.keep KZ n y u h)
     have hOlt:∀o,(Value.slice A k c).ownBlock=some o→w.heap.size≤o∧o<wr.heap.size:=fun o e=>hO.lt_ o e
     have CLS:∀b,b9<b→w.heap.size≤b∧(Value.slice A k c).ownBlock≠some b:=fun b h=>⟨by have:=hb.size;omega,fun e=>by have:=hOlt b e;omega⟩
     have hok:SmOk (n+1) (fun b=>w.heap.size≤b∧(Value.slice A k c).ownBlock≠some b) va ⟨2,xm,sl,sz,z1,z2,A3,m3,c3,A4,m4,c4⟩ (.mk 2 xm sl sz u1 u2 us3 us4):=⟨rfl,rfl,rfl,rfl,ExOk.mono (fun b _ h=>CLS b h) _ _ _ hZ1a,ExOk.mono (fun b _ h=>CLS b h) _ _ _ hZ2a,hL3.mono (fun b _ h=>CLS b h) (fun y u h=>SmOk.mono (fun b _ h=>CLS b h) n y u h),hL4.mono (fun b _ h=>CLS b h) (fun y u h=>SmOk.mono (fun b _ h=>CLS b h) n y u h)⟩
     have HNEW:=Lib.hid (show RsS (n+1) (.mk 2 xm sl sz u1 u2 us3 us4) from ⟨HKD.out,HSL.out,HSZ.out,hr1,hr2,hr3,hr4⟩)
     have HUS:=Lib.hid (fun v hv=>(List.mem_append.1 hv).elim (hus.out v) (fun h=>by rw [List.mem_singleton] at h;subst h;exact HNEW.out):∀v∈us++ [Sm.mk 2 xm sl sz u1 u2 us3 us4],RsS (n+1) v)
     obtain ⟨xs_,ho,hxl,hxs_⟩:=hOa
     have hlx:=Lib.hid ho.len.1
     have hone:Recs bM (fun _=>True) va (.slice (some ⟨v4.heap.size,0,none⟩) 1 1) [⟨2,xm,sl,sz,z1,z2,A3,m3,c3,A4,m4,c4⟩]:=fI HVAR.out trivial
     have hbeva:Below w.heap.size w va:=Below.grown2 (Below.ext hb (Below.ext ycc yc14)) gAll ha (by have:=hb.size;omega) (Nat.le_refl _)
     have hblk:∀o,(Value.slice A k c).ownBlock=some o→w.heap.size≤o:=fun o e=>(hOlt o e).1
     have HVA:=Lib.hid hva
     clear hZ1 hZ2 hO34 hO4 hZ1a hZ2a hL3 hL4 hva hva_row hvas hO
     go_wp2_with (first|(refine aD (t:=246) (A:=⟨b9,0,none⟩) rfl rfl rfl (aB R94.out Tryz.underlying246 rfl (by kernel_rfl)) ?_)|(rw [←HVA.out];refine aV (o:=⟨some 99,_,_,_,_,_⟩) cS dY (.agg #[.int .i64 0,.string (ByteArray.mk #[]),.int .i64 0,.int .i64 0,.int .i64 0,.int .i64 0,.string (ByteArray.mk #[]),.int .i64 0,.int .i64 0,.slice none 0 0,.int .i64 0,.int .i64 0,.string (ByteArray.mk #[]),.int .i64 0,.int .i64 0,.slice none 0 0,.slice none 0 0,.slice none 0 0]) 232 _ _ 27 246 w.heap.size xs_ [⟨2,xm,sl,sz,z1,z2,A3,m3,c3,A4,m4,c4⟩] (some ⟨v4.heap.size,0,none⟩) 1 1 (.slice A k c) (k+1) rfl rfl Tryz.underlying27 fJ rfl (by omega) rfl rfl ho hone (by rw [hlx.out]) (by rw [hlx.out];omega) (by rw [hlx.out];omega) hbva ?_;intro A9 c9 w9 hown9 hgr9 hat9 hc91 hc92))
     have hb10:Below w.heap.size w w9:=hbeva.grown hgr9 hbva (fun o e=>hblk _ e)
     have hO10:=OwLs.push (bF (n+1)) ⟨hxl,hxs_⟩ _ _ hok hown9 hgr9 hat9
     clear hok hown9 hgr9 hat9 ho hxs_
     go_wp2
     go_roundw
     case rel=>exact ⟨k+1,A9,c9,us++ [Sm.mk 2 xm sl sz u1 u2 us3 us4],rfl,rfl,by go_num,by omega,hO10,HUS,hb10⟩
     case measure=>simp [intOf];omega
    ·have HKD:=Lib.hid (show 1≤(xk:Int)∧(xk:Int)≤6 from ⟨by omega,by omega⟩)
     obtain ⟨W9,hW9,_,k9,S9,R9⟩:=bP wr wr #[.int .i64 xk,.string (ByteArray.mk #[]),.int .i64 0,.int .i64 0,.int .i64 po,.int .i64 pv,.string pm,.int .i64 ps,.int .i64 pz,.slice pA pn pc,.int .i64 vo,.int .i64 vv,.string vm,.int .i64 vs,.int .i64 vz,.slice vA vn vc,.slice xA xn xc,.slice xB xm2 xd] 246 (Below.refl _ _)
     obtain ⟨b9,hb9_⟩:∃b,b=wr.heap.size:=⟨_,rfl⟩
     rw [←hb9_] at R9
     have HB9:=Lib.hid hb9_
     have q0:W9.cell? ⟨b9,0,none⟩=some (.int .i64 xk):=aA R9.out 0 _ rfl
     have h9l:wr.heap.size≤b9:=by omega
     have h9h:b9<W9.heap.size:=by have:=S9.out;omega
     clear hb9_
     go_upto_region 7 with (first|(refine aD (t:=246) (A:=⟨ba,oa+k*18,none⟩) rfl rfl rfl (jI HC.out) ?_)|(refine aF rfl 246 _ _ rfl 246 _ #[.int .i64 xk,.string (ByteArray.mk #[]),.int .i64 0,.int .i64 0,.int .i64 po,.int .i64 pv,.string pm,.int .i64 ps,.int .i64 pz,.slice pA pn pc,.int .i64 vo,.int .i64 vv,.string vm,.int .i64 vs,.int .i64 vz,.slice vA vn vc,.slice xA xn xc,.slice xB xm2 xd] rfl rfl (by kernel_rfl) rfl (by simp [Value.oneCell']) ?_))
     try dsimp only
     rw [←hW9,←HB9.out]
     clear hW9
     try simp only [Act.put]
     have e2:(xk==1)=false:=by simp;omega
     have e3:(xk==2)=false:=by simp;omega
     have HSL:=Lib.hid (show 0≤(0:Int)∧(0:Int)≤1000 from ⟨by omega,by omega⟩)
     have HSZ:=HSL
     obtain ⟨Wc,hWc⟩:∃Wc,Wc=W9:=⟨_,rfl⟩
     subst hWc
     have RC9:=R9
     have ycc:=k9
     clear g2 hkd
     have hb9:b9<Wc.heap.size:=(Array.getElem?_eq_some_iff.1 RC9.out).1
     have scc:=ycc.size
     have HE1:=Lib.hid (iD 3 ⟨po,pv,pm,ps,pz,pA,pn,pc⟩ place _ Wc V i s k0 hs1 hs5 (HVV.out Wc (Below.ext hb ycc)) (ExOk.keep (Keep.of_below (Below.ext hb ycc)) _ _ _ hpl) npl)
     have HVL:=Lib.hid (fun (w' :World) (h:Below wr.heap.size wr w')=>iD 3 ⟨vo,vv,vm,vs,vz,vA,vn,vc⟩ value _ w' V i s k0 hs1 hs5 (HVV.out w' (Below.ext hb h)) (ExOk.keep (Keep.of_below (Below.ext hb h)) _ _ _ hvl) nvl)
     have HB:=Lib.hid (fun (w' :World) (h:Below wr.heap.size wr w')=>HIH.out n (by omega) xA xn xc body w' V i s k0 hs1 hs5 (HVV.out w' (Below.ext hb h)) (SmL.ext hbd (Below.ext hb h)) nbd (by have:=hbd.len.1;omega))
     have HE:=Lib.hid (fun (w' :World) (h:Below wr.heap.size wr w')=>HIH.out n (by omega) xB xm2 xd els w' V i s k0 hs1 hs5 (HVV.out w' (Below.ext hb h)) (SmL.ext hel (Below.ext hb h)) nel (by have:=hel.len.1;omega))
     clear hpl hvl hbd hel
     go_upto_region 11 with fail
     go_wp2_with (refine aD (t:=244) (A:=⟨b9,4,none⟩) rfl rfl rfl (cK (y:=⟨po,pv,pm,ps,pz,pA,pn,pc⟩) RC9.out rfl) ?_)
     refine HE1.out.mono ?_
     rintro e w11 ⟨z1,u1,rfl,hz1,hr1,b11⟩
     obtain ⟨W11,hW11,_,k11,S11,R13⟩:=bP w11 w11 #[.int .i64 z1.op,.int .i64 z1.val,.string z1.name,.int .i64 z1.slot,.int .i64 z1.size,.slice z1.A z1.n z1.c] 244 (Below.refl _ _)
     obtain ⟨b13,hb13⟩:∃b,b=w11.heap.size:=⟨_,rfl⟩
     rw [←hb13] at R13
     have HB13:=Lib.hid hb13
     have s11:=b11.size
     have g13:b9<b13:=by omega
     have g13W:b13<W11.heap.size:=by have:=S11.out;omega
     have y11:Below Wc.heap.size Wc W11:=Below.ext b11 k11
     have R911:=Lib.hid ((y11.block b9 hb9).trans RC9.out)
     clear hb13
     go_upto_region 12 with (refine aF rfl 244 _ _ rfl 244 _ #[.int .i64 z1.op,.int .i64 z1.val,.string z1.name,.int .i64 z1.slot,.int .i64 z1.size,.slice z1.A z1.n z1.c] rfl rfl (by kernel_rfl) rfl (by simp [Value.oneCell']) ?_)
     try dsimp only
     rw [←hW11,←HB13.out]
     clear hW11
     try simp only [Act.put]
     go_wp2_with (refine aD (t:=244) (A:=⟨b9,10,none⟩) rfl rfl rfl (cK (y:=⟨vo,vv,vm,vs,vz,vA,vn,vc⟩) R911.out rfl) ?_)
     refine (HVL.out W11 (Below.ext ycc y11)).mono ?_
     rintro e w12 ⟨z2,u2,rfl,hz2,hr2,b12⟩
     obtain ⟨W12,hW12,_,k12,S12,R15⟩:=bP w12 w12 #[.int .i64 z2.op,.int .i64 z2.val,.string z2.name,.int .i64 z2.slot,.int .i64 z2.size,.slice z2.A z2.n z2.c] 244 (Below.refl _ _)
     obtain ⟨b15,hb15⟩:∃b,b=w12.heap.size:=⟨_,rfl⟩
     rw [←hb15] at R15
     have HB15:=Lib.hid hb15
     have s12:=b12.size
     have g15:b13<b15:=by omega
     have g15W:b15<W12.heap.size:=by have:=S12.out;omega
     have y12:Below W11.heap.size W11 W12:=Below.ext b12 k12
     have sW11:=y11.size
     have R912:=Lib.hid ((y12.block b9 (by omega)).trans R911.out)
     have R1312:=Lib.hid ((y12.block b13 g13W).trans R13.out)
     have yc12:=Below.ext y11 y12
     clear hb15 R911 R13
     go_upto_region 13 with (refine aF rfl 244 _ _ rfl 244 _ #[.int .i64 z2.op,.int .i64 z2.val,.string z2.name,.int .i64 z2.slot,.int .i64 z2.size,.slice z2.A z2.n z2.c] rfl rfl (by kernel_rfl) rfl (by simp [Value.oneCell']) ?_)
     try dsimp only
     rw [←hW12,←HB15.out]
     clear hW12
     try simp only [Act.put]
     have q16:W12.cell? ⟨b9,16,none⟩=some (.slice xA xn xc):=aA R912.out 16 _ rfl
     go_wp2_with fail
     refine (HB.out W12 (Below.ext ycc yc12)).mono ?_
     rintro e w13 ⟨A3,m3,c3,us3,rfl,hO3,hr3,b13_⟩
     have yc13:=Below.ext yc12 b13_
     have R913:=Lib.hid ((yc13.block b9 hb9).trans RC9.out)
     have q17:w13.cell? ⟨b9,17,none⟩=some (.slice xB xm2 xd):=aA R913.out 17 _ rfl
     go_wp2_with fail
     refine (HE.out w13 (Below.ext ycc yc13)).mono ?_
     rintro e w14 ⟨A4,m4,c4,us4,rfl,hO4,hr4,b14⟩
     have s13:=b13_.size
     have s14:=b14.size
     have sW12:=y12.size
     have yc14:=Below.ext yc13 b14
     have b1314:=Below.ext b13_ b14
     have R914:=Lib.hid ((yc14.block b9 hb9).trans RC9.out)
     have R1314:=Lib.hid ((b1314.block b13 (by omega)).trans R1312.out)
     have R1514:=Lib.hid ((b1314.block b15 g15W).trans R15.out)
     clear R912 R1312 R15 q16 q17 R913
     have hsz14:=Lib.hid (show b15<w14.heap.size by omega)
     have hZ1:=ExOk.keep (Keep.of_below (Below.ext k11 (Below.ext y12 b1314))) _ _ _ hz1
     have hZ2:=ExOk.keep (Keep.of_below (Below.ext k12 b1314)) _ _ _ hz2
     have hO34:=hO3.ext (bF n) b14
     clear hz1 hz2 hO3
     go_upto_region 15 with fail
     go_wp2_with fail
     refine aM ((fun w' =>w'.heap[b13]? =some (.cells #[.int .i64 z1.op,.int .i64 z1.val,.string z1.name,.int .i64 z1.slot,.int .i64 z1.size,.slice z1.A z1.n z1.c] 244 (0,0))∧w'.heap[b15]? =some (.cells #[.int .i64 z2.op,.int .i64 z2.val,.string z2.name,.int .i64 z2.slot,.int .i64 z2.size,.slice z2.A z2.n z2.c] 244 (0,0)))) (by kernel_rfl) (by kernel_rfl) (⟨R1314.out,R1514.out⟩) ?_
     refine TkA ?_
     refine aE (⟨b13,0,none⟩) (.agg #[.int .i64 z1.op,.int .i64 z1.val,.string z1.name,.int .i64 z1.slot,.int .i64 z1.size,.slice z1.A z1.n z1.c]) rfl rfl rfl (fun w' hw' =>aB hw'.1 Tryz.underlying244 rfl (by kernel_rfl)) ?_
     refine TkI ?_
     refine TkA ?_
     refine aE (⟨b15,0,none⟩) (.agg #[.int .i64 z2.op,.int .i64 z2.val,.string z2.name,.int .i64 z2.slot,.int .i64 z2.size,.slice z2.A z2.n z2.c]) rfl rfl rfl (fun w' hw' =>aB hw'.2 Tryz.underlying244 rfl (by kernel_rfl)) ?_
     refine TkI ?_
     refine TkA ?_
     obtain ⟨v0,hv0⟩:∃v0,v0=w14.drew:=⟨_,rfl⟩
     have y0:Below w14.heap.size w14 v0:=by rw [hv0];exact (Below.refl _ w14).drew
     have R90:=Lib.hid ((y0.block b9 (by omega)).trans R914.out)
     have R130:=Lib.hid ((y0.block b13 (by omega)).trans R1314.out)
     have R150:=Lib.hid ((y0.block b15 (by omega)).trans R1514.out)
     rw [←hv0]
     clear hv0 R914 R1314 R1514
     refine aL rfl ?_
     refine wpList_store_mid rfl 244 _ _ rfl b9 4 #[.int .i64 z1.op,.int .i64 z1.val,.string z1.name,.int .i64 z1.slot,.int .i64 z1.size,.slice z1.A z1.n z1.c] rfl rfl (mH R90.out (by simp)) (by kernel_rfl) (by simp [Value.oneCell']) ?_
     obtain ⟨v1,hv1⟩:∃v1,v1=v0.setCells b9 4 [.int .i64 z1.op,.int .i64 z1.val,.string z1.name,.int .i64 z1.slot,.int .i64 z1.size,.slice z1.A z1.n z1.c]:=⟨_,rfl⟩
     have g1:v0.grownBy v1 (some b9):=by rw [hv1];exact eW _ _ _ _ _ _ _ _ _
     have R91:=Lib.hid (show v1.heap[b9]? =some (.cells #[.int .i64 xk,.string (ByteArray.mk #[]),.int .i64 0,.int .i64 0,.int .i64 z1.op,.int .i64 z1.val,.string z1.name,.int .i64 z1.slot,.int .i64 z1.size,.slice z1.A z1.n z1.c,.int .i64 vo,.int .i64 vv,.string vm,.int .i64 vs,.int .i64 vz,.slice vA vn vc,.slice xA xn xc,.slice xB xm2 xd] 246 (0,0)) by rw [hv1];exact iF R90.out _ _ _ _ _ _)
     have R131:=Lib.hid ((g1.block b13 (by have:=y0.size;omega) (by simp;omega)).trans R130.out)
     have R151:=Lib.hid ((g1.block b15 (by have:=y0.size;omega) (by simp;omega)).trans R150.out)
     rw [←hv1]
     clear hv1 R90 R130 R150
     refine aI ⟨R131.out,R151.out⟩ ?_
     refine TkI ?_
     refine TkA ?_
     refine aL rfl ?_
     refine wpList_store_mid rfl 244 _ _ rfl b9 10 #[.int .i64 z2.op,.int .i64 z2.val,.string z2.name,.int .i64 z2.slot,.int .i64 z2.size,.slice z2.A z2.n z2.c] rfl rfl (mH R91.out (by simp)) (by kernel_rfl) (by simp [Value.oneCell']) ?_
     obtain ⟨v2,hv2⟩:∃v2,v2=v1.setCells b9 10 [.int .i64 z2.op,.int .i64 z2.val,.string z2.name,.int .i64 z2.slot,.int .i64 z2.size,.slice z2.A z2.n z2.c]:=⟨_,rfl⟩
     have g2:v1.grownBy v2 (some b9):=by rw [hv2];exact eW _ _ _ _ _ _ _ _ _
     have R92:=Lib.hid (show v2.heap[b9]? =some (.cells #[.int .i64 xk,.string (ByteArray.mk #[]),.int .i64 0,.int .i64 0,.int .i64 z1.op,.int .i64 z1.val,.string z1.name,.int .i64 z1.slot,.int .i64 z1.size,.slice z1.A z1.n z1.c,.int .i64 z2.op,.int .i64 z2.val,.string z2.name,.int .i64 z2.slot,.int .i64 z2.size,.slice z2.A z2.n z2.c,.slice xA xn xc,.slice xB xm2 xd] 246 (0,0)) by rw [hv2];exact iF R91.out _ _ _ _ _ _)
     have e1s:=g1.size
     have R132:=Lib.hid ((g2.block b13 (by have:=y0.size;omega) (by simp;omega)).trans R131.out)
     have R152:=Lib.hid ((g2.block b15 (by have:=y0.size;omega) (by simp;omega)).trans R151.out)
     rw [←hv2]
     clear hv2 R91 R131 R151
     refine aI ⟨R132.out,R152.out⟩ ?_
     refine TkI ?_
     refine TkA ?_
     have q216:v2.cell? ⟨b9,16,none⟩=some (.slice xA xn xc):=aA R92.out 16 _ rfl
     have f216:v2.frozen? ⟨b9,16,none⟩=false:=frozen_of_row _ _ _ _ _ R92.out
     obtain ⟨v3,hv3⟩:∃v3,v3=v2.setCell ⟨b9,16,none⟩ (.slice A3 m3 c3):=⟨_,rfl⟩
     have g3:v2.grownBy v3 (some b9):=by rw [hv3];exact aO (bC _ _)
     have R93:=Lib.hid (show v3.heap[b9]? =some (.cells #[.int .i64 xk,.string (ByteArray.mk #[]),.int .i64 0,.int .i64 0,.int .i64 z1.op,.int .i64 z1.val,.string z1.name,.int .i64 z1.slot,.int .i64 z1.size,.slice z1.A z1.n z1.c,.int .i64 z2.op,.int .i64 z2.val,.string z2.name,.int .i64 z2.slot,.int .i64 z2.size,.slice z2.A z2.n z2.c,.slice A3 m3 c3,.slice xB xm2 xd] 246 (0,0)) by rw [hv3];exact heap_setCell_same _ _ _ _ _ _ R92.out)
     have e2s:=g2.size
     have R133:=Lib.hid ((g3.block b13 (by have:=y0.size;omega) (by simp;omega)).trans R132.out)
     have R153:=Lib.hid ((g3.block b15 (by have:=y0.size;omega) (by simp;omega)).trans R152.out)
     refine aL rfl ?_
     go_wp2_with fail
     rw [←hv3]
     clear hv3 R92 R132 R152 q216 f216
     refine aI ⟨R133.out,R153.out⟩ ?_
     try refine TkI ?_
     refine TkA ?_
     have q317:v3.cell? ⟨b9,17,none⟩=some (.slice xB xm2 xd):=aA R93.out 17 _ rfl
     have f317:v3.frozen? ⟨b9,17,none⟩=false:=frozen_of_row _ _ _ _ _ R93.out
     obtain ⟨v4,hv4⟩:∃v4,v4=v3.setCell ⟨b9,17,none⟩ (.slice A4 m4 c4):=⟨_,rfl⟩
     have g4:v3.grownBy v4 (some b9):=by rw [hv4];exact aO (bC _ _)
     have R94:=Lib.hid (show v4.heap[b9]? =some (.cells #[.int .i64 xk,.string (ByteArray.mk #[]),.int .i64 0,.int .i64 0,.int .i64 z1.op,.int .i64 z1.val,.string z1.name,.int .i64 z1.slot,.int .i64 z1.size,.slice z1.A z1.n z1.c,.int .i64 z2.op,.int .i64 z2.val,.string z2.name,.int .i64 z2.slot,.int .i64 z2.size,.slice z2.A z2.n z2.c,.slice A3 m3 c3,.slice A4 m4 c4] 246 (0,0)) by rw [hv4];exact heap_setCell_same _ _ _ _ _ _ R93.out)
     have e3s:=g3.size
     have R134:=Lib.hid ((g4.block b13 (by have:=y0.size;omega) (by simp;omega)).trans R133.out)
     have R154:=Lib.hid ((g4.block b15 (by have:=y0.size;omega) (by simp;omega)).trans R153.out)
     refine aL rfl ?_
     go_wp2_with fail
     rw [←hv4]
     clear hv4 R93 R133 R153 q317 f317
     refine aI ⟨R134.out,R154.out⟩ ?_
     try refine TkI ?_
     refine TkA ?_
     refine aZ ?_
     have gAll:w14.grownBy v4 (some b9):=bD (bD (bD (bD (aQ y0 _) g1) g2) g3) g4
     have eAll:=gAll.size
     have KA:∀b,b<w14.heap.size→b≠b9→v4.heap[b]? =w14.heap[b]? :=fun b hb' hne=>gAll.block b hb' (by simp;omega)
     clear g1 g2 g3 g4 y0 R134 R154 e1s e2s e3s
     have ha:Below v4.heap.size v4 (v4.alloc (.cells #[.int .i64 xk,.string (ByteArray.mk #[]),.int .i64 0,.int .i64 0,.int .i64 z1.op,.int .i64 z1.val,.string z1.name,.int .i64 z1.slot,.int .i64 z1.size,.slice z1.A z1.n z1.c,.int .i64 z2.op,.int .i64 z2.val,.string z2.name,.int .i64 z2.slot,.int .i64 z2.size,.slice z2.A z2.n z2.c,.slice A3 m3 c3,.slice A4 m4 c4] 246)):=(Below.refl _ _).alloc (Nat.le_refl _) _
     obtain ⟨va,hva⟩:∃va,va=v4.alloc (.cells #[.int .i64 xk,.string (ByteArray.mk #[]),.int .i64 0,.int .i64 0,.int .i64 z1.op,.int .i64 z1.val,.string z1.name,.int .i64 z1.slot,.int .i64 z1.size,.slice z1.A z1.n z1.c,.int .i64 z2.op,.int .i64 z2.val,.string z2.name,.int .i64 z2.slot,.int .i64 z2.size,.slice z2.A z2.n z2.c,.slice A3 m3 c3,.slice A4 m4 c4] 246):=⟨_,rfl⟩
     rw [←hva] at ha
     have hva_row:va.heap[v4.heap.size]? =some (.cells #[.int .i64 xk,.string (ByteArray.mk #[]),.int .i64 0,.int .i64 0,.int .i64 z1.op,.int .i64 z1.val,.string z1.name,.int .i64 z1.slot,.int .i64 z1.size,.slice z1.A z1.n z1.c,.int .i64 z2.op,.int .i64 z2.val,.string z2.name,.int .i64 z2.slot,.int .i64 z2.size,.slice z2.A z2.n z2.c,.slice A3 m3 c3,.slice A4 m4 c4] 246 (0,0)):=by rw [hva];exact heap_alloc_new _ _
     have hvas:va.heap.size=v4.heap.size+1:=by rw [hva];simp
     have HVAS:=Lib.hid hvas
     have HVAR:=Lib.hid hva_row
     have esz:=hsz14.out
     have hbva:w.heap.size≤va.heap.size:=by have:=hb.size;omega
     have KW:∀b,b<wr.heap.size→va.heap[b]? =wr.heap[b]? :=fun b h=>(ha.block b (by omega)).trans ((KA b (by omega) (by omega)).trans (((Below.ext ycc yc14).block b h)))
     have hOa:OwLs bM 18 (fun S w=>SmOk (n+1) S w) va w.heap.size 246 (.slice A k c) us:=hO.keepR (bF (n+1)) (fun b h _=>KW b h)
     have KZ:Keep (fun b=>b9<b) w14 va:=fun b h hs=>(ha.block b (by omega)).trans (KA b h (by omega))
     have hZ1a:=ExOk.keep KZ 3 z1 u1 (ExOk.mono (fun b _ h=>by omega) _ _ _ hZ1)
     have hZ2a:=ExOk.keep KZ 3 z2 u2 (ExOk.mono (fun b _ h=>by omega) _ _ _ hZ2)
     have hL3:=((hO34.ls (bF n)).mono (S' :=fun b=>b9<b) (P' :=SmOk n (fun b=>b9<b) w14) (fun b _ h=>by omega) (fun y u h=>SmOk.mono (fun b _ h=>by omega) n y u h)).keep KZ (fun y u h=>SmOk.keep KZ n y u h)
     have hL4:=((hO4.ls (bF n)).mono (S' :=fun b=>b9<b) (P' :=SmOk n (fun b=>b9<b) w14) (fun b _ h=>by omega) (fun y u h=>SmOk.mono (fun b _ h=>by omega) n y u h)).keep KZ (fun y u h=>SmOk.keep KZ n y u h)
     have hOlt:∀o,(Value.slice A k c).ownBlock=some o→w.heap.size≤o∧o<wr.heap.size:=fun o e=>hO.lt_ o e
     have CLS:∀b,b9<b→w.heap.size≤b∧(Value.slice A k c).ownBlock≠some b:=fun b h=>⟨by have:=hb.size;omega,fun e=>by have:=hOlt b e;omega⟩
     have hok:SmOk (n+1) (fun b=>w.heap.size≤b∧(Value.slice A k c).ownBlock≠some b) va ⟨xk,(ByteArray.mk #[]),0,0,z1,z2,A3,m3,c3,A4,m4,c4⟩ (.mk xk (ByteArray.mk #[]) 0 0 u1 u2 us3 us4):=⟨rfl,rfl,rfl,rfl,ExOk.mono (fun b _ h=>CLS b h) _ _ _ hZ1a,ExOk.mono (fun b _ h=>CLS b h) _ _ _ hZ2a,hL3.mono (fun b _ h=>CLS b h) (fun y u h=>SmOk.mono (fun b _ h=>CLS b h) n y u h),hL4.mono (fun b _ h=>CLS b h) (fun y u h=>SmOk.mono (fun b _ h=>CLS b h) n y u h)⟩
     have HNEW:=Lib.hid (show RsS (n+1) (.mk xk (ByteArray.mk #[]) 0 0 u1 u2 us3 us4) from ⟨HKD.out,HSL.out,HSZ.out,hr1,hr2,hr3,hr4⟩)
     have HUS:=Lib.hid (fun v hv=>(List.mem_append.1 hv).elim (hus.out v) (fun h=>by rw [List.mem_singleton] at h;subst h;exact HNEW.out):∀v∈us++ [Sm.mk xk (ByteArray.mk #[]) 0 0 u1 u2 us3 us4],RsS (n+1) v)
     obtain ⟨xs_,ho,hxl,hxs_⟩:=hOa
     have hlx:=Lib.hid ho.len.1
     have hone:Recs bM (fun _=>True) va (.slice (some ⟨v4.heap.size,0,none⟩) 1 1) [⟨xk,(ByteArray.mk #[]),0,0,z1,z2,A3,m3,c3,A4,m4,c4⟩]:=fI HVAR.out trivial
     have hbeva:Below w.heap.size w va:=Below.grown2 (Below.ext hb (Below.ext ycc yc14)) gAll ha (by have:=hb.size;omega) (Nat.le_refl _)
     have hblk:∀o,(Value.slice A k c).ownBlock=some o→w.heap.size≤o:=fun o e=>(hOlt o e).1
     have HVA:=Lib.hid hva
     clear hZ1 hZ2 hO34 hO4 hZ1a hZ2a hL3 hL4 hva hva_row hvas hO
     go_wp2_with (first|(refine aD (t:=246) (A:=⟨b9,0,none⟩) rfl rfl rfl (aB R94.out Tryz.underlying246 rfl (by kernel_rfl)) ?_)|(rw [←HVA.out];refine aV (o:=⟨some 99,_,_,_,_,_⟩) cS dY (.agg #[.int .i64 0,.string (ByteArray.mk #[]),.int .i64 0,.int .i64 0,.int .i64 0,.int .i64 0,.string (ByteArray.mk #[]),.int .i64 0,.int .i64 0,.slice none 0 0,.int .i64 0,.int .i64 0,.string (ByteArray.mk #[]),.int .i64 0,.int .i64 0,.slice none 0 0,.slice none 0 0,.slice none 0 0]) 232 _ _ 27 246 w.heap.size xs_ [⟨xk,(ByteArray.mk #[]),0,0,z1,z2,A3,m3,c3,A4,m4,c4⟩] (some ⟨v4.heap.size,0,none⟩) 1 1 (.slice A k c) (k+1) rfl rfl Tryz.underlying27 fJ rfl (by omega) rfl rfl ho hone (by rw [hlx.out]) (by rw [hlx.out];omega) (by rw [hlx.out];omega) hbva ?_;intro A9 c9 w9 hown9 hgr9 hat9 hc91 hc92))
     have hb10:Below w.heap.size w w9:=hbeva.grown hgr9 hbva (fun o e=>hblk _ e)
     have hO10:=OwLs.push (bF (n+1)) ⟨hxl,hxs_⟩ _ _ hok hown9 hgr9 hat9
     clear hok hown9 hgr9 hat9 ho hxs_
     go_wp2
     go_roundw
     case rel=>exact ⟨k+1,A9,c9,us++ [Sm.mk xk (ByteArray.mk #[]) 0 0 u1 u2 us3 us4],rfl,rfl,by go_num,by omega,hO10,HUS,hb10⟩
     case measure=>simp [intOf];omega
  ·obtain rfl:k=m:=by omega
   go_wp2
   go_ret2
   exact ⟨A,k,c,us,rfl,hO,hus.out,hb⟩
theorem oT:∀(n:Nat),zQ n:=fun n=>Nat.strongRecOn n fun n ih=>DN n ih
end Go.Proofs.YtiblijmngokcgaaGreatDoor
