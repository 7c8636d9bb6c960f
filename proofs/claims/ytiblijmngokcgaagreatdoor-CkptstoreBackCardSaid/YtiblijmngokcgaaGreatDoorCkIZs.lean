import Derived.Test.YtiblijmngokcgaaGreatDoorMacZs
import Derived.Test.YtiblijmngokcgaaGreatDoorG34Zs
import Derived.Test.YtiblijmngokcgaaGreatDoorG19Zs
namespace Go.Proofs.YtiblijmngokcgaaGreatDoor
open Go.RowKit
set_option maxRecDepth 100000
set_option linter.unusedVariables false
set_option linter.unusedSimpArgs false
theorem OwLs.lt_ {V T:Type} {enc:V→List Value} {k:Nat} {P:(Nat→Prop)→World→V→T→Prop} {w:World} {base:Nat} {e:TypeId} {v:Value} {ts:List T} (h:OwLs enc k P w base e v ts):∀o,v.ownBlock=some o→base≤o∧o<w.heap.size:=fun o ho=>by
 obtain ⟨xs,h1,_⟩:=h
 exact World.ownsRow.lt h1 o ho
def wG (n:Nat):Prop:=∀(x:ExV) (t:Ex) (S:Nat→Prop) (w:World) (V:Nat) (i s k:Int),1≤s→s≤5→w.heap[V]? =some (.cells (eC i s k) 199 (0,0))→ExOk n S w x t→NmE n t→
 Calls Tryz.prog 189 #[.slice (some ⟨V,0,none⟩) 5 5,.agg #[.int .i64 x.op,.int .i64 x.val,.string x.name,.int .i64 x.slot,.int .i64 x.size,.slice x.A x.n x.c]] w fun e w' =>∃(z:ExV) (u:Ex),e= .returned (.tuple #[.agg #[.int .i64 z.op,.int .i64 z.val,.string z.name,.int .i64 z.slot,.int .i64 z.size,.slice z.A z.n z.c],.bool true])∧ExOk n (w.heap.size≤·) w' z u∧RsE n u∧Below w.heap.size w w'
set_option maxHeartbeats 16000000 in
theorem CQ (n:Nat) (ih:wG n):wG (n+1):=by
 intro x t S w V i s k0 hs1 hs5 hV hok hnm
 obtain ⟨xo,xv,xm,xs,xz,xA,xn,xc⟩:=x
 obtain ⟨op,val,name,slot,size,args⟩:=t
 obtain ⟨rfl,rfl,rfl,rfl,rfl,hargs⟩:=hok
 obtain ⟨hop,hval,hslot,hsize,hal,hnmx,hall⟩:=hnm
 dsimp only at*
 subst hslot hsize
 have hlen:=hargs.len
 have HL:=Lib.hid hlen.1
 have hxn:xn≤2:=by omega
 have hlc:=hlen.2
 have HALL:=Lib.hid hall
 have HVAL:=Lib.hid hval
 have HAL:=Lib.hid hal
 have hVl:V<w.heap.size:=(Array.getElem?_eq_some_iff.1 hV).1
 have HV:=Lib.hid (fun (w' :World) (hb:Below w.heap.size w w')=>(hb.block V hVl).trans hV)
 have HNM:=Lib.hid hnmx
 clear hlen hall hnmx hV hval hal
 rcases HNM.out with ⟨rfl,g⟩|⟨rfl,g⟩|⟨g2,g3,g⟩
 ·clear HNM
  have HOP:=Lib.hid (show 0≤(2:Int)∧(2:Int)≤22 from ⟨by omega,by omega⟩)
  obtain ⟨W0,hW0,hbW0,SW0,R0,R1⟩:∃W,W=(w.alloc (.cells #[.int .i64 2,.int .i64 xv,.string xm,.int .i64 0,.int .i64 0,.slice xA xn xc] 244)).alloc (.cells #[.int .i64 0,.int .i64 0,.string (ByteArray.mk #[]),.int .i64 0,.int .i64 0,.slice none 0 0] 244)∧Below w.heap.size w W∧RowKit.Hid (W.heap.size=w.heap.size+2)∧
   RowKit.Hid (W.heap[w.heap.size]? =some (.cells #[.int .i64 2,.int .i64 xv,.string xm,.int .i64 0,.int .i64 0,.slice xA xn xc] 244 (0,0)))∧RowKit.Hid (W.heap[w.heap.size+1]? =some (.cells #[.int .i64 0,.int .i64 0,.string (ByteArray.mk #[]),.int .i64 0,.int .i64 0,.slice none 0 0] 244 (0,0))):=by
   refine ⟨_,rfl,((Below.refl _ w).alloc (Nat.le_refl _) _).alloc (by simp) _,Lib.hid (by simp),Lib.hid ?_,Lib.hid ?_⟩
   ·exact Tzar
   ·have:=heap_alloc_new (w.alloc (.cells #[.int .i64 2,.int .i64 xv,.string xm,.int .i64 0,.int .i64 0,.slice xA xn xc] 244)) (.cells #[.int .i64 0,.int .i64 0,.string (ByteArray.mk #[]),.int .i64 0,.int .i64 0,.slice none 0 0] 244)
    rw [World.size_alloc] at this
    exact this
  obtain ⟨W1,hW1,b1,k1,S1,R2⟩:=bP W0 W0 #[.int .i64 2,.int .i64 xv,.string xm,.int .i64 0,.int .i64 0,.slice xA xn xc] 244 (Below.refl _ _)
  obtain ⟨b6,hb6⟩:∃b,b=W0.heap.size:=⟨_,rfl⟩
  rw [←hb6] at R2
  have HB6:=Lib.hid hb6
  have h6:b6=w.heap.size+2:=by have:=SW0.out;omega
  have h6W:b6<W1.heap.size:=by have:=S1.out;omega
  have hbW1:=Below.ext hbW0 k1
  have z00:=SW0.out
  have R01:=Lib.hid ((k1.block w.heap.size (by omega)).trans R0.out)
  have R11:=Lib.hid ((k1.block (w.heap.size+1) (by omega)).trans R1.out)
  have H6:=Lib.hid h6
  have h6a:w.heap.size+2≤b6:=by omega
  have h6b:b6<w.heap.size+3:=by omega
  clear hb6 z00 h6
  obtain ⟨W2,hW2⟩:∃W2,W2=W1.setCell ⟨b6,5,none⟩ (.slice none 0 0):=⟨_,rfl⟩
  have g2_:W1.grownBy W2 (some b6):=by rw [hW2];exact aO (bC _ _)
  have p5_:W1.cell? ⟨b6,5,none⟩=some (.slice xA xn xc):=aA R2.out 5 _ rfl
  have f5_:W1.frozen? ⟨b6,5,none⟩=false:=frozen_of_row _ _ _ _ _ R2.out
  have R22:=Lib.hid (show W2.heap[b6]? =some (.cells #[.int .i64 2,.int .i64 xv,.string xm,.int .i64 0,.int .i64 0,.slice none 0 0] 244 (0,0)) by rw [hW2];exact heap_setCell_same _ _ _ _ _ _ R2.out)
  have R02:=Lib.hid ((g2_.block w.heap.size (by omega) (by simp;omega)).trans R01.out)
  have R12:=Lib.hid ((g2_.block (w.heap.size+1) (by omega) (by simp;omega)).trans R11.out)
  have hbW2:Below w.heap.size w W2:=hbW1.grown g2_ hbW1.size (fun o e=>by cases e;omega)
  have hHW2:=Lib.hid hW2
  go_enter Tryz.func189,Tryz.ntmps189
  clear hW2
  go_upto_region 1 with fail
  rw [←hW0]
  clear hW0
  go_upto_region 2 with (first|(refine aD (t:=244) (A:=⟨w.heap.size,0,none⟩) rfl rfl rfl (aB R0.out Tryz.underlying244 rfl (by kernel_rfl)) ?_)|(refine aF rfl 244 _ _ rfl 244 _ #[.int .i64 2,.int .i64 xv,.string xm,.int .i64 0,.int .i64 0,.slice xA xn xc] rfl rfl (by kernel_rfl) rfl (by simp [Value.oneCell']) ?_))
  try dsimp only
  rw [←hW1,←HB6.out]
  clear hW1
  try simp only [Act.put]
  go_upto_region 3 with fail
  rw [←hHW2.out]
  clear g2_ p5_ f5_ hHW2 R0 R1 R2 R01 R11
  have p0:W2.cell? ⟨w.heap.size,0,none⟩=some (.int .i64 2):=aA R02.out 0 _ rfl
  have p2:W2.cell? ⟨w.heap.size,2,none⟩=some (.string xm):=aA R02.out 2 _ rfl
  have HLK:=Lib.hid (gQ W2 V i s k0 hs1 hs5 (HV.out W2 hbW2) xm (.inl g))
  go_upto_region 5 with fail
  go_wp2_with fail
  refine HLK.out.mono ?_
  rintro e w5 ⟨sl,sz,ok,rfl,hout,b5⟩
  have s5:=b5.size
  have hbW2s:=hbW2.size
  have h6W2:b6<W2.heap.size:=(Array.getElem?_eq_some_iff.1 R22.out).1
  have R05:=Lib.hid ((b5.block w.heap.size (by omega)).trans R02.out)
  have R15:=Lib.hid ((b5.block (w.heap.size+1) (by omega)).trans R12.out)
  have R25:=Lib.hid ((b5.block b6 h6W2).trans R22.out)
  have hb5:=Below.ext hbW2 b5
  obtain rfl:sz=0:=(hout.2.2.1 g).1
  have HSL:=Lib.hid hout.1
  have HSZ:=Lib.hid hout.2.1
  clear hout g
  have q3:w5.cell? ⟨b6,3,none⟩=some (.int .i64 0):=aA R25.out 3 _ rfl
  have f3:w5.frozen? ⟨b6,3,none⟩=false:=frozen_of_row _ _ _ _ _ R25.out
  have R26:=heap_setCell_same _ _ 3 _ _ (.int .i64 sl) R25.out
  have q4:(w5.setCell ⟨b6,3,none⟩ (.int .i64 sl)).cell? ⟨b6,4,none⟩=some (.int .i64 0):=aA R26 4 _ rfl
  have f4:(w5.setCell ⟨b6,3,none⟩ (.int .i64 sl)).frozen? ⟨b6,4,none⟩=false:=frozen_of_row _ _ _ _ _ R26
  obtain ⟨W7,hW7⟩:∃W7,W7=(w5.setCell ⟨b6,3,none⟩ (.int .i64 sl)).setCell ⟨b6,4,none⟩ (.int .i64 0):=⟨_,rfl⟩
  have g7:w5.grownBy W7 (some b6):=by rw [hW7];exact aO (aO (bC _ _))
  have RC:=Lib.hid (show W7.heap[b6]? =some (.cells #[.int .i64 2,.int .i64 xv,.string xm,.int .i64 sl,.int .i64 0,.slice none 0 0] 244 (0,0)) by rw [hW7];exact heap_setCell_same _ _ _ _ _ _ R26)
  have RA:=Lib.hid ((g7.block w.heap.size (by omega) (by simp;omega)).trans R05.out)
  have RB_:=Lib.hid ((g7.block (w.heap.size+1) (by omega) (by simp;omega)).trans R15.out)
  have hWb:Below w.heap.size w W7:=hb5.grown g7 hb5.size (fun o e=>by cases e;omega)
  clear R26
  have p07:W7.cell? ⟨w.heap.size,0,none⟩=some (.int .i64 2):=aA RA.out 0 _ rfl
  go_upto_region 7 with fail
  rw [←hW7]
  clear hW7 g7 R02 R12 R22 R05 R15 R25 q3 f3 q4 f4
  go_wp2
  go_loopw [7,11] (fun o b wr=>∃(k:Nat) (A:Option Addr) (c:Nat) (us:List Ex),o= .bool true∧b= .int .i64 k∧k≤xn∧RowKit.Hid (wr.heap[w.heap.size]? =some (.cells #[.int .i64 2,.int .i64 xv,.string xm,.int .i64 0,.int .i64 0,.slice xA xn xc] 244 (0,0)))∧RowKit.Hid (wr.heap[w.heap.size+1]? =some (.cells #[.int .i64 0,.int .i64 0,.string (ByteArray.mk #[]),.int .i64 0,.int .i64 0,.slice none 0 0] 244 (0,0)))∧RowKit.Hid (wr.heap[b6]? =some (.cells #[.int .i64 2,.int .i64 xv,.string xm,.int .i64 sl,.int .i64 0,.slice A k c] 244 (0,0)))∧OwLs eB 6 (fun S w=>ExOk n S w) wr (w.heap.size+3) 244 (.slice A k c) us∧RowKit.Hid (∀u∈us,RsE n u)∧Below w.heap.size w wr) (fun _ b _=>xn-(intOf b).toNat)
  case atStart=>exact ⟨0,none,0,[],rfl,rfl,by omega,RA,RB_,RC,OwLs.nil_ _ _ _ _ _ _,Lib.hid (fun u hu=>by simp at hu),hWb⟩
  case round=>
   obtain ⟨k,A,c,us,rfl,rfl,hk,Q0,Q4,Q6,hO,hus,hb⟩:=hrel
   have hb6r:b6<wr.heap.size:=(Array.getElem?_eq_some_iff.1 Q6.out).1
   have p5:wr.cell? ⟨w.heap.size,5,none⟩=some (.slice xA xn xc):=aA Q0.out 5 _ rfl
   by_cases hlt:k<xn
   ·obtain ⟨ba,oa,y,ty,rfl,hSS,hbl,hty,hoky,hcy⟩:=hargs.at_ dZ hlt (by omega)
    have HC:=Lib.hid (fun i u h2=>(hb.cell (p:=⟨ba,oa+k*6+i,none⟩) hbl).trans (hcy i u h2))
    have Hc:=Lib.hid (ih y ty S wr V i s k0 hs1 hs5 (HV.out wr hb) (ExOk.keep (Keep.of_below hb) _ _ _ hoky) (HALL.out ty (List.mem_of_getElem? hty)))
    have hol:=hO.len
    have hOl:=Lib.hid hol.1
    have hOlt:∀o,(Value.slice A k c).ownBlock=some o→w.heap.size+3≤o∧o<wr.heap.size:=fun o e=>hO.lt_ o e
    clear hol hcy hoky
    go_upto_region 11 with fail
    go_wp2_with (refine aD (t:=244) (A:=⟨ba,oa+k*6,none⟩) rfl rfl rfl (gC HC.out) ?_)
    refine Hc.out.mono ?_
    rintro e w1 ⟨z,u,rfl,hokz,hrz,b1⟩
    obtain ⟨W3,hW3,b3,k3,S3,R3⟩:=bP w1 w1 #[.int .i64 z.op,.int .i64 z.val,.string z.name,.int .i64 z.slot,.int .i64 z.size,.slice z.A z.n z.c] 244 (Below.refl _ _)
    obtain ⟨bx,hbx⟩:∃b,b=w1.heap.size:=⟨_,rfl⟩
    rw [←hbx] at R3
    have HBX:=Lib.hid hbx
    have s1:=b1.size
    have hbxr:wr.heap.size≤bx:=by omega
    have hbx3:bx<W3.heap.size:=by have:=S3.out;omega
    have y3:Below wr.heap.size wr W3:=Below.ext b1 k3
    have Q03:=Lib.hid ((y3.block w.heap.size (by omega)).trans Q0.out)
    have Q43:=Lib.hid ((y3.block (w.heap.size+1) (by omega)).trans Q4.out)
    have Q63:=Lib.hid ((y3.block b6 hb6r).trans Q6.out)
    have hO3:=hO.ext (bU n) y3
    have hok3:ExOk n (fun b=>w.heap.size+3≤b∧(Value.slice A k c).ownBlock≠some b) W3 z u:=ExOk.mono (fun b hb' h=>⟨by omega,fun e=>by have:=hOlt b e;omega⟩) _ _ _ (ExOk.keep (Keep.of_below k3) _ _ _ hokz)
    clear hbx hokz hO Q0 Q4 Q6
    go_upto_region 12 with (refine aF rfl 244 _ _ rfl 244 _ #[.int .i64 z.op,.int .i64 z.val,.string z.name,.int .i64 z.slot,.int .i64 z.size,.slice z.A z.n z.c] rfl rfl (by kernel_rfl) rfl (by simp [Value.oneCell']) ?_)
    try dsimp only
    rw [←hW3,←HBX.out]
    clear hW3
    try simp only [Act.put]
    have q5:W3.cell? ⟨b6,5,none⟩=some (.slice A k c):=aA Q63.out 5 _ rfl
    have ha:Below W3.heap.size W3 (W3.alloc (.cells #[.int .i64 z.op,.int .i64 z.val,.string z.name,.int .i64 z.slot,.int .i64 z.size,.slice z.A z.n z.c] 244)):=(Below.refl _ _).alloc (Nat.le_refl _) _
    obtain ⟨xs,ho,hxl,hxs⟩:=hO3.ext (bU n) ha
    have hlx:=Lib.hid ho.len.1
    have hone:Recs eB (fun _=>True) (W3.alloc (.cells #[.int .i64 z.op,.int .i64 z.val,.string z.name,.int .i64 z.slot,.int .i64 z.size,.slice z.A z.n z.c] 244)) (.slice (some ⟨W3.heap.size,0,none⟩) 1 1) [z]:=⟨_,1,rfl,by simp,by simp [maxLen],Cs.lit _ _ _ _ _ trivial rfl⟩
    have hok4:ExOk n (fun b=>w.heap.size+3≤b∧(Value.slice A k c).ownBlock≠some b) (W3.alloc (.cells #[.int .i64 z.op,.int .i64 z.val,.string z.name,.int .i64 z.slot,.int .i64 z.size,.slice z.A z.n z.c] 244)) z u:=ExOk.keep (Keep.of_below ha) _ _ _ hok3
    have s3:=y3.size
    have sa:=ha.size
    have hbn:w.heap.size+3≤(W3.alloc (.cells #[.int .i64 z.op,.int .i64 z.val,.string z.name,.int .i64 z.slot,.int .i64 z.size,.slice z.A z.n z.c] 244)).heap.size:=by omega
    have Q64:=Lib.hid ((ha.block b6 (by omega)).trans Q63.out)
    have Q44:=Lib.hid ((ha.block (w.heap.size+1) (by omega)).trans Q43.out)
    have Q04:=Lib.hid ((ha.block w.heap.size (by omega)).trans Q03.out)
    have hb4:Below w.heap.size w (W3.alloc (.cells #[.int .i64 z.op,.int .i64 z.val,.string z.name,.int .i64 z.slot,.int .i64 z.size,.slice z.A z.n z.c] 244)):=Below.ext (Below.ext hb y3) ha
    clear hO3 hok3 Q63 Q43 Q03
    go_wp2_with (first|(refine aD (t:=244) (A:=⟨bx,0,none⟩) rfl rfl rfl (aB R3.out Tryz.underlying244 rfl (by kernel_rfl)) ?_)|(refine aV (o:=⟨some 63,_,_,_,_,_⟩) dZ oL (.agg #[.int .i64 0,.int .i64 0,.string (ByteArray.mk #[]),.int .i64 0,.int .i64 0,.slice none 0 0]) 72 _ _ 242 244 (w.heap.size+3) xs [z] (some ⟨W3.heap.size,0,none⟩) 1 1 (.slice A k c) (k+1) rfl rfl Tryz.underlying242 vD rfl (by omega) rfl rfl ho hone (by rw [hlx.out]) (by rw [hlx.out];omega) (by rw [hlx.out];omega) hbn ?_;intro A9 c9 w9 hown9 hgr9 hat9 hc91 hc92;have hblk:∀o,(Value.slice A k c).ownBlock=some o→w.heap.size+3≤o:=fun o e=>(hOlt o e).1;have Q69:=Lib.hid ((hgr9.block b6 (by omega) (fun e=>by have:=hblk _ e.symm;omega)).trans Q64.out);have q9:w9.cell? ⟨b6,5,none⟩=some (.slice A k c):=aA Q69.out 5 _ rfl;have f9:w9.frozen? ⟨b6,5,none⟩=false:=frozen_of_row _ _ _ _ _ Q69.out))
    have Q49:=Lib.hid ((hgr9.block (w.heap.size+1) (by omega) (fun e=>by have:=hblk _ e.symm;omega)).trans Q44.out)
    have Q09:=Lib.hid ((hgr9.block w.heap.size (by omega) (fun e=>by have:=hblk _ e.symm;omega)).trans Q04.out)
    have hO9:=OwLs.push (bU n) ⟨hxl,hxs⟩ z u hok4 hown9 hgr9 hat9
    have hb9:Below w.heap.size w w9:=hb4.grown hgr9 hb4.size (fun o e=>by have:=hblk _ e;omega)
    obtain ⟨w10,hw10⟩:∃w10,w10=w9.setCell ⟨b6,5,none⟩ (.slice A9 (k+1) c9):=⟨_,rfl⟩
    have gS:w9.grownBy w10 (some b6):=by rw [hw10];exact aO (bC _ _)
    have Q6x:=Lib.hid (show w10.heap[b6]? =some (.cells #[.int .i64 2,.int .i64 xv,.string xm,.int .i64 sl,.int .i64 0,.slice A9 (k+1) c9] 244 (0,0)) by rw [hw10];exact heap_setCell_same _ _ _ _ _ _ Q69.out)
    exact Tzav
   ·obtain rfl:k=xn:=by omega
    have hol:=hO.len
    go_wp2_with (first|(refine aD (t:=244) (A:=⟨b6,0,none⟩) rfl rfl rfl (aB Q6.out Tryz.underlying244 rfl (by kernel_rfl)) ?_)|(refine aC rfl 244 _ _ rfl (w.heap.size+1) 244 _ _ rfl rfl Q4.out (by kernel_rfl) rfl (by simp [Value.oneCell']) ?_))
    refine bodyPost_ret (bI rfl rfl (aB (setRow_heap _ _ _ _ _ _ Q4.out) Tryz.underlying244 rfl (by kernel_rfl))) rfl ?_
    have gE:=aJ wr (w.heap.size+1) #[.int .i64 2,.int .i64 xv,.string xm,.int .i64 sl,.int .i64 0,.slice A k c]
    have hOE:=hO.keepR (bU n) (fun b hb' hs=>gE.block b hb' (by simp;omega))
    have hlo:=(hOE.ls (bU n)).mono (S' :=(w.heap.size≤·)) (P' :=ExOk n (w.heap.size≤·) _) (fun b _ h=>by omega) (fun y u h=>ExOk.mono (fun b _ h=>by omega) n y u h)
    refine ⟨⟨2,xv,xm,sl,0,A,k,c⟩,.mk 2 xv xm sl 0 us,rfl,⟨rfl,rfl,rfl,rfl,rfl,hlo⟩,⟨HOP.out,HVAL.out,⟨HSL.out.1,HSL.out.2⟩,⟨HSZ.out.1,HSZ.out.2⟩,by have:=HAL.out;have:=HL.out;omega,hus.out⟩,hb.grown gE hb.size (fun o e=>by cases e;omega)⟩
 ·clear HNM
  have HOP:=Lib.hid (show 0≤(3:Int)∧(3:Int)≤22 from ⟨by omega,by omega⟩)
  obtain ⟨W0,hW0,hbW0,SW0,R0,R1⟩:∃W,W=(w.alloc (.cells #[.int .i64 3,.int .i64 xv,.string xm,.int .i64 0,.int .i64 0,.slice xA xn xc] 244)).alloc (.cells #[.int .i64 0,.int .i64 0,.string (ByteArray.mk #[]),.int .i64 0,.int .i64 0,.slice none 0 0] 244)∧Below w.heap.size w W∧RowKit.Hid (W.heap.size=w.heap.size+2)∧
   RowKit.Hid (W.heap[w.heap.size]? =some (.cells #[.int .i64 3,.int .i64 xv,.string xm,.int .i64 0,.int .i64 0,.slice xA xn xc] 244 (0,0)))∧RowKit.Hid (W.heap[w.heap.size+1]? =some (.cells #[.int .i64 0,.int .i64 0,.string (ByteArray.mk #[]),.int .i64 0,.int .i64 0,.slice none 0 0] 244 (0,0))):=by
   refine ⟨_,rfl,((Below.refl _ w).alloc (Nat.le_refl _) _).alloc (by simp) _,Lib.hid (by simp),Lib.hid ?_,Lib.hid ?_⟩
   ·exact Tzar
   ·have:=heap_alloc_new (w.alloc (.cells #[.int .i64 3,.int .i64 xv,.string xm,.int .i64 0,.int .i64 0,.slice xA xn xc] 244)) (.cells #[.int .i64 0,.int .i64 0,.string (ByteArray.mk #[]),.int .i64 0,.int .i64 0,.slice none 0 0] 244)
    rw [World.size_alloc] at this
    exact this
  obtain ⟨W1,hW1,b1,k1,S1,R2⟩:=bP W0 W0 #[.int .i64 3,.int .i64 xv,.string xm,.int .i64 0,.int .i64 0,.slice xA xn xc] 244 (Below.refl _ _)
  obtain ⟨b6,hb6⟩:∃b,b=W0.heap.size:=⟨_,rfl⟩
  rw [←hb6] at R2
  have HB6:=Lib.hid hb6
  have h6:b6=w.heap.size+2:=by have:=SW0.out;omega
  have h6W:b6<W1.heap.size:=by have:=S1.out;omega
  have hbW1:=Below.ext hbW0 k1
  have z00:=SW0.out
  have R01:=Lib.hid ((k1.block w.heap.size (by omega)).trans R0.out)
  have R11:=Lib.hid ((k1.block (w.heap.size+1) (by omega)).trans R1.out)
  have H6:=Lib.hid h6
  have h6a:w.heap.size+2≤b6:=by omega
  have h6b:b6<w.heap.size+3:=by omega
  clear hb6 z00 h6
  obtain ⟨W2,hW2⟩:∃W2,W2=W1.setCell ⟨b6,5,none⟩ (.slice none 0 0):=⟨_,rfl⟩
  have g2_:W1.grownBy W2 (some b6):=by rw [hW2];exact aO (bC _ _)
  have p5_:W1.cell? ⟨b6,5,none⟩=some (.slice xA xn xc):=aA R2.out 5 _ rfl
  have f5_:W1.frozen? ⟨b6,5,none⟩=false:=frozen_of_row _ _ _ _ _ R2.out
  have R22:=Lib.hid (show W2.heap[b6]? =some (.cells #[.int .i64 3,.int .i64 xv,.string xm,.int .i64 0,.int .i64 0,.slice none 0 0] 244 (0,0)) by rw [hW2];exact heap_setCell_same _ _ _ _ _ _ R2.out)
  have R02:=Lib.hid ((g2_.block w.heap.size (by omega) (by simp;omega)).trans R01.out)
  have R12:=Lib.hid ((g2_.block (w.heap.size+1) (by omega) (by simp;omega)).trans R11.out)
  have hbW2:Below w.heap.size w W2:=hbW1.grown g2_ hbW1.size (fun o e=>by cases e;omega)
  have hHW2:=Lib.hid hW2
  go_enter Tryz.func189,Tryz.ntmps189
  clear hW2
  go_upto_region 1 with fail
  rw [←hW0]
  clear hW0
  go_upto_region 2 with (first|(refine aD (t:=244) (A:=⟨w.heap.size,0,none⟩) rfl rfl rfl (aB R0.out Tryz.underlying244 rfl (by kernel_rfl)) ?_)|(refine aF rfl 244 _ _ rfl 244 _ #[.int .i64 3,.int .i64 xv,.string xm,.int .i64 0,.int .i64 0,.slice xA xn xc] rfl rfl (by kernel_rfl) rfl (by simp [Value.oneCell']) ?_))
  try dsimp only
  rw [←hW1,←HB6.out]
  clear hW1
  try simp only [Act.put]
  go_upto_region 3 with fail
  rw [←hHW2.out]
  clear g2_ p5_ f5_ hHW2 R0 R1 R2 R01 R11
  have p0:W2.cell? ⟨w.heap.size,0,none⟩=some (.int .i64 3):=aA R02.out 0 _ rfl
  have p2:W2.cell? ⟨w.heap.size,2,none⟩=some (.string xm):=aA R02.out 2 _ rfl
  have HLK:=Lib.hid (gQ W2 V i s k0 hs1 hs5 (HV.out W2 hbW2) xm (.inr (.inl g)))
  go_upto_region 5 with fail
  go_wp2_with fail
  refine HLK.out.mono ?_
  rintro e w5 ⟨sl,sz,ok,rfl,hout,b5⟩
  have s5:=b5.size
  have hbW2s:=hbW2.size
  have h6W2:b6<W2.heap.size:=(Array.getElem?_eq_some_iff.1 R22.out).1
  have R05:=Lib.hid ((b5.block w.heap.size (by omega)).trans R02.out)
  have R15:=Lib.hid ((b5.block (w.heap.size+1) (by omega)).trans R12.out)
  have R25:=Lib.hid ((b5.block b6 h6W2).trans R22.out)
  have hb5:=Below.ext hbW2 b5
  have hz1:1≤sz:=(hout.2.2.2 g).1
  have dz:decide (0<sz)=true:=by simp;omega
  clear hz1
  have HSL:=Lib.hid hout.1
  have HSZ:=Lib.hid hout.2.1
  clear hout g
  have q3:w5.cell? ⟨b6,3,none⟩=some (.int .i64 0):=aA R25.out 3 _ rfl
  have f3:w5.frozen? ⟨b6,3,none⟩=false:=frozen_of_row _ _ _ _ _ R25.out
  have R26:=heap_setCell_same _ _ 3 _ _ (.int .i64 sl) R25.out
  have q4:(w5.setCell ⟨b6,3,none⟩ (.int .i64 sl)).cell? ⟨b6,4,none⟩=some (.int .i64 0):=aA R26 4 _ rfl
  have f4:(w5.setCell ⟨b6,3,none⟩ (.int .i64 sl)).frozen? ⟨b6,4,none⟩=false:=frozen_of_row _ _ _ _ _ R26
  obtain ⟨W7,hW7⟩:∃W7,W7=(w5.setCell ⟨b6,3,none⟩ (.int .i64 sl)).setCell ⟨b6,4,none⟩ (.int .i64 sz):=⟨_,rfl⟩
  have g7:w5.grownBy W7 (some b6):=by rw [hW7];exact aO (aO (bC _ _))
  have RC:=Lib.hid (show W7.heap[b6]? =some (.cells #[.int .i64 3,.int .i64 xv,.string xm,.int .i64 sl,.int .i64 sz,.slice none 0 0] 244 (0,0)) by rw [hW7];exact heap_setCell_same _ _ _ _ _ _ R26)
  have RA:=Lib.hid ((g7.block w.heap.size (by omega) (by simp;omega)).trans R05.out)
  have RB_:=Lib.hid ((g7.block (w.heap.size+1) (by omega) (by simp;omega)).trans R15.out)
  have hWb:Below w.heap.size w W7:=hb5.grown g7 hb5.size (fun o e=>by cases e;omega)
  clear R26
  have p07:W7.cell? ⟨w.heap.size,0,none⟩=some (.int .i64 3):=aA RA.out 0 _ rfl
  go_upto_region 7 with fail
  rw [←hW7]
  clear hW7 g7 R02 R12 R22 R05 R15 R25 q3 f3 q4 f4
  go_wp2
  go_loopw [7,11] (fun o b wr=>∃(k:Nat) (A:Option Addr) (c:Nat) (us:List Ex),o= .bool true∧b= .int .i64 k∧k≤xn∧RowKit.Hid (wr.heap[w.heap.size]? =some (.cells #[.int .i64 3,.int .i64 xv,.string xm,.int .i64 0,.int .i64 0,.slice xA xn xc] 244 (0,0)))∧RowKit.Hid (wr.heap[w.heap.size+1]? =some (.cells #[.int .i64 0,.int .i64 0,.string (ByteArray.mk #[]),.int .i64 0,.int .i64 0,.slice none 0 0] 244 (0,0)))∧RowKit.Hid (wr.heap[b6]? =some (.cells #[.int .i64 3,.int .i64 xv,.string xm,.int .i64 sl,.int .i64 sz,.slice A k c] 244 (0,0)))∧OwLs eB 6 (fun S w=>ExOk n S w) wr (w.heap.size+3) 244 (.slice A k c) us∧RowKit.Hid (∀u∈us,RsE n u)∧Below w.heap.size w wr) (fun _ b _=>xn-(intOf b).toNat)
  case atStart=>exact ⟨0,none,0,[],rfl,rfl,by omega,RA,RB_,RC,OwLs.nil_ _ _ _ _ _ _,Lib.hid (fun u hu=>by simp at hu),hWb⟩
  case round=>
   obtain ⟨k,A,c,us,rfl,rfl,hk,Q0,Q4,Q6,hO,hus,hb⟩:=hrel
   have hb6r:b6<wr.heap.size:=(Array.getElem?_eq_some_iff.1 Q6.out).1
   have p5:wr.cell? ⟨w.heap.size,5,none⟩=some (.slice xA xn xc):=aA Q0.out 5 _ rfl
   by_cases hlt:k<xn
   ·obtain ⟨ba,oa,y,ty,rfl,hSS,hbl,hty,hoky,hcy⟩:=hargs.at_ dZ hlt (by omega)
    have HC:=Lib.hid (fun i u h2=>(hb.cell (p:=⟨ba,oa+k*6+i,none⟩) hbl).trans (hcy i u h2))
    have Hc:=Lib.hid (ih y ty S wr V i s k0 hs1 hs5 (HV.out wr hb) (ExOk.keep (Keep.of_below hb) _ _ _ hoky) (HALL.out ty (List.mem_of_getElem? hty)))
    have hol:=hO.len
    have hOl:=Lib.hid hol.1
    have hOlt:∀o,(Value.slice A k c).ownBlock=some o→w.heap.size+3≤o∧o<wr.heap.size:=fun o e=>hO.lt_ o e
    clear hol hcy hoky
    go_upto_region 11 with fail
    go_wp2_with (refine aD (t:=244) (A:=⟨ba,oa+k*6,none⟩) rfl rfl rfl (gC HC.out) ?_)
    refine Hc.out.mono ?_
    rintro e w1 ⟨z,u,rfl,hokz,hrz,b1⟩
    obtain ⟨W3,hW3,b3,k3,S3,R3⟩:=bP w1 w1 #[.int .i64 z.op,.int .i64 z.val,.string z.name,.int .i64 z.slot,.int .i64 z.size,.slice z.A z.n z.c] 244 (Below.refl _ _)
    obtain ⟨bx,hbx⟩:∃b,b=w1.heap.size:=⟨_,rfl⟩
    rw [←hbx] at R3
    have HBX:=Lib.hid hbx
    have s1:=b1.size
    have hbxr:wr.heap.size≤bx:=by omega
    have hbx3:bx<W3.heap.size:=by have:=S3.out;omega
    have y3:Below wr.heap.size wr W3:=Below.ext b1 k3
    have Q03:=Lib.hid ((y3.block w.heap.size (by omega)).trans Q0.out)
    have Q43:=Lib.hid ((y3.block (w.heap.size+1) (by omega)).trans Q4.out)
    have Q63:=Lib.hid ((y3.block b6 hb6r).trans Q6.out)
    have hO3:=hO.ext (bU n) y3
    have hok3:ExOk n (fun b=>w.heap.size+3≤b∧(Value.slice A k c).ownBlock≠some b) W3 z u:=ExOk.mono (fun b hb' h=>⟨by omega,fun e=>by have:=hOlt b e;omega⟩) _ _ _ (ExOk.keep (Keep.of_below k3) _ _ _ hokz)
    clear hbx hokz hO Q0 Q4 Q6
    go_upto_region 12 with (refine aF rfl 244 _ _ rfl 244 _ #[.int .i64 z.op,.int .i64 z.val,.string z.name,.int .i64 z.slot,.int .i64 z.size,.slice z.A z.n z.c] rfl rfl (by kernel_rfl) rfl (by simp [Value.oneCell']) ?_)
    try dsimp only
    rw [←hW3,←HBX.out]
    clear hW3
    try simp only [Act.put]
    have q5:W3.cell? ⟨b6,5,none⟩=some (.slice A k c):=aA Q63.out 5 _ rfl
    have ha:Below W3.heap.size W3 (W3.alloc (.cells #[.int .i64 z.op,.int .i64 z.val,.string z.name,.int .i64 z.slot,.int .i64 z.size,.slice z.A z.n z.c] 244)):=(Below.refl _ _).alloc (Nat.le_refl _) _
    obtain ⟨xs,ho,hxl,hxs⟩:=hO3.ext (bU n) ha
    have hlx:=Lib.hid ho.len.1
    have hone:Recs eB (fun _=>True) (W3.alloc (.cells #[.int .i64 z.op,.int .i64 z.val,.string z.name,.int .i64 z.slot,.int .i64 z.size,.slice z.A z.n z.c] 244)) (.slice (some ⟨W3.heap.size,0,none⟩) 1 1) [z]:=⟨_,1,rfl,by simp,by simp [maxLen],Cs.lit _ _ _ _ _ trivial rfl⟩
    have hok4:ExOk n (fun b=>w.heap.size+3≤b∧(Value.slice A k c).ownBlock≠some b) (W3.alloc (.cells #[.int .i64 z.op,.int .i64 z.val,.string z.name,.int .i64 z.slot,.int .i64 z.size,.slice z.A z.n z.c] 244)) z u:=ExOk.keep (Keep.of_below ha) _ _ _ hok3
    have s3:=y3.size
    have sa:=ha.size
    have hbn:w.heap.size+3≤(W3.alloc (.cells #[.int .i64 z.op,.int .i64 z.val,.string z.name,.int .i64 z.slot,.int .i64 z.size,.slice z.A z.n z.c] 244)).heap.size:=by omega
    have Q64:=Lib.hid ((ha.block b6 (by omega)).trans Q63.out)
    have Q44:=Lib.hid ((ha.block (w.heap.size+1) (by omega)).trans Q43.out)
    have Q04:=Lib.hid ((ha.block w.heap.size (by omega)).trans Q03.out)
    have hb4:Below w.heap.size w (W3.alloc (.cells #[.int .i64 z.op,.int .i64 z.val,.string z.name,.int .i64 z.slot,.int .i64 z.size,.slice z.A z.n z.c] 244)):=Below.ext (Below.ext hb y3) ha
    clear hO3 hok3 Q63 Q43 Q03
    go_wp2_with (first|(refine aD (t:=244) (A:=⟨bx,0,none⟩) rfl rfl rfl (aB R3.out Tryz.underlying244 rfl (by kernel_rfl)) ?_)|(refine aV (o:=⟨some 63,_,_,_,_,_⟩) dZ oL (.agg #[.int .i64 0,.int .i64 0,.string (ByteArray.mk #[]),.int .i64 0,.int .i64 0,.slice none 0 0]) 72 _ _ 242 244 (w.heap.size+3) xs [z] (some ⟨W3.heap.size,0,none⟩) 1 1 (.slice A k c) (k+1) rfl rfl Tryz.underlying242 vD rfl (by omega) rfl rfl ho hone (by rw [hlx.out]) (by rw [hlx.out];omega) (by rw [hlx.out];omega) hbn ?_;intro A9 c9 w9 hown9 hgr9 hat9 hc91 hc92;have hblk:∀o,(Value.slice A k c).ownBlock=some o→w.heap.size+3≤o:=fun o e=>(hOlt o e).1;have Q69:=Lib.hid ((hgr9.block b6 (by omega) (fun e=>by have:=hblk _ e.symm;omega)).trans Q64.out);have q9:w9.cell? ⟨b6,5,none⟩=some (.slice A k c):=aA Q69.out 5 _ rfl;have f9:w9.frozen? ⟨b6,5,none⟩=false:=frozen_of_row _ _ _ _ _ Q69.out))
    have Q49:=Lib.hid ((hgr9.block (w.heap.size+1) (by omega) (fun e=>by have:=hblk _ e.symm;omega)).trans Q44.out)
    have Q09:=Lib.hid ((hgr9.block w.heap.size (by omega) (fun e=>by have:=hblk _ e.symm;omega)).trans Q04.out)
    have hO9:=OwLs.push (bU n) ⟨hxl,hxs⟩ z u hok4 hown9 hgr9 hat9
    have hb9:Below w.heap.size w w9:=hb4.grown hgr9 hb4.size (fun o e=>by have:=hblk _ e;omega)
    obtain ⟨w10,hw10⟩:∃w10,w10=w9.setCell ⟨b6,5,none⟩ (.slice A9 (k+1) c9):=⟨_,rfl⟩
    have gS:w9.grownBy w10 (some b6):=by rw [hw10];exact aO (bC _ _)
    have Q6x:=Lib.hid (show w10.heap[b6]? =some (.cells #[.int .i64 3,.int .i64 xv,.string xm,.int .i64 sl,.int .i64 sz,.slice A9 (k+1) c9] 244 (0,0)) by rw [hw10];exact heap_setCell_same _ _ _ _ _ _ Q69.out)
    exact Tzav
   ·obtain rfl:k=xn:=by omega
    have hol:=hO.len
    go_wp2_with (first|(refine aD (t:=244) (A:=⟨b6,0,none⟩) rfl rfl rfl (aB Q6.out Tryz.underlying244 rfl (by kernel_rfl)) ?_)|(refine aC rfl 244 _ _ rfl (w.heap.size+1) 244 _ _ rfl rfl Q4.out (by kernel_rfl) rfl (by simp [Value.oneCell']) ?_))
    refine bodyPost_ret (bI rfl rfl (aB (setRow_heap _ _ _ _ _ _ Q4.out) Tryz.underlying244 rfl (by kernel_rfl))) rfl ?_
    have gE:=aJ wr (w.heap.size+1) #[.int .i64 3,.int .i64 xv,.string xm,.int .i64 sl,.int .i64 sz,.slice A k c]
    have hOE:=hO.keepR (bU n) (fun b hb' hs=>gE.block b hb' (by simp;omega))
    have hlo:=(hOE.ls (bU n)).mono (S' :=(w.heap.size≤·)) (P' :=ExOk n (w.heap.size≤·) _) (fun b _ h=>by omega) (fun y u h=>ExOk.mono (fun b _ h=>by omega) n y u h)
    refine ⟨⟨3,xv,xm,sl,sz,A,k,c⟩,.mk 3 xv xm sl sz us,rfl,⟨rfl,rfl,rfl,rfl,rfl,hlo⟩,⟨HOP.out,HVAL.out,⟨HSL.out.1,HSL.out.2⟩,⟨HSZ.out.1,HSZ.out.2⟩,by have:=HAL.out;have:=HL.out;omega,hus.out⟩,hb.grown gE hb.size (fun o e=>by cases e;omega)⟩
 ·clear HNM
  have HOP:=Lib.hid hop
  subst g
  obtain ⟨W0,hW0,hbW0,SW0,R0,R1⟩:∃W,W=(w.alloc (.cells #[.int .i64 xo,.int .i64 xv,.string (ByteArray.mk #[]),.int .i64 0,.int .i64 0,.slice xA xn xc] 244)).alloc (.cells #[.int .i64 0,.int .i64 0,.string (ByteArray.mk #[]),.int .i64 0,.int .i64 0,.slice none 0 0] 244)∧Below w.heap.size w W∧RowKit.Hid (W.heap.size=w.heap.size+2)∧
   RowKit.Hid (W.heap[w.heap.size]? =some (.cells #[.int .i64 xo,.int .i64 xv,.string (ByteArray.mk #[]),.int .i64 0,.int .i64 0,.slice xA xn xc] 244 (0,0)))∧RowKit.Hid (W.heap[w.heap.size+1]? =some (.cells #[.int .i64 0,.int .i64 0,.string (ByteArray.mk #[]),.int .i64 0,.int .i64 0,.slice none 0 0] 244 (0,0))):=by
   refine ⟨_,rfl,((Below.refl _ w).alloc (Nat.le_refl _) _).alloc (by simp) _,Lib.hid (by simp),Lib.hid ?_,Lib.hid ?_⟩
   ·exact Tzar
   ·have:=heap_alloc_new (w.alloc (.cells #[.int .i64 xo,.int .i64 xv,.string (ByteArray.mk #[]),.int .i64 0,.int .i64 0,.slice xA xn xc] 244)) (.cells #[.int .i64 0,.int .i64 0,.string (ByteArray.mk #[]),.int .i64 0,.int .i64 0,.slice none 0 0] 244)
    rw [World.size_alloc] at this
    exact this
  obtain ⟨W1,hW1,b1,k1,S1,R2⟩:=bP W0 W0 #[.int .i64 xo,.int .i64 xv,.string (ByteArray.mk #[]),.int .i64 0,.int .i64 0,.slice xA xn xc] 244 (Below.refl _ _)
  obtain ⟨b6,hb6⟩:∃b,b=W0.heap.size:=⟨_,rfl⟩
  rw [←hb6] at R2
  have HB6:=Lib.hid hb6
  have h6:b6=w.heap.size+2:=by have:=SW0.out;omega
  have h6W:b6<W1.heap.size:=by have:=S1.out;omega
  have hbW1:=Below.ext hbW0 k1
  have z00:=SW0.out
  have R01:=Lib.hid ((k1.block w.heap.size (by omega)).trans R0.out)
  have R11:=Lib.hid ((k1.block (w.heap.size+1) (by omega)).trans R1.out)
  have H6:=Lib.hid h6
  have h6a:w.heap.size+2≤b6:=by omega
  have h6b:b6<w.heap.size+3:=by omega
  clear hb6 z00 h6
  obtain ⟨W2,hW2⟩:∃W2,W2=W1.setCell ⟨b6,5,none⟩ (.slice none 0 0):=⟨_,rfl⟩
  have g2_:W1.grownBy W2 (some b6):=by rw [hW2];exact aO (bC _ _)
  have p5_:W1.cell? ⟨b6,5,none⟩=some (.slice xA xn xc):=aA R2.out 5 _ rfl
  have f5_:W1.frozen? ⟨b6,5,none⟩=false:=frozen_of_row _ _ _ _ _ R2.out
  have R22:=Lib.hid (show W2.heap[b6]? =some (.cells #[.int .i64 xo,.int .i64 xv,.string (ByteArray.mk #[]),.int .i64 0,.int .i64 0,.slice none 0 0] 244 (0,0)) by rw [hW2];exact heap_setCell_same _ _ _ _ _ _ R2.out)
  have R02:=Lib.hid ((g2_.block w.heap.size (by omega) (by simp;omega)).trans R01.out)
  have R12:=Lib.hid ((g2_.block (w.heap.size+1) (by omega) (by simp;omega)).trans R11.out)
  have hbW2:Below w.heap.size w W2:=hbW1.grown g2_ hbW1.size (fun o e=>by cases e;omega)
  have hHW2:=Lib.hid hW2
  go_enter Tryz.func189,Tryz.ntmps189
  clear hW2
  go_upto_region 1 with fail
  rw [←hW0]
  clear hW0
  go_upto_region 2 with (first|(refine aD (t:=244) (A:=⟨w.heap.size,0,none⟩) rfl rfl rfl (aB R0.out Tryz.underlying244 rfl (by kernel_rfl)) ?_)|(refine aF rfl 244 _ _ rfl 244 _ #[.int .i64 xo,.int .i64 xv,.string (ByteArray.mk #[]),.int .i64 0,.int .i64 0,.slice xA xn xc] rfl rfl (by kernel_rfl) rfl (by simp [Value.oneCell']) ?_))
  try dsimp only
  rw [←hW1,←HB6.out]
  clear hW1
  try simp only [Act.put]
  go_upto_region 3 with fail
  rw [←hHW2.out]
  clear g2_ p5_ f5_ hHW2 R0 R1 R2 R01 R11
  have p0:W2.cell? ⟨w.heap.size,0,none⟩=some (.int .i64 xo):=aA R02.out 0 _ rfl
  have e2:(xo==2)=false:=by simpa using g2
  have e3:(xo==3)=false:=by simpa using g3
  have HSL:=Lib.hid (show 0≤(0:Int)∧(0:Int)≤1000 from ⟨by omega,by omega⟩)
  have HSZ:=HSL
  have RA:=R02
  have RB_:=R12
  have RC:=R22
  have hWb:=hbW2
  clear g2 g3 R02 R12 R22 hop
  go_wp2
  go_loopw [7,11] (fun o b wr=>∃(k:Nat) (A:Option Addr) (c:Nat) (us:List Ex),o= .bool true∧b= .int .i64 k∧k≤xn∧RowKit.Hid (wr.heap[w.heap.size]? =some (.cells #[.int .i64 xo,.int .i64 xv,.string (ByteArray.mk #[]),.int .i64 0,.int .i64 0,.slice xA xn xc] 244 (0,0)))∧RowKit.Hid (wr.heap[w.heap.size+1]? =some (.cells #[.int .i64 0,.int .i64 0,.string (ByteArray.mk #[]),.int .i64 0,.int .i64 0,.slice none 0 0] 244 (0,0)))∧RowKit.Hid (wr.heap[b6]? =some (.cells #[.int .i64 xo,.int .i64 xv,.string (ByteArray.mk #[]),.int .i64 0,.int .i64 0,.slice A k c] 244 (0,0)))∧OwLs eB 6 (fun S w=>ExOk n S w) wr (w.heap.size+3) 244 (.slice A k c) us∧RowKit.Hid (∀u∈us,RsE n u)∧Below w.heap.size w wr) (fun _ b _=>xn-(intOf b).toNat)
  case atStart=>exact ⟨0,none,0,[],rfl,rfl,by omega,RA,RB_,RC,OwLs.nil_ _ _ _ _ _ _,Lib.hid (fun u hu=>by simp at hu),hWb⟩
  case round=>
   obtain ⟨k,A,c,us,rfl,rfl,hk,Q0,Q4,Q6,hO,hus,hb⟩:=hrel
   have hb6r:b6<wr.heap.size:=(Array.getElem?_eq_some_iff.1 Q6.out).1
   have p5:wr.cell? ⟨w.heap.size,5,none⟩=some (.slice xA xn xc):=aA Q0.out 5 _ rfl
   by_cases hlt:k<xn
   ·obtain ⟨ba,oa,y,ty,rfl,hSS,hbl,hty,hoky,hcy⟩:=hargs.at_ dZ hlt (by omega)
    have HC:=Lib.hid (fun i u h2=>(hb.cell (p:=⟨ba,oa+k*6+i,none⟩) hbl).trans (hcy i u h2))
    have Hc:=Lib.hid (ih y ty S wr V i s k0 hs1 hs5 (HV.out wr hb) (ExOk.keep (Keep.of_below hb) _ _ _ hoky) (HALL.out ty (List.mem_of_getElem? hty)))
    have hol:=hO.len
    have hOl:=Lib.hid hol.1
    have hOlt:∀o,(Value.slice A k c).ownBlock=some o→w.heap.size+3≤o∧o<wr.heap.size:=fun o e=>hO.lt_ o e
    clear hol hcy hoky
    go_upto_region 11 with fail
    go_wp2_with (refine aD (t:=244) (A:=⟨ba,oa+k*6,none⟩) rfl rfl rfl (gC HC.out) ?_)
    refine Hc.out.mono ?_
    rintro e w1 ⟨z,u,rfl,hokz,hrz,b1⟩
    obtain ⟨W3,hW3,b3,k3,S3,R3⟩:=bP w1 w1 #[.int .i64 z.op,.int .i64 z.val,.string z.name,.int .i64 z.slot,.int .i64 z.size,.slice z.A z.n z.c] 244 (Below.refl _ _)
    obtain ⟨bx,hbx⟩:∃b,b=w1.heap.size:=⟨_,rfl⟩
    rw [←hbx] at R3
    have HBX:=Lib.hid hbx
    have s1:=b1.size
    have hbxr:wr.heap.size≤bx:=by omega
    have hbx3:bx<W3.heap.size:=by have:=S3.out;omega
    have y3:Below wr.heap.size wr W3:=Below.ext b1 k3
    have Q03:=Lib.hid ((y3.block w.heap.size (by omega)).trans Q0.out)
    have Q43:=Lib.hid ((y3.block (w.heap.size+1) (by omega)).trans Q4.out)
    have Q63:=Lib.hid ((y3.block b6 hb6r).trans Q6.out)
    have hO3:=hO.ext (bU n) y3
    have hok3:ExOk n (fun b=>w.heap.size+3≤b∧(Value.slice A k c).ownBlock≠some b) W3 z u:=ExOk.mono (fun b hb' h=>⟨by omega,fun e=>by have:=hOlt b e;omega⟩) _ _ _ (ExOk.keep (Keep.of_below k3) _ _ _ hokz)
    clear hbx hokz hO Q0 Q4 Q6
    go_upto_region 12 with (refine aF rfl 244 _ _ rfl 244 _ #[.int .i64 z.op,.int .i64 z.val,.string z.name,.int .i64 z.slot,.int .i64 z.size,.slice z.A z.n z.c] rfl rfl (by kernel_rfl) rfl (by simp [Value.oneCell']) ?_)
    try dsimp only
    rw [←hW3,←HBX.out]
    clear hW3
    try simp only [Act.put]
    have q5:W3.cell? ⟨b6,5,none⟩=some (.slice A k c):=aA Q63.out 5 _ rfl
    have ha:Below W3.heap.size W3 (W3.alloc (.cells #[.int .i64 z.op,.int .i64 z.val,.string z.name,.int .i64 z.slot,.int .i64 z.size,.slice z.A z.n z.c] 244)):=(Below.refl _ _).alloc (Nat.le_refl _) _
    obtain ⟨xs,ho,hxl,hxs⟩:=hO3.ext (bU n) ha
    have hlx:=Lib.hid ho.len.1
    have hone:Recs eB (fun _=>True) (W3.alloc (.cells #[.int .i64 z.op,.int .i64 z.val,.string z.name,.int .i64 z.slot,.int .i64 z.size,.slice z.A z.n z.c] 244)) (.slice (some ⟨W3.heap.size,0,none⟩) 1 1) [z]:=⟨_,1,rfl,by simp,by simp [maxLen],Cs.lit _ _ _ _ _ trivial rfl⟩
    have hok4:ExOk n (fun b=>w.heap.size+3≤b∧(Value.slice A k c).ownBlock≠some b) (W3.alloc (.cells #[.int .i64 z.op,.int .i64 z.val,.string z.name,.int .i64 z.slot,.int .i64 z.size,.slice z.A z.n z.c] 244)) z u:=ExOk.keep (Keep.of_below ha) _ _ _ hok3
    have s3:=y3.size
    have sa:=ha.size
    have hbn:w.heap.size+3≤(W3.alloc (.cells #[.int .i64 z.op,.int .i64 z.val,.string z.name,.int .i64 z.slot,.int .i64 z.size,.slice z.A z.n z.c] 244)).heap.size:=by omega
    have Q64:=Lib.hid ((ha.block b6 (by omega)).trans Q63.out)
    have Q44:=Lib.hid ((ha.block (w.heap.size+1) (by omega)).trans Q43.out)
    have Q04:=Lib.hid ((ha.block w.heap.size (by omega)).trans Q03.out)
    have hb4:Below w.heap.size w (W3.alloc (.cells #[.int .i64 z.op,.int .i64 z.val,.string z.name,.int .i64 z.slot,.int .i64 z.size,.slice z.A z.n z.c] 244)):=Below.ext (Below.ext hb y3) ha
    clear hO3 hok3 Q63 Q43 Q03
    go_wp2_with (first|(refine aD (t:=244) (A:=⟨bx,0,none⟩) rfl rfl rfl (aB R3.out Tryz.underlying244 rfl (by kernel_rfl)) ?_)|(refine aV (o:=⟨some 63,_,_,_,_,_⟩) dZ oL (.agg #[.int .i64 0,.int .i64 0,.string (ByteArray.mk #[]),.int .i64 0,.int .i64 0,.slice none 0 0]) 72 _ _ 242 244 (w.heap.size+3) xs [z] (some ⟨W3.heap.size,0,none⟩) 1 1 (.slice A k c) (k+1) rfl rfl Tryz.underlying242 vD rfl (by omega) rfl rfl ho hone (by rw [hlx.out]) (by rw [hlx.out];omega) (by rw [hlx.out];omega) hbn ?_;intro A9 c9 w9 hown9 hgr9 hat9 hc91 hc92;have hblk:∀o,(Value.slice A k c).ownBlock=some o→w.heap.size+3≤o:=fun o e=>(hOlt o e).1;have Q69:=Lib.hid ((hgr9.block b6 (by omega) (fun e=>by have:=hblk _ e.symm;omega)).trans Q64.out);have q9:w9.cell? ⟨b6,5,none⟩=some (.slice A k c):=aA Q69.out 5 _ rfl;have f9:w9.frozen? ⟨b6,5,none⟩=false:=frozen_of_row _ _ _ _ _ Q69.out))
    have Q49:=Lib.hid ((hgr9.block (w.heap.size+1) (by omega) (fun e=>by have:=hblk _ e.symm;omega)).trans Q44.out)
    have Q09:=Lib.hid ((hgr9.block w.heap.size (by omega) (fun e=>by have:=hblk _ e.symm;omega)).trans Q04.out)
    have hO9:=OwLs.push (bU n) ⟨hxl,hxs⟩ z u hok4 hown9 hgr9 hat9
    have hb9:Below w.heap.size w w9:=hb4.grown hgr9 hb4.size (fun o e=>by have:=hblk _ e;omega)
    obtain ⟨w10,hw10⟩:∃w10,w10=w9.setCell ⟨b6,5,none⟩ (.slice A9 (k+1) c9):=⟨_,rfl⟩
    have gS:w9.grownBy w10 (some b6):=by rw [hw10];exact aO (bC _ _)
    have Q6x:=Lib.hid (show w10.heap[b6]? =some (.cells #[.int .i64 xo,.int .i64 xv,.string (ByteArray.mk #[]),.int .i64 0,.int .i64 0,.slice A9 (k+1) c9] 244 (0,0)) by rw [hw10];exact heap_setCell_same _ _ _ _ _ _ Q69.out)
    exact Tzav
   ·obtain rfl:k=xn:=by omega
    have hol:=hO.len
    go_wp2_with (first|(refine aD (t:=244) (A:=⟨b6,0,none⟩) rfl rfl rfl (aB Q6.out Tryz.underlying244 rfl (by kernel_rfl)) ?_)|(refine aC rfl 244 _ _ rfl (w.heap.size+1) 244 _ _ rfl rfl Q4.out (by kernel_rfl) rfl (by simp [Value.oneCell']) ?_))
    refine bodyPost_ret (bI rfl rfl (aB (setRow_heap _ _ _ _ _ _ Q4.out) Tryz.underlying244 rfl (by kernel_rfl))) rfl ?_
    have gE:=aJ wr (w.heap.size+1) #[.int .i64 xo,.int .i64 xv,.string (ByteArray.mk #[]),.int .i64 0,.int .i64 0,.slice A k c]
    have hOE:=hO.keepR (bU n) (fun b hb' hs=>gE.block b hb' (by simp;omega))
    have hlo:=(hOE.ls (bU n)).mono (S' :=(w.heap.size≤·)) (P' :=ExOk n (w.heap.size≤·) _) (fun b _ h=>by omega) (fun y u h=>ExOk.mono (fun b _ h=>by omega) n y u h)
    refine ⟨⟨xo,xv,(ByteArray.mk #[]),0,0,A,k,c⟩,.mk xo xv (ByteArray.mk #[]) 0 0 us,rfl,⟨rfl,rfl,rfl,rfl,rfl,hlo⟩,⟨HOP.out,HVAL.out,⟨HSL.out.1,HSL.out.2⟩,⟨HSZ.out.1,HSZ.out.2⟩,by have:=HAL.out;have:=HL.out;omega,hus.out⟩,hb.grown gE hb.size (fun o e=>by cases e;omega)⟩
theorem iD:∀(n:Nat),wG n
 |0=>fun x t S w V i s k h1 h2 h3 h=>h.elim
 |n+1=>CQ n (iD n)
end Go.Proofs.YtiblijmngokcgaaGreatDoor
