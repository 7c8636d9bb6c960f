import Derived.Test.YtiblijmngokcgaaGreatDoorMacZs
import Derived.Test.YtiblijmngokcgaaGreatDoorDrawBZs
import Derived.Test.YtiblijmngokcgaaGreatDoorTreeZs
import Derived.Test.YtiblijmngokcgaaGreatDoorKitZs
namespace Go.Proofs.YtiblijmngokcgaaGreatDoor
open Go.RowKit
set_option maxRecDepth 100000
set_option linter.unusedVariables false
set_option linter.unusedSimpArgs false
def nm (c:UInt8):ByteArray:=⟨#[c]⟩
def gW (s:ByteArray):Prop:=s=nm 120∨s=nm 121∨s=nm 122
def jJ (s:ByteArray):Prop:=s=nm 97∨s=nm 98
structure Glb (B:Nat) (w:World):Prop where
 lt:2≤B
 le:B≤w.heap.size
 s0:w.cell? ⟨0,0,none⟩=some (.string (nm 120))
 s1:w.cell? ⟨0,1,none⟩=some (.string (nm 121))
 s2:w.cell? ⟨0,2,none⟩=some (.string (nm 122))
 a0:w.cell? ⟨1,0,none⟩=some (.string (nm 97))
 a1:w.cell? ⟨1,1,none⟩=some (.string (nm 98))
theorem Glb.keep {B:Nat} {w w' :World} (h:Glb B w) (hs:w.heap.size≤w'.heap.size) (hk:∀b,b<B→w'.heap[b]? =w.heap[b]?):Glb B w' :=by
 have hl:=h.lt
 have hle:=h.le
 have c:∀(b o:Nat) (v:Value),b<B→w.cell? ⟨b,o,none⟩=some v→w'.cell? ⟨b,o,none⟩=some v:=fun b o v hb hv=>
  Keep.cell (S:=(·<B)) (fun q _ hq=>hk q hq) hb hv
 exact ⟨hl,by omega,c _ _ _ (by omega) h.s0,c _ _ _ (by omega) h.s1,c _ _ _ (by omega) h.s2,c _ _ _ (by omega) h.a0,c _ _ _ (by omega) h.a1⟩
theorem Glb.grown {B g:Nat} {w w' :World} (h:Glb B w) (hg:w.grownBy w' (some g)) (hB:B≤g):Glb B w' :=h.keep hg.size (fun b hb=>hg.block b (by have:=h.le;omega) (by simp;omega))
theorem Glb.ext {B:Nat} {w w' :World} (h:Glb B w) (hb:Below w.heap.size w w'):Glb B w' :=h.keep hb.size (fun b hb' =>hb.block b (by have:=h.le;omega))
theorem Glb.drew {B:Nat} {w:World} (h:Glb B w):Glb B w.drew:=h.keep (Nat.le_refl _) (fun _ _=>rfl)
def bQ:Nat→ByteArray
 |0=>nm 120
 |1=>nm 121
 |_=>nm 122
def dU:Nat→ByteArray
 |0=>nm 97
 |_=>nm 98
theorem jB (z:Nat):gW (bQ z):=by
 unfold bQ
 split
 ·exact .inl rfl
 ·exact .inr (.inl rfl)
 ·exact .inr (.inr rfl)
theorem sI (z:Nat):jJ (dU z):=by
 unfold dU
 split
 ·exact .inl rfl
 ·exact .inr rfl
theorem Glb.scal {B x:Nat} {w:World} (h:Glb B w) (hx:x<3):w.cell? ⟨0,x,none⟩=some (.string (bQ x)):=by
 match x,hx with
 |0,_=>exact h.s0
 |1,_=>exact h.s1
 |2,_=>exact h.s2
theorem Glb.arr {B x:Nat} {w:World} (h:Glb B w) (hx:x<2):w.cell? ⟨1,x,none⟩=some (.string (dU x)):=by
 match x,hx with
 |0,_=>exact h.a0
 |1,_=>exact h.a1
theorem Glb.row {B b4:Nat} {w:World} (h:Glb B w) (hb:B≤b4) (cs:Array Value):Glb B (w.setRow b4 cs):=h.keep (aJ w b4 cs).size (fun b hb' =>(aJ w b4 cs).block b (by have:=h.le;omega) (by simp;omega))
theorem fL (w:World):(isAgg 9).run Tryz.prog w= .ok false w:=by simp [isAgg,run_underlying Tryz.underlying9]
def DrE:Nat→Ex→Prop
 |0,_=>False
 |n+1,.mk op val name slot size args=>slot=0∧size=0∧(∀e∈args,DrE n e)∧
  ((op=1∧0≤val∧val≤200∧name=(ByteArray.mk #[])∧args=[])∨(op=2∧val=0∧gW name∧args=[])∨(4≤op∧op≤7∧val=0∧name=(ByteArray.mk #[])∧args=[])∨
   (op=3∧val=0∧jJ name∧args.length=1)∨(8≤op∧op≤9∧val=0∧name=(ByteArray.mk #[])∧args.length=1)∨(10≤op∧op≤22∧val=0∧name=(ByteArray.mk #[])∧args.length=2))
def exV (x:ExV):Value:= .agg #[.int .i64 x.op,.int .i64 x.val,.string x.name,.int .i64 x.slot,.int .i64 x.size,.slice x.A x.n x.c]
theorem CR {n:Nat} {S:Nat→Prop} {w:World} {X:Nat} {x:ExV} {t:Ex} (hr:w.heap[X]? =some (.cells #[.int .i64 x.op,.int .i64 x.val,.string x.name,.int .i64 x.slot,.int .i64 x.size,.slice x.A x.n x.c] 244 (0,0))) (hS:S X) (h:ExOk n S w x t):
 LsOk eB (ExOk n S w) S w (.slice (some ⟨X,0,none⟩) 1 1) [t]:=by
 refine ⟨[x],⟨_,1,rfl,by simp,by simp [maxLen],fun _=>⟨X,0,rfl,hS,fun k u hu=> ?_⟩⟩,rfl,fun i y s hy hs=> ?_⟩
 ·rw [cell_of_row _ _ _ _ _ _ hr,Nat.zero_add]
  simpa [eB] using hu
 ·match i with
  |0=>cases hy;cases hs;exact h
  |i+1=>simp at hy
theorem LL {n:Nat} {S:Nat→Prop} {w:World} {X:Nat} {x y:ExV} {t u:Ex} (hr:w.heap[X]? =some (.cells #[.int .i64 x.op,.int .i64 x.val,.string x.name,.int .i64 x.slot,.int .i64 x.size,.slice x.A x.n x.c,.int .i64 y.op,.int .i64 y.val,.string y.name,.int .i64 y.slot,.int .i64 y.size,.slice y.A y.n y.c] 244 (0,0))) (hS:S X) (h:ExOk n S w x t) (h' :ExOk n S w y u):
 LsOk eB (ExOk n S w) S w (.slice (some ⟨X,0,none⟩) 2 2) [t,u]:=by
 refine ⟨[x,y],⟨_,2,rfl,by simp,by simp [maxLen],fun _=>⟨X,0,rfl,hS,fun k v hv=> ?_⟩⟩,rfl,fun i z s hz hs=> ?_⟩
 ·rw [cell_of_row _ _ _ _ _ _ hr,Nat.zero_add]
  simpa [eB] using hv
 ·match i with
  |0=>cases hz;cases hs;exact h
  |1=>cases hz;cases hs;exact h'
  |i+2=>simp at hz
theorem eZ {V T:Type} {P:(Nat→Prop)→World→V→T→Prop} (hF:Fram P) {B g b4:Nat} {w w2:World} (hb:b4=w.heap.size) (hC:Cod B w2 g) (hgl:g<w.heap.size) (hgr:w.grownBy w2 (some g)) {xv:V} {t:T} (hok:P (w.heap.size<·) w2 xv t) (cs:Array Value):
 P (w.heap.size≤·) (w2.setRow b4 cs) xv t∧Cod B (w2.setRow b4 cs) g∧w.grownBy (w2.setRow b4 cs) (some g):=by
 have hg:=aJ w2 b4 cs
 refine ⟨hF.mono _ _ _ _ _ (fun b _ h=>by omega) (hF.keep _ _ _ _ _ (fun b hb' h=>hg.block b hb' (by simp;omega)) hok),hC.grown hg (fun m hm=>by cases hm;have:=hC.1;constructor<;>omega),cD hgr hg (fun m hm=>by cases hm;exact .inl (by omega))⟩
set_option maxHeartbeats 8000000 in
theorem vQ (n:Nat) (hn2:n≤2) (ih:0<n→∀(B g:Nat) (w:World),Cod B w g→Glb B w→Calls Tryz.prog 190 #[.pointer (some ⟨g,0,none⟩),.int .i64 (n:Int)] w fun e w' =>∃x t,e= .returned (exV x)∧DrE n t∧ExOk n (w.heap.size≤·) w' x t∧Cod B w' g∧w.grownBy w' (some g)) (B g:Nat) (w:World) (h:Cod B w g) (hG:Glb B w):
 Calls Tryz.prog 190 #[.pointer (some ⟨g,0,none⟩),.int .i64 ((n:Int)+1)] w fun e w' =>∃x t,e= .returned (exV x)∧DrE (n+1) t∧ExOk (n+1) (w.heap.size≤·) w' x t∧Cod B w' g∧w.grownBy w' (some g):=by
 have hglt:=h.lt
 have hBg:=h.1
 obtain ⟨W,hW,bW,sW,rW⟩:=fG w #[.int .i64 0,.int .i64 0,.string (ByteArray.mk #[]),.int .i64 0,.int .i64 0,.slice none 0 0] 244
 have SW:=Lib.hid sW
 have RW:=Lib.hid rW
 clear sW rW
 go_enter Tryz.func190,Tryz.ntmps190
 go_upto_region 1 with fail
 rw [←hW]
 clear hW
 obtain ⟨b4,hb4⟩:∃b,b=w.heap.size:=⟨_,rfl⟩
 rw [←hb4] at RW ⊢
 have hgb:b4≠g:=by omega
 have HB4:=Lib.hid hb4
 have hbW:b4<W.heap.size:=by have:=SW.out;omega
 clear hb4
 have hCW:=h.ext bW
 have hcx1:=bE B g 12 W hCW (by omega) (by omega)
 rw [show ((12:Nat):Int)=12 from rfl] at hcx1
 have Hcx1:=Lib.hid hcx1
 clear hcx1
 go_wp2_with fail
 refine Hcx1.out.mono ?_
 rintro e w1 ⟨x,rfl,hx,hC1,hg1⟩
 have hgw1:w.grownBy w1 (some g):=aH (aQ bW _) hg1
 have R1:=Lib.hid ((aN hg1 hbW hgb).trans RW.out)
 have hb1:b4<w1.heap.size:=by have:=hg1.size;omega
 have G1:=hG.grown hgw1 hBg
 clear hg1 hCW h bW RW SW hbW
 by_cases hc:n=0∧8≤x
 ·obtain ⟨hn0,hx8⟩:=hc
  have e1:decide ((n:Int)+1≤1)=true:=by simp;omega
  have e2:decide ((8:Int)≤(x:Int))=true:=by simp;omega
  obtain ⟨y,rfl⟩:∃y,x=y+8:=⟨x-8,by omega⟩
  have e3:(((y+8:Nat):Int)-8)=(y:Int):=by omega
  by_cases h2:y<2
  ·exact Tzal
  ·exact Tzam
 ·by_cases hn0' :n=0
  ·have hx8:x<8:=by omega
   have e1:decide ((n:Int)+1≤1)=true:=by simp;omega
   have e2:decide ((8:Int)≤(x:Int))=false:=by simp;omega
   clear hc
   by_cases h2:x<2
   ·exact Tzal
   by_cases h4:x<4
   ·exact Tzam
   by_cases h5:x=4
   ·exact Tzbb
   by_cases h6:x=5
   ·exact Tzaq
   by_cases h7:x=6
   ·subst h7
    exact Tzak
   obtain rfl:x=7:=by omega
   ·skip
    exact Tzak
  ·have hn0:0<n:=by omega
   have e1:decide ((n:Int)+1≤1)=false:=by simp;omega
   clear hc hn0'
   by_cases h2:x<2
   ·exact Tzal
   by_cases h4:x<4
   ·exact Tzam
   by_cases h5:x=4
   ·exact Tzbb
   by_cases h6:x=5
   ·exact Tzaq
   by_cases h7:x=6
   ·subst h7
    exact Tzak
   by_cases h8:x=7
   ·subst h8
    have hcx2:=bE B g 2 w1.drew hC1.drew (by omega) (by omega)
    rw [show ((2:Nat):Int)=2 from rfl] at hcx2
    have Hcx2:=Lib.hid hcx2
    clear hcx2
    go_upto_region 15 with fail
    go_wp2_with fail
    refine aM ((fun w' =>Glb B w')) (by kernel_rfl) (by kernel_rfl) (G1.drew) ?_
    refine TkA ?_
    refine aL rfl ?_
    go_wp2_with fail
    refine Hcx2.out.mono ?_
    rintro e w2 ⟨z,rfl,hz,hC2,hg2⟩
    have hg12:w1.grownBy w2 (some g):=aH (aQ (Below.refl _ w1).drew _) hg2
    have R2:=Lib.hid ((aN hg12 hb1 hgb).trans R1.out)
    have hgw2:=aH hgw1 hg12
    have hs2:=hg12.size
    have G2:=G1.grown hg12 hBg
    go_wp2_with fail
    refine aI (G2) ?_
    refine TkA ?_
    refine aE (⟨1,z,none⟩) (.string (dU z)) rfl rfl rfl (fun w' hw' =>aG (fL _) (hw'.arr hz)) ?_
    refine TkI ?_
    refine TkA ?_
    refine aL rfl ?_
    go_wp2_with fail
    refine (ih hn0 B g w2 hC2 G2).mono ?_
    rintro e w3 ⟨x1,t1,rfl,hdr,hok,hC3,hg3⟩
    have hs3:=hg3.size
    have G3:=G2.grown hg3 hBg
    have ha:Below w3.heap.size w3 (w3.alloc (.cells #[.int .i64 x1.op,.int .i64 x1.val,.string x1.name,.int .i64 x1.slot,.int .i64 x1.size,.slice x1.A x1.n x1.c] 244)):=(Below.refl _ _).alloc (Nat.le_refl _) _
    have R4:=Lib.hid ((ha.block b4 (by omega)).trans ((aN hg3 (by omega) hgb).trans R2.out))
    have r4:=heap_alloc_new w3 (.cells #[.int .i64 x1.op,.int .i64 x1.val,.string x1.name,.int .i64 x1.slot,.int .i64 x1.size,.slice x1.A x1.n x1.c] 244)
    have hC4:=hC3.ext ha
    have hgw4:=aH (aH hgw2 hg3) (aQ ha _)
    have hok4:=ExOk.mono (S' :=fun b=>w.heap.size<b) (fun b _ h=>by have:=HB4.out;omega) _ _ _ (ExOk.keep (Keep.of_below ha) _ _ _ hok)
    have G4:=G3.ext ha
    unfold exV
    go_wp2_with fail
    refine aI (G3) ?_
    refine TkA ?_
    refine aL rfl ?_
    go_wp2_with fail
    refine aI G4 ?_
    refine TkA ?_
    refine aL rfl ?_
    go_wp2_with fail
    refine aI G4 ?_
    refine TkA ?_
    refine aL rfl ?_
    have hfin:=eZ (bU (n+1)) (xv:=⟨3,0,dU z,0,0,some ⟨w3.heap.size,0,none⟩,1,1⟩) (t:= .mk 3 0 (dU z) 0 0 [t1]) HB4.out hC4 hglt hgw4 (⟨rfl,rfl,rfl,rfl,rfl,CR r4 (by have:=HB4.out;show w.heap.size<w3.heap.size;omega) hok4⟩) #[.int .i64 3,.int .i64 0,.string (dU z),.int .i64 0,.int .i64 0,.slice (some ⟨w3.heap.size,0,none⟩) 1 1]
    go_wp2_with (refine aC rfl 244 _ _ rfl b4 244 _ _ rfl rfl R4.out (by kernel_rfl) rfl (by simp [Value.oneCell']) ?_)
    refine aI (G4.row (by have:=HB4.out;have:=hG.le;omega) _) ?_
    refine TkA ?_
    refine aZ ?_
    go_wp2_with fail
    refine bodyPost_ret (bH rfl rfl (aB (setRow_heap _ _ _ _ _ _ R4.out) Tryz.underlying244 rfl (by kernel_rfl))) rfl ?_
    exact ⟨⟨3,0,dU z,0,0,some ⟨w3.heap.size,0,none⟩,1,1⟩,.mk 3 0 (dU z) 0 0 [t1],rfl,⟨rfl,rfl,(by intro e he;simp at he;subst he;exact hdr),.inr (.inr (.inr (.inl ⟨rfl,rfl,sI z,rfl⟩)))⟩,hfin.1,hfin.2.1,hfin.2.2⟩
   by_cases h9:x=8
   ·subst h9
    have hcx2:=bE B g 2 w1 hC1 (by omega) (by omega)
    rw [show ((2:Nat):Int)=2 from rfl] at hcx2
    have Hcx2:=Lib.hid hcx2
    clear hcx2
    go_upto_region 17 with fail
    go_wp2_with fail
    refine Hcx2.out.mono ?_
    rintro e w2 ⟨z,rfl,hz,hC2,hg2⟩
    have R2:=Lib.hid ((aN hg2 hb1 hgb).trans R1.out)
    have hgw2:=aH hgw1 hg2
    have hs2:=hg2.size
    go_wp2_with fail
    refine (ih hn0 B g w2 hC2 (G1.grown hg2 hBg)).mono ?_
    rintro e w3 ⟨x1,t1,rfl,hdr,hok,hC3,hg3⟩
    have hs3:=hg3.size
    have ha:Below w3.heap.size w3 (w3.alloc (.cells #[.int .i64 x1.op,.int .i64 x1.val,.string x1.name,.int .i64 x1.slot,.int .i64 x1.size,.slice x1.A x1.n x1.c] 244)):=(Below.refl _ _).alloc (Nat.le_refl _) _
    have R4:=Lib.hid ((ha.block b4 (by omega)).trans ((aN hg3 (by omega) hgb).trans R2.out))
    have r4:=heap_alloc_new w3 (.cells #[.int .i64 x1.op,.int .i64 x1.val,.string x1.name,.int .i64 x1.slot,.int .i64 x1.size,.slice x1.A x1.n x1.c] 244)
    have hC4:=hC3.ext ha
    have hgw4:=aH (aH hgw2 hg3) (aQ ha _)
    have hok4:=ExOk.mono (S' :=fun b=>w.heap.size<b) (fun b _ h=>by have:=HB4.out;omega) _ _ _ (ExOk.keep (Keep.of_below ha) _ _ _ hok)
    unfold exV
    have hfin:=eZ (bU (n+1)) (xv:=⟨8+(z:Int),0,(ByteArray.mk #[]),0,0,some ⟨w3.heap.size,0,none⟩,1,1⟩) (t:= .mk (8+(z:Int)) 0 (ByteArray.mk #[]) 0 0 [t1]) HB4.out hC4 hglt hgw4 (⟨rfl,rfl,rfl,rfl,rfl,CR r4 (by have:=HB4.out;show w.heap.size<w3.heap.size;omega) hok4⟩) #[.int .i64 (8+(z:Int)),.int .i64 0,.string (ByteArray.mk #[]),.int .i64 0,.int .i64 0,.slice (some ⟨w3.heap.size,0,none⟩) 1 1]
    go_wp2_with (refine aC rfl 244 _ _ rfl b4 244 _ _ rfl rfl R4.out (by kernel_rfl) rfl (by simp [Value.oneCell']) ?_)
    refine bodyPost_ret (bH rfl rfl (aB (setRow_heap _ _ _ _ _ _ R4.out) Tryz.underlying244 rfl (by kernel_rfl))) rfl ?_
    exact ⟨⟨8+(z:Int),0,(ByteArray.mk #[]),0,0,some ⟨w3.heap.size,0,none⟩,1,1⟩,.mk (8+(z:Int)) 0 (ByteArray.mk #[]) 0 0 [t1],rfl,⟨rfl,rfl,(by intro e he;simp at he;subst he;exact hdr),.inr (.inr (.inr (.inr (.inl ⟨by omega,by omega,rfl,rfl,rfl⟩))))⟩,hfin.1,hfin.2.1,hfin.2.2⟩
   ·skip
    go_upto_region 18 with fail
    go_wp2_with fail
    refine (ih hn0 B g w1 hC1 G1).mono ?_
    rintro e w2 ⟨x1,t1,rfl,hdr1,hok1,hC2,hg2⟩
    have hs2:=hg2.size
    obtain ⟨W3,hW3,b3,s3,r3⟩:=fG w2 #[.int .i64 x1.op,.int .i64 x1.val,.string x1.name,.int .i64 x1.slot,.int .i64 x1.size,.slice x1.A x1.n x1.c] 244
    have S3:=Lib.hid s3
    have RA:=Lib.hid r3
    obtain ⟨b6,hb6⟩:∃b,b=w2.heap.size:=⟨_,rfl⟩
    have hb6W:b6<W3.heap.size:=by omega
    have hb6g:b6≠g:=by have:=hC2.lt;omega
    have HB6:=Lib.hid hb6
    have hC3:=hC2.ext b3
    have hgw3:=aH (aH hgw1 hg2) (aQ b3 _)
    have R3:=Lib.hid ((b3.block b4 (by omega)).trans ((aN hg2 hb1 hgb).trans R1.out))
    have G3:=(G1.grown hg2 hBg).ext b3
    have hs3:=b3.size
    clear s3 r3
    unfold exV
    go_upto_region 19 with (refine aF rfl 244 _ _ rfl 244 _ #[.int .i64 x1.op,.int .i64 x1.val,.string x1.name,.int .i64 x1.slot,.int .i64 x1.size,.slice x1.A x1.n x1.c] rfl rfl (by kernel_rfl) rfl (by simp [Value.oneCell']) ?_)
    rw [←hW3]
    clear hW3
    rw [←hb6] at RA ⊢
    clear hb6
    simp only [Act.put]
    have hcx4:=bE B g 13 W3.drew hC3.drew (by omega) (by omega)
    rw [show ((13:Nat):Int)=13 from rfl] at hcx4
    have Hcx4:=Lib.hid hcx4
    clear hcx4
    go_wp2_with fail
    refine aM ((fun w' =>w'.heap[b6]? =some (.cells #[.int .i64 x1.op,.int .i64 x1.val,.string x1.name,.int .i64 x1.slot,.int .i64 x1.size,.slice x1.A x1.n x1.c] 244 (0,0)))) (by kernel_rfl) (by kernel_rfl) (RA.out) ?_
    refine TkA ?_
    refine aL rfl ?_
    go_wp2_with fail
    refine Hcx4.out.mono ?_
    rintro e w4 ⟨z,rfl,hz,hC4,hg4⟩
    have hg34:W3.grownBy w4 (some g):=aH (aQ (Below.refl _ W3).drew _) hg4
    have RA4:=Lib.hid ((aN hg34 hb6W hb6g).trans RA.out)
    have R4:=Lib.hid ((aN hg34 (by omega) hgb).trans R3.out)
    have hs4:=hg34.size
    go_wp2_with fail
    refine aI (RA4.out) ?_
    refine TkA ?_
    refine aE (⟨b6,0,none⟩) (.agg #[.int .i64 x1.op,.int .i64 x1.val,.string x1.name,.int .i64 x1.slot,.int .i64 x1.size,.slice x1.A x1.n x1.c]) rfl rfl rfl (fun w' hw' =>aB hw' Tryz.underlying244 rfl (by kernel_rfl)) ?_
    refine TkI ?_
    refine TkA ?_
    refine aL rfl ?_
    go_wp2_with fail
    refine (ih hn0 B g w4 hC4 (G3.grown hg34 hBg)).mono ?_
    rintro e w5 ⟨x2,t2,rfl,hdr2,hok2,hC5,hg5⟩
    have RA5:=Lib.hid ((aN hg5 (by omega) hb6g).trans RA4.out)
    have hs5:=hg5.size
    have ha:Below w5.heap.size w5 (w5.alloc (.cells #[.int .i64 x1.op,.int .i64 x1.val,.string x1.name,.int .i64 x1.slot,.int .i64 x1.size,.slice x1.A x1.n x1.c,.int .i64 x2.op,.int .i64 x2.val,.string x2.name,.int .i64 x2.slot,.int .i64 x2.size,.slice x2.A x2.n x2.c] 244)):=(Below.refl _ _).alloc (Nat.le_refl _) _
    have R6:=Lib.hid ((ha.block b4 (by omega)).trans ((aN hg5 (by omega) hgb).trans R4.out))
    have RA6:=Lib.hid ((ha.block b6 (by omega)).trans RA5.out)
    have r6:=heap_alloc_new w5 (.cells #[.int .i64 x1.op,.int .i64 x1.val,.string x1.name,.int .i64 x1.slot,.int .i64 x1.size,.slice x1.A x1.n x1.c,.int .i64 x2.op,.int .i64 x2.val,.string x2.name,.int .i64 x2.slot,.int .i64 x2.size,.slice x2.A x2.n x2.c] 244)
    have hC6:=hC5.ext ha
    have hgw6:=aH (aH (aH hgw3 hg34) hg5) (aQ ha _)
    have k2:Keep (w1.heap.size≤·) w2 (w5.alloc (.cells #[.int .i64 x1.op,.int .i64 x1.val,.string x1.name,.int .i64 x1.slot,.int .i64 x1.size,.slice x1.A x1.n x1.c,.int .i64 x2.op,.int .i64 x2.val,.string x2.name,.int .i64 x2.slot,.int .i64 x2.size,.slice x2.A x2.n x2.c] 244)):=fun b hb h=>by
     have hgl:=hC1.lt
     exact (ha.block b (by omega)).trans ((aN hg5 (by omega) (by omega)).trans ((aN hg34 (by omega) (by omega)).trans (b3.block b hb)))
    have okA:=ExOk.mono (S' :=fun b=>w.heap.size<b) (fun b _ h=>by have:=HB4.out;omega) _ _ _ (ExOk.keep k2 _ _ _ hok1)
    have okB:=ExOk.mono (S' :=fun b=>w.heap.size<b) (fun b _ h=>by have:=HB4.out;omega) _ _ _ (ExOk.keep (Keep.of_below ha) _ _ _ hok2)
    unfold exV
    go_wp2_with fail
    refine aI (RA5.out) ?_
    refine TkA ?_
    refine aL rfl ?_
    go_wp2_with fail
    refine aI RA6.out ?_
    refine TkA ?_
    refine aL rfl ?_
    go_wp2_with fail
    refine aI RA6.out ?_
    refine TkA ?_
    refine aL rfl ?_
    have hfin:=eZ (bU (n+1)) (xv:=⟨10+(z:Int),0,(ByteArray.mk #[]),0,0,some ⟨w5.heap.size,0,none⟩,2,2⟩) (t:= .mk (10+(z:Int)) 0 (ByteArray.mk #[]) 0 0 [t1,t2]) HB4.out hC6 hglt hgw6 (⟨rfl,rfl,rfl,rfl,rfl,LL r6 (by have:=HB4.out;show w.heap.size<w5.heap.size;omega) okA okB⟩) #[.int .i64 (10+(z:Int)),.int .i64 0,.string (ByteArray.mk #[]),.int .i64 0,.int .i64 0,.slice (some ⟨w5.heap.size,0,none⟩) 2 2]
    go_wp2_with (refine aC rfl 244 _ _ rfl b4 244 _ _ rfl rfl R6.out (by kernel_rfl) rfl (by simp [Value.oneCell']) ?_)
    refine aI ((setRow_other _ _ _ _ (by have:=HB4.out;have:=HB6.out;omega)).trans RA6.out) ?_
    refine TkA ?_
    refine aZ ?_
    go_wp2_with fail
    refine bodyPost_ret (bH rfl rfl (aB (setRow_heap _ _ _ _ _ _ R6.out) Tryz.underlying244 rfl (by kernel_rfl))) rfl ?_
    exact ⟨⟨10+(z:Int),0,(ByteArray.mk #[]),0,0,some ⟨w5.heap.size,0,none⟩,2,2⟩,.mk (10+(z:Int)) 0 (ByteArray.mk #[]) 0 0 [t1,t2],rfl,⟨rfl,rfl,(by intro e he;simp at he;rcases he with he|he<;>subst he<;>assumption),.inr (.inr (.inr (.inr (.inr ⟨by omega,by omega,rfl,rfl,rfl⟩))))⟩,hfin.1,hfin.2.1,hfin.2.2⟩
theorem cP:∀(n:Nat),n≤3→∀(B g:Nat) (w:World),0<n→Cod B w g→Glb B w→Calls Tryz.prog 190 #[.pointer (some ⟨g,0,none⟩),.int .i64 (n:Int)] w fun e w' =>∃x t,e= .returned (exV x)∧DrE n t∧ExOk n (w.heap.size≤·) w' x t∧Cod B w' g∧w.grownBy w' (some g)
 |0,_,_,_,_,h0,_,_=>by omega
 |n+1,hn,B,g,w,_,h,hG=>by
  have:=vQ n (by omega) (fun h0 B g w h hG=>cP n (by omega) B g w h0 h hG) B g w h hG
  rw [show ((n+1:Nat):Int)=(n:Int)+1 by omega]
  exact this
end Go.Proofs.YtiblijmngokcgaaGreatDoor
namespace Go.Proofs.YtiblijmngokcgaaGreatDoor
open Go.RowKit
set_option maxRecDepth 100000
set_option linter.unusedVariables false
set_option linter.unusedSimpArgs false
theorem KK (b:Bool):InR (trM b):=by cases b<;>exact ⟨by decide,by decide⟩
theorem yB (z:Int):InR (wrap64 z):=by
 unfold wrap64
 exact ⟨by omega,by omega⟩
theorem DL {a b:Int} (ha:InR a):InR (a.tmod b):=by
 obtain ⟨h1,h2⟩:=ha
 have h:=Int.natAbs_tmod a b
 have h3:=Nat.mod_le a.natAbs b.natAbs
 rcases Int.le_total 0 a with h0|h0
 ·have:=Int.tmod_nonneg b h0
  exact ⟨by omega,by omega⟩
 ·have:=Int.tmod_nonneg b (show 0≤-a by omega)
  rw [Int.neg_tmod] at this
  exact ⟨by omega,by omega⟩
theorem xN (c:Prop) [Decidable c] {x y:Int} (h:InR x) (k:InR y):InR (if c then x else y):=by
 split
 ·exact h
 ·exact k
theorem JX {op a b:Int} (ha:InR a) (hb:InR b):InR (dA op a b):=by
 unfold dA
 repeat' (first|exact yB _|exact KK _|exact DL ha|exact ⟨by decide,by decide⟩|refine xN _ ?_ ?_)
set_option maxHeartbeats 8000000 in
theorem DG (op a b:Int) (w:World) (hop:0≤op∧op≤22) (ha:InR a) (hb:InR b):Calls Tryz.prog 209 #[.int .i64 op,.int .i64 a,.int .i64 b] w fun e w' =>e= .returned (.int .i64 (dA op a b))∧w' =w:=by
 obtain ⟨a1,a2⟩:=ha
 obtain ⟨b1,b2⟩:=hb
 by_cases h8:op=8
 ·subst h8
  go_enter Tryz.func209,Tryz.ntmps209
  go_wp2
  go_ret
  exact ⟨by simp [dA],rfl⟩
 by_cases h9:op=9
 ·subst h9
  by_cases g:a=0
  ·skip
   have d0:(a==0)=true:=by simpa using g
   go_enter Tryz.func209,Tryz.ntmps209
   go_wp2
   go_ret
   exact ⟨by simp [dA,trM,g],rfl⟩
  ·skip
   have d0:(a==0)=false:=by simpa using g
   go_enter Tryz.func209,Tryz.ntmps209
   go_wp2
   go_ret
   exact ⟨by simp [dA,trM,g],rfl⟩
 by_cases h10:op=10
 ·subst h10
  go_enter Tryz.func209,Tryz.ntmps209
  go_wp2
  go_ret
  exact ⟨by simp [dA],rfl⟩
 by_cases h11:op=11
 ·subst h11
  go_enter Tryz.func209,Tryz.ntmps209
  go_wp2
  go_ret
  exact ⟨by simp [dA],rfl⟩
 by_cases h12:op=12
 ·subst h12
  go_enter Tryz.func209,Tryz.ntmps209
  go_wp2
  go_ret
  exact ⟨by simp [dA],rfl⟩
 by_cases h13:op=13
 ·subst h13
  exact Tzb2
 by_cases h14:op=14
 ·subst h14
  exact Tzb2
 by_cases h15:op=15
 ·subst h15
  by_cases g:a<b
  ·skip
   have d0:decide (a<b)=true:=by simpa using g
   go_enter Tryz.func209,Tryz.ntmps209
   go_wp2
   go_ret
   exact ⟨by simp [dA,trM,g],rfl⟩
  ·skip
   have d0:decide (a<b)=false:=by simpa using g
   go_enter Tryz.func209,Tryz.ntmps209
   go_wp2
   go_ret
   exact ⟨by simp [dA,trM,g],rfl⟩
 by_cases h16:op=16
 ·subst h16
  by_cases g:a≤b
  ·skip
   have d0:decide (a≤b)=true:=by simpa using g
   go_enter Tryz.func209,Tryz.ntmps209
   go_wp2
   go_ret
   exact ⟨by simp [dA,trM,g],rfl⟩
  ·skip
   have d0:decide (a≤b)=false:=by simpa using g
   go_enter Tryz.func209,Tryz.ntmps209
   go_wp2
   go_ret
   exact ⟨by simp [dA,trM,g],rfl⟩
 by_cases h17:op=17
 ·subst h17
  by_cases g:b<a
  ·skip
   have d0:decide (b<a)=true:=by simpa using g
   go_enter Tryz.func209,Tryz.ntmps209
   go_wp2
   go_ret
   exact ⟨by simp [dA,trM,g],rfl⟩
  ·skip
   have d0:decide (b<a)=false:=by simpa using g
   go_enter Tryz.func209,Tryz.ntmps209
   go_wp2
   go_ret
   exact ⟨by simp [dA,trM,g],rfl⟩
 by_cases h18:op=18
 ·subst h18
  by_cases g:b≤a
  ·skip
   have d0:decide (b≤a)=true:=by simpa using g
   go_enter Tryz.func209,Tryz.ntmps209
   go_wp2
   go_ret
   exact ⟨by simp [dA,trM,g],rfl⟩
  ·skip
   have d0:decide (b≤a)=false:=by simpa using g
   go_enter Tryz.func209,Tryz.ntmps209
   go_wp2
   go_ret
   exact ⟨by simp [dA,trM,g],rfl⟩
 by_cases h19:op=19
 ·subst h19
  by_cases g:a=b
  ·skip
   have d0:(a==b)=true:=by simpa using g
   go_enter Tryz.func209,Tryz.ntmps209
   go_wp2
   go_ret
   exact ⟨by simp [dA,trM,g],rfl⟩
  ·skip
   have d0:(a==b)=false:=by simpa using g
   go_enter Tryz.func209,Tryz.ntmps209
   go_wp2
   go_ret
   exact ⟨by simp [dA,trM,g],rfl⟩
 by_cases h20:op=20
 ·subst h20
  by_cases g:a=b
  ·skip
   have d0:(a != b)=false:=by simpa using g
   have d1:(a==b)=true:=by simpa using g
   go_enter Tryz.func209,Tryz.ntmps209
   go_wp2
   go_ret
   exact ⟨by simp [dA,trM,g],rfl⟩
  ·skip
   have d0:(a != b)=true:=by simpa using g
   have d1:(a==b)=false:=by simpa using g
   go_enter Tryz.func209,Tryz.ntmps209
   go_wp2
   go_ret
   exact ⟨by simp [dA,trM,g],rfl⟩
 by_cases h21:op=21
 ·subst h21
  exact Tzcr
 by_cases h22:op=22
 ·subst h22
  exact Tzcr
 have hd:dA op a b=0:=by
  unfold dA
  simp only [h8,h9,h10,h11,h12,h13,h14,h15,h16,h17,h18,h19,h20,h21,h22,if_false]
 have e8:(op==8)=false:=by simpa using h8
 have e9:(op==9)=false:=by simpa using h9
 have e10:(op==10)=false:=by simpa using h10
 have e11:(op==11)=false:=by simpa using h11
 have e12:(op==12)=false:=by simpa using h12
 have e13:(op==13)=false:=by simpa using h13
 have e14:(op==14)=false:=by simpa using h14
 have e15:(op==15)=false:=by simpa using h15
 have e16:(op==16)=false:=by simpa using h16
 have e17:(op==17)=false:=by simpa using h17
 have e18:(op==18)=false:=by simpa using h18
 have e19:(op==19)=false:=by simpa using h19
 have e20:(op==20)=false:=by simpa using h20
 have e21:(op==21)=false:=by simpa using h21
 have e22:(op==22)=false:=by simpa using h22
 clear h8 h9 h10 h11 h12 h13 h14 h15 h16 h17 h18 h19 h20 h21 h22
 rw [hd]
 go_enter Tryz.func209,Tryz.ntmps209
 go_wp2
 go_ret
 exact ⟨rfl,rfl⟩
end Go.Proofs.YtiblijmngokcgaaGreatDoor
namespace Go.Proofs.YtiblijmngokcgaaGreatDoor
open Go.RowKit
set_option maxRecDepth 100000
set_option linter.unusedVariables false
set_option linter.unusedSimpArgs false
set_option maxHeartbeats 1000000 in
theorem vW (A:Option Addr) (n c:Nat) (cells:List Int) (k:Int) (S:Nat→Prop) (w:World) (h:Recs bJ S w (.slice A n c) cells) (hk:InR k):Calls Tryz.prog 207 #[.slice A n c,.int .i64 k] w fun e w' =>e= .returned (.int .i64 (fZ cells k))∧w' =w:=by
 have HL:=Lib.hid h.len
 have hc:=h.len.2
 obtain ⟨k1,k2⟩:=hk
 by_cases h0:k<0
 ·have d0:decide (k<0)=true:=by simpa using h0
  have hr:fZ cells k=0:=by unfold fZ;rw [if_neg (by omega)]
  rw [hr]
  go_enter Tryz.func207,Tryz.ntmps207
  go_wp2
  go_ret
  exact ⟨rfl,rfl⟩
 ·obtain ⟨j,rfl⟩:=Int.eq_ofNat_of_zero_le (show 0≤k by omega)
  by_cases h1:j<n
  ·obtain ⟨b,off,x,rfl,_,hb,hx,hcx⟩:=h.at_ dH (j:=j) (by have:=HL.out.1;omega) (by omega)
   have q:w.cell? ⟨b,off+j,none⟩=some (.int .i64 x):=by
    have:=hcx 0 _ rfl
    rw [Nat.mul_one] at this
    exact this
   have hr:fZ cells (j:Int)=x:=by
    unfold fZ
    rw [if_pos ⟨by omega,by have:=HL.out.1;omega⟩]
    simp [List.getD,hx]
   rw [hr]
   clear hx hcx hr
   go_enter Tryz.func207,Tryz.ntmps207
   go_wp2
   go_ret
   exact ⟨rfl,rfl⟩
  ·have hr:fZ cells (j:Int)=0:=by unfold fZ;rw [if_neg (by have:=HL.out.1;omega)]
   rw [hr]
   clear hr
   go_enter Tryz.func207,Tryz.ntmps207
   go_wp2
   go_ret
   exact ⟨rfl,rfl⟩
set_option maxHeartbeats 2000000 in
theorem sT (A:Option Addr) (n c:Nat) (cells:List Int) (slot size index:Int) (w:World) (hl:cells.length=n) (hn:n≤1000) (hs:0≤slot∧slot≤1000) (hz:0≤size∧size≤1000) (hi:InR index):
 Calls Tryz.prog 205 #[.int .i64 slot,.int .i64 size,.int .i64 index,.slice A n c] w fun e w' =>e= .returned (.int .i64 (dQ slot size index cells))∧w' =w:=by
 have HL:=Lib.hid hl
 obtain ⟨i1,i2⟩:=hi
 obtain ⟨s1,s2⟩:=hs
 obtain ⟨z1,z2⟩:=hz
 clear hl
 have dneg:decide (slot<0)=false:=by simp;omega
 have dpos:decide (0≤slot)=true:=by simp;omega
 by_cases h0:index<0
 ·exact Tzc3
 ·by_cases h1:size≤index
  ·exact Tzc3
  ·by_cases h2:(n:Int)≤slot
   ·exact Tzct
   ·by_cases h3:(n:Int)-slot≤index
    ·exact Tzct
    ·have hr:dQ slot size index cells=slot+index:=by unfold dQ;rw [if_pos ⟨by omega,by omega,by have:=HL.out;omega⟩]
     rw [hr]
     clear hr
     have d5:decide ((n:Int)≤slot+index)=false:=by simp;omega
     go_enter Tryz.func205,Tryz.ntmps205
     go_wp2
     go_ret
     exact ⟨rfl,rfl⟩
def RsE:Nat→Ex→Prop
 |0,_=>False
 |n+1,.mk op val name slot size args=>(0≤op∧op≤22)∧InR val∧(0≤slot∧slot≤1000)∧(0≤size∧size≤1000)∧args.length≤2∧∀e∈args,RsE n e
structure EnvIn (v:Env):Prop where
 self:InR v.self
 procs:InR v.procs
 frm:InR v.frm
 value:InR v.value
theorem GG {cells:List Int} (h:∀z∈cells,InR z) (k:Int):InR (fZ cells k):=by
 unfold fZ
 split
 ·rename_i hk
  obtain ⟨j,rfl⟩:=Int.eq_ofNat_of_zero_le hk.1
  have hj:j<cells.length:=by omega
  have e:(Int.ofNat j).toNat=j:=rfl
  rw [show ((j:Int)).toNat=j from rfl,List.getD_eq_getElem?_getD,List.getElem?_eq_getElem hj]
  exact h _ (List.getElem_mem hj)
 ·exact ⟨by decide,by decide⟩
def iE (n:Nat) (cells:List Int) (v:Env) (args:List Ex) (i:Nat):Int:=match args[i]? with|none=>0|some e=>evM n cells v e
theorem mM {cells:List Int} (h:∀z∈cells,InR z) {v:Env} (hv:EnvIn v):∀(n:Nat) (t:Ex),RsE n t→InR (evM n cells v t)
 |0,_,h=>h.elim
 |n+1,.mk op val name slot size args,⟨_,h2,_,_,_,h6⟩=>by
  have ha:∀i,InR (iE n cells v args i):=fun i=>by
   unfold iE
   split
   ·exact ⟨by decide,by decide⟩
   ·rename_i e he
    exact mM h hv n e (h6 e (List.mem_of_getElem? he))
  show InR (if op=1 then val else if op=2 then fZ cells slot else if op=3 then fZ cells (dQ slot size (iE n cells v args 0) cells) else if op=4 then v.self else if op=5 then v.procs
   else if op=6 then v.frm else if op=7 then v.value else if op<8∨22<op then 0 else dA op (iE n cells v args 0) (iE n cells v args 1))
  have:=JX (op:=op) (ha 0) (ha 1)
  have h0:InR 0:=⟨by decide,by decide⟩
  repeat' (first|assumption|exact GG h _|exact hv.1|exact hv.2|exact hv.3|exact hv.4|refine xN _ ?_ ?_)
theorem sJ {cells:List Int} (h:∀z∈cells,InR z) {v:Env} (hv:EnvIn v) {n:Nat} {args:List Ex} (ha:∀e∈args,RsE n e) (i:Nat):InR (iE n cells v args i):=by
 unfold iE
 split
 ·exact ⟨by decide,by decide⟩
 ·rename_i e he
  exact mM h hv n e (ha e (List.mem_of_getElem? he))
def uB (n:Nat):Prop:=∀(x:ExV) (t:Ex) (S Sc:Nat→Prop) (w:World) (A:Option Addr) (m c:Nat) (cells:List Int) (v:Env),ExOk n S w x t→RsE n t→Recs bJ Sc w (.slice A m c) cells→m≤1000→(∀z∈cells,InR z)→EnvIn v→
 Calls Tryz.prog 204 #[.agg #[.int .i64 x.op,.int .i64 x.val,.string x.name,.int .i64 x.slot,.int .i64 x.size,.slice x.A x.n x.c],.slice A m c,.agg #[.int .i64 v.self,.int .i64 v.procs,.int .i64 v.frm,.int .i64 v.value]] w fun e w' =>e= .returned (.int .i64 (evM n cells v t))∧Below w.heap.size w w'
theorem zM (w:World) (x:ExV) (v:Env):∃W,W=(w.alloc (.cells #[.int .i64 x.op,.int .i64 x.val,.string x.name,.int .i64 x.slot,.int .i64 x.size,.slice x.A x.n x.c] 244)).alloc (.cells #[.int .i64 v.self,.int .i64 v.procs,.int .i64 v.frm,.int .i64 v.value] 208)∧Below w.heap.size w W∧RowKit.Hid (W.heap.size=w.heap.size+2)∧
 RowKit.Hid (W.heap[w.heap.size]? =some (.cells #[.int .i64 x.op,.int .i64 x.val,.string x.name,.int .i64 x.slot,.int .i64 x.size,.slice x.A x.n x.c] 244 (0,0)))∧RowKit.Hid (W.heap[w.heap.size+1]? =some (.cells #[.int .i64 v.self,.int .i64 v.procs,.int .i64 v.frm,.int .i64 v.value] 208 (0,0))):=by
 refine ⟨_,rfl,((Below.refl _ w).alloc (Nat.le_refl _) _).alloc (by simp) _,Lib.hid (by simp),Lib.hid ?_,Lib.hid ?_⟩
 ·exact Tzar
 ·have:=heap_alloc_new (w.alloc (.cells #[.int .i64 x.op,.int .i64 x.val,.string x.name,.int .i64 x.slot,.int .i64 x.size,.slice x.A x.n x.c] 244)) (.cells #[.int .i64 v.self,.int .i64 v.procs,.int .i64 v.frm,.int .i64 v.value] 208)
  rw [World.size_alloc] at this
  exact this
theorem lI (w:World):(isAgg 242).run Tryz.prog w= .ok false w:=by simp [isAgg,run_underlying Tryz.underlying242]
theorem MJ {W w' :World} {b o:Nat} {y:ExV} (hw:Below W.heap.size W w') (hb:b<W.heap.size) (hc:∀i u,(eB y)[i]? =some u→W.cell? ⟨b,o+i,none⟩=some u):
 (loadVar 244 ⟨b,o,none⟩).run Tryz.prog w' = .ok (.agg #[.int .i64 y.op,.int .i64 y.val,.string y.name,.int .i64 y.slot,.int .i64 y.size,.slice y.A y.n y.c]) w' :=by
 have:=run_loadVar_mid (P:=Tryz.prog) w' b o 244 (eB y) _ (fun j v hv=>(hw.cell (p:=⟨b,o+j,none⟩) hb).trans (hc j v hv)) Tryz.underlying244 rfl (by kernel_rfl)
 exact this
set_option maxHeartbeats 2000000 in
theorem GN (n:Nat) (ih:uB n) (x:ExV) (args:List Ex) (i:Nat) (hi:i≤1) (S Sc:Nat→Prop) (w:World) (A:Option Addr) (m c:Nat) (cells:List Int) (v:Env) (hx:LsOk eB (ExOk n S w) S w (.slice x.A x.n x.c) args) (ha:∀e∈args,RsE n e) (hl:args.length≤2) (hr:Recs bJ Sc w (.slice A m c) cells) (hm:m≤1000) (hcin:∀z∈cells,InR z) (hv:EnvIn v):
 Calls Tryz.prog 208 #[.agg #[.int .i64 x.op,.int .i64 x.val,.string x.name,.int .i64 x.slot,.int .i64 x.size,.slice x.A x.n x.c],.int .i64 (i:Int),.slice A m c,.agg #[.int .i64 v.self,.int .i64 v.procs,.int .i64 v.frm,.int .i64 v.value]] w fun e w' =>e= .returned (.int .i64 (iE n cells v args i))∧Below w.heap.size w w' :=by
 have hlen:=hx.len
 have HL:=Lib.hid hlen.1
 have hlc:=hlen.2
 have hxn:x.n≤2:=by omega
 clear hlen
 by_cases h0:i<x.n
 ·obtain ⟨b,off,y,u,hA,hS,hb,hu,hok,hcy⟩:=hx.at_ dZ (j:=i) h0 (by omega)
  obtain ⟨xo,xv,xm,xs,xz,xA,xn,xc⟩:=x
  dsimp only at hA h0 hxn hlc ⊢
  subst hA
  obtain ⟨W,hW,hbW,SW,R0,R1⟩:=zM w ⟨xo,xv,xm,xs,xz,some ⟨b,off,none⟩,xn,xc⟩ v
  dsimp only at hW R0
  have har:iE n cells v args i=evM n cells v u:=by unfold iE;rw [hu]
  rw [har]
  have q5:W.cell? ⟨w.heap.size,5,none⟩=some (.slice (some ⟨b,off,none⟩) xn xc):=aA R0.out 5 _ rfl
  have HU:=Lib.hid (ha u (List.mem_of_getElem? hu))
  have HC:=Lib.hid (fun k u' h=>(hbW.cell (p:=⟨b,off+i*6+k,none⟩) hb).trans (hcy k u' h))
  have hbw:b<W.heap.size:=by have:=SW.out;omega
  have HCI:=Lib.hid hcin
  clear hu hcy har ha hcin hx
  go_enter Tryz.func208,Tryz.ntmps208
  go_upto_region 1 with fail
  rw [←hW]
  clear hW
  go_upto_region 3 with fail
  go_wp2_with fail
  refine aM ((fun w' =>Below W.heap.size W w')) (by kernel_rfl) (by kernel_rfl) ((Below.refl _ W).drew) ?_
  refine TkA ?_
  refine aE (⟨w.heap.size,5,none⟩) (.slice (some ⟨b,off,none⟩) xn xc) rfl rfl rfl (fun w' hw' =>aG (lI _) (aA ((hw'.block w.heap.size (by have:=SW.out;omega)).trans R0.out) 5 _ rfl)) ?_
  refine TkI ?_
  refine TkA ?_
  refine aE (⟨b,off+i*6,none⟩) (.agg #[.int .i64 y.op,.int .i64 y.val,.string y.name,.int .i64 y.slot,.int .i64 y.size,.slice y.A y.n y.c]) rfl rfl rfl (fun w' hw' =>MJ hw' hbw HC.out) ?_
  refine TkI ?_
  refine TkA ?_
  refine aE (⟨w.heap.size+1,0,none⟩) (.agg #[.int .i64 v.self,.int .i64 v.procs,.int .i64 v.frm,.int .i64 v.value]) rfl rfl rfl (fun w' hw' =>aB ((hw'.block (w.heap.size+1) (by have:=SW.out;omega)).trans R1.out) Tryz.underlying208 rfl (by kernel_rfl)) ?_
  refine TkI ?_
  refine TkA ?_
  refine aL rfl ?_
  go_wp2_with fail
  refine (ih y u _ _ _ A m c cells v (ExOk.keep (Keep.of_below (Below.ext hbW (Below.refl _ W).drew)) _ _ _ hok) HU.out ((hr.ext hbW).ext (Below.refl _ W).drew) hm HCI.out hv).mono ?_
  rintro e w2 ⟨rfl,hb2⟩
  have y2:=Below.ext (Below.refl _ W).drew hb2
  exact Tzdd
 ·have har:iE n cells v args i=0:=by
   unfold iE
   rw [List.getElem?_eq_none (by have:=HL.out;omega)]
  rw [har]
  clear har
  obtain ⟨W,hW,hbW,SW,R0,R1⟩:=zM w x v
  have q5:W.cell? ⟨w.heap.size,5,none⟩=some (.slice x.A x.n x.c):=aA R0.out 5 _ rfl
  go_enter Tryz.func208,Tryz.ntmps208
  go_upto_region 1 with fail
  rw [←hW]
  clear hW
  go_wp2
  go_ret
  exact ⟨rfl,hbW⟩
theorem LN (n:Nat) (cells:List Int) (v:Env) (op val:Int) (name:ByteArray) (slot size:Int) (args:List Ex):evM (n+1) cells v (.mk op val name slot size args)=
 if op=1 then val else if op=2 then fZ cells slot else if op=3 then fZ cells (dQ slot size (iE n cells v args 0) cells) else if op=4 then v.self else if op=5 then v.procs
  else if op=6 then v.frm else if op=7 then v.value else if op<8∨22<op then 0 else dA op (iE n cells v args 0) (iE n cells v args 1):=rfl
theorem AT {slot size index:Int} {cells:List Int} (hs:0≤slot∧slot≤1000) (hz:0≤size∧size≤1000):InR (dQ slot size index cells):=by
 unfold dQ
 split
 ·exact ⟨by omega,by omega⟩
 ·exact ⟨by decide,by decide⟩
set_option maxHeartbeats 8000000 in
theorem yC (n:Nat) (ih:uB n):uB (n+1):=by
 intro x t S Sc w A m c cells v hok hrs hr hm hcin hv
 obtain ⟨op,val,name,slot,size,args⟩:=t
 obtain ⟨rfl,rfl,rfl,rfl,rfl,hargs⟩:=hok
 obtain ⟨hop,hval,hslot,hsize,hal,hall⟩:=hrs
 obtain ⟨W,hW,hbW,SW,R0,R1⟩:=zM w x v
 have HR:=Lib.hid hr
 have HCI:=Lib.hid hcin
 have HALL:=Lib.hid hall
 have hargsW:=fun (w' :World) (hw' :Below w.heap.size w w')=>hargs.keep (Keep.of_below hw') (fun y u h=>ExOk.keep (Keep.of_below hw') n y u h)
 have HAR:=Lib.hid (fun (w' :World) (hw' :Below w.heap.size w w') (i:Nat) (hi:i≤1)=>GN n ih x args i hi S Sc w' A m c cells v (hargsW w' hw') hall hal (hr.ext hw') hm hcin hv)
 have hlc:=hr.len
 have HLC:=Lib.hid hlc.1
 clear hargs hargsW hr hcin hall hlc
 rw [LN]
 have q0:W.cell? ⟨w.heap.size,0,none⟩=some (.int .i64 x.op):=aA R0.out 0 _ rfl
 have q1:W.cell? ⟨w.heap.size,1,none⟩=some (.int .i64 x.val):=aA R0.out 1 _ rfl
 have q3:W.cell? ⟨w.heap.size,3,none⟩=some (.int .i64 x.slot):=aA R0.out 3 _ rfl
 have p0:W.cell? ⟨w.heap.size+1,0,none⟩=some (.int .i64 v.self):=aA R1.out 0 _ rfl
 have p1:W.cell? ⟨w.heap.size+1,1,none⟩=some (.int .i64 v.procs):=aA R1.out 1 _ rfl
 have p2:W.cell? ⟨w.heap.size+1,2,none⟩=some (.int .i64 v.frm):=aA R1.out 2 _ rfl
 have p3:W.cell? ⟨w.heap.size+1,3,none⟩=some (.int .i64 v.value):=aA R1.out 3 _ rfl
 have hxs:InR x.slot:=⟨by omega,by omega⟩
 have hxo:InR x.op:=⟨by omega,by omega⟩
 by_cases h1:x.op=1
 ·have e1:(x.op==1)=true:=by simpa using h1
  rw [if_pos h1]
  clear h1
  exact Tzbm
 have e1:(x.op==1)=false:=by simpa using h1
 rw [if_neg h1]
 by_cases h2:x.op=2
 ·have e2:(x.op==2)=true:=by simpa using h2
  rw [if_pos h2]
  clear h2
  go_enter Tryz.func204,Tryz.ntmps204
  go_upto_region 1 with fail
  try rw [←hW]
  clear hW
  go_upto_region 5 with fail
  go_wp2_with fail
  refine (vW A m c cells x.slot _ W (HR.out.ext hbW) hxs).mono ?_
  rintro e w2 ⟨rfl,rfl⟩
  go_wp2
  go_ret
  exact ⟨rfl,hbW⟩
 have e2:(x.op==2)=false:=by simpa using h2
 rw [if_neg h2]
 by_cases h3:x.op=3
 ·have e3:(x.op==3)=true:=by simpa using h3
  rw [if_pos h3]
  clear h3
  go_enter Tryz.func204,Tryz.ntmps204
  go_upto_region 1 with fail
  try rw [←hW]
  clear hW
  have K0:=Lib.hid (HAR.out W.drew (Below.ext hbW (Below.refl _ W).drew) 0 (by omega))
  go_upto_region 7 with fail
  go_wp2_with fail
  refine aM ((fun w' =>Below W.heap.size W w')) (by kernel_rfl) (by kernel_rfl) ((Below.refl _ W).drew) ?_
  refine TkA ?_
  refine aE (⟨w.heap.size,3,none⟩) (.int .i64 x.slot) rfl rfl rfl (fun w' hw' =>aG (aU _) (aA ((hw'.block w.heap.size (by have:=SW.out;omega)).trans R0.out) 3 _ rfl)) ?_
  refine TkI ?_
  refine TkA ?_
  refine aE (⟨w.heap.size,4,none⟩) (.int .i64 x.size) rfl rfl rfl (fun w' hw' =>aG (aU _) (aA ((hw'.block w.heap.size (by have:=SW.out;omega)).trans R0.out) 4 _ rfl)) ?_
  refine TkI ?_
  refine TkA ?_
  refine aE (⟨w.heap.size,0,none⟩) (.agg #[.int .i64 x.op,.int .i64 x.val,.string x.name,.int .i64 x.slot,.int .i64 x.size,.slice x.A x.n x.c]) rfl rfl rfl (fun w' hw' =>aB ((hw'.block w.heap.size (by have:=SW.out;omega)).trans R0.out) Tryz.underlying244 rfl (by kernel_rfl)) ?_
  refine TkI ?_
  refine TkA ?_
  refine aE (⟨w.heap.size+1,0,none⟩) (.agg #[.int .i64 v.self,.int .i64 v.procs,.int .i64 v.frm,.int .i64 v.value]) rfl rfl rfl (fun w' hw' =>aB ((hw'.block (w.heap.size+1) (by have:=SW.out;omega)).trans R1.out) Tryz.underlying208 rfl (by kernel_rfl)) ?_
  refine TkI ?_
  refine TkA ?_
  refine aL rfl ?_
  go_wp2_with fail
  refine K0.out.mono ?_
  rintro e w2 ⟨rfl,hb2⟩
  have y2:=Below.ext (Below.refl _ W).drew hb2
  go_wp2_with fail
  refine aI (y2) ?_
  refine TkA ?_
  refine aL rfl ?_
  go_wp2_with fail
  refine (sT A m c cells x.slot x.size _ w2 HLC.out hm hslot hsize (sJ HCI.out hv HALL.out 0)).mono ?_
  rintro e w3 ⟨rfl,rfl⟩
  go_wp2_with fail
  refine aI (y2) ?_
  refine TkA ?_
  refine aL rfl ?_
  go_wp2_with fail
  refine (vW A m c cells _ _ w3 (HR.out.ext (Below.ext hbW y2)) (AT hslot hsize)).mono ?_
  rintro e w4 ⟨rfl,rfl⟩
  exact Tzdd
 have e3:(x.op==3)=false:=by simpa using h3
 rw [if_neg h3]
 by_cases h4:x.op=4
 ·have e4:(x.op==4)=true:=by simpa using h4
  rw [if_pos h4]
  clear h4
  exact Tzbm
 have e4:(x.op==4)=false:=by simpa using h4
 rw [if_neg h4]
 by_cases h5:x.op=5
 ·have e5:(x.op==5)=true:=by simpa using h5
  rw [if_pos h5]
  clear h5
  exact Tzbm
 have e5:(x.op==5)=false:=by simpa using h5
 rw [if_neg h5]
 by_cases h6:x.op=6
 ·have e6:(x.op==6)=true:=by simpa using h6
  rw [if_pos h6]
  clear h6
  exact Tzbm
 have e6:(x.op==6)=false:=by simpa using h6
 rw [if_neg h6]
 by_cases h7:x.op=7
 ·have e7:(x.op==7)=true:=by simpa using h7
  rw [if_pos h7]
  clear h7
  exact Tzbm
 have e7:(x.op==7)=false:=by simpa using h7
 rw [if_neg h7]
 by_cases h8:x.op<8
 ·have e8:decide (x.op<8)=true:=by simpa using h8
  rw [if_pos (.inl h8)]
  exact Tzbm
 ·have e8:decide (x.op<8)=false:=by simpa using h8
  have e22:decide (22<x.op)=false:=by simp;omega
  rw [if_neg (by omega)]
  go_enter Tryz.func204,Tryz.ntmps204
  go_upto_region 1 with fail
  try rw [←hW]
  clear hW
  have K0:=Lib.hid (HAR.out W.drew (Below.ext hbW (Below.refl _ W).drew) 0 (by omega))
  go_upto_region 18 with fail
  go_wp2_with fail
  refine aM ((fun w' =>Below W.heap.size W w')) (by kernel_rfl) (by kernel_rfl) ((Below.refl _ W).drew) ?_
  refine TkA ?_
  refine aE (⟨w.heap.size,0,none⟩) (.int .i64 x.op) rfl rfl rfl (fun w' hw' =>aG (aU _) (aA ((hw'.block w.heap.size (by have:=SW.out;omega)).trans R0.out) 0 _ rfl)) ?_
  refine TkI ?_
  refine TkA ?_
  refine aE (⟨w.heap.size,0,none⟩) (.agg #[.int .i64 x.op,.int .i64 x.val,.string x.name,.int .i64 x.slot,.int .i64 x.size,.slice x.A x.n x.c]) rfl rfl rfl (fun w' hw' =>aB ((hw'.block w.heap.size (by have:=SW.out;omega)).trans R0.out) Tryz.underlying244 rfl (by kernel_rfl)) ?_
  refine TkI ?_
  refine TkA ?_
  refine aE (⟨w.heap.size+1,0,none⟩) (.agg #[.int .i64 v.self,.int .i64 v.procs,.int .i64 v.frm,.int .i64 v.value]) rfl rfl rfl (fun w' hw' =>aB ((hw'.block (w.heap.size+1) (by have:=SW.out;omega)).trans R1.out) Tryz.underlying208 rfl (by kernel_rfl)) ?_
  refine TkI ?_
  refine TkA ?_
  refine aL rfl ?_
  go_wp2_with fail
  refine K0.out.mono ?_
  rintro e w2 ⟨rfl,hb2⟩
  have y2:=Below.ext (Below.refl _ W).drew hb2
  have K1:=Lib.hid (HAR.out w2 (Below.ext hbW y2) 1 (by omega))
  go_wp2_with fail
  refine aI (y2) ?_
  refine TkA ?_
  refine aE (⟨w.heap.size,0,none⟩) (.agg #[.int .i64 x.op,.int .i64 x.val,.string x.name,.int .i64 x.slot,.int .i64 x.size,.slice x.A x.n x.c]) rfl rfl rfl (fun w' hw' =>aB ((hw'.block w.heap.size (by have:=SW.out;omega)).trans R0.out) Tryz.underlying244 rfl (by kernel_rfl)) ?_
  refine TkI ?_
  refine TkA ?_
  refine aE (⟨w.heap.size+1,0,none⟩) (.agg #[.int .i64 v.self,.int .i64 v.procs,.int .i64 v.frm,.int .i64 v.value]) rfl rfl rfl (fun w' hw' =>aB ((hw'.block (w.heap.size+1) (by have:=SW.out;omega)).trans R1.out) Tryz.underlying208 rfl (by kernel_rfl)) ?_
  refine TkI ?_
  refine TkA ?_
  refine aL rfl ?_
  go_wp2_with fail
  refine K1.out.mono ?_
  rintro e w3 ⟨rfl,hb3⟩
  have y3:=Below.ext y2 hb3
  go_wp2_with fail
  refine aI (y3) ?_
  refine TkA ?_
  refine aL rfl ?_
  go_wp2_with fail
  refine (DG x.op _ _ w3 hop (sJ HCI.out hv HALL.out 0) (sJ HCI.out hv HALL.out 1)).mono ?_
  rintro e w4 ⟨rfl,rfl⟩
  go_wp2_with fail
  refine aI (y3) ?_
  refine TkA ?_
  refine aZ ?_
  go_wp2_with fail
  go_ret
  exact ⟨rfl,Below.ext hbW y3⟩
theorem sM:∀(n:Nat),uB n
 |0=>fun x t S Sc w A m c cells v h=>h.elim
 |n+1=>yC n (sM n)
end Go.Proofs.YtiblijmngokcgaaGreatDoor
