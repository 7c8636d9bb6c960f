import Derived.Test.YtiblijmngokcgaaGreatDoorDrawZs
import Derived.Deep.Cut
import Derived.Deep.CutRange
import Derived.Deep.CutBlock
import Derived.Test.YtiblijmngokcgaaGreatDoorCodecCZs
namespace Go.Proofs.YtiblijmngokcgaaGreatDoor
open Go.RowKit
set_option linter.unusedVariables false
theorem fG (w:World) (cs:Array Value) (T:TypeId):∃W,W=w.alloc (.cells cs T)∧Below w.heap.size w W∧W.heap.size=w.heap.size+1∧W.heap[w.heap.size]? =some (.cells cs T (0,0)):=
 ⟨_,rfl,(Below.refl _ _).alloc (Nat.le_refl _) _,by simp,heap_alloc_new _ _⟩
theorem bP (w w1:World) (cs:Array Value) (T:TypeId) (hb:Below w.heap.size w w1):∃W,W=w1.alloc (.cells cs T)∧Below w.heap.size w W∧Below w1.heap.size w1 W∧RowKit.Hid (W.heap.size=w1.heap.size+1)∧RowKit.Hid (W.heap[w1.heap.size]? =some (.cells cs T (0,0))):=
 ⟨_,rfl,hb.alloc hb.size _,(Below.refl _ _).alloc (Nat.le_refl _) _,Lib.hid (by simp),Lib.hid (heap_alloc_new _ _)⟩
end Go.Proofs.YtiblijmngokcgaaGreatDoor
namespace Go.Proofs.YtiblijmngokcgaaGreatDoor
open Go.RowKit
set_option maxRecDepth 100000
set_option linter.unusedVariables false
set_option linter.unusedSimpArgs false
theorem aN {a b:World} {g:Nat} (h:a.grownBy b (some g)) {j:Nat} (hj:j<a.heap.size) (hne:j≠g):b.heap[j]? =a.heap[j]? :=h.block j hj (by simp;omega)
def mL:List Int:=[9223372036854775807,(-9223372036854775808),2147483648,(-1),63,64,(-65),127,128,1099511627776]
theorem CK:∀z∈mL,InR z:=by
 intro z hz
 simp [mL] at hz
 rcases hz with h|h|h|h|h|h|h|h|h|h<;>subst h<;>exact ⟨by omega,by omega⟩
theorem zE {w:World} {b x:Nat} (h:w.heap[b]? =some (.cells #[.int .i64 9223372036854775807,.int .i64 (-9223372036854775808),.int .i64 2147483648,.int .i64 (-1),.int .i64 63,.int .i64 64,.int .i64 (-65),.int .i64 127,.int .i64 128,.int .i64 1099511627776] 3 (0,0))) (hx:x<10):∃z,InR z∧w.cell? ⟨b,x,none⟩=some (.int .i64 z):=by
 have hc:w.cell? ⟨b,x,none⟩=(mL.map (fun z=>Value.int .i64 z))[x]? :=by
  rw [cell_of_row _ _ _ _ _ _ h]
  simp [mL]
 have hl:x<mL.length:=hx
 refine ⟨mL[x],CK _ (List.getElem_mem hl),?_⟩
 rw [hc,List.getElem?_map,List.getElem?_eq_getElem hl]
 rfl
set_option maxHeartbeats 1000000 in
theorem zJ (B g:Nat) (w:World) (h:Cod B w g):
 Calls Tryz.prog 157 #[.pointer (some ⟨g,0,none⟩)] w fun e w' =>∃z:Int,e= .returned (.int .i64 z)∧InR z∧Cod B w' g∧w.grownBy w' (some g):=by
 have hglt:=h.lt
 obtain ⟨W,hW,bW,sW,rW⟩:=fG w #[.int .i64 9223372036854775807,.int .i64 (-9223372036854775808),.int .i64 2147483648,.int .i64 (-1),.int .i64 63,.int .i64 64,.int .i64 (-65),.int .i64 127,.int .i64 128,.int .i64 1099511627776] 3
 have SW:=Lib.hid sW
 have RW:=Lib.hid rW
 clear sW rW
 go_enter Tryz.func157,Tryz.ntmps157
 go_wp2_with fail
 rw [←hW]
 clear hW
 refine (bE B g 6 W (h.ext bW) (by omega) (by omega)).mono ?_
 rintro e w1 ⟨x,rfl,hx,hC1,hg1⟩
 have hgw1:w.grownBy w1 (some g):=aH (aQ bW _) hg1
 by_cases h5:x=5
 ·subst h5
  go_wp2_with fail
  refine (bE B g 10 w1 hC1 (by omega) (by omega)).mono ?_
  rintro e w2 ⟨y,rfl,hy,hC2,hg2⟩
  have hs1:=hg1.size
  have r2:=(aN hg2 (by have:=SW.out;omega) (by omega)).trans ((aN hg1 (by have:=SW.out;omega) (by omega)).trans RW.out)
  obtain ⟨z,hz,cz⟩:=zE r2 hy
  go_wp2
  go_ret
  exact ⟨z,rfl,hz,hC2,aH hgw1 hg2⟩
 ·have d5:((x:Int)==5)=false:=by simp;omega
  go_wp2_with fail
  refine (bE B g 12 w1 hC1 (by omega) (by omega)).mono ?_
  rintro e w2 ⟨y,rfl,hy,hC2,hg2⟩
  go_wp2
  go_ret
  exact ⟨(y:Int)-2,by go_num,⟨by omega,by omega⟩,hC2,aH hgw1 hg2⟩
set_option maxHeartbeats 2000000 in
theorem vR (B g:Nat) (w:World) (h:Cod B w g):
 Calls Tryz.prog 99 #[.pointer (some ⟨g,0,none⟩)] w fun e w' =>∃a:Ev,e= .returned (evV a)∧(∀z∈a.l,InR z)∧Cod B w' g∧w.grownBy w' (some g):=by
 have hglt:=h.lt
 obtain ⟨W,hW,bW,sW,rW⟩:=fG w #[Value.int .i64 0,Value.int .i64 0,Value.int .i64 0,Value.int .i64 0,Value.int .i64 0,Value.int .i64 0,Value.int .i64 0] 78
 have SW:=Lib.hid sW
 have RW:=Lib.hid rW
 clear sW rW
 go_enter Tryz.func99,Tryz.ntmps99
 go_wp2_with fail
 rw [←hW]
 clear hW
 refine (bE B g 3 W (h.ext bW) (by omega) (by omega)).mono ?_
 rintro e w1 ⟨x,rfl,hx,hC1,hg1⟩
 have hgw1:w.grownBy w1 (some g):=aH (aQ bW _) hg1
 go_wp2_with fail
 refine (bE B g 3 w1 hC1 (by omega) (by omega)).mono ?_
 rintro e w2 ⟨y,rfl,hy,hC2,hg2⟩
 have hgw2:=aH hgw1 hg2
 go_wp2_with fail
 refine (zJ B g w2 hC2).mono ?_
 rintro e w3 ⟨z,rfl,hz,hC3,hg3⟩
 have hgw3:=aH hgw2 hg3
 have s1:=hg1.size
 have s2:=hg2.size
 have s3:=hg3.size
 have r3:=(aN hg3 (by have:=SW.out;omega) (by omega)).trans ((aN hg2 (by have:=SW.out;omega) (by omega)).trans ((aN hg1 (by have:=SW.out;omega) (by omega)).trans RW.out))
 obtain ⟨W4,hW4,bW4,sW4,rW4⟩:=fG w3 #[Value.int .i64 (1+(x:Int)),Value.int .i64 (y:Int),Value.int .i64 0,Value.int .i64 0,Value.int .i64 0,Value.int .i64 0,Value.int .i64 z] 78
 have R3:=Lib.hid ((bW4.block _ (by have:=SW.out;omega)).trans r3)
 have hC4:=hC3.ext bW4
 have hgw4:w.grownBy W4 (some g):=aH hgw3 (aQ bW4 _)
 have c4:W4.cell? ⟨w3.heap.size,0,none⟩=some (.int .i64 (1+(x:Int))):=aA rW4 0 _ rfl
 rw [hW4] at c4
 have SW4:=Lib.hid sW4
 have RW4:=Lib.hid rW4
 clear sW4 rW4 r3
 have hyR:InR (y:Int):=⟨by omega,by omega⟩
 have hxR:InR (1+(x:Int)):=⟨by omega,by omega⟩
 have h0R:InR 0:=⟨by omega,by omega⟩
 have X4:=RW4
 have Y4:=R3
 rw [hW4] at X4 Y4
 by_cases h0:x=0
 ·subst h0
  clear c4
  have e1:(1+((0:Nat):Int))=1:=rfl
  rw [e1] at hW4 RW4 hxR
  have c4:W4.cell? ⟨w3.heap.size,0,none⟩=some (.int .i64 1):=aA RW4.out 0 _ rfl
  rw [hW4] at c4
  go_wp2_with (refine aF rfl 78 _ _ rfl 78 _ #[Value.int .i64 1,Value.int .i64 (y:Int),Value.int .i64 0,Value.int .i64 0,Value.int .i64 0,Value.int .i64 0,Value.int .i64 z] rfl rfl (by kernel_rfl) rfl (by simp [Value.oneCell']) ?_)
  rw [←hW4]
  clear hW4 c4 X4 Y4
  refine (bE B g 3 W4 hC4 (by omega) (by omega)).mono ?_
  rintro e w5 ⟨p,rfl,hp,hC5,hg5⟩
  go_wp2_with fail
  refine (bE B g 2 w5 hC5 (by omega) (by omega)).mono ?_
  rintro e w6 ⟨q,rfl,hq,hC6,hg6⟩
  go_wp2_with fail
  refine (bE B g 5 w6 hC6 (by omega) (by omega)).mono ?_
  rintro e w7 ⟨r,rfl,hr,hC7,hg7⟩
  go_wp2_with fail
  refine (bE B g 3 w7 hC7 (by omega) (by omega)).mono ?_
  rintro e w8 ⟨s,rfl,hs,hC8,hg8⟩
  have hg48:=aH hg5 (aH hg6 (aH hg7 hg8))
  have hgw8:=aH hgw4 hg48
  have r8:=(aN hg48 (by have:=SW4.out;omega) (by have:=SW.out;omega)).trans RW4.out
  have t8:=(aN hg48 (by have:=SW4.out;have:=SW.out;omega) (by omega)).trans R3.out
  have k2:w8.cell? ⟨w3.heap.size,2,none⟩=some (.int .i64 0):=aA r8 2 _ rfl
  have k3:w8.cell? ⟨w3.heap.size,3,none⟩=some (.int .i64 0):=aA r8 3 _ rfl
  have k4:w8.cell? ⟨w3.heap.size,4,none⟩=some (.int .i64 0):=aA r8 4 _ rfl
  have k5:w8.cell? ⟨w3.heap.size,5,none⟩=some (.int .i64 0):=aA r8 5 _ rfl
  have f2:w8.frozen? ⟨w3.heap.size,2,none⟩=false:=frozen_of_row _ _ _ _ _ r8
  have f3:w8.frozen? ⟨w3.heap.size,3,none⟩=false:=frozen_of_row _ _ _ _ _ r8
  have f4:w8.frozen? ⟨w3.heap.size,4,none⟩=false:=frozen_of_row _ _ _ _ _ r8
  have f5:w8.frozen? ⟨w3.heap.size,5,none⟩=false:=frozen_of_row _ _ _ _ _ r8
  obtain ⟨W9,hW9⟩:∃W9,W9=((((w8.setCell ⟨w3.heap.size,2,none⟩ (.int .i64 (p:Int))).setCell ⟨w3.heap.size,3,none⟩ (.int .i64 (q:Int))).setCell ⟨w3.heap.size,4,none⟩ (.int .i64 (r:Int))).setCell ⟨w3.heap.size,5,none⟩ (.int .i64 (s:Int))):=⟨_,rfl⟩
  have r9:W9.heap[w3.heap.size]? =some (.cells #[Value.int .i64 1,Value.int .i64 (y:Int),Value.int .i64 (p:Int),Value.int .i64 (q:Int),Value.int .i64 (r:Int),Value.int .i64 (s:Int),Value.int .i64 z] 78 (0,0)):=by
   rw [hW9]
   exact heap_setCell_same _ _ _ _ _ _ (heap_setCell_same _ _ _ _ _ _ (heap_setCell_same _ _ _ _ _ _ (heap_setCell_same _ _ _ _ _ _ r8)))
  have hg9:w8.grownBy W9 (some w3.heap.size):=by rw [hW9];exact aO (aO (aO (aO (bC _ _))))
  have sz8:=hg48.size
  have t9:=(hg9.block w.heap.size (by have:=SW4.out;have:=SW.out;omega) (by have:=SW.out;simp;omega)).trans t8
  have HR9:=Lib.hid r9
  have HT9:=Lib.hid t9
  have HG9:=Lib.hid hg9
  clear r8 r9 t8 t9 hg9
  go_upto_region 4 with fail
  rw [←hW9]
  clear hW9 k2 k3 k4 k5 f2 f3 f4 f5
  go_wp2_with (first|(refine wpList_load_row rfl 78 _ rfl _ rfl 78 _ (0,0) _ HR9.out Tryz.underlying78 rfl (by kernel_rfl) ?_)|(refine aC rfl 78 _ _ rfl w.heap.size 78 _ _ rfl rfl HT9.out (by kernel_rfl) rfl (by simp [Value.oneCell']) ?_))
  refine bodyPost_ret (bH rfl rfl (aB (setRow_heap _ _ _ _ _ _ HT9.out) Tryz.underlying78 rfl (by kernel_rfl))) rfl ?_
  have hg10:=aJ W9 w.heap.size #[Value.int .i64 1,Value.int .i64 (y:Int),Value.int .i64 (p:Int),Value.int .i64 (q:Int),Value.int .i64 (r:Int),Value.int .i64 (s:Int),Value.int .i64 z]
  have hC9:=hC8.grown HG9.out (fun m hm=>by cases hm;have:=h.1;have:=SW.out;constructor<;>omega)
  have hC10:=hC9.grown hg10 (fun m hm=>by cases hm;have:=h.1;constructor<;>omega)
  have hgw9:=cD hgw8 HG9.out (fun m hm=>by cases hm;have:=SW.out;exact .inl (by omega))
  have hgw10:=cD hgw9 hg10 (fun m hm=>by cases hm;exact .inl (by omega))
  refine ⟨⟨1,y,p,q,r,s,z⟩,rfl,?_,hC10,hgw10⟩
  intro u hu
  simp only [Ev.l,List.mem_cons,List.not_mem_nil,or_false] at hu
  rcases hu with rfl|rfl|rfl|rfl|rfl|rfl|rfl
  ·exact hxR
  ·exact hyR
  ·exact ⟨by omega,by omega⟩
  ·exact ⟨by omega,by omega⟩
  ·exact ⟨by omega,by omega⟩
  ·exact ⟨by omega,by omega⟩
  ·exact hz
 ·have d0:((1:Int)+(x:Int)==1)=false:=by simp;omega
  go_wp2_with (first|(refine aF rfl 78 _ _ rfl 78 _ #[Value.int .i64 (1+(x:Int)),Value.int .i64 (y:Int),Value.int .i64 0,Value.int .i64 0,Value.int .i64 0,Value.int .i64 0,Value.int .i64 z] rfl rfl (by kernel_rfl) rfl (by simp [Value.oneCell']) ?_)|(refine wpList_load_row rfl 78 _ rfl _ rfl 78 _ (0,0) _ X4.out Tryz.underlying78 rfl (by kernel_rfl) ?_)|(refine aC rfl 78 _ _ rfl w.heap.size 78 _ _ rfl rfl Y4.out (by kernel_rfl) rfl (by simp [Value.oneCell']) ?_))
  rw [←hW4]
  clear hW4
  refine bodyPost_ret (bH rfl rfl (aB (setRow_heap _ _ _ _ _ _ R3.out) Tryz.underlying78 rfl (by kernel_rfl))) rfl ?_
  have hg10:=aJ W4 w.heap.size #[Value.int .i64 (1+(x:Int)),Value.int .i64 (y:Int),Value.int .i64 0,Value.int .i64 0,Value.int .i64 0,Value.int .i64 0,Value.int .i64 z]
  have hC10:=hC4.grown hg10 (fun m hm=>by cases hm;have:=h.1;constructor<;>omega)
  have hgw10:=cD hgw4 hg10 (fun m hm=>by cases hm;exact .inl (by omega))
  refine ⟨⟨1+(x:Int),y,0,0,0,0,z⟩,rfl,?_,hC10,hgw10⟩
  intro u hu
  simp only [Ev.l,List.mem_cons,List.not_mem_nil,or_false] at hu
  rcases hu with rfl|rfl|rfl|rfl|rfl|rfl|rfl
  ·exact hxR
  ·exact hyR
  ·exact h0R
  ·exact h0R
  ·exact h0R
  ·exact h0R
  ·exact hz
end Go.Proofs.YtiblijmngokcgaaGreatDoor
