import Derived.Test.YtiblijmngokcgaaGreatDoorDrSZs
namespace Go.Proofs.YtiblijmngokcgaaGreatDoor
open Go.RowKit
set_option maxRecDepth 100000
set_option linter.unusedVariables false
set_option linter.unusedSimpArgs false
theorem DrS.up:∀(n:Nat) (t:Sm),DrS n t→DrS (n+1) t
 |0,_,h=>h.elim
 |n+1,.mk ..,⟨h1,h2,h3,h4,h5,h6⟩=>⟨h1,h2,h3,fun s hs=>DrS.up n s (h4 s hs),fun s hs=>DrS.up n s (h5 s hs),h6⟩
def eC (i s k:Int):Array Value:= #[.string (nm 120),.int .i64 0,.int .i64 i,.string (nm 97),.int .i64 s,.int .i64 0,.string (nm 121),.int .i64 0,.int .i64 0,.string (nm 122),.int .i64 0,.int .i64 k,.string (nm 98),.int .i64 2,.int .i64 0]
structure Prg where
 i:Int
 s:Int
 k:Int
 st:List Sm
 me:List Sm
 ti:List Sm
 inp:List Sm
def fA (S:Nat→Prop) (w:World) (v:Value) (ts:List Sm):Prop:=LsOk bM (SmOk 3 S w) S w v ts
theorem dB:Fram fA:=jV (bF 3)
structure PrgIn (p:Prg):Prop where
 i1: -2≤p.i
 i2:p.i≤4
 s1:1≤p.s
 s2:p.s≤5
 k1:0≤p.k
 k2:p.k≤2
 st:∀s∈p.st,DrS 3 s
 me:∀s∈p.me,DrS 3 s
 ti:∀s∈p.ti,DrS 3 s
 inp:∀s∈p.inp,DrS 3 s
 l1:p.st.length≤10
 l2:p.me.length≤10
 l3:p.ti.length≤10
 l4:p.inp.length≤10
def IE (S:Nat→Prop) (w:World) (v:Value) (p:Prg):Prop:=∃V A1 m1 c1 A2 m2 c2 A3 m3 c3 A4 m4 c4,v= .agg #[.slice (some ⟨V,0,none⟩) 5 5,.slice A1 m1 c1,.slice A2 m2 c2,.slice A3 m3 c3,.slice A4 m4 c4]∧S V∧w.heap[V]? =some (.cells (eC p.i p.s p.k) 199 (0,0))∧
 fA S w (.slice A1 m1 c1) p.st∧fA S w (.slice A2 m2 c2) p.me∧fA S w (.slice A3 m3 c3) p.ti∧fA S w (.slice A4 m4 c4) p.inp
theorem qQ {n base:Nat} {w:World} {v:Value} {ts:List Sm} (hn:n≤3) (h:OwLs bM 18 (fun S w=>SmOk n S w) w base 246 v ts):fA (base≤·) w v ts:=by
 have:=h.ls (bF n)
 refine this.mono (fun _ _ h=>h) (fun x t h=> ?_)
 match n,hn with
 |0,_=>exact h.elim
 |1,_=>exact SmOk.up _ _ _ (SmOk.up _ _ _ h)
 |2,_=>exact SmOk.up _ _ _ h
 |3,_=>exact h
theorem rL {n:Nat} (hn:n≤3) {t:Sm} (h:DrS n t):DrS 3 t:=by
 match n,hn with
 |0,_=>exact h.elim
 |1,_=>exact DrS.up _ _ (DrS.up _ _ h)
 |2,_=>exact DrS.up _ _ h
 |3,_=>exact h
set_option maxHeartbeats 8000000 in
theorem sC (B g:Nat) (w:World) (h:Cod B w g) (hG:Glb B w):
 Calls Tryz.prog 98 #[.pointer (some ⟨g,0,none⟩)] w fun e w' =>∃v p,e= .returned v∧PrgIn p∧IE (w.heap.size≤·) w' v p∧Cod B w' g∧w.grownBy w' (some g):=by
 have hglt:=h.lt
 have hBg:=h.1
 obtain ⟨W,hW,bW,sW,rW⟩:=fG w #[.slice none 0 0,.slice none 0 0,.slice none 0 0,.slice none 0 0,.slice none 0 0] 145
 have SW:=Lib.hid sW
 have RW:=Lib.hid rW
 clear sW rW
 go_enter Tryz.func98,Tryz.ntmps98
 go_upto_region 1 with fail
 rw [←hW]
 clear hW
 obtain ⟨b2,hb2⟩:∃b,b=w.heap.size:=⟨_,rfl⟩
 rw [←hb2] at RW ⊢
 have HB2:=Lib.hid hb2
 have hbW:b2<W.heap.size:=by have:=SW.out;omega
 have hb2g:g<b2:=by omega
 clear hb2
 have hC0:=h.ext bW
 have hgw0:=aQ bW (some g)
 have hcx1:=bE B g 7 W hC0 (by omega) (by omega)
 rw [show ((7:Nat):Int)=7 from rfl] at hcx1
 have Hcx1:=Lib.hid hcx1
 clear hcx1
 go_wp2_with fail
 refine Hcx1.out.mono ?_
 rintro e w1 ⟨z1,rfl,hz1,hC1,hg1⟩
 have hcx2:=bE B g 5 w1 hC1 (by omega) (by omega)
 rw [show ((5:Nat):Int)=5 from rfl] at hcx2
 have Hcx2:=Lib.hid hcx2
 clear hcx2
 go_wp2_with fail
 refine Hcx2.out.mono ?_
 rintro e w2 ⟨z2,rfl,hz2,hC2,hg2⟩
 have hcx3:=bE B g 3 w2 hC2 (by omega) (by omega)
 rw [show ((3:Nat):Int)=3 from rfl] at hcx3
 have Hcx3:=Lib.hid hcx3
 clear hcx3
 go_wp2_with fail
 refine Hcx3.out.mono ?_
 rintro e w3 ⟨z3,rfl,hz3,hC3,hg3⟩
 have hg03:=aH (aH hg1 hg2) hg3
 have hgw3:=aH hgw0 hg03
 have hs3:=hg03.size
 have R3:=Lib.hid ((aN hg03 hbW (by omega)).trans RW.out)
 obtain ⟨W4,hW4,b4,s4,r4⟩:=fG w3 #[.string (ByteArray.mk #[120]),.int .i64 0,.int .i64 ((z1:Int)-2),.string (ByteArray.mk #[97]),.int .i64 (1+(z2:Int)),.int .i64 0,.string (ByteArray.mk #[121]),.int .i64 0,.int .i64 0,.string (ByteArray.mk #[122]),.int .i64 0,.int .i64 (z3:Int),.string (ByteArray.mk #[98]),.int .i64 2,.int .i64 0] (199:Nat)
 obtain ⟨V,hV⟩:∃b,b=w3.heap.size:=⟨_,rfl⟩
 rw [←hV] at r4 s4
 obtain ⟨W5,hW5,b5,s5,r5⟩:=fG W4 #[.slice (some ⟨V,0,none⟩) 5 5,.slice none 0 0,.slice none 0 0,.slice none 0 0,.slice none 0 0] (145:Nat)
 obtain ⟨b3,hb3⟩:∃b,b=W4.heap.size:=⟨_,rfl⟩
 rw [←hb3] at r5 s5
 have hVb:V<b3:=by omega
 have hb2V:b2<V:=by omega
 have hbW5:b3<W5.heap.size:=by omega
 have RV5:=Lib.hid ((b5.block V (by omega)).trans r4)
 have R5:=Lib.hid ((b5.block b2 (by omega)).trans ((b4.block b2 (by omega)).trans R3.out))
 have RB5:=Lib.hid r5
 have hC5:=(hC3.ext b4).ext b5
 have hgw5:=aH (aH hgw3 (aQ b4 _)) (aQ b5 _)
 have G5:=hG.grown hgw5 hBg
 have H4:=Lib.hid hW4
 have H5:=Lib.hid hW5
 have HV:=Lib.hid hV
 have HB3:=Lib.hid hb3
 have hsz5:W5.heap.size=b3+1:=s5
 have HS5:=Lib.hid hsz5
 clear r4 s4 r5 s5 hW4 hW5 hV hb3 hC0 hC1 hC2 hC3 hsz5 Hcx1 Hcx2 Hcx3
 have HW5e:W5=(w3.alloc (.cells #[.string (ByteArray.mk #[120]),.int .i64 0,.int .i64 ((z1:Int)-2),.string (ByteArray.mk #[97]),.int .i64 (1+(z2:Int)),.int .i64 0,.string (ByteArray.mk #[121]),.int .i64 0,.int .i64 0,.string (ByteArray.mk #[122]),.int .i64 0,.int .i64 (z3:Int),.string (ByteArray.mk #[98]),.int .i64 2,.int .i64 0] (199:Nat))).alloc (.cells #[.slice (some ⟨w3.heap.size,0,none⟩) 5 5,.slice none 0 0,.slice none 0 0,.slice none 0 0,.slice none 0 0] (145:Nat)):=by rw [H5.out,H4.out,HV.out]
 have HB3e:b3=w3.heap.size+1:=by rw [HB3.out,H4.out];simp
 have E1:=Lib.hid HW5e
 have E2:=Lib.hid HB3e
 clear HW5e HB3e
 go_upto_region 2 with (refine aF rfl 145 _ _ rfl 145 _ #[.slice (some ⟨w3.heap.size,0,none⟩) 5 5,.slice none 0 0,.slice none 0 0,.slice none 0 0,.slice none 0 0] rfl rfl (by kernel_rfl) rfl (by simp [Value.oneCell']) ?_)
 rw [←E1.out,←E2.out,←HV.out]
 clear E1 E2 H4 H5
 try simp only [Act.put]
 have Hst6:=gP 2 (by omega) 3 B g W5 (by omega) (by omega) hC5 G5
 rw [show ((3:Nat):Int)=3 from rfl] at Hst6
 try rw [show ((2:Nat):Int)=2 from rfl] at Hst6
 have HST6:=Lib.hid Hst6
 clear Hst6
 go_wp2_with fail
 refine HST6.out.mono ?_
 rintro e w6 ⟨A6,c6,m6,ts6,rfl,hm6,hdr6,hO6,hCq6,hq6⟩
 have hsq6:=hq6.size
 have hss6:b3<W5.heap.size:=by have:=HS5.out;omega
 have RB6:=(aN hq6 hss6 (by omega)).trans RB5.out
 have q6:w6.cell? ⟨b3,1,none⟩=some (.slice none 0 0):=aA RB6 1 _ rfl
 have f6:w6.frozen? ⟨b3,1,none⟩=false:=frozen_of_row _ _ _ _ _ RB6
 obtain ⟨W6,hW6⟩:∃W6,W6=w6.setCell ⟨b3,1,none⟩ (.slice A6 m6 c6):=⟨_,rfl⟩
 have gs6:w6.grownBy W6 (some b3):=by rw [hW6];exact aO (bC _ _)
 have RS6:=Lib.hid (show W6.heap[b3]? =some (.cells #[.slice (some ⟨V,0,none⟩) 5 5,.slice A6 m6 c6,.slice none 0 0,.slice none 0 0,.slice none 0 0] 145 (0,0)) by rw [hW6];exact heap_setCell_same _ _ _ _ _ _ RB6)
 have hss26:=gs6.size
 have RV6:=Lib.hid ((aN gs6 (by omega) (by omega)).trans ((aN hq6 (by omega) (by omega)).trans RV5.out))
 have R6:=Lib.hid ((aN gs6 (by omega) (by omega)).trans ((aN hq6 (by omega) (by omega)).trans R5.out))
 have hC6:=hCq6.grown gs6 (fun m hm=>by cases hm;constructor<;>omega)
 have hgw6:=cD (aH hgw5 hq6) gs6 (fun m hm=>by cases hm;have:=HB2.out;exact .inl (by omega))
 have G6:=hG.grown hgw6 hBg
 have hL6:fA (b3<·) W6 (.slice A6 m6 c6) ts6:=dB.keep _ _ _ _ _ (fun b hb h=>aN gs6 hb (by omega)) (dB.mono _ _ _ _ _ (fun b _ h=>by omega) (qQ (by omega) hO6))
 clear hO6 hCq6
 go_upto_region 3 with fail
 rw [←hW6]
 clear hW6 q6 f6 gs6 hq6 RB6
 try simp only [Act.put]
 have RB6' :=RS6
 have RB6:=RS6
 have Hst7:=gP 3 (by omega) 4 B g W6 (by omega) (by omega) hC6 G6
 rw [show ((4:Nat):Int)=4 from rfl] at Hst7
 try rw [show ((3:Nat):Int)=3 from rfl] at Hst7
 have HST7:=Lib.hid Hst7
 clear Hst7
 go_wp2_with fail
 refine HST7.out.mono ?_
 rintro e w7 ⟨A7,c7,m7,ts7,rfl,hm7,hdr7,hO7,hCq7,hq7⟩
 have hsq7:=hq7.size
 have hss7:b3<W6.heap.size:=by have:=HS5.out;omega
 have RB7:=(aN hq7 hss7 (by omega)).trans RB6.out
 have q7:w7.cell? ⟨b3,2,none⟩=some (.slice none 0 0):=aA RB7 2 _ rfl
 have f7:w7.frozen? ⟨b3,2,none⟩=false:=frozen_of_row _ _ _ _ _ RB7
 obtain ⟨W7,hW7⟩:∃W7,W7=w7.setCell ⟨b3,2,none⟩ (.slice A7 m7 c7):=⟨_,rfl⟩
 have gs7:w7.grownBy W7 (some b3):=by rw [hW7];exact aO (bC _ _)
 have RS7:=Lib.hid (show W7.heap[b3]? =some (.cells #[.slice (some ⟨V,0,none⟩) 5 5,.slice A6 m6 c6,.slice A7 m7 c7,.slice none 0 0,.slice none 0 0] 145 (0,0)) by rw [hW7];exact heap_setCell_same _ _ _ _ _ _ RB7)
 have hss27:=gs7.size
 have RV7:=Lib.hid ((aN gs7 (by omega) (by omega)).trans ((aN hq7 (by omega) (by omega)).trans RV6.out))
 have R7:=Lib.hid ((aN gs7 (by omega) (by omega)).trans ((aN hq7 (by omega) (by omega)).trans R6.out))
 have hC7:=hCq7.grown gs7 (fun m hm=>by cases hm;constructor<;>omega)
 have hgw7:=cD (aH hgw6 hq7) gs7 (fun m hm=>by cases hm;have:=HB2.out;exact .inl (by omega))
 have G7:=hG.grown hgw7 hBg
 have hL7:fA (b3<·) W7 (.slice A7 m7 c7) ts7:=dB.keep _ _ _ _ _ (fun b hb h=>aN gs7 hb (by omega)) (dB.mono _ _ _ _ _ (fun b _ h=>by omega) (qQ (by omega) hO7))
 clear hO7 hCq7
 have hL6_7:fA (b3<·) W7 (.slice A6 m6 c6) ts6:=dB.keep _ _ _ _ _ (fun b hb h=>aN gs7 (by omega) (by omega)) (dB.keep _ _ _ _ _ (fun b hb h=>aN hq7 hb (by omega)) hL6)
 go_upto_region 4 with fail
 rw [←hW7]
 clear hW7 q7 f7 gs7 hq7 RB7
 try simp only [Act.put]
 have RB7' :=RS7
 have RB7:=RS7
 have Hst8:=gP 2 (by omega) 3 B g W7 (by omega) (by omega) hC7 G7
 rw [show ((3:Nat):Int)=3 from rfl] at Hst8
 try rw [show ((2:Nat):Int)=2 from rfl] at Hst8
 have HST8:=Lib.hid Hst8
 clear Hst8
 go_wp2_with fail
 refine HST8.out.mono ?_
 rintro e w8 ⟨A8,c8,m8,ts8,rfl,hm8,hdr8,hO8,hCq8,hq8⟩
 have hsq8:=hq8.size
 have hss8:b3<W7.heap.size:=by have:=HS5.out;omega
 have RB8:=(aN hq8 hss8 (by omega)).trans RB7.out
 have q8:w8.cell? ⟨b3,3,none⟩=some (.slice none 0 0):=aA RB8 3 _ rfl
 have f8:w8.frozen? ⟨b3,3,none⟩=false:=frozen_of_row _ _ _ _ _ RB8
 obtain ⟨W8,hW8⟩:∃W8,W8=w8.setCell ⟨b3,3,none⟩ (.slice A8 m8 c8):=⟨_,rfl⟩
 have gs8:w8.grownBy W8 (some b3):=by rw [hW8];exact aO (bC _ _)
 have RS8:=Lib.hid (show W8.heap[b3]? =some (.cells #[.slice (some ⟨V,0,none⟩) 5 5,.slice A6 m6 c6,.slice A7 m7 c7,.slice A8 m8 c8,.slice none 0 0] 145 (0,0)) by rw [hW8];exact heap_setCell_same _ _ _ _ _ _ RB8)
 have hss28:=gs8.size
 have RV8:=Lib.hid ((aN gs8 (by omega) (by omega)).trans ((aN hq8 (by omega) (by omega)).trans RV7.out))
 have R8:=Lib.hid ((aN gs8 (by omega) (by omega)).trans ((aN hq8 (by omega) (by omega)).trans R7.out))
 have hC8:=hCq8.grown gs8 (fun m hm=>by cases hm;constructor<;>omega)
 have hgw8:=cD (aH hgw7 hq8) gs8 (fun m hm=>by cases hm;have:=HB2.out;exact .inl (by omega))
 have G8:=hG.grown hgw8 hBg
 have hL8:fA (b3<·) W8 (.slice A8 m8 c8) ts8:=dB.keep _ _ _ _ _ (fun b hb h=>aN gs8 hb (by omega)) (dB.mono _ _ _ _ _ (fun b _ h=>by omega) (qQ (by omega) hO8))
 clear hO8 hCq8
 have hL6_8:fA (b3<·) W8 (.slice A6 m6 c6) ts6:=dB.keep _ _ _ _ _ (fun b hb h=>aN gs8 (by omega) (by omega)) (dB.keep _ _ _ _ _ (fun b hb h=>aN hq8 hb (by omega)) hL6_7)
 have hL7_8:fA (b3<·) W8 (.slice A7 m7 c7) ts7:=dB.keep _ _ _ _ _ (fun b hb h=>aN gs8 (by omega) (by omega)) (dB.keep _ _ _ _ _ (fun b hb h=>aN hq8 hb (by omega)) hL7)
 go_upto_region 5 with fail
 rw [←hW8]
 clear hW8 q8 f8 gs8 hq8 RB8
 try simp only [Act.put]
 have RB8' :=RS8
 have RB8:=RS8
 have Hst9:=gP 2 (by omega) 2 B g W8 (by omega) (by omega) hC8 G8
 rw [show ((2:Nat):Int)=2 from rfl] at Hst9
 try rw [show ((2:Nat):Int)=2 from rfl] at Hst9
 have HST9:=Lib.hid Hst9
 clear Hst9
 go_wp2_with fail
 refine HST9.out.mono ?_
 rintro e w9 ⟨A9,c9,m9,ts9,rfl,hm9,hdr9,hO9,hCq9,hq9⟩
 have hsq9:=hq9.size
 have hss9:b3<W8.heap.size:=by have:=HS5.out;omega
 have RB9:=(aN hq9 hss9 (by omega)).trans RB8.out
 have q9:w9.cell? ⟨b3,4,none⟩=some (.slice none 0 0):=aA RB9 4 _ rfl
 have f9:w9.frozen? ⟨b3,4,none⟩=false:=frozen_of_row _ _ _ _ _ RB9
 obtain ⟨W9,hW9⟩:∃W9,W9=w9.setCell ⟨b3,4,none⟩ (.slice A9 m9 c9):=⟨_,rfl⟩
 have gs9:w9.grownBy W9 (some b3):=by rw [hW9];exact aO (bC _ _)
 have RS9:=Lib.hid (show W9.heap[b3]? =some (.cells #[.slice (some ⟨V,0,none⟩) 5 5,.slice A6 m6 c6,.slice A7 m7 c7,.slice A8 m8 c8,.slice A9 m9 c9] 145 (0,0)) by rw [hW9];exact heap_setCell_same _ _ _ _ _ _ RB9)
 have hss29:=gs9.size
 have RV9:=Lib.hid ((aN gs9 (by omega) (by omega)).trans ((aN hq9 (by omega) (by omega)).trans RV8.out))
 have R9:=Lib.hid ((aN gs9 (by omega) (by omega)).trans ((aN hq9 (by omega) (by omega)).trans R8.out))
 have hC9:=hCq9.grown gs9 (fun m hm=>by cases hm;constructor<;>omega)
 have hgw9:=cD (aH hgw8 hq9) gs9 (fun m hm=>by cases hm;have:=HB2.out;exact .inl (by omega))
 have G9:=hG.grown hgw9 hBg
 have hL9:fA (b3<·) W9 (.slice A9 m9 c9) ts9:=dB.keep _ _ _ _ _ (fun b hb h=>aN gs9 hb (by omega)) (dB.mono _ _ _ _ _ (fun b _ h=>by omega) (qQ (by omega) hO9))
 clear hO9 hCq9
 have hL6_9:fA (b3<·) W9 (.slice A6 m6 c6) ts6:=dB.keep _ _ _ _ _ (fun b hb h=>aN gs9 (by omega) (by omega)) (dB.keep _ _ _ _ _ (fun b hb h=>aN hq9 hb (by omega)) hL6_8)
 have hL7_9:fA (b3<·) W9 (.slice A7 m7 c7) ts7:=dB.keep _ _ _ _ _ (fun b hb h=>aN gs9 (by omega) (by omega)) (dB.keep _ _ _ _ _ (fun b hb h=>aN hq9 hb (by omega)) hL7_8)
 have hL8_9:fA (b3<·) W9 (.slice A8 m8 c8) ts8:=dB.keep _ _ _ _ _ (fun b hb h=>aN gs9 (by omega) (by omega)) (dB.keep _ _ _ _ _ (fun b hb h=>aN hq9 hb (by omega)) hL8)
 go_upto_region 6 with fail
 rw [←hW9]
 clear hW9 q9 f9 gs9 hq9 RB9
 try simp only [Act.put]
 have RB9' :=RS9
 have RB9:=RS9
 go_wp2_with (first|(refine wpList_load_row rfl 145 _ rfl _ rfl 145 _ (0,0) _ RB9.out Tryz.underlying145 rfl (by kernel_rfl) ?_)|(refine aC rfl 145 _ _ rfl b2 145 _ _ rfl rfl R9.out (by kernel_rfl) rfl (by simp [Value.oneCell']) ?_))
 refine bodyPost_ret (bH rfl rfl (aB (setRow_heap _ _ _ _ _ _ R9.out) Tryz.underlying145 rfl (by kernel_rfl))) rfl ?_
 have gz:=aJ W9 b2 #[.slice (some ⟨V,0,none⟩) 5 5,.slice A6 m6 c6,.slice A7 m7 c7,.slice A8 m8 c8,.slice A9 m9 c9]
 have hCz:=hC9.grown gz (fun m hm=>by cases hm;constructor<;>omega)
 have hgz:=cD hgw9 gz (fun m hm=>by cases hm;have:=HB2.out;exact .inl (by omega))
 have up:∀(v:Value) (ts:List Sm),fA (b3<·) W9 v ts→fA (w.heap.size≤·) (W9.setRow b2 #[.slice (some ⟨V,0,none⟩) 5 5,.slice A6 m6 c6,.slice A7 m7 c7,.slice A8 m8 c8,.slice A9 m9 c9]) v ts:=fun v ts h=>dB.mono _ _ _ _ _ (fun b _ h=>by have:=HB2.out;omega) (dB.keep _ _ _ _ _ (fun b hb h=>aN gz hb (by omega)) h)
 refine ⟨_,⟨(z1:Int)-2,1+(z2:Int),z3,ts6,ts7,ts8,ts9⟩,rfl,⟨by show -2≤(z1:Int)-2;omega,by show (z1:Int)-2≤4;omega,by show 1≤1+(z2:Int);omega,by show 1+(z2:Int)≤5;omega,by show 0≤(z3:Int);omega,by show (z3:Int)≤2;omega,fun s hs=>rL (by omega) (hdr6 s hs),fun s hs=>rL (by omega) (hdr7 s hs),fun s hs=>rL (by omega) (hdr8 s hs),fun s hs=>rL (by omega) (hdr9 s hs),by have:=hL6_9.len.1;show ts6.length≤10;omega,by have:=hL7_9.len.1;show ts7.length≤10;omega,by have:=hL8_9.len.1;show ts8.length≤10;omega,by have:=hL9.len.1;show ts9.length≤10;omega⟩,?_,hCz,hgz⟩
 exact ⟨V,A6,m6,c6,A7,m7,c7,A8,m8,c8,A9,m9,c9,rfl,by have:=HB2.out;show w.heap.size≤V;omega,(aN gz (by have:=HS5.out;omega) (by omega)).trans RV9.out,up _ _ hL6_9,up _ _ hL7_9,up _ _ hL8_9,up _ _ hL9⟩
end Go.Proofs.YtiblijmngokcgaaGreatDoor
namespace Go.Proofs.YtiblijmngokcgaaGreatDoor
open Go.RowKit
set_option maxRecDepth 100000
set_option linter.unusedVariables false
set_option linter.unusedSimpArgs false
theorem pB:(Tryz.prog.info? 78).map (fun i=>(i.zero,i.size,i.bytes))=some (some (.agg #[.int .i64 0,.int .i64 0,.int .i64 0,.int .i64 0,.int .i64 0,.int .i64 0,.int .i64 0]),7,56):=by kernel_rfl
set_option maxHeartbeats 2000000 in
theorem tV (B g most:Nat) (w:World) (h:Cod B w g) (hm:most≤1000):
 Calls Tryz.prog 40 #[.pointer (some ⟨g,0,none⟩),.int .i64 (most:Int)] w fun e w' =>∃A c l,e= .returned (.slice A l.length c)∧l.length≤most∧(∀d∈l,∀z∈d.l,InR z)∧OwnR cQ 7 w' w.heap.size 78 (.slice A l.length c) l∧Cod B w' g∧w.grownBy w' (some g):=by
 have hglt:=h.lt
 go_enter Tryz.func40,Tryz.ntmps40
 go_wp2_with fail
 refine (bE B g (most+1) _ h (by omega) (by omega)).mono ?_
 rintro e w1 ⟨n,rfl,hn,hC1,hg1⟩
 clear h
 go_wp2
 go_loopw [5,6] (fun v i wr=>∃(j:Nat) (A:Option Addr) (c:Nat) (l:List Ev),i= .int .i64 j∧v= .slice A l.length c∧l.length+j=n∧(∀d∈l,∀z∈d.l,InR z)∧OwnR cQ 7 wr w.heap.size 78 (.slice A l.length c) l∧Cod B wr g∧w.grownBy wr (some g)) (fun _ i _=>(intOf i).toNat)
 case atStart=>exact ⟨n,none,0,[],rfl,rfl,by simp,fun d hd=>by simp at hd,OwnR.nil_ _ _ _,hC1,hg1⟩
 case round=>
  obtain ⟨j,A,c,l,rfl,rfl,hlj,hin,hown,hC,hgr⟩:=hrel
  have hlj' :l.length+j≤n:=by omega
  have Hlj:=Lib.hid hlj
  have HIN:=Lib.hid hin
  clear hlj hin
  by_cases hlt:0<j
  ·go_wp2_with fail
   refine (vR B g _ hC).mono ?_
   rintro e w4 ⟨a,rfl,ha,hC4,hg4⟩
   have hgr4:=hg4
   have hsz:=hgr.size
   have hsz4:=hgr4.size
   have hown2:=hown.kept hgr4 (by
    rcases Option.eq_none_or_eq_some (Value.slice A l.length c).ownBlock with h0|⟨m,h0⟩
    ·exact .inl h0
    ·refine .inr (fun e=> ?_)
     rw [h0] at e
     cases e
     have:=(World.ownsRow.lt hown _ h0).1
     omega)
   unfold evV
   have hone:Recs cQ (fun _=>True) (w4.alloc (.cells #[Value.int .i64 a.k0,Value.int .i64 a.k1,Value.int .i64 a.k2,Value.int .i64 a.k3,Value.int .i64 a.k4,Value.int .i64 a.k5,Value.int .i64 a.k6] 78)) (.slice (some ⟨w4.heap.size,0,none⟩) 1 1) [a]:=⟨_,1,rfl,by simp,by simp [maxLen],Cs.lit _ _ _ _ _ trivial rfl⟩
   go_wp2_with (refine aV (o:=⟨some 19,_,_,_,_,_⟩) dS iI (.agg #[.int .i64 0,.int .i64 0,.int .i64 0,.int .i64 0,.int .i64 0,.int .i64 0,.int .i64 0]) 56 _ _ 30 78 w.heap.size l [a] (some ⟨w4.heap.size,0,none⟩) 1 1 (.slice A l.length c) (l.length+1) rfl rfl Tryz.underlying30 pB rfl (by omega) rfl rfl (hown2.ext ((Below.refl _ _).alloc (Nat.le_refl _) _)) hone rfl (by omega) (by omega) (by simp;omega) ?_;intro A5 c5 w5 hown5 hgr5 hat5 hc51 hc52)
   obtain ⟨hC5,hg5⟩:=GO _ hglt hgr hgr4 hC4 hgr5 (fun m hm=>(World.ownsRow.lt hown2 m hm).1)
   have e:(l++ [a]).length=l.length+1:=by simp
   go_roundw
   case rel=>exact ⟨j-1,A5,c5,l++ [a],by congr 1;omega,by rw [e],by have:=Hlj.out;omega,fun d hd=>by
    rcases List.mem_append.1 hd with hd|hd
    ·exact HIN.out d hd
    ·simp at hd;subst hd;exact ha,by rw [e];exact hown5,hC5,hg5⟩
   case measure=>simp [intOf];omega
  ·obtain rfl:j=0:=by omega
   go_wp2
   go_ret
   exact ⟨_,_,l,rfl,by omega,HIN.out,hown,hC,hgr⟩
end Go.Proofs.YtiblijmngokcgaaGreatDoor
