import Derived.Test.YtiblijmngokcgaaGreatDoorDrSZs
set_option linter.unusedVariables false
set_option linter.unusedSimpArgs false
set_option maxHeartbeats 8000000
set_option maxRecDepth 100000
namespace Go.Proofs.YtiblijmngokcgaaGreatDoor
open Go.Proofs.Tryz
open Go.RowKit
theorem uj.up:∀(n:Nat) (t:Sm),uj n t->uj (n+1) t
 |0,_,h=>h.elim
 |n+1,.mk ..,⟨h1,h2,h3,h4,h5,h6⟩=>⟨h1,h2,h3,λs hs=>uj.up n s (h4 s hs),λs hs=>uj.up n s (h5 s hs),h6⟩
def fG (i s k:Int):Array Value:= #[.string (nm 120),.int .i64 0,.int .i64 i,.string (nm 97),.int .i64 s,.int .i64 0,.string (nm 121),.int .i64 0,.int .i64 0,.string (nm 122),.int .i64 0,.int .i64 k,.string (nm 98),.int .i64 2,.int .i64 0]
structure UZ where
 i:Int
 s:Int
 k:Int
 st:List Sm
 me:List Sm
 ti:List Sm
 inp:List Sm
def gD (S:Nat->Prop) (w:World) (v:Value) (ts:List Sm):Prop:=cw bJ (ak 3 S w) S w v ts
theorem dU:C9 gD:=mY (bH 3)
structure L0 (p:UZ):Prop where
 i1: -2<=p.i
 i2:p.i<=4
 s1:1<=p.s
 s2:p.s<=5
 k1:0<=p.k
 k2:p.k<=2
 st:∀s∈p.st,uj 3 s
 me:∀s∈p.me,uj 3 s
 ti:∀s∈p.ti,uj 3 s
 inp:∀s∈p.inp,uj 3 s
 l1:p.st.length<=10
 l2:p.me.length<=10
 l3:p.ti.length<=10
 l4:p.inp.length<=10
def NS (S:Nat->Prop) (w:World) (v:Value) (p:UZ):Prop:=∃V A1 m1 c1 A2 m2 c2 A3 m3 c3 A4 m4 c4,v= .agg #[.slice (some ⟨V,0,none⟩) 5 5,.slice A1 m1 c1,.slice A2 m2 c2,.slice A3 m3 c3,.slice A4 m4 c4]/\S V/\w.heap[V]? =some (.cells (fG p.i p.s p.k) 199 (0,0))/\
 gD S w (.slice A1 m1 c1) p.st/\gD S w (.slice A2 m2 c2) p.me/\gD S w (.slice A3 m3 c3) p.ti/\gD S w (.slice A4 m4 c4) p.inp
theorem uO {n base:Nat} {w:World} {v:Value} {ts:List Sm} (hn:n<=3) (h:cy bJ 18 (λS w=>ak n S w) w base 246 v ts):gD (base<=·) w v ts:=by
 have:=h.ls (bH n);refine this.mono (λ_ _ h=>h) (λx t h=> ?_);match n,hn with
 |0,_=>exact h.elim
 |1,_=>exact ak.up _ _ _ (ak.up _ _ _ h)
 |2,_=>exact ak.up _ _ _ h
 |3,_=>exact h
theorem vL {n:Nat} (hn:n<=3) {t:Sm} (h:uj n t):uj 3 t:=by
 match n,hn with
 |0,_=>exact h.elim
 |1,_=>exact uj.up _ _ (uj.up _ _ h)
 |2,_=>exact uj.up _ _ h
 |3,_=>exact h
theorem wH (B g:Nat) (w:World) (h:kj B w g) (hG:rm B w):
 Calls Tryz.prog 98 #[.pointer (some ⟨g,0,none⟩)] w λe w' =>∃v p,e= .returned v/\L0 p/\NS (w.heap.size<=·) w' v p/\kj B w' g/\w.grownBy w' (some g):=by
 have ur:=h.lt;have th:=h.1;obtain ⟨W,hW,bW,sW,rW⟩:=gO w #[.slice none 0 0,.slice none 0 0,.slice none 0 0,.slice none 0 0,.slice none 0 0] 145;have SW:=aA sW;have RW:=aA rW;clear sW rW;go_enter func98,ntmps98;go_upto_region 1 with fail;rw [<-hW];clear hW;obtain ⟨b2,ar⟩:=eX w.heap.size;rw [<-ar] at RW ⊢;have Z7:=aA ar;have aw:b2<W.heap.size:=by have:=SW.out;omega
 have hb2g:g<b2:=by omega
 clear ar;have hC0:=h.ext bW;have hgw0:=aN bW (some g);have Ji:=aV B g 7 W hC0 (by omega) (by omega);rw [show ((7:Nat):Int)=7 from rfl] at Ji;have V9:=aA Ji;clear Ji;go_wp2_with fail;refine V9.out.mono ?_;rintro e w1 ⟨z1,rfl,od,td,fj⟩;have jv:=aV B g 5 w1 td (by omega) (by omega);rw [show ((5:Nat):Int)=5 from rfl] at jv;have wh:=aA jv;clear jv;go_wp2_with fail;refine wh.out.mono ?_;rintro e w2 ⟨z2,rfl,J3,ly,da⟩;have Bj:=aV B g 3 w2 ly (by omega) (by omega);rw [show ((3:Nat):Int)=3 from rfl] at Bj;have wg:=aA Bj;clear Bj;go_wp2_with fail;refine wg.out.mono ?_;rintro e w3 ⟨z3,rfl,hz3,ql,ee⟩;have XI:=aE (aE fj da) ee;have Oa:=aE hgw0 XI;have Aj:=XI.size;have R3:=aA ((aO XI aw (by omega)).trans RW.out);obtain ⟨W4,ng,b4,s4,r4⟩:=gO w3 #[.string (ByteArray.mk #[120]),.int .i64 0,.int .i64 ((z1:Int)-2),.string (ByteArray.mk #[97]),.int .i64 (1+(z2:Int)),.int .i64 0,.string (ByteArray.mk #[121]),.int .i64 0,.int .i64 0,.string (ByteArray.mk #[122]),.int .i64 0,.int .i64 (z3:Int),.string (ByteArray.mk #[98]),.int .i64 2,.int .i64 0] (199:Nat);obtain ⟨V,hV⟩:=eX w3.heap.size;rw [<-hV] at r4 s4;obtain ⟨W5,nj,b5,s5,r5⟩:=gO W4 #[.slice (some ⟨V,0,none⟩) 5 5,.slice none 0 0,.slice none 0 0,.slice none 0 0,.slice none 0 0] (145:Nat);obtain ⟨b3,ea⟩:=eX W4.heap.size;rw [<-ea] at r5 s5;have hVb:V<b3:=by omega
 have hb2V:b2<V:=by omega
 have hbW5:b3<W5.heap.size:=by omega
 have RV5:=aA ((b5.block V (by omega)).trans r4);have R5:=aA ((b5.block b2 (by omega)).trans ((b4.block b2 (by omega)).trans R3.out));have RB5:=aA r5;have Iu:=(ql.ext b4).ext b5;have hgw5:=aE (aE Oa (aN b4 _)) (aN b5 _);have G5:=hG.grown hgw5 th;have H4:=aA ng;have H5:=aA nj;have HV:=aA hV;have HB3:=aA ea;have TY:W5.heap.size=b3+1:=s5;have xx:=aA TY;clear r4 s4 r5 s5 ng nj hV ea hC0 td ly ql TY V9 wh wg;have HW5e:W5=(w3.alloc (.cells #[.string (ByteArray.mk #[120]),.int .i64 0,.int .i64 ((z1:Int)-2),.string (ByteArray.mk #[97]),.int .i64 (1+(z2:Int)),.int .i64 0,.string (ByteArray.mk #[121]),.int .i64 0,.int .i64 0,.string (ByteArray.mk #[122]),.int .i64 0,.int .i64 (z3:Int),.string (ByteArray.mk #[98]),.int .i64 2,.int .i64 0] (199:Nat))).alloc (.cells #[.slice (some ⟨w3.heap.size,0,none⟩) 5 5,.slice none 0 0,.slice none 0 0,.slice none 0 0,.slice none 0 0] (145:Nat)):=by rw [H5.out,H4.out,HV.out]
 have HB3e:b3=w3.heap.size+1:=by rw [HB3.out,H4.out];simp
 have E1:=aA HW5e;have E2:=aA HB3e;clear HW5e HB3e;go_upto_region 2 with (refine sN ?_)
 rw [<-E1.out,<-E2.out,<-HV.out];clear E1 E2 H4 H5;refine Tyal ?_;have V6:=jV 2 (by omega) 3 B g W5 (by omega) (by omega) Iu G5;rw [show ((3:Nat):Int)=3 from rfl] at V6;try rw [show ((2:Nat):Int)=2 from rfl] at V6
 have HST6:=aA V6;clear V6;go_wp2_with fail;refine HST6.out.mono ?_;rintro e w6 ⟨A6,c6,m6,Ze,rfl,hm6,hdr6,Dz,hCq6,Zq⟩;have hsq6:=Zq.size;have hss6:b3<W5.heap.size:=by have:=xx.out;omega
 have ZW:=(aO Zq hss6 (by omega)).trans RB5.out;have q6:w6.cell? ⟨b3,1,none⟩=some (.slice none 0 0):=aM ZW 1 _ rfl
 have f6:w6.frozen? ⟨b3,1,none⟩=false:=frozen_of_row _ _ _ _ _ ZW
 obtain ⟨W6,Jn⟩:=eX (w6.setCell ⟨b3,1,none⟩ (.slice A6 m6 c6));have Yu:w6.grownBy W6 (some b3):=by rw [Jn];exact aL (bC _ _)
 have RS6:=aA (show W6.heap[b3]? =some (.cells #[.slice (some ⟨V,0,none⟩) 5 5,.slice A6 m6 c6,.slice none 0 0,.slice none 0 0,.slice none 0 0] 145 (0,0)) by rw [Jn];exact heap_setCell_same _ _ _ _ _ _ ZW);have hss26:=Yu.size;have RV6:=aA ((aO Yu (by omega) (by omega)).trans ((aO Zq (by omega) (by omega)).trans RV5.out));have R6:=aA ((aO Yu (by omega) (by omega)).trans ((aO Zq (by omega) (by omega)).trans R5.out));have hC6:=hCq6.grown Yu (λm hm=>by cases hm;constructor<;>omega);have Ue:=cK (aE hgw5 Zq) Yu (λm hm=>by cases hm;have:=Z7.out;exact .inl (by omega));have G6:=hG.grown Ue th;have hL6:gD (b3<·) W6 (.slice A6 m6 c6) Ze:=dU.keep _ _ _ _ _ (λb hb h=>aO Yu hb (by omega)) (dU.mono _ _ _ _ _ (λb _ h=>by omega) (uO (by omega) Dz));clear Dz hCq6;go_upto_region 3 with fail;rw [<-Jn];clear Jn q6 f6 Yu Zq ZW;refine Tyal ?_;have RB6' :=RS6;have ZW:=RS6;have V5:=jV 3 (by omega) 4 B g W6 (by omega) (by omega) hC6 G6;rw [show ((4:Nat):Int)=4 from rfl] at V5;try rw [show ((3:Nat):Int)=3 from rfl] at V5
 have HST7:=aA V5;clear V5;go_wp2_with fail;refine HST7.out.mono ?_;rintro e w7 ⟨A7,c7,m7,ts7,rfl,hm7,hdr7,Yk,hCq7,Xl⟩;have hsq7:=Xl.size;have hss7:b3<W6.heap.size:=by have:=xx.out;omega
 have ZV:=(aO Xl hss7 (by omega)).trans ZW.out;have q7:w7.cell? ⟨b3,2,none⟩=some (.slice none 0 0):=aM ZV 2 _ rfl
 have f7:w7.frozen? ⟨b3,2,none⟩=false:=frozen_of_row _ _ _ _ _ ZV
 obtain ⟨W7,oy⟩:=eX (w7.setCell ⟨b3,2,none⟩ (.slice A7 m7 c7));have Wk:w7.grownBy W7 (some b3):=by rw [oy];exact aL (bC _ _)
 have RS7:=aA (show W7.heap[b3]? =some (.cells #[.slice (some ⟨V,0,none⟩) 5 5,.slice A6 m6 c6,.slice A7 m7 c7,.slice none 0 0,.slice none 0 0] 145 (0,0)) by rw [oy];exact heap_setCell_same _ _ _ _ _ _ ZV);have hss27:=Wk.size;have RV7:=aA ((aO Wk (by omega) (by omega)).trans ((aO Xl (by omega) (by omega)).trans RV6.out));have R7:=aA ((aO Wk (by omega) (by omega)).trans ((aO Xl (by omega) (by omega)).trans R6.out));have ZF:=hCq7.grown Wk (λm hm=>by cases hm;constructor<;>omega);have hgw7:=cK (aE Ue Xl) Wk (λm hm=>by cases hm;have:=Z7.out;exact .inl (by omega));have G7:=hG.grown hgw7 th;have hL7:gD (b3<·) W7 (.slice A7 m7 c7) ts7:=dU.keep _ _ _ _ _ (λb hb h=>aO Wk hb (by omega)) (dU.mono _ _ _ _ _ (λb _ h=>by omega) (uO (by omega) Yk));clear Yk hCq7;have hL6_7:gD (b3<·) W7 (.slice A6 m6 c6) Ze:=dU.keep _ _ _ _ _ (λb hb h=>aO Wk (by omega) (by omega)) (dU.keep _ _ _ _ _ (λb hb h=>aO Xl hb (by omega)) hL6);go_upto_region 4 with fail;rw [<-oy];clear oy q7 f7 Wk Xl ZV;refine Tyal ?_;have RB7' :=RS7;have ZV:=RS7;have V4:=jV 2 (by omega) 3 B g W7 (by omega) (by omega) ZF G7;rw [show ((3:Nat):Int)=3 from rfl] at V4;try rw [show ((2:Nat):Int)=2 from rfl] at V4
 have HST8:=aA V4;clear V4;go_wp2_with fail;refine HST8.out.mono ?_;rintro e w8 ⟨A8,c8,m8,ts8,rfl,hm8,hdr8,hO8,hCq8,VF⟩;have hsq8:=VF.size;have hss8:b3<W7.heap.size:=by have:=xx.out;omega
 have ZU:=(aO VF hss8 (by omega)).trans ZV.out;have q8:w8.cell? ⟨b3,3,none⟩=some (.slice none 0 0):=aM ZU 3 _ rfl
 have f8:w8.frozen? ⟨b3,3,none⟩=false:=frozen_of_row _ _ _ _ _ ZU
 obtain ⟨W8,sw⟩:=eX (w8.setCell ⟨b3,3,none⟩ (.slice A8 m8 c8));have UD:w8.grownBy W8 (some b3):=by rw [sw];exact aL (bC _ _)
 have RS8:=aA (show W8.heap[b3]? =some (.cells #[.slice (some ⟨V,0,none⟩) 5 5,.slice A6 m6 c6,.slice A7 m7 c7,.slice A8 m8 c8,.slice none 0 0] 145 (0,0)) by rw [sw];exact heap_setCell_same _ _ _ _ _ _ ZU);have hss28:=UD.size;have RV8:=aA ((aO UD (by omega) (by omega)).trans ((aO VF (by omega) (by omega)).trans RV7.out));have R8:=aA ((aO UD (by omega) (by omega)).trans ((aO VF (by omega) (by omega)).trans R7.out));have ZE:=hCq8.grown UD (λm hm=>by cases hm;constructor<;>omega);have Ud:=cK (aE hgw7 VF) UD (λm hm=>by cases hm;have:=Z7.out;exact .inl (by omega));have G8:=hG.grown Ud th;have hL8:gD (b3<·) W8 (.slice A8 m8 c8) ts8:=dU.keep _ _ _ _ _ (λb hb h=>aO UD hb (by omega)) (dU.mono _ _ _ _ _ (λb _ h=>by omega) (uO (by omega) hO8));clear hO8 hCq8;have hL6_8:gD (b3<·) W8 (.slice A6 m6 c6) Ze:=dU.keep _ _ _ _ _ (λb hb h=>aO UD (by omega) (by omega)) (dU.keep _ _ _ _ _ (λb hb h=>aO VF hb (by omega)) hL6_7);have hL7_8:gD (b3<·) W8 (.slice A7 m7 c7) ts7:=dU.keep _ _ _ _ _ (λb hb h=>aO UD (by omega) (by omega)) (dU.keep _ _ _ _ _ (λb hb h=>aO VF hb (by omega)) hL7);go_upto_region 5 with fail;rw [<-sw];clear sw q8 f8 UD VF ZU;refine Tyal ?_;have RB8' :=RS8;have ZU:=RS8;have V3:=jV 2 (by omega) 2 B g W8 (by omega) (by omega) ZE G8;rw [show ((2:Nat):Int)=2 from rfl] at V3;try rw [show ((2:Nat):Int)=2 from rfl] at V3
 have HST9:=aA V3;clear V3;go_wp2_with fail;refine HST9.out.mono ?_;rintro e w9 ⟨A9,c9,m9,ts9,rfl,hm9,hdr9,Ck,hCq9,U2⟩;have hsq9:=U2.size;have hss9:b3<W8.heap.size:=by have:=xx.out;omega
 have Wv:=(aO U2 hss9 (by omega)).trans ZU.out;have q9:w9.cell? ⟨b3,4,none⟩=some (.slice none 0 0):=aM Wv 4 _ rfl
 have f9:w9.frozen? ⟨b3,4,none⟩=false:=frozen_of_row _ _ _ _ _ Wv
 obtain ⟨W9,ow⟩:=eX (w9.setCell ⟨b3,4,none⟩ (.slice A9 m9 c9));have Sw:w9.grownBy W9 (some b3):=by rw [ow];exact aL (bC _ _)
 have RS9:=aA (show W9.heap[b3]? =some (.cells #[.slice (some ⟨V,0,none⟩) 5 5,.slice A6 m6 c6,.slice A7 m7 c7,.slice A8 m8 c8,.slice A9 m9 c9] 145 (0,0)) by rw [ow];exact heap_setCell_same _ _ _ _ _ _ Wv);have hss29:=Sw.size;have RV9:=aA ((aO Sw (by omega) (by omega)).trans ((aO U2 (by omega) (by omega)).trans RV8.out));have R9:=aA ((aO Sw (by omega) (by omega)).trans ((aO U2 (by omega) (by omega)).trans R8.out));have Jr:=hCq9.grown Sw (λm hm=>by cases hm;constructor<;>omega);have Uc:=cK (aE Ud U2) Sw (λm hm=>by cases hm;have:=Z7.out;exact .inl (by omega));have G9:=hG.grown Uc th;have hL9:gD (b3<·) W9 (.slice A9 m9 c9) ts9:=dU.keep _ _ _ _ _ (λb hb h=>aO Sw hb (by omega)) (dU.mono _ _ _ _ _ (λb _ h=>by omega) (uO (by omega) Ck));clear Ck hCq9;have Wh:gD (b3<·) W9 (.slice A6 m6 c6) Ze:=dU.keep _ _ _ _ _ (λb hb h=>aO Sw (by omega) (by omega)) (dU.keep _ _ _ _ _ (λb hb h=>aO U2 hb (by omega)) hL6_8);have Wg:gD (b3<·) W9 (.slice A7 m7 c7) ts7:=dU.keep _ _ _ _ _ (λb hb h=>aO Sw (by omega) (by omega)) (dU.keep _ _ _ _ _ (λb hb h=>aO U2 hb (by omega)) hL7_8);have Wf:gD (b3<·) W9 (.slice A8 m8 c8) ts8:=dU.keep _ _ _ _ _ (λb hb h=>aO Sw (by omega) (by omega)) (dU.keep _ _ _ _ _ (λb hb h=>aO U2 hb (by omega)) hL8);go_upto_region 6 with fail;rw [<-ow];clear ow q9 f9 Sw U2 Wv;refine Tyal ?_;have RB9' :=RS9;have Wv:=RS9;go_wp2_with (first|(refine wpList_load_row rfl 145 _ rfl _ rfl 145 _ (0,0) _ Wv.out underlying145 rfl (by kernel_rfl) ?_)|(refine sR R9 ?_))
 refine rC R9 ?_;have gz:=aC W9 b2 #[.slice (some ⟨V,0,none⟩) 5 5,.slice A6 m6 c6,.slice A7 m7 c7,.slice A8 m8 c8,.slice A9 m9 c9];have hCz:=Jr.grown gz (λm hm=>by cases hm;constructor<;>omega);have hgz:=cK Uc gz (λm hm=>by cases hm;have:=Z7.out;exact .inl (by omega));have up:∀(v:Value) (ts:List Sm),gD (b3<·) W9 v ts->gD (w.heap.size<=·) (W9.setRow b2 #[.slice (some ⟨V,0,none⟩) 5 5,.slice A6 m6 c6,.slice A7 m7 c7,.slice A8 m8 c8,.slice A9 m9 c9]) v ts:=λv ts h=>dU.mono _ _ _ _ _ (λb _ h=>by have:=Z7.out;omega) (dU.keep _ _ _ _ _ (λb hb h=>aO gz hb (by omega)) h)
 refine ⟨_,⟨(z1:Int)-2,1+(z2:Int),z3,Ze,ts7,ts8,ts9⟩,rfl,⟨by show -2<=(z1:Int)-2;omega,by show (z1:Int)-2<=4;omega,by show 1<=1+(z2:Int);omega,by show 1+(z2:Int)<=5;omega,by show 0<=(z3:Int);omega,by show (z3:Int)<=2;omega,λs hs=>vL (by omega) (hdr6 s hs),λs hs=>vL (by omega) (hdr7 s hs),λs hs=>vL (by omega) (hdr8 s hs),λs hs=>vL (by omega) (hdr9 s hs),by have:=Wh.len.1;show Ze.length<=10;omega,by have:=Wg.len.1;show ts7.length<=10;omega,by have:=Wf.len.1;show ts8.length<=10;omega,by have:=hL9.len.1;show ts9.length<=10;omega⟩,?_,hCz,hgz⟩;exact ⟨V,A6,m6,c6,A7,m7,c7,A8,m8,c8,A9,m9,c9,rfl,by have:=Z7.out;show w.heap.size<=V;omega,(aO gz (by have:=xx.out;omega) (by omega)).trans RV9.out,up _ _ Wh,up _ _ Wg,up _ _ Wf,up _ _ hL9⟩
theorem nR:(Tryz.prog.info? 78).map (λi=>(i.zero,i.size,i.bytes))=some (some (.agg #[.int .i64 0,.int .i64 0,.int .i64 0,.int .i64 0,.int .i64 0,.int .i64 0,.int .i64 0]),7,56):=by kernel_rfl
theorem qZ (B g ay:Nat) (w:World) (h:kj B w g) (hm:ay<=1000):
 Calls Tryz.prog 40 #[.pointer (some ⟨g,0,none⟩),.int .i64 (ay:Int)] w λe w' =>∃A c l,e= .returned (.slice A l.length c)/\l.length<=ay/\(∀d∈l,∀z∈d.l,av z)/\a8 cH 7 w' w.heap.size 78 (.slice A l.length c) l/\kj B w' g/\w.grownBy w' (some g):=by
 have ur:=h.lt;go_enter func40,ntmps40;go_wp2_with fail;refine (aV B g (ay+1) _ h (by omega) (by omega)).mono ?_;rintro e w1 ⟨n,rfl,hn,td,fj⟩;clear h;go_wp2;go_loopw [5,6] (λv i wr=>∃(j:Nat) (A:Option Addr) (c:Nat) (l:List Ev),i= .int .i64 j/\v= .slice A l.length c/\l.length+j=n/\(∀d∈l,∀z∈d.l,av z)/\a8 cH 7 wr w.heap.size 78 (.slice A l.length c) l/\kj B wr g/\w.grownBy wr (some g)) (λ_ i _=>(intOf i).toNat);case atStart=>exact ⟨n,none,0,[],rfl,rfl,by simp,λd hd=>by simp at hd,a8.nil_ _ _ _,td,fj⟩
 case round=>
  obtain ⟨j,A,c,l,rfl,rfl,hlj,eg,aj,hC,ja⟩:=hrel;have hlj' :l.length+j<=n:=by omega
  have Hlj:=aA hlj;have L6:=aA eg;clear hlj eg;by_cases af:0<j
  ·go_wp2_with fail;refine (BB B g _ hC).mono ?_;rintro e w4 ⟨a,rfl,ha,yo,nw⟩;have XF:=nw;have ef:=ja.size;have hsz4:=XF.size
   have dh:=aj.kept XF (by
    rcases Option.eq_none_or_eq_some (Value.slice A l.length c).ownBlock with h0|⟨m,h0⟩
    ·exact .inl h0
    ·refine .inr (λe=> ?_);rw [h0] at e;cases e;have:=(World.ownsRow.lt aj _ h0).1;omega)
   unfold N9;have ax:a7 cH (λ_=>True) (w4.alloc (.cells #[Value.int .i64 a.k0,Value.int .i64 a.k1,Value.int .i64 a.k2,Value.int .i64 a.k3,Value.int .i64 a.k4,Value.int .i64 a.k5,Value.int .i64 a.k6] 78)) (.slice (some ⟨w4.heap.size,0,none⟩) 1 1) [a]:=⟨_,1,rfl,by simp,by simp [maxLen],Cs.lit _ _ _ _ _ trivial rfl⟩
   go_wp2_with (refine aJ (o:=⟨some 19,_,_,_,_,_⟩) cN iA (.agg #[.int .i64 0,.int .i64 0,.int .i64 0,.int .i64 0,.int .i64 0,.int .i64 0,.int .i64 0]) 56 _ _ 30 78 w.heap.size l [a] (some ⟨w4.heap.size,0,none⟩) 1 1 (.slice A l.length c) (l.length+1) rfl rfl underlying30 nR rfl (by omega) rfl rfl (dh.ext ((Below.refl _ _).alloc (Nat.le_refl _) _)) ax rfl (by omega) (by omega) (by simp;omega) ?_;intro A5 c5 w5 bf bk jm qx qw)
   obtain ⟨Iu,o8⟩:=ND _ ur ja XF yo bk (λm hm=>(World.ownsRow.lt dh m hm).1);have e:(l++ [a]).length=l.length+1:=by simp
   go_roundw
   case rel=>exact ⟨j-1,A5,c5,l++ [a],by congr 1;omega,by rw [e],by have:=Hlj.out;omega,λd hd=>by
    rcases List.mem_append.1 hd with hd|hd
    ·exact L6.out d hd
    ·simp at hd;subst hd;exact ha,by rw [e];exact bf,Iu,o8⟩
   case measure=>simp [intOf];omega
  ·obtain rfl:j=0:=by omega
   go_wp2;go_ret;exact ⟨_,_,l,rfl,by omega,L6.out,aj,hC,ja⟩
theorem SF (A:Option Addr) (n c:Nat) (l:List Int) (S:Nat->Prop) (w:World) (r:a7 bB S w (.slice A n c) l) (hb:n*8<=140737488355328):
 Calls Tryz.prog 166 #[.slice A n c] w λe w' =>∃A' c',e= .returned (.slice A' n c')/\a8 bB 1 w' w.heap.size 3 (.slice A' n c') l/\Below w.heap.size w w' :=by
 have hn:n<=140737488355328:=by omega
 obtain ⟨dv,dd,Ak⟩:=r.len;have yx:=aA dv;clear dv;have qn:∀(w:World) (a:Option Addr) (n c n' c' :Nat),(binOp .eql 23 (.slice a n c) (.slice none n' c')).run Tryz.prog w= .ok (.bool a.isNone) w:=λw a n c n' c' =>Lib.run_eql_slice_nil w _ _ a n c n' c' underlying23
 cases A with
 |none=>
  have VM:l=[]:=by
   obtain ⟨A',c',e,_,_,h3⟩:=r;cases e;cases l with
   |nil=>rfl
   |cons x l=>
    obtain ⟨_,_,q,_⟩:=h3 (by rw [List.flatMap_cons,List.length_append,cD];omega);cases q
  subst VM;obtain rfl:n=0:=by have:=yx.out;simpa using this.symm
  go_enter func166,ntmps166;exact Tzct
 |some ad=>
  have ha:Below w.heap.size w (w.alloc (.cells #[] 3)):=(Below.refl _ _).alloc (Nat.le_refl _) _;have Zr:=a8.empty_ (enc:=bB) (k:=1) w w.heap.size 3 (Nat.le_refl _);go_enter func166,ntmps166;go_wp2_with (refine aJ (o:=⟨some 7,_,_,_,_,_⟩) cD gK (.int .i64 0) 8 _ _ 23 3 w.heap.size [] l (some ad) n c (.slice (some ⟨w.heap.size,0,none⟩) 0 0) n rfl rfl underlying23 AK rfl (by omega) rfl rfl Zr (r.ext ha) (by simp) (by simp;omega) (by simp;omega) (by simp) ?_;intro A9 c9 w9 ao ai ck gq gp)
  exact Tzdf
theorem fR {α:Type} {l m:List α} {k:Nat} {x y:α} (h:l.take k=m.take k) (hx:l[k]? =some x) (hy:m[k]? =some y) (e:x=y):l.take (k+1)=m.take (k+1):=by
 rw [List.take_add_one,List.take_add_one,h,hx,hy,e]
theorem cF {α:Type} {l m:List α} {k:Nat} {x y:α} (hx:l[k]? =some x) (hy:m[k]? =some y) (e:x≠y):l≠m:=λh=>e (by rw [h,hy] at hx;exact (Option.some.inj hx).symm)
theorem PN (A1 A2:Option Addr) (n1 c1 n2 c2:Nat) (l m:List Int) (S1 S2:Nat->Prop) (w:World) (h1:a7 bB S1 w (.slice A1 n1 c1) l) (h2:a7 bB S2 w (.slice A2 n2 c2) m):
 Calls Tryz.prog 93 #[.slice A1 n1 c1,.slice A2 n2 c2] w λe w' =>e= .returned (.bool (decide (l=m)))/\Below w.heap.size w w' :=by
 have dv:=h1.len;have dd:=h2.len;have zp:=aA dv;have oc:=aA dd;by_cases hn:n1=n2;case neg=>
  have dn:((n1:Int) != (n2:Int))=true:=by simp;omega
  have an:=aA (show decide (l=m)=false by simp;intro e;rw [e] at dv;omega);clear hn dv dd;go_enter func93,ntmps93;go_wp2;go_ret;rw [an.out];exact ⟨rfl,Below.refl _ _⟩
 subst hn;have hb:=dv.2;clear dv dd;go_enter func93,ntmps93;go_wp2;go_loopw [13] (λa wr=>∃k:Nat,a= .int .i64 k/\k<=n1/\RowKit.Hid (l.take k=m.take k)/\Below w.heap.size w wr) (λa _=>n1-(intOf a).toNat);case atStart=>exact ⟨0,rfl,by omega,aA rfl,Below.refl _ _⟩
 case round=>
  exact Tzay
theorem PO (A1 A2:Option Addr) (n1 c1 n2 c2:Nat) (l m:List Ev) (S1 S2:Nat->Prop) (w:World) (h1:a7 cH S1 w (.slice A1 n1 c1) l) (h2:a7 cH S2 w (.slice A2 n2 c2) m):
 Calls Tryz.prog 94 #[.slice A1 n1 c1,.slice A2 n2 c2] w λe w' =>e= .returned (.bool (decide (l=m)))/\Below w.heap.size w w' :=by
 have dv:=h1.len;have dd:=h2.len;have zp:=aA dv;have oc:=aA dd;by_cases hn:n1=n2;case neg=>
  have dn:((n1:Int) != (n2:Int))=true:=by simp;omega
  have an:=aA (show decide (l=m)=false by simp;intro e;rw [e] at dv;omega);clear hn dv dd;go_enter func94,ntmps94;go_wp2;go_ret;rw [an.out];exact ⟨rfl,Below.refl _ _⟩
 subst hn;have hb:=dv.2;clear dv dd;go_enter func94,ntmps94;go_wp2;go_loopw [13] (λa wr=>∃k:Nat,a= .int .i64 k/\k<=n1/\RowKit.Hid (l.take k=m.take k)/\Below w.heap.size w wr) (λa _=>n1-(intOf a).toNat);case atStart=>exact ⟨0,rfl,by omega,aA rfl,Below.refl _ _⟩
 case round=>
  exact Tzag
theorem PL (A1 A2:Option Addr) (n1 c1 n2 c2:Nat) (l m:List n7) (S1 S2:Nat->Prop) (w:World) (h1:a7 cW S1 w (.slice A1 n1 c1) l) (h2:a7 cW S2 w (.slice A2 n2 c2) m):
 Calls Tryz.prog 95 #[.slice A1 n1 c1,.slice A2 n2 c2] w λe w' =>e= .returned (.bool (decide (l=m)))/\Below w.heap.size w w' :=by
 have dv:=h1.len;have dd:=h2.len;have zp:=aA dv;have oc:=aA dd;by_cases hn:n1=n2;case neg=>
  have dn:((n1:Int) != (n2:Int))=true:=by simp;omega
  have an:=aA (show decide (l=m)=false by simp;intro e;rw [e] at dv;omega);clear hn dv dd;go_enter func95,ntmps95;go_wp2;go_ret;rw [an.out];exact ⟨rfl,Below.refl _ _⟩
 subst hn;have hb:=dv.2;clear dv dd;go_enter func95,ntmps95;go_wp2;go_loopw [13] (λa wr=>∃k:Nat,a= .int .i64 k/\k<=n1/\RowKit.Hid (l.take k=m.take k)/\Below w.heap.size w wr) (λa _=>n1-(intOf a).toNat);case atStart=>exact ⟨0,rfl,by omega,aA rfl,Below.refl _ _⟩
 case round=>
  exact Tzaj
theorem PM (A1 A2:Option Addr) (n1 c1 n2 c2:Nat) (l m:List Ou) (S1 S2:Nat->Prop) (w:World) (h1:a7 cX S1 w (.slice A1 n1 c1) l) (h2:a7 cX S2 w (.slice A2 n2 c2) m):
 Calls Tryz.prog 96 #[.slice A1 n1 c1,.slice A2 n2 c2] w λe w' =>e= .returned (.bool (decide (l=m)))/\Below w.heap.size w w' :=by
 have dv:=h1.len;have dd:=h2.len;have zp:=aA dv;have oc:=aA dd;by_cases hn:n1=n2;case neg=>
  have dn:((n1:Int) != (n2:Int))=true:=by simp;omega
  have an:=aA (show decide (l=m)=false by simp;intro e;rw [e] at dv;omega);clear hn dv dd;go_enter func96,ntmps96;go_wp2;go_ret;rw [an.out];exact ⟨rfl,Below.refl _ _⟩
 subst hn;have hb:=dv.2;clear dv dd;go_enter func96,ntmps96;go_wp2;go_loopw [13] (λa wr=>∃k:Nat,a= .int .i64 k/\k<=n1/\RowKit.Hid (l.take k=m.take k)/\Below w.heap.size w wr) (λa _=>n1-(intOf a).toNat);case atStart=>exact ⟨0,rfl,by omega,aA rfl,Below.refl _ _⟩
 case round=>
  exact Tzao
end Go.Proofs.YtiblijmngokcgaaGreatDoor
namespace Go.Proofs.YtiblijmngokcgaaGreatDoor
open Go.Proofs.Tryz
section
variable {P : Program} {K0 : Act -> World -> Prop}
end
end Go.Proofs.YtiblijmngokcgaaGreatDoor
namespace Go.Proofs.YtiblijmngokcgaaGreatDoor
open Go.Proofs.Tryz
def eG (o:Oper):Nat:=
 match o.op with
 | .build .. =>0
 |_=>bA o
section
variable {P : Program} {ops : Array Oper} {K0 : Act -> World -> Prop} {S : World -> Prop}
theorem xL {o:Oper} (h:eG o=1):Qu P o:=by
 unfold eG at h;split at h
 ·cases h
 ·exact mX h
theorem eE {o:Oper} {a:Act} {w:World} {rest:List Oper} (hk:dC o=0) (N2 :eG o=0) (h:wpQuiet P ops (λ_=>True) (λa' =>bG P ops S eG K0 rest a' w) [o] a):bG P ops S eG K0 (o::rest) a w:=by
 exact Tzc5
theorem pO {o:Oper} {a:Act} {w:World} {rest:List Oper} (v:Value) (hk:eG o=0) (hw:Region.wanted o (yielded ops a.tmps)=true) (hv:∀w',S w'->(execOp a.eval o).run P w' = .ok (.value v) w') (h:bG P ops S eG K0 rest (a.put o.dst v) w):bG P ops S eG K0 (o::rest) a w:=
 eH hk (v:=v) (.inl ⟨hw,hv⟩) h
theorem lP {o:Oper} {a:Act} {w:World} {rest:List Oper} (hk:(eG o==0)=false) (h:wpList P ops (cj (λa' w' =>S w'/\bG P ops S eG K0 rest a' w')) [o] a w):bG P ops S eG K0 (o::rest) a w:=by
 show (if eG o=0 then _ else _);rw [if_neg (by simpa using hk)];exact h
theorem kC {a:Act} {w:World} {rest:List Oper} (hS:S w) (h:bG P ops S eG K0 rest a w):cj (λa' w' =>S w'/\bG P ops S eG K0 rest a' w') .normal a w:=⟨hS,h⟩
theorem AJ {a:Act} {w:World} (h:K0 a w):bG P ops S eG K0 [] a w:=h
theorem vV (S:World->Prop) {id:Nat} {l:List Oper} {Q:Exit->Act->World->Prop} {a:Act} {w:World}
 (hm:P.follows .mixedOrders=true) (hB:mB eG l=true) (hS:S w.drew) (h:bG P l.toArray S eG (Q .normal) l a w.drew):(Code.region id l.toArray true).wp P Q a w:=by
 refine Code.wp_mono cj.to (wp_region_any hm ?_)
 have:=tW (K0:=Q .normal) eG S (λo=>xL) l hB l.length (List.range l.length) (Array.replicate l.length false) a w.drew hS (by simp) (λj=>by
  by_cases hj:j<l.length
  ·simp [hj]
  ·simp [hj]) List.pairwise_lt_range (by simp) (λk o hk hL=>by
  have af:=(List.getElem?_eq_some_iff.1 hk).1;simp [af] at hL) (by rw [kI];exact h)
 simpa using this
end
end Go.Proofs.YtiblijmngokcgaaGreatDoor
namespace Go.Proofs.YtiblijmngokcgaaGreatDoor
open Go.Proofs.Tryz
open Go.RowKit
theorem CR (A1 A2:Option Addr) (n1 c1 n2 c2:Nat) (l m:List Int) (S1 S2:Nat->Prop) (w:World) (h1:a7 bB S1 w (.slice A1 n1 c1) l) (h2:a7 bB S2 w (.slice A2 n2 c2) m):
 Calls Tryz.prog 65 #[.slice A1 n1 c1,.slice A2 n2 c2] w λe w' =>e= .returned (.bool (decide (l=m)))/\Below w.heap.size w w' :=by
 have dv:=h1.len;have dd:=h2.len;have zp:=aA dv;have oc:=aA dd;by_cases hn:n1=n2;case neg=>
  have dn:((n1:Int) != (n2:Int))=true:=by simp;omega
  have an:=aA (show decide (l=m)=false by simp;intro e;rw [e] at dv;omega);clear hn dv dd;go_enter func65,ntmps65;go_wp2;go_ret;rw [an.out];exact ⟨rfl,Below.refl _ _⟩
 subst hn;have hb:=dv.2;clear dv dd;go_enter func65,ntmps65;go_wp2;go_loopw [5] (λa wr=>∃k:Nat,a= .int .i64 k/\k<=n1/\RowKit.Hid (l.take k=m.take k)/\Below w.heap.size w wr) (λa _=>n1-(intOf a).toNat);case atStart=>exact ⟨0,rfl,by omega,aA rfl,Below.refl _ _⟩
 case round=>
  exact Tzay
theorem NZ (A1 A2:Option Addr) (n1 c1 n2 c2:Nat) (l m:List Ev) (S1 S2:Nat->Prop) (w:World) (h1:a7 cH S1 w (.slice A1 n1 c1) l) (h2:a7 cH S2 w (.slice A2 n2 c2) m):
 Calls Tryz.prog 77 #[.slice A1 n1 c1,.slice A2 n2 c2] w λe w' =>e= .returned (.bool (decide (l=m)))/\Below w.heap.size w w' :=by
 have dv:=h1.len;have dd:=h2.len;have zp:=aA dv;have oc:=aA dd;by_cases hn:n1=n2;case neg=>
  have dn:((n1:Int) != (n2:Int))=true:=by simp;omega
  have an:=aA (show decide (l=m)=false by simp;intro e;rw [e] at dv;omega);clear hn dv dd;go_enter func77,ntmps77;go_wp2;go_ret;rw [an.out];exact ⟨rfl,Below.refl _ _⟩
 subst hn;have hb:=dv.2;clear dv dd;go_enter func77,ntmps77;go_wp2;go_loopw [5] (λa wr=>∃k:Nat,a= .int .i64 k/\k<=n1/\RowKit.Hid (l.take k=m.take k)/\Below w.heap.size w wr) (λa _=>n1-(intOf a).toNat);case atStart=>exact ⟨0,rfl,by omega,aA rfl,Below.refl _ _⟩
 case round=>
  exact Tzag
theorem NX (A1 A2:Option Addr) (n1 c1 n2 c2:Nat) (l m:List n7) (S1 S2:Nat->Prop) (w:World) (h1:a7 cW S1 w (.slice A1 n1 c1) l) (h2:a7 cW S2 w (.slice A2 n2 c2) m):
 Calls Tryz.prog 78 #[.slice A1 n1 c1,.slice A2 n2 c2] w λe w' =>e= .returned (.bool (decide (l=m)))/\Below w.heap.size w w' :=by
 have dv:=h1.len;have dd:=h2.len;have zp:=aA dv;have oc:=aA dd;by_cases hn:n1=n2;case neg=>
  have dn:((n1:Int) != (n2:Int))=true:=by simp;omega
  have an:=aA (show decide (l=m)=false by simp;intro e;rw [e] at dv;omega);clear hn dv dd;go_enter func78,ntmps78;go_wp2;go_ret;rw [an.out];exact ⟨rfl,Below.refl _ _⟩
 subst hn;have hb:=dv.2;clear dv dd;go_enter func78,ntmps78;go_wp2;go_loopw [5] (λa wr=>∃k:Nat,a= .int .i64 k/\k<=n1/\RowKit.Hid (l.take k=m.take k)/\Below w.heap.size w wr) (λa _=>n1-(intOf a).toNat);case atStart=>exact ⟨0,rfl,by omega,aA rfl,Below.refl _ _⟩
 case round=>
  exact Tzaj
theorem NY (A1 A2:Option Addr) (n1 c1 n2 c2:Nat) (l m:List Ou) (S1 S2:Nat->Prop) (w:World) (h1:a7 cX S1 w (.slice A1 n1 c1) l) (h2:a7 cX S2 w (.slice A2 n2 c2) m):
 Calls Tryz.prog 79 #[.slice A1 n1 c1,.slice A2 n2 c2] w λe w' =>e= .returned (.bool (decide (l=m)))/\Below w.heap.size w w' :=by
 have dv:=h1.len;have dd:=h2.len;have zp:=aA dv;have oc:=aA dd;by_cases hn:n1=n2;case neg=>
  have dn:((n1:Int) != (n2:Int))=true:=by simp;omega
  have an:=aA (show decide (l=m)=false by simp;intro e;rw [e] at dv;omega);clear hn dv dd;go_enter func79,ntmps79;go_wp2;go_ret;rw [an.out];exact ⟨rfl,Below.refl _ _⟩
 subst hn;have hb:=dv.2;clear dv dd;go_enter func79,ntmps79;go_wp2;go_loopw [5] (λa wr=>∃k:Nat,a= .int .i64 k/\k<=n1/\RowKit.Hid (l.take k=m.take k)/\Below w.heap.size w wr) (λa _=>n1-(intOf a).toNat);case atStart=>exact ⟨0,rfl,by omega,aA rfl,Below.refl _ _⟩
 case round=>
  exact Tzao
end Go.Proofs.YtiblijmngokcgaaGreatDoor
