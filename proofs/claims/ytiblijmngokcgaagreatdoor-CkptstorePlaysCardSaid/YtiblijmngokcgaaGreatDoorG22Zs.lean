import Derived.Test.YtiblijmngokcgaaGreatDoorRunLZs
import Derived.Test.YtiblijmngokcgaaGreatDoorFloatZs
import Derived.Test.YtiblijmngokcgaaGreatDoorCodecEZs
import Derived.Test.YtiblijmngokcgaaGreatDoorCs1Zs
set_option linter.unusedVariables false
set_option linter.unusedSimpArgs false
set_option maxHeartbeats 8000000
set_option maxRecDepth 100000
namespace Go.Proofs.YtiblijmngokcgaaGreatDoor
open Go.Proofs.Tryz
open Go.RowKit
theorem RQ:(Tryz.prog.info? 262).map (λi=>(i.zero,i.size,i.bytes))=some (some (.agg #[.slice none 0 0,.slice none 0 0,.int .i64 0,.int .i64 0,.int .i64 0,.int .i64 0,.int .i64 0]),7,88):=by kernel_rfl
theorem KF (ρ:Operand->Value) (o:Oper) (w:World) (ho:o.op= .alloc 262):(execOp ρ o).run Tryz.prog w= .ok (.value (.pointer (some ⟨w.heap.size,0,none⟩))) (w.alloc (.cells #[.slice none 0 0,.slice none 0 0,.int .i64 0,.int .i64 0,.int .i64 0,.int .i64 0,.int .i64 0] 262)):=by
 obtain ⟨i,hi,hz,_⟩:=info_parts RQ;exact rH hi hz ρ o w ho
theorem kZ:(Tryz.prog.info? 3).map (λi=>(i.zero,i.size,i.bytes))=some (some (.int .i64 0),1,8):=by kernel_rfl
theorem OC (n:Nat) (w:World) (A:Option Addr) (m c:Nat) (ts:List Sm) (Ac:Option Addr) (nc cc:Nat) (cells:List Int) (Sc:Nat->Prop) (v:Env) (hL:cw bJ (ak n (·<w.heap.size) w) (·<w.heap.size) w (.slice A m c) ts) (Dt:∀s∈ts,Aw n s) (hc:a7 bB Sc w (.slice Ac nc cc) cells) (VJ:nc<=1000) (ou:∀z∈cells,av z) (hv:qo v):
 Calls Tryz.prog 191 #[.slice A m c,.slice Ac nc cc,.agg #[.int .i64 v.self,.int .i64 v.procs,.int .i64 v.frm,.int .i64 v.value]] w λe w' =>∃A1 n1 c1 A2 n2 c2 r' ok,e= .returned (.tuple #[.slice A1 n1 c1,.slice A2 n2 c2,.int .i64 (r'.used:Int)])/\fy v ts ⟨cells,[],0⟩ r' ok/\a7 bB (w.heap.size<=·) w' (.slice A1 n1 c1) r'.cells/\a7 tD (w.heap.size<=·) w' (.slice A2 n2 c2) r'.l/\n1<=1000/\n2<=8/\(∀z∈r'.cells,av z)/\(∀e∈r'.l,(e.kind=1∨e.kind=2)/\av e.to/\av e.value)/\Below w.heap.size w w' :=by
 obtain ⟨W,hW,bW,kW,SW,R0⟩:=bX w w #[.int .i64 v.self,.int .i64 v.procs,.int .i64 v.frm,.int .i64 v.value] 208 (Below.refl _ _);have hbE:w.heap.size<W.heap.size:=by have:=SW.out;omega
 have gy:=hc.len;have nd:=aA gy.1;have Dy:=gy.2;obtain ⟨base,vg⟩:=eX W.heap.size;have Z0:=aA vg;have HLW:=aA (hL.keep (w' :=W) (qI bW) (λy u h=>ak.keep (qI bW) n y u h));have hcW:=hc.ext bW;clear gy vg hL hc;go_enter func191,ntmps191;go_upto_region 1 with fail;try rw [<-hW]
 clear hW;try (go_wp2_with fail)
 refine oR (λw' =>w'.heap[w.heap.size]? =some (.cells #[.int .i64 v.self,.int .i64 v.procs,.int .i64 v.frm,.int .i64 v.value] 208 (0,0))) 4 9 262 (.cells #[.slice none 0 0,.slice none 0 0,.int .i64 0,.int .i64 0,.int .i64 0,.int .i64 0,.int .i64 0] 262) (by kernel_rfl) (by kernel_rfl) (KF) (λw' h=>kT h _) (R0.out) ?_;refine TkC ?_;refine vD rfl rfl (λm1 v1 Ew=> ?_);have x1:=Ew.bx (Bx.none_ W.heap.size _ _) (Nat.le_refl _);have y1:Below W.heap.size W v1:=Below.ext (Below.refl _ W).drew Ew.below;have s1:=y1.size;go_wp2_with (refine aJ (o:=⟨some 11,_,_,_,_,_⟩) cD gK (.int .i64 0) 8 _ _ 23 3 base ([]:List Int) cells Ac nc cc (.slice none 0 0) nc rfl rfl underlying23 kZ rfl (by omega) rfl rfl (a8.nil_ _ _ _) (hcW.ext y1) (by simp) (by simp;omega) (by simp;omega) (by have:=Z0.out;omega) ?_;intro A1 c1 v2 dw ji Lz Om Ol)
 rw [List.nil_append] at dw;have tj:Below v1.heap.size v1 v2:=(Below.refl v1.heap.size v1).grown ji (Nat.le_refl _) (λk hk=>by cases hk);have x2:=x1.ext tj;have y2:=Below.ext y1 tj;have KR2:=bT y2 R0 hbE
 have dh:∀b,(Value.slice A1 nc c1).ownBlock=some b->v1.heap.size<=b/\b<v2.heap.size:=λb e=>⟨by
  rcases Lz with h|h
  ·rw [h] at e;cases e
  ·rw [h] at e;cases e;exact Nat.le_refl _,(World.ownsRow.lt dw b e).2⟩
 go_wp2_with fail;refine pN (KR2.out) ?_;refine TkC ?_;refine AG (⟨w.heap.size,0,none⟩) (.agg #[.int .i64 v.self,.int .i64 v.procs,.int .i64 v.frm,.int .i64 v.value]) rfl rfl rfl rfl (λw' ah =>lB (t:=208) ah) ?_;refine TkI ?_;refine TkC ?_;refine vD rfl rfl (λm3 v3 Fs=> ?_);go_wp2_with fail;have x3:=Fs.bx x2 y2.size;have y3:=Below.ext y2 Fs.below;have KR3:=bT y3 R0 hbE;have gg:=dw.ext Fs.below;have s3:=Fs.below.size;go_wp2_with fail;refine pN (KR3.out) ?_;refine TkC ?_;refine NL rfl (λX v9 hE9=> ?_);refine TkI ?_;refine TkC ?_;have x9:=hE9.bx x3 y3.size;have y9:=Below.ext y3 hE9.below;have Cp:=(x9 X rfl).2;have hWX:=(x9 X rfl).1;have Ck:=gg.ext hE9.below;have Xs:(Value.slice A1 nc c1).ownBlock≠some X:=λe=>by
  obtain ⟨h1,h2⟩:=dh X e;exact hE9.ne (by omega) (Fs.ne h2 (x1.lt h1)) rfl
 refine NM rfl rfl ?_;refine dW rfl 262 _ _ rfl X 262 _ _ rfl rfl Cp (by kernel_rfl) rfl (by simp [Value.oneCell']) ?_;obtain ⟨V,hV⟩:=eX (v9.setRow X #[.slice A1 nc c1,.slice none 0 0,.int .i64 v.self,.int .i64 v.procs,.int .i64 v.frm,.int .i64 v.value,.int .i64 0]);have gV:v9.grownBy V (some X):=by rw [hV];exact aC _ _ _
 have yV:Below W.heap.size W V:=by rw [hV];exact Below.setRow y9 hWX _
 have KRV:=bT yV R0 hbE;have VB:V.heap[X]? =some (.cells #[.slice A1 nc c1,.slice none 0 0,.int .i64 v.self,.int .i64 v.procs,.int .i64 v.frm,.int .i64 v.value,.int .i64 0] 262 (0,0)):=by rw [hV];exact setRow_heap _ _ _ _ _ _ Cp
 have hsV:=yV.size;have hMV:py V X base v ⟨cells,[],0⟩ A1 nc c1 none 0 0:=⟨VB,Ck.kept gV (.inr Xs),a8.nil_ _ _ _,by have:=Z0.out;omega,Xs,(by intro e;cases e),(λo ho e=>by cases e),VJ,by omega,by show 0<=400;omega,ou,(by intro e he;cases he),by have:=Z0.out;omega⟩
 have Ow:∀b,b<w.heap.size->b<base:=λb h=>by have:=Z0.out;omega
 have hLV:=(HLW.out.keep (w' :=V) (S:=(·<w.heap.size)) (λq hq h=>yV.block q hq) (λy u h=>ak.keep (λq hq h=>yV.block q hq) n y u h)).mono (S' :=(·<base)) (λb _ h=>Ow b h) (λy u h=>ak.mono (λb _ h=>Ow b h) n y u h);have VK:=MD n V X base v ⟨cells,[],0⟩ (λ_=>False) A m c ts ⟨_,_,_,_,_,_,hMV,λq hq=>hq.elim⟩ hv hLV Dt;have Hlist:=aA VK;rw [<-hV];clear hV gV Cp hMV VB VK hLV dw gg Ck x1 x2 x3 x9 Ew Fs hE9 Xs dh Lz y1 y2 y3 y9 KR2 KR3 tj ji;refine pN KRV.out ?_;simp only [Act.put];refine TkC ?_;refine DI ?_;go_upto_region 2 with fail;go_wp2_with fail;refine Hlist.out.mono ?_;rintro e v5 ⟨r',ok,rfl,im,⟨Ac2,nc2,cc2,Al2,nl2,cl2,E5,_⟩,gu,_⟩;have R5:=aA E5.row;go_upto_region 3 with fail;go_wp2_with fail;refine aH ((λw' =>w'.heap[X]? =some (.cells #[.slice Ac2 nc2 cc2,.slice Al2 nl2 cl2,.int .i64 v.self,.int .i64 v.procs,.int .i64 v.frm,.int .i64 v.value,.int .i64 (r'.used:Int)] 262 (0,0)))) (by kernel_rfl) (by kernel_rfl) (R5.out) ?_;refine TkA ?_;refine lL (λw' ah =>aB (eQ _) (bn ah)) ?_;refine Tyac ?_;refine lL (λw' ah =>aB (DR _) (fi ah)) ?_;refine Tyac ?_;refine lL (λw' ah =>aB (aW _) (Zk ah)) ?_;refine Tyac ?_;refine aP ?_;go_wp2_with fail;go_ret3;refine ⟨_,_,_,_,_,_,r',ok,rfl,im,E5.cel.recs.mono (λb _ h=>by have:=Z0.out;omega),E5.eff.recs.mono (λb _ h=>by have:=Z0.out;omega),E5.n1,E5.n2,E5.ci,E5.ei,?_⟩;exact (bW.trans (yV.mono (by omega))).trans (gu.mono (by have:=Z0.out;omega)) |>.drew
theorem sZ:(Tryz.prog.info? 127).map (λi=>(i.zero,i.size,i.bytes))=some (some (.agg #[.int .i64 0,.int .i64 0,.int .i64 0,.int .i64 0]),4,32):=by kernel_rfl
theorem tA:(Tryz.prog.info? 129).map (λi=>(i.zero,i.size,i.bytes))=some (some (.agg #[.int .i64 0,.int .i64 0]),2,16):=by kernel_rfl
theorem jA (w:World):(isAgg 48).run Tryz.prog w= .ok false w:=by simp [isAgg,run_underlying underlying48]
theorem jB (w:World):(isAgg 49).run Tryz.prog w= .ok false w:=by simp [isAgg,run_underlying underlying49]
structure j7 (S:Nat->Prop) (w:World) (s:bj) (A1:Option Addr) (n1 c1:Nat) (A2:Option Addr) (n2 c2:Nat) (A3:Option Addr) (n3 c3:Nat) (A4:Option Addr) (n4 c4:Nat):Prop where
 cells:a7 bB S w (.slice A1 n1 c1) s.cells
 evs:a7 cH S w (.slice A2 n2 c2) s.evs
 sent:a7 cW S w (.slice A3 n3 c3) s.sent
 outs:a7 cX S w (.slice A4 n4 c4) s.outs
structure Hu (s:bj):Prop where
 cells:∀z∈s.cells,av z
 len:s.cells.length<=1000
 evs:s.evs.length<=1000
 sent:s.sent.length<=100000
 outs:s.outs.length<=100000
theorem j7.ext {S:Nat->Prop} {w w' :World} {s:bj} {A1:Option Addr} {n1 c1:Nat} {A2:Option Addr} {n2 c2:Nat} {A3:Option Addr} {n3 c3:Nat} {A4:Option Addr} {n4 c4:Nat} (h:j7 S w s A1 n1 c1 A2 n2 c2 A3 n3 c3 A4 n4 c4) (hb:Below w.heap.size w w'):j7 S w' s A1 n1 c1 A2 n2 c2 A3 n3 c3 A4 n4 c4:=
 ⟨h.1.ext hb,h.2.ext hb,h.3.ext hb,h.4.ext hb⟩
theorem TL (w:World) (a b c d:Value) (v:Env):∃W,W=((w.alloc (.cells #[a,b,c,d] 51)).alloc (.cells #[.int .i64 v.self,.int .i64 v.procs,.int .i64 v.frm,.int .i64 v.value] 208)).alloc (.cells #[.slice none 0 0,.slice none 0 0,.slice none 0 0,.slice none 0 0] 51)/\Below w.heap.size w W/\RowKit.Hid (W.heap.size=w.heap.size+3)/\
 RowKit.Hid (W.heap[w.heap.size]? =some (.cells #[a,b,c,d] 51 (0,0)))/\RowKit.Hid (W.heap[w.heap.size+1]? =some (.cells #[.int .i64 v.self,.int .i64 v.procs,.int .i64 v.frm,.int .i64 v.value] 208 (0,0)))/\RowKit.Hid (W.heap[w.heap.size+2]? =some (.cells #[.slice none 0 0,.slice none 0 0,.slice none 0 0,.slice none 0 0] 51 (0,0))):=by
 have h2:((w.alloc (.cells #[a,b,c,d] 51)).alloc (.cells #[.int .i64 v.self,.int .i64 v.procs,.int .i64 v.frm,.int .i64 v.value] 208)).heap.size=w.heap.size+2:=by simp
 refine ⟨_,rfl,(((Below.refl _ w).alloc (Nat.le_refl _) _).alloc (by simp) _).alloc (by simp;omega) _,aA (by simp),aA ?_,aA ?_,aA ?_⟩
 ·exact (((Below.refl _ _).alloc (Nat.le_refl _) _).block w.heap.size (by simp;omega)).trans ((((Below.refl _ _).alloc (Nat.le_refl _) _).block w.heap.size (by simp)).trans (heap_alloc_new w _))
 ·have:=heap_alloc_new (w.alloc (.cells #[a,b,c,d] 51)) (.cells #[.int .i64 v.self,.int .i64 v.procs,.int .i64 v.frm,.int .i64 v.value] 208);rw [World.size_alloc] at this;exact (((Below.refl _ _).alloc (Nat.le_refl _) _).block (w.heap.size+1) (by simp)).trans this
 ·have:=heap_alloc_new ((w.alloc (.cells #[a,b,c,d] 51)).alloc (.cells #[.int .i64 v.self,.int .i64 v.procs,.int .i64 v.frm,.int .i64 v.value] 208)) (.cells #[.slice none 0 0,.slice none 0 0,.slice none 0 0,.slice none 0 0] 51);rw [h2] at this;exact this
theorem mL (n:Nat) (w:World) (S:Nat->Prop) (s:bj) (A1:Option Addr) (n1 c1:Nat) (A2:Option Addr) (n2 c2:Nat) (A3:Option Addr) (n3 c3:Nat) (A4:Option Addr) (n4 c4:Nat) (hM:j7 S w s A1 n1 c1 A2 n2 c2 A3 n3 c3 A4 n4 c4) (hI:Hu s)
 (A:Option Addr) (m c:Nat) (ts:List Sm) (v:Env) (idx:Int) (hL:cw bJ (ak n (·<w.heap.size) w) (·<w.heap.size) w (.slice A m c) ts) (Dt:∀s∈ts,Aw n s) (hv:qo v):
 Calls Tryz.prog 158 #[.agg #[.slice A1 n1 c1,.slice A2 n2 c2,.slice A3 n3 c3,.slice A4 n4 c4],.slice A m c,.agg #[.int .i64 v.self,.int .i64 v.procs,.int .i64 v.frm,.int .i64 v.value],.int .i64 idx] w λe w' =>∃s' B1 m1 d1 B2 m2 d2 B3 m3 d3 B4 m4 d4,e= .returned (.agg #[.slice B1 m1 d1,.slice B2 m2 d2,.slice B3 m3 d3,.slice B4 m4 d4])/\Fy ts v idx s s'/\(a7 bB (w.heap.size<=·) w' (.slice B1 m1 d1) s'.cells/\a7 cH S w' (.slice B2 m2 d2) s'.evs/\a7 cW (w.heap.size<=·) w' (.slice B3 m3 d3) s'.sent/\a7 cX (w.heap.size<=·) w' (.slice B4 m4 d4) s'.outs)/\(∀z∈s'.cells,av z)/\s'.sent.length<=s.sent.length+8/\s'.outs.length<=s.outs.length+8/\Below w.heap.size w w' :=by
 obtain ⟨W,hW,bW,SW,R0,R1,R2⟩:=TL w (.slice A1 n1 c1) (.slice A2 n2 c2) (.slice A3 n3 c3) (.slice A4 n4 c4) v;have wm:=(show j7 (·<w.heap.size) w s A1 n1 c1 A2 n2 c2 A3 n3 c3 A4 n4 c4 from ⟨hM.1.mono (λb hb _=>hb),hM.2.mono (λb hb _=>hb),hM.3.mono (λb hb _=>hb),hM.4.mono (λb hb _=>hb)⟩).ext bW;obtain ⟨b4,ia⟩:=eX w.heap.size;have Ct:n1<=1000:=by have:=hM.1.len.1;have:=hI.len;omega
 have im:=OC n W A m c ts A1 n1 c1 s.cells _ v ((hL.mono (S' :=(·<W.heap.size)) (λb hb h=>by have h2:b<w.heap.size:=h;have:=SW.out;show b<W.heap.size;omega) (λy u h=>ak.mono (λb _ h=>by have h2:b<w.heap.size:=h;have:=SW.out;show b<W.heap.size;omega) n y u h)).keep (ae.of_below bW) (λy u h=>ak.keep (ae.of_below bW) n y u h)) Dt wm.1 Ct hI.cells hv;have Mm:=aA im;have Ak:=hM.3.len;have Ir:=hM.4.len;have HL3:=aA Ak.1;have HL4:=aA Ir.1;have Aj:=hI.sent;have Io:=hI.outs;have hc3:=Ak.2;have hc4:=Ir.2;have hn3:n3<=100000:=by omega
 have hn4:n4<=100000:=by omega
 clear im ia Ak Ir;go_enter func158,ntmps158;go_upto_region 1 with fail;try rw [<-hW]
 clear hW;have q0:=bn R0.out;go_wp2_with (refine wpList_load_row rfl 208 _ rfl _ rfl 208 _ (0,0) _ R1.out underlying208 rfl (by kernel_rfl) ?_)
 refine Mm.out.mono ?_;rintro e w1 ⟨B1,m1,d1,E,ne,ce,r,ok,rfl,hrn,Bk,heff,jh,fb,ou,hei,al⟩;have sW:=SW.out;have s1:=al.size;have uh:=bT al R0;have R21:=bT al R2;have q1:=bn uh.out;have f1:w1.frozen? ⟨w.heap.size,0,none⟩=false:=frozen_of_row _ _ _ _ _ uh.out
 obtain ⟨W3,ig⟩:=eX (w1.setCell ⟨w.heap.size,0,none⟩ (.slice B1 m1 d1));have g3:w1.grownBy W3 (some w.heap.size):=by rw [ig];exact aL (bC _ _)
 have I7:=aA (show W3.heap[w.heap.size]? =some (.cells #[.slice B1 m1 d1,.slice A2 n2 c2,.slice A3 n3 c3,.slice A4 n4 c4] 51 (0,0)) by rw [ig];exact heap_setCell_same _ _ _ _ _ _ uh.out);have R23:=aA ((g3.block (w.heap.size+2) (by omega) (by simp)).trans R21.out);have s3:=g3.size;have Kr:j7 (·<w.heap.size) W3 s A1 n1 c1 A2 n2 c2 A3 n3 c3 A4 n4 c4:=by
  have k:ae (·<w.heap.size) W W3:=λq hq h=>(g3.block q (by omega) (by have h2:q<w.heap.size:=h;simp;omega)).trans (al.block q hq)
  exact ⟨wm.1.keep k,wm.2.keep k,wm.3.keep k,wm.4.keep k⟩
 have VV:=(Bk.mono (S' :=λb=>W.heap.size<=b) (λb _ h=>h)).keep (w' :=W3) (λq hq h=>g3.block q hq (by have h2:W.heap.size<=q:=h;simp;omega));have Kn:=heff.keep (w' :=W3) (λq hq h=>g3.block q hq (by have h2:W.heap.size<=q:=h;simp;omega));have HB3:=aA (show Below w.heap.size w W3 from ((bW.trans (al.mono (by omega))).trans ((Below.refl w.heap.size w1).grown g3 (by omega) (λk hk=>by cases hk;exact Nat.le_refl _))));go_upto_region 3 with fail;rw [<-ig];clear ig q0 q1 f1 g3 Bk heff;refine Tyal ?_;go_wp2_with fail;refine aH ((λw' =>w'.heap[w.heap.size]? =some (.cells #[.slice B1 m1 d1,.slice A2 n2 c2,.slice A3 n3 c3,.slice A4 n4 c4] 51 (0,0)))) (by kernel_rfl) (by kernel_rfl) (I7.out) ?_;refine TkA ?_;refine lL (λw' ah =>aB (jA _) (gn ah)) ?_;refine Tyai ?_;go_wp2_with (refine aJ (o:=⟨some 29,_,_,_,_,_⟩) cZ iP (.agg #[.int .i64 0,.int .i64 0,.int .i64 0,.int .i64 0]) 32 _ _ 48 127 W3.heap.size ([]:List n7) s.sent A3 n3 c3 (.slice none 0 0) n3 rfl rfl underlying48 sZ rfl (by omega) rfl rfl (a8.nil_ _ _ _) (Kr.3.ext (Below.refl _ W3).drew) (by simp) (by simp;omega) (by simp;omega) (Nat.le_refl _) ?_;intro A5 c5 w5 ux bk jm qx qw)
 rw [List.nil_append] at ux;have z5:Below W3.heap.size W3 w5:=(Below.refl _ W3).drew.trans ((Below.refl W3.heap.size W3.drew).grown bk (Nat.le_refl _) (λk hk=>by cases hk));have I6:=bT z5 I7;go_wp2_with fail;refine aD (I6.out) ?_;refine TkA ?_;refine lL (λw' ah =>aB (jB _) (lj ah)) ?_;refine Tyai ?_;have s5:=z5.size;go_wp2_with (refine aJ (o:=⟨some 32,_,_,_,_,_⟩) dA iQ (.agg #[.int .i64 0,.int .i64 0]) 16 _ _ 49 129 W3.heap.size ([]:List Ou) s.outs A4 n4 c4 (.slice none 0 0) n4 rfl rfl underlying49 tA rfl (by omega) rfl rfl (a8.nil_ _ _ _) (Kr.4.ext z5) (by simp) (by simp;omega) (by simp;omega) (by omega) ?_;intro A6 c6 w6 Dz Gv Oz hc61 hc62)
 rw [List.nil_append] at Dz;have z6:Below W3.heap.size W3 w6:=z5.trans ((Below.refl W3.heap.size w5).grown Gv (by omega) (λk hk=>by cases hk));have ZY:=bT z6 I7;go_wp2_with fail;refine aD (ZY.out) ?_;refine Tyan ?_;go_wp2_with fail;have Cw:∀o,(Value.slice A5 n3 c5).ownBlock=some o->(Value.slice A6 n4 c6).ownBlock≠some o:=λo ho e=>by
  have h1:=(World.ownsRow.lt ux o ho).2;rcases Oz with h|h
  ·rw [h] at e;cases e
  ·rw [h] at e;cases e;exact Nat.lt_irrefl _ h1
 have hO5' :a8 cW 4 w6 W3.heap.size 127 (.slice A5 n3 c5) (s.sent++jF idx 0 (r.l.take 0)):=by
  rw [List.take_zero];show a8 cW 4 w6 W3.heap.size 127 (.slice A5 n3 c5) (s.sent++ []);rw [List.append_nil]
  exact ux.kept Gv (by
   rcases Option.eq_none_or_eq_some (Value.slice A5 n3 c5).ownBlock with h0|⟨b,h0⟩
   ·exact .inl h0
   ·exact .inr (λe=>by rw [h0] at e;cases e))
 have hO6' :a8 cX 2 w6 W3.heap.size 129 (.slice A6 n4 c6) (s.outs++gL idx (r.l.take 0)):=by
  rw [List.take_zero];show a8 cX 2 w6 W3.heap.size 129 (.slice A6 n4 c6) (s.outs++ []);rw [List.append_nil];exact Dz
 have hs6:=z6.size;have HE:=aA Kn.len.1;have hce:=Kn.len.2;have HEI:=aA hei;have HM3:=aA Kr;have HC3:=aA VV;clear ux Dz bk Gv jm Oz z5 hei Kr VV I6 ZY;go_wp2_with fail;go_loopw [12,13,14,15] (λsv ov o i wr=>∃(k:Nat) (A5:Option Addr) (n5 c5:Nat) (A6:Option Addr) (n6 c6:Nat),sv= .slice A5 n5 c5/\ov= .slice A6 n6 c6/\o= .int .i64 ((iH (r.l.take k):Nat):Int)/\i= .int .i64 (k:Int)/\k<=ne/\n5<=100000+k/\n6<=100000+k/\a8 cW 4 wr W3.heap.size 127 (.slice A5 n5 c5) (s.sent++jF idx 0 (r.l.take k))/\a8 cX 2 wr W3.heap.size 129 (.slice A6 n6 c6) (s.outs++gL idx (r.l.take k))/\(∀o,(Value.slice A5 n5 c5).ownBlock=some o->(Value.slice A6 n6 c6).ownBlock≠some o)/\Below W3.heap.size W3 wr) (λ_ _ _ i _=>ne-(intOf i).toNat);case atStart=>exact ⟨0,A5,n3,c5,A6,n4,c6,rfl,rfl,by simp [iH],rfl,by omega,by omega,by omega,hO5',hO6',Cw,z6⟩
 case round=>
  clear hO5' hO6' Cw z6;obtain ⟨k,A5,n5,c5,A6,n6,c6,rfl,rfl,rfl,rfl,hk,hn5,hn6,ux,Dz,Cw,hz⟩:=hrel;have ef:=hz.size;have H5:=aA ux.len.1;have H6:=aA Dz.len.1;by_cases af:k<ne
  ·obtain ⟨be,oe,x,rfl,hSe,VX,hx,kn⟩:=(Kn.ext hz).at_ sG (j:=k) (by have:=HE.out;omega) (by omega);have Uq:be<W3.heap.size:=by
    obtain ⟨bq,oq,xq,hA,_,hb,_⟩:=Kn.at_ sG (j:=k) (by have:=HE.out;omega) (by omega);cases hA;exact hb
   have HX:=aA hx;have Xy:=(HEI.out x (List.mem_of_getElem? hx)).1;have e0:wr.cell? ⟨be,oe+k*3,none⟩=some (.int .i64 x.kind):=kn 0 _ rfl
   have e1:wr.cell? ⟨be,oe+k*3+1,none⟩=some (.int .i64 x.to):=kn 1 _ rfl
   have e2:wr.cell? ⟨be,oe+k*3+2,none⟩=some (.int .i64 x.value):=kn 2 _ rfl
   have Cf:r.l.take (k+1)=r.l.take k++ [x]:=by rw [List.take_add_one,hx];rfl
   have L5:=aA Cf;have gy:=wK (r.l.take k);rw [List.length_take] at gy;obtain ⟨q,hq⟩:=eX (iH (r.l.take k));rw [<-hq] at gy ⊢;have HQ:=aA hq;have hqk:q<=k:=by omega
   clear hx kn Cf hq gy;by_cases iq:x.kind=1
   ·have d1:(x.kind==1)=true:=by simpa using iq
    have Vh:=aA iq;clear iq Xy;go_upto_region 9 with fail;have v1:W3.cell? ⟨be,oe+k*3+1,none⟩=some (.int .i64 x.to):=(hz.cell (p:=⟨be,oe+k*3+1,none⟩) Uq).symm.trans e1
    have v2:W3.cell? ⟨be,oe+k*3+2,none⟩=some (.int .i64 x.value):=(hz.cell (p:=⟨be,oe+k*3+2,none⟩) Uq).symm.trans e2
    have V1:=aA v1;have V2:=aA v2;have ha:Below wr.heap.size wr (wr.drew.alloc (.cells #[.int .i64 idx,.int .i64 (q:Int),.int .i64 x.to,.int .i64 x.value] 127)):=(Below.refl _ wr).drew.alloc (Nat.le_refl _) _;have ax:a7 cW (λ_=>True) (wr.drew.alloc (.cells #[.int .i64 idx,.int .i64 (q:Int),.int .i64 x.to,.int .i64 x.value] 127)) (.slice (some ⟨wr.drew.heap.size,0,none⟩) 1 1) [⟨idx,(q:Int),x.to,x.value⟩]:=⟨_,1,rfl,by simp,by simp [maxLen],Cs.lit _ _ _ _ _ trivial rfl⟩
    have Cz:=ha.size;have hza:Below W3.heap.size W3 (wr.drew.alloc (.cells #[.int .i64 idx,.int .i64 (q:Int),.int .i64 x.to,.int .i64 x.value] 127)):=hz.trans (ha.mono ef);clear v1 v2 e0 e1 e2;go_wp2_with fail;refine aH ((λw' =>Below W3.heap.size W3 w')) (by kernel_rfl) (by kernel_rfl) (hz.drew) ?_;refine TkA ?_;refine lL (λw' ah =>aB (aW _) ((ah.cell (p:=⟨be,oe+k*3+1,none⟩) Uq).trans V1.out)) ?_;refine Tyac ?_;refine lL (λw' ah =>aB (aW _) ((ah.cell (p:=⟨be,oe+k*3+2,none⟩) Uq).trans V2.out)) ?_;refine Tyai ?_;go_wp2_with fail;refine aD hz.drew ?_;refine Tyah ?_;go_wp2_with fail;refine aD hza ?_;refine Tyah ?_;go_wp2_with (refine aJ (o:=⟨some 60,_,_,_,_,_⟩) cZ iP (.agg #[.int .i64 0,.int .i64 0,.int .i64 0,.int .i64 0]) 32 _ _ 48 127 W3.heap.size (s.sent++jF idx 0 (r.l.take k)) [⟨idx,(q:Int),x.to,x.value⟩] (some ⟨wr.drew.heap.size,0,none⟩) 1 1 (.slice A5 n5 c5) (n5+1) rfl rfl underlying48 sZ rfl (by omega) rfl rfl (ux.ext ha) ax (by rw [H5.out]) (by rw [H5.out];omega) (by rw [H5.out];omega) (Nat.le_trans ef Cz) ?_;intro A9 c9 w9 Ck ai ck gq gp)
    have hO6a:=Dz.ext ha
    have hO69:=hO6a.kept ai (by
     rcases Option.eq_none_or_eq_some (Value.slice A6 n6 c6).ownBlock with h0|⟨b,h0⟩
     ·exact .inl h0
     ·exact .inr (λe=>Cw b (by rw [<-e,h0]) h0))
    have Og:∀o,(Value.slice A9 (n5+1) c9).ownBlock=some o->(Value.slice A6 n6 c6).ownBlock≠some o:=λo ho e=>by
     rcases ck with h|h
     ·rw [h] at ho;exact Cw o ho e
     ·rw [h] at ho;cases ho;exact Nat.lt_irrefl _ (World.ownsRow.lt hO6a _ e).2
    have hz9:Below W3.heap.size W3 w9:=hza.grown ai (Nat.le_trans ef Cz) (λb hb=>(World.ownsRow.lt ux b hb).1);refine aD hz9 ?_;refine Tyan ?_;go_wp2;go_roundw;case rel=>
     refine ⟨k+1,A9,n5+1,c9,A6,n6,c6,rfl,rfl,?_,by go_num,by omega,by omega,by omega,?_,?_,Og,hz9⟩
     ·rw [L5.out,pG,if_pos Vh.out,<-HQ.out];rfl
     ·rw [L5.out,oU,if_pos Vh.out,<-List.append_assoc,<-HQ.out,Nat.zero_add];exact Ck
     ·rw [L5.out,nJ,if_pos Vh.out,List.append_nil];exact hO69
    case measure=>simp [intOf];omega
   ·have d1:(x.kind==1)=false:=by simpa using iq
    have Vh:=aA iq;clear iq Xy;have ha:Below wr.heap.size wr (wr.alloc (.cells #[.int .i64 idx,.int .i64 x.value] 129)):=(Below.refl _ wr).alloc (Nat.le_refl _) _;have ax:a7 cX (λ_=>True) (wr.alloc (.cells #[.int .i64 idx,.int .i64 x.value] 129)) (.slice (some ⟨wr.heap.size,0,none⟩) 1 1) [⟨idx,x.value⟩]:=⟨_,1,rfl,by simp,by simp [maxLen],Cs.lit _ _ _ _ _ trivial rfl⟩
    have Cz:=ha.size;go_upto_region 11 with fail;go_wp2_with (refine aJ (o:=⟨some 72,_,_,_,_,_⟩) dA iQ (.agg #[.int .i64 0,.int .i64 0]) 16 _ _ 49 129 W3.heap.size (s.outs++gL idx (r.l.take k)) [⟨idx,x.value⟩] (some ⟨wr.heap.size,0,none⟩) 1 1 (.slice A6 n6 c6) (n6+1) rfl rfl underlying49 tA rfl (by omega) rfl rfl (Dz.ext ha) ax (by rw [H6.out]) (by rw [H6.out];omega) (by rw [H6.out];omega) (by omega) ?_;intro A9 c9 w9 Ck ai ck gq gp)
    have hO5a:=ux.ext ha
    have hO59:=hO5a.kept ai (by
     rcases Option.eq_none_or_eq_some (Value.slice A5 n5 c5).ownBlock with h0|⟨b,h0⟩
     ·exact .inl h0
     ·exact .inr (λe=>Cw b h0 (by rw [<-e,h0])))
    have Og:∀o,(Value.slice A5 n5 c5).ownBlock=some o->(Value.slice A9 (n6+1) c9).ownBlock≠some o:=λo ho e=>by
     rcases ck with h|h
     ·rw [h] at e;exact Cw o ho e
     ·rw [h] at e;cases e;exact Nat.lt_irrefl _ (World.ownsRow.lt hO5a _ ho).2
    have hz9:Below W3.heap.size W3 w9:=(hz.trans (ha.mono ef)).grown ai (Nat.le_trans ef Cz) (λb hb=>(World.ownsRow.lt Dz b hb).1);go_roundw;case rel=>
     refine ⟨k+1,A5,n5,c5,A9,n6+1,c9,rfl,rfl,?_,by go_num,by omega,by omega,by omega,?_,?_,Og,hz9⟩
     ·rw [L5.out,pG,if_neg Vh.out,HQ.out];rfl
     ·rw [L5.out,oU,if_neg Vh.out,List.append_nil];exact hO59
     ·rw [L5.out,nJ,if_neg Vh.out,<-List.append_assoc];exact Ck
    case measure=>simp [intOf];omega
  ·obtain rfl:k=ne:=by omega
   have Cf:r.l.take k=r.l:=List.take_of_length_le (by have:=HE.out;omega);rw [Cf] at ux Dz ⊢;clear Cf;have R0r:=bT hz I7;have R2r:=bT hz R23;have q2:=gn R0r.out;have g2:wr.frozen? ⟨w.heap.size,2,none⟩=false:=frozen_of_row _ _ _ _ _ R0r.out
   have q3:=lj R0r.out;have g3:wr.frozen? ⟨w.heap.size,3,none⟩=false:=frozen_of_row _ _ _ _ _ R0r.out
   obtain ⟨W5,nj⟩:=eX ((wr.setCell ⟨w.heap.size,2,none⟩ (.slice A5 n5 c5)).setCell ⟨w.heap.size,3,none⟩ (.slice A6 n6 c6));have k5:wr.grownBy W5 (some w.heap.size):=by rw [nj];exact aL (aL (bC _ _))
   have I6:=aA (show W5.heap[w.heap.size]? =some (.cells #[.slice B1 m1 d1,.slice A2 n2 c2,.slice A5 n5 c5,.slice A6 n6 c6] 51 (0,0)) by rw [nj];exact heap_setCell_same _ _ _ _ _ _ (heap_setCell_same _ _ _ _ _ _ R0r.out));have Kz:=aA ((k5.block (w.heap.size+2) (by omega) (by simp)).trans R2r.out);have s5' :=k5.size;go_upto_region 13 with fail;rw [<-nj];clear nj q2 g2 q3 g3;refine Tyal ?_;go_wp2_with (first|(refine wpList_load_row rfl 51 _ rfl _ rfl 51 _ (0,0) _ I6.out underlying51 rfl (by kernel_rfl) ?_)|(refine sR Kz ?_))
   refine rC Kz ?_;have k6:=aC W5 (w.heap.size+2) #[.slice B1 m1 d1,.slice A2 n2 c2,.slice A5 n5 c5,.slice A6 n6 c6];have kk:∀(b:Nat),b<wr.heap.size->b≠w.heap.size->b≠w.heap.size+2->(W5.setRow (w.heap.size+2) #[.slice B1 m1 d1,.slice A2 n2 c2,.slice A5 n5 c5,.slice A6 n6 c6]).heap[b]? =wr.heap[b]? :=λb hb h1 h2=>(k6.block b (by omega) (by simp;omega)).trans (k5.block b hb (by simp;omega))
   have Jk:Below w.heap.size w (W5.setRow (w.heap.size+2) #[.slice B1 m1 d1,.slice A2 n2 c2,.slice A5 n5 c5,.slice A6 n6 c6]):=((HB3.out.trans (hz.mono (by omega))).grown k5 (by omega) (λb hb=>by cases hb;exact Nat.le_refl _)).grown k6 (by omega) (λb hb=>by cases hb;omega);have hle:=wK r.l;have N1:=rN idx r.l;have ki:=HE.out;refine ⟨⟨r.cells,s.evs,s.sent++jF idx 0 r.l,s.outs++gL idx r.l⟩,B1,m1,d1,A2,n2,c2,A5,n5,c5,A6,n6,c6,rfl,⟨r,ok,hrn,rfl⟩,⟨?_,?_,?_,?_⟩,ou,?_,?_,Jk⟩
   ·exact ((HC3.out.ext hz).keep (λb hb h=>by have h2:W.heap.size<=b:=h;exact kk b hb (by omega) (by omega))).mono (λb _ h=>by have h2:W.heap.size<=b:=h;omega)
   ·exact hM.2.ext Jk
   ·exact (ux.recs.keep (λb hb h=>kk b hb (by have:=h.1;omega) (by have:=h.1;omega))).mono (λb _ h=>by have:=h.1;omega)
   ·exact (Dz.recs.keep (λb hb h=>kk b hb (by have:=h.1;omega) (by have:=h.1;omega))).mono (λb _ h=>by have:=h.1;omega)
   ·show (s.sent++jF idx 0 r.l).length<=s.sent.length+8;rw [List.length_append,pY];omega
   ·show (s.outs++gL idx r.l).length<=s.outs.length+8;rw [List.length_append];omega
theorem mZ {fs:List au} {k:Nat} {f:au} (h:fs[k]? =some f):bV fs (k:Int)=f.s++f.p:=by
 unfold bV;rw [if_neg (by omega),Int.toNat_natCast,h]
theorem sE {fs:List au} {k:Int} (h:k<0∨(fs.length:Int)<=k):bV fs k=[]:=by
 unfold bV;split
 ·rfl
 ·rw [List.getElem?_eq_none (by omega)]
def eD (fs:List au):Prop:=∀f∈fs,f.s.length+f.p.length<=1000000
theorem jS {fs:List au} (h:eD fs) (k:Int):(bV fs k).length<=1000000:=by
 unfold bV;split
 ·simp
 ·split
  ·rename_i f hf;have:=h f (List.mem_of_getElem? hf);simp;omega
  ·simp
theorem JP (A:Option Addr) (n c:Nat) (fs:List au) (S:Nat->Prop) (w:World) (hD:fh S w (.slice A n c) fs) (hn:n<=1000) (k:Int) (hf:eD fs):
 Calls Tryz.prog 27 #[.agg #[.slice A n c],.int .i64 k] w λe w' =>∃A' m' c' x,e= .returned (.tuple #[.slice A' m' c',.int .i64 x])/\Bytes (w.heap.size<=·) w' (.slice A' m' c') (bV fs k)/\(x=0∨bV fs k=[])/\Below w.heap.size w w' :=by
 have hl:=hD.len.1;by_cases hk:k<0∨(n:Int)<=k
 ·refine (OF A n c k hk hn w).mono ?_;rintro e w' ⟨rfl,hb⟩;have e0:=sE (fs:=fs) (k:=k) (by omega);exact ⟨none,0,0,11,rfl,by rw [e0];exact Bytes.nil_ _ _,.inr e0,hb⟩
 ·obtain ⟨j,rfl⟩:=Int.eq_ofNat_of_zero_le (by omega:0<=k);have hj:j<fs.length:=by omega
  have Gw:fs[j]? =some fs[j]:=List.getElem?_eq_getElem hj
  refine (OE A n c fs S w hD hn j fs[j] Gw (by have:=hf _ (List.getElem_mem hj);omega)).mono ?_;rintro e w' ⟨A',c',rfl,hO,hb⟩;exact ⟨A',_,c',0,rfl,by rw [mZ Gw];exact hO.by_.bytes,.inl rfl,hb⟩
def BT (base:Nat) (w:World) (L:List UInt8) (h:Hd) (V:Value) (q x:Nat):Prop:=
 (∃p,cA L= .ok (h,p)/\q=p/\x=0/\Bytes (base<=·) w V L)∨(cA L= .error x/\x≠0/\h=⟨0,0,0,0⟩/\q=0/\V= .slice none 0 0)
theorem kG (A:Option Addr) (n c:Nat) (fs:List au) (S:Nat->Prop) (w:World) (hD:fh S w (.slice A n c) fs) (hn:n<=1000) (k:Int) (hf:eD fs):
 Calls Tryz.prog 49 #[.agg #[.slice A n c],.int .i64 k] w λe w' =>∃(h:Hd) (V:Value) (q x:Nat),e= .returned (.tuple #[.agg #[.int .i64 h.kind,.int .i64 h.stamp,.int .i64 h.base,.int .i64 h.under],V,.int .i64 q,.int .i64 x])/\BT w.heap.size w' (bV fs k) h V q x/\Below w.heap.size w w' :=by
 obtain ⟨W,hW,aw,SW,R0,R1⟩:∃W,W=(w.alloc (.cells #[.slice A n c] 36)).alloc (.cells #[.int .i64 0,.int .i64 0,.int .i64 0,.int .i64 0] 90)/\Below w.heap.size w W/\RowKit.Hid (W.heap.size=w.heap.size+2)/\
  RowKit.Hid (W.heap[w.heap.size]? =some (.cells #[.slice A n c] 36 (0,0)))/\RowKit.Hid (W.heap[w.heap.size+1]? =some (.cells #[.int .i64 0,.int .i64 0,.int .i64 0,.int .i64 0] 90 (0,0))):=by
  refine ⟨_,rfl,((Below.refl _ w).alloc (Nat.le_refl _) _).alloc (by simp) _,aA (by simp),aA ?_,aA ?_⟩
  ·exact Tzap
  ·have:=heap_alloc_new (w.alloc (.cells #[.slice A n c] 36)) (.cells #[.int .i64 0,.int .i64 0,.int .i64 0,.int .i64 0] 90);rw [World.size_alloc] at this;exact this
 have af:w.heap.size+1<W.heap.size:=by have:=SW.out;omega
 have Hrd:=aA (JP A n c fs S W (hD.ext aw) hn k hf);have o7:=jS hf k;obtain ⟨L,hL⟩:=eX (bV fs k);rw [<-hL] at Hrd o7 ⊢;clear hL hD hf;go_enter func49,ntmps49;go_upto_region 1 with fail;rw [<-hW];clear hW;go_wp2_with (refine lD (t:=36) R0 ?_)
 refine Hrd.out.mono ?_;rintro e w1 ⟨A1,m1,c1,x1,rfl,Ge,ev,b1⟩;have jh:=Ge.len.1;have sW:=SW.out;have s1:=b1.size;have yw:=bT b1 R1 af;have Lt:=Below.ext aw b1;have Ff:=aA jh;clear R0 R1 sW;by_cases Wi:L=[]
 ·have e11:cA L= .error 11:=by rw [Wi];rfl
  obtain rfl:m1=0:=by rw [<-jh,Wi];rfl
  have an:BT w.heap.size (w1.setRow (w.heap.size+1) #[.int .i64 0,.int .i64 0,.int .i64 0,.int .i64 0]) L ⟨0,0,0,0⟩ (.slice none 0 0) 0 11:= .inr ⟨e11,by decide,rfl,rfl,rfl⟩;have n8:=aA an;clear an e11 Ge jh ev Wi;by_cases hx:x1=0
  ·have d1:(x1 != 0)=false:=by simp [hx]
   exact Tzds
  ·have d1:(x1 != 0)=true:=by simpa using hx
   exact Tzds
 ·obtain rfl:x1=0:=ev.resolve_right Wi;have Sf:((m1:Int)==0)=false:=by
   have:m1≠0:=λe=>Wi (List.eq_nil_of_length_eq_zero (by omega))
   simpa using this
  have V7:=aA (xV _ L _ w1 0 Ge (by omega));obtain ⟨bd,q,er,hN⟩:∃bd q er,bL L 0=(bd,q,er):=⟨_,_,_,rfl⟩
  have ll:bd.length<=4096:=by have:=kY L 0;rw [hN] at this;exact this
  rw [hN] at V7;dsimp only at V7;have HN:=aA hN;have HY1:=aA Ge;clear hN Ge jh Wi ev;go_wp2_with fail;refine V7.out.mono ?_;rintro e w2 ⟨V2,rfl,Mu,b2⟩;have uz:=bT b2 yw;have Oo:=Below.ext Lt b2;have s2:=b2.size;by_cases he:er=0
  ·subst he;obtain ⟨A2,c2,rfl,Cy,Cx,Gd⟩:=Mu;obtain ⟨m2,pg⟩:=eX bd.length;rw [<-pg] at Cy ⊢;have Mu:Bytes _ w2 (.slice A2 m2 c2) bd:=⟨A2,c2,by rw [pg],by omega,Cx,Gd⟩
   have Hpa:=aA (IA A2 m2 c2 bd _ w2 Mu (by omega));clear pg Mu Gd Cy Cx;go_wp2_with fail;refine Hpa.out.mono ?_;rintro e w3 ⟨g,ok,rfl,U3,b3⟩;obtain ⟨W4,ng,_,k4,S4,R4⟩:=bX w3 w3 #[.int .i64 g.kind,.int .i64 g.stamp,.int .i64 g.base,.int .i64 g.under] 90 (Below.refl _ _);obtain ⟨bx,ff⟩:=eX w3.heap.size;rw [<-ff] at R4;have tm:=aA ff;have s3:=b3.size;have y34:=Below.ext b3 k4;have Df:=bT y34 uz;have Jj:=Below.ext Oo y34;have hyW:=HY1.out.ext (Below.ext b2 y34);have hbxl:w.heap.size+1<bx:=by omega
   have hsz4:=k4.size;clear ff;go_upto_region 8 with (refine sN ?_)
   try dsimp only
   rw [<-ng,<-tm.out];clear ng;refine Tyal ?_;cases ok with
   |false=>
    have an:BT w.heap.size (W4.setRow (w.heap.size+1) #[.int .i64 0,.int .i64 0,.int .i64 0,.int .i64 0]) L ⟨0,0,0,0⟩ (.slice none 0 0) 0 9:= .inr ⟨by unfold cA;rw [HN.out];dsimp only;rw [if_pos rfl,U3];rfl,by decide,rfl,rfl,rfl⟩;have n8:=aA an;clear an U3;go_wp2_with (refine sR Df ?_)
    refine bodyPost_ret (jN rfl rfl (lB (t:=90) (setRow_heap _ _ _ _ _ _ Df.out))) rfl ?_;exact ⟨⟨0,0,0,0⟩,_,0,9,rfl,n8.out,Jj.grown (aC _ _ _) Jj.size (λo e=>by cases e;omega)⟩
   |true=>
    have an:BT w.heap.size (W4.setRow (w.heap.size+1) #[.int .i64 g.kind,.int .i64 g.stamp,.int .i64 g.base,.int .i64 g.under]) L g (.slice A1 m1 c1) q 0:= .inl ⟨q,by unfold cA;rw [HN.out];dsimp only;rw [if_pos rfl,U3];rfl,rfl,rfl,a7.bytes ((Bytes.by_ hyW).mono (S' :=λb=>w.heap.size+2<=b) (λb _ h=>by have:=SW.out;omega) |>.keep (λb hb hs=>(aC W4 (w.heap.size+1) #[.int .i64 g.kind,.int .i64 g.stamp,.int .i64 g.base,.int .i64 g.under]).block b hb (by simp;omega)) |>.mono (λb _ h=>by omega))⟩;have n8:=aA an;clear an U3 hyW;go_wp2_with (first|(refine lD (t:=90) R4 ?_)|(refine sR Df ?_))
    refine bodyPost_ret (jN rfl rfl (lB (t:=90) (setRow_heap _ _ _ _ _ _ Df.out))) rfl ?_;exact ⟨g,_,q,0,rfl,n8.out,Jj.grown (aC _ _ _) Jj.size (λo e=>by cases e;omega)⟩
  ·have d5:((er:Int) != 0)=true:=by simpa using he
   have an:BT w.heap.size (w2.setRow (w.heap.size+1) #[.int .i64 0,.int .i64 0,.int .i64 0,.int .i64 0]) L ⟨0,0,0,0⟩ (.slice none 0 0) 0 er:= .inr ⟨by unfold cA;rw [HN.out];dsimp only;rw [if_neg he],he,rfl,rfl,rfl⟩;have n8:=aA an;clear an he Mu;go_wp2_with (refine sR uz ?_)
   refine bodyPost_ret (jN rfl rfl (lB (t:=90) (setRow_heap _ _ _ _ _ _ uz.out))) rfl ?_;exact ⟨⟨0,0,0,0⟩,_,0,er,rfl,n8.out,Oo.grown (aC _ _ _) Oo.size (λo e=>by cases e;omega)⟩
end Go.Proofs.YtiblijmngokcgaaGreatDoor
