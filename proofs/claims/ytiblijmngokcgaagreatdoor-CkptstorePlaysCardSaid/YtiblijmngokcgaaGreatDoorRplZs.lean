import Derived.Test.YtiblijmngokcgaaGreatDoorRepZs
set_option linter.unusedVariables false
set_option linter.unusedSimpArgs false
set_option maxHeartbeats 8000000
set_option maxRecDepth 100000
namespace Go.Proofs.YtiblijmngokcgaaGreatDoor
open Go.Proofs.Tryz
open Go.RowKit
theorem RM {w:World} {b o:Nat} {y:Ev} (hc:∀i u,(cH y)[i]? =some u->w.cell? ⟨b,o+i,none⟩=some u):(loadVar 78 ⟨b,o,none⟩).run Tryz.prog w= .ok (.agg #[.int .i64 y.k0,.int .i64 y.k1,.int .i64 y.k2,.int .i64 y.k3,.int .i64 y.k4,.int .i64 y.k5,.int .i64 y.k6]) w:=by
 have:=run_loadVar_mid (P:=Tryz.prog) w b o 78 (cH y) _ (λj v hv=>hc j v hv) underlying78 rfl (by kernel_rfl);exact this
theorem uS (w:World) (S:Nat->Prop) (c:Cd) (I1:Option Addr) (iw ix:Nat) (P1:Option Addr) (zx Ai:Nat) (P2:Option Addr) (zw Ag:Nat) (P3:Option Addr) (zv Ad:Nat) (P4:Option Addr) (zu zy:Nat) (hC:Ic S w c I1 iw ix P1 zx Ai P2 zw Ag P3 zv Ad P4 zu zy) (hI:Ca c) (self procs:Int) (sk:av self) (zh:av procs) (L:Option Addr) (ln lc:Nat) (evs:List Ev) (Sl:Nat->Prop) (hE:a7 cH Sl w (.slice L ln lc) evs) (hle:ln<=64) (Ls:∀e∈evs,∀z∈e.l,av z):
 Calls Tryz.prog 46 #[.agg #[.slice I1 iw ix,.slice P1 zx Ai,.slice P2 zw Ag,.slice P3 zv Ad,.slice P4 zu zy],.int .i64 self,.int .i64 procs,.slice L ln lc] w λe w' =>∃s' B1 m1 d1 B2 m2 d2 B3 m3 d3 B4 m4 d4,e= .returned (.agg #[.slice B1 m1 d1,.slice B2 m2 d2,.slice B3 m3 d3,.slice B4 m4 d4])/\qf c self procs evs s'/\j7 (λb=>w.heap.size<=b) w' s' B1 m1 d1 B2 m2 d2 B3 m3 d3 B4 m4 d4/\Hu s'/\s'.sent.length<=8*(evs.length+1)/\s'.outs.length<=8*(evs.length+1)/\Below w.heap.size w w' :=by
 have HL:=aA hE.len.1;have Jb:=hE.len.2;obtain ⟨W,hW,aw,SW,R0,R1⟩:∃W,W=(w.alloc (.cells #[.slice I1 iw ix,.slice P1 zx Ai,.slice P2 zw Ag,.slice P3 zv Ad,.slice P4 zu zy] 29)).alloc (.cells #[.slice none 0 0,.slice none 0 0,.slice none 0 0,.slice none 0 0] 51)/\Below w.heap.size w W/\RowKit.Hid (W.heap.size=w.heap.size+2)/\
  RowKit.Hid (W.heap[w.heap.size]? =some (.cells #[.slice I1 iw ix,.slice P1 zx Ai,.slice P2 zw Ag,.slice P3 zv Ad,.slice P4 zu zy] 29 (0,0)))/\RowKit.Hid (W.heap[w.heap.size+1]? =some (.cells #[.slice none 0 0,.slice none 0 0,.slice none 0 0,.slice none 0 0] 51 (0,0))):=by
  refine ⟨_,rfl,((Below.refl _ w).alloc (Nat.le_refl _) _).alloc (by simp) _,aA (by simp),aA ?_,aA ?_⟩
  ·exact Tzap
  ·exact Tzdj
 have Ml:=aA (GB W S c I1 iw ix P1 zx Ai P2 zw Ag P3 zv Ad P4 zu zy (hC.ext aw) hI self procs sk zh);have HC:=aA hC;have HEV:=aA Ls;clear hC Ls;go_enter func46,ntmps46;go_upto_region 1 with fail;try rw [<-hW]
 clear hW;go_wp2_with (refine lD (t:=29) R0 ?_)
 refine Ml.out.mono ?_;rintro e w1 ⟨s0,A1,n1,c1,A2,n2,c2,A3,n3,c3,A4,n4,c4,rfl,hR0,Sn,hci0,hs01,hs02,al⟩;have sW:=SW.out;obtain ⟨W2,fv,b2,k2,S2,R2⟩:=bX w1 w1 #[.slice A1 n1 c1,.slice A2 n2 c2,.slice A3 n3 c3,.slice A4 n4 c4] 51 (Below.refl _ _);obtain ⟨b9,gf⟩:=eX w1.heap.size;rw [<-gf] at R2;have Vm:=aA gf;have s1:=al.size;have h9:w.heap.size+2<=b9:=by omega
 have h9W:b9<W2.heap.size:=by have:=S2.out;omega
 have y1:=Below.ext aw al;have y2:=Below.ext y1 k2;have rj:=aA ((k2.block w.heap.size (by omega)).trans ((al.block w.heap.size (by omega)).trans R0.out));have uz:=aA ((k2.block (w.heap.size+1) (by omega)).trans ((al.block (w.heap.size+1) (by omega)).trans R1.out));have ri:j7 (λb=>w.heap.size+2<=b/\b≠b9) W2 s0 A1 n1 c1 A2 n2 c2 A3 n3 c3 A4 n4 c4:=by
  have m:∀b,b<w1.heap.size->W.heap.size<=b->w.heap.size+2<=b/\b≠b9:=λb hb h=>⟨by omega,by omega⟩
  have h0:j7 (λb=>w.heap.size+2<=b/\b≠b9) w1 s0 A1 n1 c1 A2 n2 c2 A3 n3 c3 A4 n4 c4:=⟨Sn.1.mono m,Sn.2.mono m,Sn.3.mono m,Sn.4.mono m⟩
  exact h0.ext k2
 have hev0:s0.evs=[]:=(Fy.pre hR0).2;have hce0:s0.cells.length=c.init.length:=(Fy.pre hR0).1.cells;have HR0:=aA hR0;have HCE:=aA hce0;have HEV0:=aA hev0;have HI1:=hI.len;clear gf Sn hR0 hev0 hce0;go_upto_region 2 with (refine sN ?_)
 rw [<-fv,<-Vm.out];clear fv;refine Tyal ?_;go_wp2;go_loopw [10] (λa wr=>∃(k:Nat) (s:bj) (B1:Option Addr) (m1 d1:Nat) (B2:Option Addr) (m2 d2:Nat) (B3:Option Addr) (m3 d3:Nat) (B4:Option Addr) (m4 d4:Nat),a= .int .i64 k/\k<=ln/\RowKit.Hid (wr.heap[w.heap.size]? =some (.cells #[.slice I1 iw ix,.slice P1 zx Ai,.slice P2 zw Ag,.slice P3 zv Ad,.slice P4 zu zy] 29 (0,0)))/\RowKit.Hid (wr.heap[w.heap.size+1]? =some (.cells #[.slice none 0 0,.slice none 0 0,.slice none 0 0,.slice none 0 0] 51 (0,0)))/\RowKit.Hid (wr.heap[b9]? =some (.cells #[.slice B1 m1 d1,.slice B2 m2 d2,.slice B3 m3 d3,.slice B4 m4 d4] 51 (0,0)))/\RowKit.Hid (ra c self procs s0 (evs.take k) s)/\j7 (λb=>w.heap.size+2<=b/\b≠b9) wr s B1 m1 d1 B2 m2 d2 B3 m3 d3 B4 m4 d4/\RowKit.Hid (∀z∈s.cells,av z)/\s.sent.length<=8*(k+1)/\s.outs.length<=8*(k+1)/\Below w.heap.size w wr) (λa _=>ln-(intOf a).toNat);case atStart=>exact ⟨0,s0,A1,n1,c1,A2,n2,c2,A3,n3,c3,A4,n4,c4,rfl,by omega,rj,uz,R2,aA (by simpa using ra.nil s0),ri,aA hci0,by omega,by omega,y2⟩
 case round=>
  obtain ⟨k,s,B1,m1,d1,B2,m2,d2,B3,m3,d3,B4,m4,d4,rfl,hk,HH0,HH1,HH9,Nu,hM,En,hsn,hou,hb⟩:=hrel;have h9r:b9<wr.heap.size:=(Array.getElem?_eq_some_iff.1 HH9.out).1;by_cases af:k<ln
  ·obtain ⟨b,off,x,rfl,hS,fe,hx,kn⟩:=hE.at_ cN (j:=k) (by have:=HL.out;omega) (by omega);have HX:=aA (λ(w' :World) (h:Below wr.heap.size wr w') i u h2=>((Below.ext hb h).cell (p:=⟨b,off+k*7+i,none⟩) fe).trans (kn i u h2));have Gg:=HEV.out x (List.mem_of_getElem? hx);have j8:=ra.pre Nu.out;have hevs:s.evs.length=k:=by rw [j8.2,HEV0.out];simp;have:=HL.out;omega
   have gy:s.cells.length<=1000:=by rw [j8.1.cells,HCE.out];omega
   have hMd:j7 (λb=>(w.heap.size+2<=b/\b≠b9)/\b<wr.heap.size) wr.drew s B1 m1 d1 B2 m2 d2 B3 m3 d3 B4 m4 d4:=by
    have m:∀b,b<wr.heap.size->(w.heap.size+2<=b/\b≠b9)->(w.heap.size+2<=b/\b≠b9)/\b<wr.heap.size:=λb hb h=>⟨h,hb⟩
    have h0:j7 (λb=>(w.heap.size+2<=b/\b≠b9)/\b<wr.heap.size) wr s B1 m1 d1 B2 m2 d2 B3 m3 d3 B4 m4 d4:=⟨hM.1.mono m,hM.2.mono m,hM.3.mono m,hM.4.mono m⟩
    exact h0.ext (Below.refl _ wr).drew
   have V7:=aA (LN wr.drew S c I1 iw ix P1 zx Ai P2 zw Ag P3 zv Ad P4 zu zy (HC.out.ext (Below.ext hb (Below.refl _ wr).drew)) hI self procs sk zh s B1 m1 d1 B2 m2 d2 B3 m3 d3 B4 m4 d4 _ hMd ⟨En.out,gy,by omega,by omega,by omega⟩ (by omega) x Gg);have HSN:=aA (λs' (h:gw c self procs s x s')=>ra.snoc Nu.out h);have Cf:evs.take (k+1)=evs.take k++ [x]:=by rw [List.take_add_one,hx];rfl
   rw [<-Cf] at HSN;have HSW:=aA (show Below wr.heap.size wr wr.drew from (Below.refl _ wr).drew);clear kn hx Gg j8 Cf hMd Nu hM;go_upto_region 5 with fail;go_wp2_with fail;refine fH (λw' =>Below wr.heap.size wr w') 9 (by kernel_rfl) (by kernel_rfl) (by kernel_rfl) (by decide) HSW.out ?_;refine Tyau ?_;refine TkA ?_;refine bZ (⟨w.heap.size,0,none⟩) (.agg #[.slice I1 iw ix,.slice P1 zx Ai,.slice P2 zw Ag,.slice P3 zv Ad,.slice P4 zu zy]) rfl rfl rfl (λw' ah =>cT ((ah.block w.heap.size (by omega)).trans HH0.out) underlying29 rfl (by kernel_rfl)) ?_;refine Tyac ?_;refine bZ (⟨b9,0,none⟩) (.agg #[.slice B1 m1 d1,.slice B2 m2 d2,.slice B3 m3 d3,.slice B4 m4 d4]) rfl rfl rfl (λw' ah =>cT ((ah.block b9 h9r).trans HH9.out) underlying51 rfl (by kernel_rfl)) ?_;refine Tyac ?_;refine lL (λw' ah =>RM (HX.out w' ah)) ?_;refine Tyai ?_;go_wp2_with fail;refine V7.out.mono ?_;rintro e w5 ⟨s',D1,p1,q1,D2,p2,q2,D3,p3,q3,D4,p4,q4,rfl,hN,E5,hci5,jw,ho5,gu⟩;have z5:Below wr.heap.size wr w5:=Below.ext (Below.refl _ wr).drew gu;have HH95:=bT z5 HH9 h9r;have HH05:=bT z5 HH0;have HH15:=bT z5 HH1;have s5:=z5.size;go_wp2_with fail;refine aD (z5) ?_;refine Tyan ?_;obtain ⟨w6,Bc⟩:=eX (w5.setRow b9 #[.slice D1 p1 q1,.slice D2 p2 q2,.slice D3 p3 q3,.slice D4 p4 q4]);have g6:w5.grownBy w6 (some b9):=by rw [Bc];exact aC _ _ _
   have HH96:=aA (show w6.heap[b9]? =some (.cells #[.slice D1 p1 q1,.slice D2 p2 q2,.slice D3 p3 q3,.slice D4 p4 q4] 51 (0,0)) by rw [Bc];exact setRow_heap _ _ _ _ _ _ HH95.out);have HH06:=gT g6 HH05;have HH16:=gT g6 HH15;have b6:Below w.heap.size w w6:=(Below.ext hb z5).grown g6 (by omega) (λb hb=>by cases hb;omega);have hM6:j7 (λb=>w.heap.size+2<=b/\b≠b9) w6 s' D1 p1 q1 D2 p2 q2 D3 p3 q3 D4 p4 q4:=by
    have m:∀b,b<w5.heap.size->(((w.heap.size+2<=b/\b≠b9)/\b<wr.heap.size)∨wr.drew.heap.size<=b)->w.heap.size+2<=b/\b≠b9:=λb hb h=>by
     have e:wr.drew.heap.size=wr.heap.size:=rfl;rw [e] at h;omega
    have h0:j7 (λb=>w.heap.size+2<=b/\b≠b9) w5 s' D1 p1 q1 D2 p2 q2 D3 p3 q3 D4 p4 q4:=⟨E5.1.mono m,E5.2.mono m,E5.3.mono m,E5.4.mono m⟩
    have kk:ae (λb=>w.heap.size+2<=b/\b≠b9) w5 w6:=λq hq h=>g6.block q hq (by have:=h.2;simp;omega)
    exact ⟨h0.1.keep kk,h0.2.keep kk,h0.3.keep kk,h0.4.keep kk⟩
   have HREP:=aA (HSN.out s' hN);clear E5 g6 gu;go_wp2_with (refine sR HH95 ?_)
   rw [<-Bc,gI];clear Bc;go_wp2;go_roundw;case rel=>exact ⟨k+1,s',D1,p1,q1,D2,p2,q2,D3,p3,q3,D4,p4,q4,by go_num,by omega,HH06,HH16,HH96,HREP,hM6,aA hci5,by omega,by omega,b6⟩
   case measure=>simp [intOf];omega
  ·obtain rfl:k=ln:=by omega
   have Cf:evs.take k=evs:=by rw [List.take_of_length_le (by have:=HL.out;omega)]
   rw [Cf] at Nu;have hrp:=Nu.out;have j8:=ra.pre hrp;go_wp2_with (first|(refine lD (t:=51) HH9 ?_)|(refine sR HH1 ?_))
   refine rC HH1 ?_;have g6:=aC wr (w.heap.size+1) #[.slice B1 m1 d1,.slice B2 m2 d2,.slice B3 m3 d3,.slice B4 m4 d4];have kk:ae (λb=>w.heap.size+2<=b/\b≠b9) wr (wr.setRow (w.heap.size+1) #[.slice B1 m1 d1,.slice B2 m2 d2,.slice B3 m3 d3,.slice B4 m4 d4]):=λq hq h=>g6.block q hq (by have:=h.1;simp;omega)
   have m:∀b,b<(wr.setRow (w.heap.size+1) #[.slice B1 m1 d1,.slice B2 m2 d2,.slice B3 m3 d3,.slice B4 m4 d4]).heap.size->(w.heap.size+2<=b/\b≠b9)->w.heap.size<=b:=λb _ h=>by omega
   have ki:=HL.out;refine ⟨s,B1,m1,d1,B2,m2,d2,B3,m3,d3,B4,m4,d4,rfl,⟨s0,HR0.out,hrp⟩,⟨(hM.1.keep kk).mono m,(hM.2.keep kk).mono m,(hM.3.keep kk).mono m,(hM.4.keep kk).mono m⟩,⟨En.out,by rw [j8.1.cells,HCE.out];omega,by rw [j8.2,HEV0.out];simp;omega,by omega,by omega⟩,by omega,by omega,hb.grown g6 (by omega) (λb hb=>by cases hb;omega)⟩
end Go.Proofs.YtiblijmngokcgaaGreatDoor
