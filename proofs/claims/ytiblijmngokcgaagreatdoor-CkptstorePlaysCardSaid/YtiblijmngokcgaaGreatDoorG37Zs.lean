import Derived.Test.YtiblijmngokcgaaGreatDoorG34Zs
import Derived.Test.YtiblijmngokcgaaGreatDoorRepZs
set_option linter.unusedVariables false
set_option linter.unusedSimpArgs false
set_option maxHeartbeats 8000000
set_option maxRecDepth 100000
namespace Go.Proofs.YtiblijmngokcgaaGreatDoor
open Go.Proofs.Tryz
open Go.RowKit
theorem PH:(Tryz.prog.info? 30).map (λi=>(i.zero,i.size,i.bytes))=some (some (.slice none 0 0),1,24):=by kernel_rfl
theorem OZ:(Tryz.prog.info? 48).map (λi=>(i.zero,i.size,i.bytes))=some (some (.slice none 0 0),1,24):=by kernel_rfl
theorem PG:(Tryz.prog.info? 49).map (λi=>(i.zero,i.size,i.bytes))=some (some (.slice none 0 0),1,24):=by kernel_rfl
theorem TK (A:Option Addr) (n c:Nat) (B:Option Addr) (m d:Nat) (w:World):(Instr.buildSlice 214 2 #[(0,.slice A n c),(1,.slice B m d)]).run Tryz.prog w= .ok (.slice (some ⟨w.heap.size,0,none⟩) 2 2) (w.alloc (.cells #[.slice A n c,.slice B m d] 30)):=by
 obtain ⟨i,hi,hz,ef,dy⟩:=info_parts PH;exact run_buildSlice w _ _ 2 _ _ i _ underlying214 hi hz (by rw [ef];omega) (by rw [ef];omega) (by rw [ef];kernel_rfl)
theorem TH (A:Option Addr) (n c:Nat) (B:Option Addr) (m d:Nat) (w:World):(Instr.buildSlice 216 2 #[(0,.slice A n c),(1,.slice B m d)]).run Tryz.prog w= .ok (.slice (some ⟨w.heap.size,0,none⟩) 2 2) (w.alloc (.cells #[.slice A n c,.slice B m d] 48)):=by
 obtain ⟨i,hi,hz,ef,dy⟩:=info_parts OZ;exact run_buildSlice w _ _ 2 _ _ i _ underlying216 hi hz (by rw [ef];omega) (by rw [ef];omega) (by rw [ef];kernel_rfl)
theorem TI (A:Option Addr) (n c:Nat) (B:Option Addr) (m d:Nat) (w:World):(Instr.buildSlice 218 2 #[(0,.slice A n c),(1,.slice B m d)]).run Tryz.prog w= .ok (.slice (some ⟨w.heap.size,0,none⟩) 2 2) (w.alloc (.cells #[.slice A n c,.slice B m d] 49)):=by
 obtain ⟨i,hi,hz,ef,dy⟩:=info_parts PG;exact run_buildSlice w _ _ 2 _ _ i _ underlying218 hi hz (by rw [ef];omega) (by rw [ef];omega) (by rw [ef];kernel_rfl)
theorem DB {S:Nat->Prop} {w:World} {v:Value} {ps:List Pg} (h:Dg S w v ps):Dg (·<w.heap.size) w v ps:=by
 exact Tzeu
def Mr (x:Except Nat bj):Option bj:=match x with| .ok s=>some s| .error _=>none
theorem AR {s:bj} {L:List UInt8} {k:Nat} (h:eF L 0= .error k):Mr (eP s L)=none:=by unfold eP;rw [h];rfl
theorem AQ {s:bj} {L:List UInt8} {ps:List Pg} {q:Nat} (h:eF L 0= .ok (ps,q)) (h2:cC L q=none):Mr (eP s L)=none:=by unfold eP;rw [h];dsimp only;rw [h2];rfl
theorem uD {s t:bj} {L:List UInt8} {ps:List Pg} {q k:Nat} (h:eF L 0= .ok (ps,q)) (h2:cC L q=some t) (h3:bO s.cells ps= .error k):Mr (eP s L)=none:=by unfold eP;rw [h];dsimp only;rw [h2];dsimp only;rw [h3];rfl
theorem AS {s t:bj} {L:List UInt8} {ps:List Pg} {q:Nat} {b:List Int} (h:eF L 0= .ok (ps,q)) (h2:cC L q=some t) (h3:bO s.cells ps= .ok b) (h4:t.cells≠ []):Mr (eP s L)=none:=by unfold eP;rw [h];dsimp only;rw [h2];dsimp only;rw [h3];dsimp only;rw [if_neg h4];rfl
theorem AT {s t:bj} {L:List UInt8} {ps:List Pg} {q:Nat} {b:List Int} (h:eF L 0= .ok (ps,q)) (h2:cC L q=some t) (h3:bO s.cells ps= .ok b) (h4:t.cells=[]):Mr (eP s L)=some ⟨b,s.evs++t.evs,s.sent++t.sent,s.outs++t.outs⟩:=by unfold eP;rw [h];dsimp only;rw [h2];dsimp only;rw [h3];dsimp only;rw [if_pos h4];rfl
theorem JE (s:bj) (A1:Option Addr) (n1 c1:Nat) (A2:Option Addr) (n2 c2:Nat) (A3:Option Addr) (n3 c3:Nat) (A4:Option Addr) (n4 c4:Nat) (S:Nat->Prop) (w:World) (hM:j7 S w s A1 n1 c1 A2 n2 c2 A3 n3 c3 A4 n4 c4) (hc:s.cells.length<=1000000000) (he:s.evs.length<=1000000000) (hs:s.sent.length<=1000000000) (ho:s.outs.length<=1000000000) (A:Option Addr) (n c:Nat) (L:List UInt8) (S' :Nat->Prop) (hv:Bytes S' w (.slice A n c) L) (hn:n<=4096):
 Calls Tryz.prog 76 #[.agg #[.slice A1 n1 c1,.slice A2 n2 c2,.slice A3 n3 c3,.slice A4 n4 c4],.slice A n c] w λe w' =>nF w.heap.size w' (Mr (eP s L)) e/\Below w.heap.size w w' :=by
 have yg:=hv.len.1;have Ff:=aA hM.1.len.1;have HM2:=aA hM.2.len.1;have HM3:=aA hM.3.len.1;have HM4:=aA hM.4.len.1;have n1b:n1<=1000000000:=by rw [<-Ff.out];exact hc
 have n2b:n2<=1000000000:=by rw [<-HM2.out];exact he
 have n3b:n3<=1000000000:=by rw [<-HM3.out];exact hs
 have n4b:n4<=1000000000:=by rw [<-HM4.out];exact ho
 obtain ⟨W,hW,aw,SW,R0,R1⟩:∃W,W=(w.alloc (.cells #[.slice A1 n1 c1,.slice A2 n2 c2,.slice A3 n3 c3,.slice A4 n4 c4] 51)).alloc (.cells #[.slice none 0 0,.slice none 0 0,.slice none 0 0,.slice none 0 0] 51)/\Below w.heap.size w W/\RowKit.Hid (W.heap.size=w.heap.size+2)/\
  RowKit.Hid (W.heap[w.heap.size]? =some (.cells #[.slice A1 n1 c1,.slice A2 n2 c2,.slice A3 n3 c3,.slice A4 n4 c4] 51 (0,0)))/\RowKit.Hid (W.heap[w.heap.size+1]? =some (.cells #[.slice none 0 0,.slice none 0 0,.slice none 0 0,.slice none 0 0] 51 (0,0))):=by
  refine ⟨_,rfl,((Below.refl _ w).alloc (Nat.le_refl _) _).alloc (by simp) _,aA (by simp),aA ?_,aA ?_⟩
  ·exact Tzap
  ·have:=heap_alloc_new (w.alloc (.cells #[.slice A1 n1 c1,.slice A2 n2 c2,.slice A3 n3 c3,.slice A4 n4 c4] 51)) (.cells #[.slice none 0 0,.slice none 0 0,.slice none 0 0,.slice none 0 0] 51);rw [World.size_alloc] at this;exact this
 have af:w.heap.size+1<W.heap.size:=by have:=SW.out;omega
 have wm:=hM.ext aw;have hvW:=hv.ext aw;have Eg:=wJ A n c 0 L S' W hvW (by omega);rw [show eK eF L 0=eF L 0 from rfl] at Eg;have Dm:=aA yg;clear yg hv hM hc he hs ho;go_enter func76,ntmps76;go_upto_region 1 with fail;rw [<-hW];clear hW;cases hr:eF L 0 with
 |error x=>
  have fa:((x:Int) != 0)=true:=by
   have:=zU L 0 x hr;simpa using this
  have an:=aA (AR (s:=s) hr);rw [hr] at Eg;unfold iE at Eg;dsimp only at Eg;have Ia:=aA Eg;clear Eg hr;go_wp2_with fail;refine Ia.out.mono ?_;rintro e w1 ⟨rfl,b1⟩;go_wp2;refine ⟨rfl,?_,Below.ext aw b1⟩;rw [an.out];rfl
 |ok pq=>
  obtain ⟨ps,q⟩:=pq;have Zp:q<=n:=by rw [<-Dm.out];exact (rK hr).hi
  rw [hr] at Eg;unfold iE at Eg;dsimp only at Eg;have Ia:=aA Eg;clear Eg;have HR:=aA hr;clear hr;go_wp2_with fail;refine Ia.out.mono ?_;rintro e w1 ⟨⟨vp,rfl,P,pc,rfl,hPO⟩,b1⟩;have hPG:=hPO.pgs;obtain ⟨np,Xp⟩:=eX ps.length;rw [<-Xp] at hPG ⊢;have al:=Below.ext aw b1;have lf:=aA (uN A n c L S' w1 (hvW.ext b1) (by omega) q Zp);clear hPO Xp;go_wp2_with fail;refine lf.out.mono ?_;rintro e w2 ⟨hg,b2⟩;have ar:=Below.ext al b2;cases hw:cC L q with
  |none=>
   rw [hw] at hg;have an:=aA (AQ (s:=s) HR.out hw);unfold nF at hg;dsimp only at hg;subst hg;clear hw;go_wp2;refine ⟨rfl,?_,ar⟩;rw [an.out];rfl
  |some t=>
   rw [hw] at hg;unfold nF at hg;dsimp only at hg;obtain ⟨E1,p1,q1,E2,p2,q2,E3,p3,q3,E4,p4,q4,rfl,hT⟩:=hg;obtain ⟨W3,ig,_,k3,S3,R3⟩:=bX w2 w2 #[.slice E1 p1 q1,.slice E2 p2 q2,.slice E3 p3 q3,.slice E4 p4 q4] 51 (Below.refl _ _);obtain ⟨bt,Lu⟩:=eX w2.heap.size;rw [<-Lu] at R3;have HBT:=aA Lu;have sb2:=ar.size;have sb1:=b1.size;have sb2' :=b2.size;have hbt3:bt<W3.heap.size:=by have:=S3.out;omega
   have hbtw:w.heap.size+1<bt:=by omega
   have mc:Below w1.heap.size w1 W3:=Below.ext b2 k3;have ea:=Below.ext ar k3;have y3:=Below.ext b1 mc;have I7:=bT y3 R0;have Fa:=bT y3 R1 af;have hT3:j7 (w1.heap.size<=·) W3 t E1 p1 q1 E2 p2 q2 E3 p3 q3 E4 p4 q4:=hT.ext k3;have Kr:=wm.ext y3;have hP3:=hPG.ext mc;have Wz:=aA hT.1.len;have YO:=aA hT.2.len;have HT3:=aA hT.3.len;have HT4:=aA hT.4.len;have q00:=bn I7.out;have Fx:=aA (AM A1 n1 c1 s.cells W3 (Kr.1.mono (λb h _=>h)) n1b P np pc ps (DB hP3));have HW:=aA hw;clear Lu hw hT hPG;go_upto_region 5 with (refine sN ?_)
   try dsimp only
   rw [<-ig,<-HBT.out];clear ig;refine Tyal ?_;go_wp2_with fail;refine Fx.out.mono ?_;rintro e w4 ⟨hg,b4⟩;have Iw:=bT b4 I7;have Df:=bT b4 Fa;have Qe:=bT b4 R3 hbt3;have ia:=Below.ext ea b4;have q40:=bn Qe.out;clear q00;cases fm:bO s.cells ps with
   |error k=>
    rw [fm] at hg;unfold Fh at hg;dsimp only at hg;obtain ⟨yi,rfl⟩:=hg;have dk:((k:Int) != 0)=true:=by simpa using yi
    have an:=aA (uD (s:=s) HR.out HW.out fm);clear fm yi;go_wp2;refine ⟨rfl,?_,ia⟩;rw [an.out];rfl
   |ok b=>
    rw [fm] at hg;unfold Fh at hg;dsimp only at hg;obtain ⟨D,dc,rfl,hD⟩:=hg;by_cases My:t.cells=[]
    ·obtain rfl:p1=0:=by have:=Wz.out.1;rw [My] at this;simpa using this.symm
     have an:=aA (AT (s:=s) HR.out HW.out fm My);have p2b:p2<=4096:=by
      have:=(jJ (by have:=Dm.out;omega) HW.out).e;have:=YO.out.1;omega
     have p3b:p3<=4096:=by
      have:=(jJ (by have:=Dm.out;omega) HW.out).sn;have:=HT3.out.1;omega
     have p4b:p4<=4096:=by
      have:=(jJ (by have:=Dm.out;omega) HW.out).o;have:=HT4.out.1;omega
     clear fm My;have Uv:=Kr.ext b4;have ZC:=hT3.ext b4;have Y0:bt<w4.heap.size:=by have:=b4.size;omega
     have hw14:w.heap.size+1<w4.heap.size:=by omega
     have hW34:W3.heap.size<=w4.heap.size:=b4.size;go_upto_region 8 with fail;try (go_wp2_with fail)
     refine nW false (λw' =>w'.heap[w.heap.size]? =some (.cells #[.slice A1 n1 c1,.slice A2 n2 c2,.slice A3 n3 c3,.slice A4 n4 c4] 51 (0,0))/\w'.heap[bt]? =some (.cells #[.slice E1 0 q1,.slice E2 p2 q2,.slice E3 p3 q3,.slice E4 p4 q4] 51 (0,0))) [45,51,57] ((λd=>bif d==45 then .cells #[.slice A2 n2 c2,.slice E2 p2 q2] 30 else bif d==51 then .cells #[.slice A3 n3 c3,.slice E3 p3 q3] 48 else .cells #[.slice A4 n4 c4,.slice E4 p4 q4] 49)) (λ_ X=> .slice (some ⟨X,0,none⟩) 2 2) (by kernel_rfl) (by kernel_rfl) (λ_ _ w' h=>⟨kT h.1 _,kT h.2 _⟩) (⟨Iw.out,Qe.out⟩) ?_;refine TkD ?_;have b0x:Below w4.heap.size w4 w4.drew:=(Below.refl _ w4).drew;have x0x:=Rj.none_ w4.heap.size (λd=>bif d==45 then .cells #[.slice A2 n2 c2,.slice E2 p2 q2] 30 else bif d==51 then .cells #[.slice A3 n3 c3,.slice E3 p3 q3] 48 else .cells #[.slice A4 n4 c4,.slice E4 p4 q4] 49) w4.drew;refine mW (⟨w.heap.size,1,none⟩) (.slice A2 n2 c2) rfl rfl rfl rfl (λw' ah =>aB (iD _) (aM ah.1 1 _ rfl)) ?_;refine Tybt ?_;refine mW (⟨bt,1,none⟩) (.slice E2 p2 q2) rfl rfl rfl rfl (λw' ah =>aB (iD _) (aM ah.2 1 _ rfl)) ?_;refine Tybt ?_;refine yO 45 rfl (⟨rfl,λw' =>sS rfl (by rw [List.map_toArray];rfl) (TK _ _ _ _ _ _ w')⟩) (λma0 va0 X0 ZG Ya=> ?_);refine Tybt ?_;refine sV rfl rfl (λmb0 vb0 hB0=> ?_);go_wp2_with fail;have hE0:=ZG.trans hB0;have xb0:=hE0.bxs x0x b0x.size;have yb0:Below w4.heap.size w4 vb0:=Below.ext b0x hE0.bel;have hY0:=hB0.keeps Ya;have rX0:=(xb0 45 X0 hY0).2;refine (PU X0 A2 E2 n2 c2 p2 q2 s.evs t.evs _ _ vb0 (aM rX0 0 _ rfl) (aM rX0 1 _ rfl) (Uv.2.ext yb0) (ZC.2.ext yb0) (by omega)).mono ?_;rintro e vc0 ⟨F2,r2,rfl,O2,bc0⟩;have yc0:=Below.ext yb0 bc0;have xc0:=xb0.ext bc0;have PA0:=bT yc0 Iw;have PB0:=bT yc0 Qe Y0;go_wp2_with fail;refine oC (⟨PA0.out,PB0.out⟩) ?_;refine TkD ?_;refine mW (⟨w.heap.size,2,none⟩) (.slice A3 n3 c3) rfl rfl rfl rfl (λw' ah =>aB (jA _) (aM ah.1 2 _ rfl)) ?_;refine Tybt ?_;refine mW (⟨bt,2,none⟩) (.slice E3 p3 q3) rfl rfl rfl rfl (λw' ah =>aB (jA _) (aM ah.2 2 _ rfl)) ?_;refine Tybt ?_;refine yO 51 rfl (⟨rfl,λw' =>sS rfl (by rw [List.map_toArray];rfl) (TH _ _ _ _ _ _ w')⟩) (λma1 va1 X1 hA1 hX1=> ?_);refine Tybt ?_;refine sV rfl rfl (λmb1 vb1 Pl=> ?_);go_wp2_with fail;have Ew:=hA1.trans Pl;have xb1:=Ew.bxs xc0 yc0.size;have yb1:Below w4.heap.size w4 vb1:=Below.ext yc0 Ew.bel;have hY1:=Pl.keeps hX1;have rX1:=(xb1 51 X1 hY1).2;refine (PS X1 A3 E3 n3 c3 p3 q3 s.sent t.sent _ _ vb1 (aM rX1 0 _ rfl) (aM rX1 1 _ rfl) (Uv.3.ext yb1) (ZC.3.ext yb1) (by omega)).mono ?_;rintro e vc1 ⟨F3,r3,rfl,O3,bc1⟩;have yc1:=Below.ext yb1 bc1;have xc1:=xb1.ext bc1;have PA1:=bT yc1 Iw;have PB1:=bT yc1 Qe Y0;go_wp2_with fail;refine oC (⟨PA1.out,PB1.out⟩) ?_;refine TkD ?_;refine mW (⟨w.heap.size,3,none⟩) (.slice A4 n4 c4) rfl rfl rfl rfl (λw' ah =>aB (jB _) (aM ah.1 3 _ rfl)) ?_;refine Tybt ?_;refine mW (⟨bt,3,none⟩) (.slice E4 p4 q4) rfl rfl rfl rfl (λw' ah =>aB (jB _) (aM ah.2 3 _ rfl)) ?_;refine Tybt ?_;refine yO 57 rfl (⟨rfl,λw' =>sS rfl (by rw [List.map_toArray];rfl) (TI _ _ _ _ _ _ w')⟩) (λma2 va2 X2 Yq N6=> ?_);refine Tybt ?_;refine sV rfl rfl (λmb2 vb2 UB=> ?_);go_wp2_with fail;have Mc:=Yq.trans UB;have xb2:=Mc.bxs xc1 yc1.size;have yb2:Below w4.heap.size w4 vb2:=Below.ext yc1 Mc.bel;have hY2:=UB.keeps N6;have rX2:=(xb2 57 X2 hY2).2;refine (PT X2 A4 E4 n4 c4 p4 q4 s.outs t.outs _ _ vb2 (aM rX2 0 _ rfl) (aM rX2 1 _ rfl) (Uv.4.ext yb2) (ZC.4.ext yb2) (by omega)).mono ?_;rintro e WO ⟨F4,r4,rfl,O4,bc2⟩;have Rk:=Below.ext yb2 bc2;have xc2:=xb2.ext bc2;have PA2:=bT Rk Iw;have PB2:=bT Rk Qe Y0;go_wp2_with fail;refine oC (⟨PA2.out,PB2.out⟩) ?_;refine TkD ?_;have kk0:=Mc.keeps (Ew.keeps hY0);have kk1:=Mc.keeps hY1;refine EV rfl rfl (by simp [kk0,kk1,hY2]) ?_;go_wp2_with fail;refine oC (⟨PA2.out,PB2.out⟩) ?_;refine TkD ?_;have R1z:=bT Rk Df hw14;refine EV rfl rfl (by simp [kk0,kk1,hY2]) ?_;refine sR R1z ?_;go_wp2_with fail;refine oC (⟨(setRow_other _ _ _ _ (by omega)).trans PA2.out,(setRow_other _ _ _ _ (by omega)).trans PB2.out⟩) ?_;refine TkD ?_;refine OS ?_;go_wp2;refine rC R1z ?_;rw [an.out];have gE:=aC WO (w.heap.size+1) #[.slice D n1 dc,.slice F2 (n2+p2) r2,.slice F3 (n3+p3) r3,.slice F4 (n4+p4) r4];have kE:ae (λb=>w.heap.size+2<=b) WO (WO.setRow (w.heap.size+1) #[.slice D n1 dc,.slice F2 (n2+p2) r2,.slice F3 (n3+p3) r3,.slice F4 (n4+p4) r4]):=λb hb hs=>gE.block b hb (by simp;omega)
     have hs0:=yb0.size;have iz:=yb1.size;have Ds:=yb2.size;have O2z:a7 cH (λb=>w.heap.size+2<=b) WO (.slice F2 (n2+p2) r2) (s.evs++t.evs):=(((O2.recs.mono (S' :=λb=>w.heap.size+2<=b) (λb _ h=>by have:=h.1;omega)).ext Ew.bel).ext bc1 |>.ext Mc.bel).ext bc2;have O3z:a7 cW (λb=>w.heap.size+2<=b) WO (.slice F3 (n3+p3) r3) (s.sent++t.sent):=((O3.recs.mono (S' :=λb=>w.heap.size+2<=b) (λb _ h=>by have:=h.1;omega)).ext Mc.bel).ext bc2;have O4z:a7 cX (λb=>w.heap.size+2<=b) WO (.slice F4 (n4+p4) r4) (s.outs++t.outs):=O4.recs.mono (S' :=λb=>w.heap.size+2<=b) (λb _ h=>by have:=h.1;omega);have O1z:a7 bB (λb=>w.heap.size+2<=b) WO (.slice D n1 dc) b:=(hD.recs.mono (S' :=λb=>w.heap.size+2<=b) (λb _ h=>by have:=h.1;omega)).ext Rk;refine ⟨⟨D,_,dc,F2,_,r2,F3,_,r3,F4,_,r4,rfl,⟨(O1z.keep kE).mono (λb _ h=>by omega),(O2z.keep kE).mono (λb _ h=>by omega),(O3z.keep kE).mono (λb _ h=>by omega),(O4z.keep kE).mono (λb _ h=>by omega)⟩⟩,(Below.ext ia Rk).grown gE (Below.ext ia Rk).size (λo e=>by cases e;omega)⟩
    ·have Ki:0<p1:=by
      have:=Wz.out.1;rcases t with ⟨_|⟨z,l⟩,_⟩
      ·exact absurd rfl My
      ·simp at this;omega
     have an:=aA (AS (s:=s) HR.out HW.out fm My);have dp:decide (0<p1)=true:=by simpa using Ki
     clear fm My;go_wp2;refine ⟨rfl,?_,ia⟩;rw [an.out];rfl
theorem IR (bb:Nat) (A:Option Addr) (n c:Nat) (L:List UInt8) (S:Nat->Prop) (w:World) (hr:w.heap[bb]? =some (.cells #[.slice A n c] 22 (0,0))) (hv:Bytes S w (.slice A n c) L) (hn:n<=100000000):
 Calls Tryz.prog 73 #[.pointer (some ⟨bb,0,none⟩)] w λe w' =>nF w.heap.size w' (cC L 0) e/\Below w.heap.size w w' :=by
 obtain ⟨W,hW,bW,kW,SW,R0⟩:=bX w w #[.slice none 0 0,.slice none 0 0,.slice none 0 0,.slice none 0 0] 51 (Below.refl _ _);have fe:bb<w.heap.size:=(Array.getElem?_eq_some_iff.1 hr).1;have af:w.heap.size<W.heap.size:=by have:=SW.out;omega
 have qb:=bn ((bW.block bb fe).trans hr);have lf:=aA (uN A n c L S W (hv.ext bW) hn 0 (by omega));clear hr hv;go_enter func73,ntmps73;go_upto_region 1 with fail;rw [<-hW];clear hW;go_wp2_with fail;refine lf.out.mono ?_;rintro e w1 ⟨hg,b1⟩;have R1:=bT b1 R0 af;have al:=Below.ext bW b1;have hb1s:=al.size;have HL:=aA (λ(x:Option bj) (h:x=cC L 0)=>h);cases hw:cC L 0 with
 |none=>
  rw [hw] at hg;unfold nF at hg;dsimp only at hg;subst hg;have an:=aA hw;clear hw HL;go_wp2;refine ⟨rfl,?_,al⟩;rw [an.out];rfl
 |some s=>
  rw [hw] at hg;unfold nF at hg;dsimp only at hg;obtain ⟨E1,p1,q1,E2,p2,q2,E3,p3,q3,E4,p4,q4,rfl,hT⟩:=hg;have an:=aA hw;clear hw HL;exact Tzb0
theorem IQ (bs bb:Nat) (s0:bj) (A1:Option Addr) (n1 c1:Nat) (A2:Option Addr) (n2 c2:Nat) (A3:Option Addr) (n3 c3:Nat) (A4:Option Addr) (n4 c4:Nat) (Ss:Nat->Prop) (A:Option Addr) (n c:Nat) (L:List UInt8) (S:Nat->Prop) (w:World) (Xk:w.heap[bs]? =some (.cells #[.slice A1 n1 c1,.slice A2 n2 c2,.slice A3 n3 c3,.slice A4 n4 c4] 51 (0,0))) (hr:w.heap[bb]? =some (.cells #[.slice A n c] 22 (0,0))) (hM:j7 Ss w s0 A1 n1 c1 A2 n2 c2 A3 n3 c3 A4 n4 c4) (hc:s0.cells.length<=1000000000) (he:s0.evs.length<=1000000000) (hs:s0.sent.length<=1000000000) (ho:s0.outs.length<=1000000000) (hv:Bytes S w (.slice A n c) L) (hn:n<=4096):
 Calls Tryz.prog 75 #[.pointer (some ⟨bs,0,none⟩),.pointer (some ⟨bb,0,none⟩)] w λe w' =>nF w.heap.size w' (Mr (eP s0 L)) e/\Below w.heap.size w w' :=by
 obtain ⟨W,hW,bW,kW,SW,R0⟩:=bX w w #[.slice none 0 0,.slice none 0 0,.slice none 0 0,.slice none 0 0] 51 (Below.refl _ _);have fe:bb<w.heap.size:=(Array.getElem?_eq_some_iff.1 hr).1;have vg:bs<w.heap.size:=(Array.getElem?_eq_some_iff.1 Xk).1;have af:w.heap.size<W.heap.size:=by have:=SW.out;omega
 have qb:=bn ((bW.block bb fe).trans hr);have RS:=aA ((bW.block bs vg).trans Xk);have lf:=aA (JE s0 A1 n1 c1 A2 n2 c2 A3 n3 c3 A4 n4 c4 Ss W (hM.ext bW) hc he hs ho A n c L S (hv.ext bW) hn);clear hr hv Xk hM hc he hs ho;go_enter func75,ntmps75;go_upto_region 1 with fail;rw [<-hW];clear hW;go_wp2_with (refine lD (t:=51) RS ?_)
 refine lf.out.mono ?_;rintro e w1 ⟨hg,b1⟩;have R1:=bT b1 R0 af;have al:=Below.ext bW b1;have hb1s:=al.size;cases hw:Mr (eP s0 L) with
 |none=>
  rw [hw] at hg;unfold nF at hg;dsimp only at hg;subst hg;have an:=aA hw;clear hw;go_wp2;refine ⟨rfl,?_,al⟩;rw [an.out];rfl
 |some s=>
  rw [hw] at hg;unfold nF at hg;dsimp only at hg;obtain ⟨E1,p1,q1,E2,p2,q2,E3,p3,q3,E4,p4,q4,rfl,hT⟩:=hg;have an:=aA hw;clear hw;exact Tzb0
def Dh (base:Nat) (w' :World) (x:Except Nat bj) (e:Ending):Prop:=
 match x with
 | .ok s=>∃E1 p1 q1 E2 p2 q2 E3 p3 q3 E4 p4 q4,e= .returned (.tuple #[.agg #[.slice E1 p1 q1,.slice E2 p2 q2,.slice E3 p3 q3,.slice E4 p4 q4],.int .i64 0])/\j7 (base<=·) w' s E1 p1 q1 E2 p2 q2 E3 p3 q3 E4 p4 q4
 | .error k=>k≠0/\e= .returned (.tuple #[.agg #[.slice none 0 0,.slice none 0 0,.slice none 0 0,.slice none 0 0],.int .i64 (k:Int)])
theorem oI {s:bj} {b:List UInt8} (h:Mr (eP s b)=none):eP s b= .error 9:=by
 unfold eP at*;split at h
 ·rfl
 ·split at h
  ·rfl
  ·split at h
   ·rfl
   ·split at h
    ·cases h
    ·rename_i hn;rw [if_neg hn]
theorem AB {x:Except Nat bj} {s:bj} (h:Mr x=some s):x= .ok s:=by
 cases x with
 |ok t=>cases h;rfl
 |error e=>cases h
theorem vB {b:List UInt8} {x:Nat} (h:cA b= .error x):eO b= .err x:=by unfold eO;rw [h]
theorem uZ {b:List UInt8} {g:Hd} {q:Nat} (h:cA b= .ok (g,q)) (he:(bL b q).2.2≠0):eO b= .err (bL b q).2.2:=by unfold eO;rw [h];dsimp only;rw [if_neg he]
theorem xF {b:List UInt8} {g:Hd} {q:Nat} (h:cA b= .ok (g,q)) (he:(bL b q).2.2=0) (hn:(bL b q).2.1≠b.length):eO b= .err 9:=by unfold eO;rw [h];dsimp only;rw [if_pos he,if_neg hn]
theorem DF {b:List UInt8} {g:Hd} {q:Nat} (h:cA b= .ok (g,q)) (he:(bL b q).2.2=0) (hn:(bL b q).2.1=b.length) (hk:g.kind=1):eO b=(match cC (bL b q).1 0 with|some s=> .full s|none=> .err 9):=by unfold eO;rw [h];dsimp only;rw [if_pos he,if_pos hn,if_pos hk];cases cC (bL b q).1 0<;>rfl
theorem DE {b:List UInt8} {g:Hd} {q:Nat} (h:cA b= .ok (g,q)) (he:(bL b q).2.2=0) (hn:(bL b q).2.1=b.length) (hk:g.kind≠1):eO b= .inc g (bL b q).1:=by unfold eO;rw [h];dsimp only;rw [if_pos he,if_pos hn,if_neg hk]
def L3 (fs:List au) (k:Int) (R:Int->Except Nat bj->Prop) (r:Except Nat bj):Prop:=
 match eO (bV fs k) with
 | .err e=>r= .error e
 | .full s=>r= .ok s
 | .inc h body=>((∀g q,cA (bV fs h.base)= .ok (g,q)->g.stamp≠h.under)/\r= .error 11)∨∃g q r0,cA (bV fs h.base)= .ok (g,q)/\g.stamp=h.under/\R h.base r0/\r=(match r0 with| .error _=> .error 11| .ok s=>eP s body)
def LdR (fs:List au) (k:Int) (r:Except Nat bj):Prop:=(∀s,r= .ok s->s.cells.length<=1000000000/\s.evs.length<=1000000000/\s.sent.length<=1000000000/\s.outs.length<=1000000000)/\∀(A:Option Addr) (n c:Nat) (S:Nat->Prop) (w:World),fh S w (.slice A n c) fs->n<=1000->Calls Tryz.prog 30 #[.agg #[.slice A n c],.int .i64 k] w λe w' =>Dh w.heap.size w' r e/\Below w.heap.size w w'
theorem oE (fs:List au) (hf:eD fs) (k:Int) (r:Except Nat bj) (hv:L3 fs k (LdR fs) r) (A:Option Addr) (n c:Nat) (S:Nat->Prop) (w:World) (hD:fh S w (.slice A n c) fs) (hn:n<=1000):
 Calls Tryz.prog 30 #[.agg #[.slice A n c],.int .i64 k] w λe w' =>Dh w.heap.size w' r e/\Below w.heap.size w w' :=by
 have hmf:∀(fn:Fn) (first cap:Array Value) (w:World),(Instr.makeFunc fn first cap).run Tryz.prog w= .ok (.func fn first cap) w:=λ_ _ _ _=>rfl
 obtain ⟨W,hW,aw,SW,R0,R1⟩:∃W,W=(w.alloc (.cells #[.slice A n c] 36)).alloc (.cells #[.slice none 0 0,.slice none 0 0,.slice none 0 0,.slice none 0 0] 51)/\Below w.heap.size w W/\RowKit.Hid (W.heap.size=w.heap.size+2)/\
  RowKit.Hid (W.heap[w.heap.size]? =some (.cells #[.slice A n c] 36 (0,0)))/\RowKit.Hid (W.heap[w.heap.size+1]? =some (.cells #[.slice none 0 0,.slice none 0 0,.slice none 0 0,.slice none 0 0] 51 (0,0))):=by
  refine ⟨_,rfl,((Below.refl _ w).alloc (Nat.le_refl _) _).alloc (by simp) _,aA (by simp),aA ?_,aA ?_⟩
  ·exact Tzap
  ·exact Tzeb
 have af:w.heap.size+1<W.heap.size:=by have:=SW.out;omega
 have pj:=kG A n c fs S W (hD.ext aw) hn k hf;have HDW:=aA (hD.ext aw);have HF:=aA hf;have hLl:=jS hf k;unfold L3 at hv;obtain ⟨L,hL⟩:=eX (bV fs k);rw [<-hL] at pj hv hLl;have Tc:=aA pj;have HV:=aA hv;clear pj hv hD hf hL;go_enter func30,ntmps30;go_upto_region 1 with fail;rw [<-hW];clear hW;go_wp2_with (refine lD (t:=36) R0 ?_)
 refine Tc.out.mono ?_;rintro e w1 ⟨h,V,q,x,rfl,Lv,b1⟩;have s1:=b1.size;obtain ⟨W2,fv,kh,Sh,bh,Lw,Rh,L7,lh,_⟩:=bE w1 #[.int .i64 h.kind,.int .i64 h.stamp,.int .i64 h.base,.int .i64 h.under] 90;have y2:=Below.ext b1 kh;have rj:=bT y2 R0;have uz:=bT y2 R1 af;have ar:=Below.ext aw y2;have Up:w.heap.size+1<bh:=by omega
 have wo:=HDW.out.ext y2;clear Lw;rcases Lv with ⟨p,oi,rfl,rfl,hyV⟩|⟨oi,fa,rfl,rfl,rfl⟩
 case inr=>
  have dx:((x:Int) != 0)=true:=by simpa using fa
  have an:=aA (show r= .error x by have:=HV.out;rw [vB oi] at this;exact this);have Va:=aA fa;clear oi fa;go_upto_region 2 with (refine sN ?_)
  try dsimp only
  rw [<-fv,<-L7.out];clear fv;refine Tyal ?_;go_wp2_with (refine sR uz ?_)
  refine rT uz ?_;rw [an.out];exact ⟨⟨Va.out,rfl⟩,ar.grown (aC _ _ _) ar.size (λo e=>by cases e;omega)⟩
 obtain ⟨A1,c1,rfl,Om,Ol,hyV'⟩:=hyV;obtain ⟨m1,jh⟩:=eX L.length;rw [<-jh] at Om hLl ⊢;have hyL:Bytes _ w1 (.slice A1 m1 c1) L:=⟨A1,c1,by rw [jh],by omega,Ol,hyV'⟩
 have Lj:=xV (.slice A1 m1 c1) L _ W2 (q:Int) (hyL.ext kh) (by omega);obtain ⟨Bd,q2,er,hN⟩:∃Bd q2 er,bL L (q:Int)=(Bd,q2,er):=⟨_,_,_,rfl⟩
 have Yp:Bd.length<=4096:=by have:=kY L (q:Int);rw [hN] at this;exact this
 rw [hN] at Lj;dsimp only at Lj;have HNX:=aA Lj;have HN:=aA hN;have Vi:=aA oi;have Ff:=aA jh;clear Lj hN oi hyL hyV' Om Ol jh;go_upto_region 2 with (refine sN ?_)
 try dsimp only
 rw [<-fv,<-L7.out];clear fv;refine Tyal ?_;go_wp2_with fail;refine HNX.out.mono ?_;rintro e w3 ⟨V2,rfl,Mu,b3⟩;have s3:=b3.size;obtain ⟨A2,c2,rfl,Cy,Cx,Gd⟩:=Mu;obtain ⟨m2,pg⟩:=eX Bd.length;rw [<-pg] at Cy Yp ⊢;have Vy:Bytes _ w3 (.slice A2 m2 c2) Bd:=⟨A2,c2,by rw [pg],by omega,Cx,Gd⟩
 clear pg Gd Cy Cx;obtain ⟨W4,ng,kd,Sd,bd,ll,Rd,WE,ld,_⟩:=bE w3 #[.slice A2 m2 c2] 22;have Co:=Below.ext b3 kd;have Iw:=bT Co rj;have Df:=bT Co uz;have ZS:=bT Co Rh lh;have ia:=Below.ext ar Co;have hb4s:=ia.size;have Vx:=Vy.ext kd;have uv:=wo.ext Co;have hbd2:bh<bd:=by omega
 have q40:=bn ZS.out;have q42:=gn ZS.out;clear ll wo Vy;by_cases Cj:er=0;case neg=>
  have dx:((er:Int) != 0)=true:=by simpa using Cj
  have an:=aA (show r= .error er by have:=HV.out;have hq:=uZ Vi.out (by rw [HN.out];exact Cj);rw [hq,HN.out] at this;exact this);have Va:=aA Cj;clear Cj;go_upto_region 5 with (refine sN ?_)
  try dsimp only
  rw [<-ng,<-WE.out];clear ng;refine Tyal ?_;exact Tzes
 subst Cj;by_cases Fm:q2=m1;case neg=>
  have dq:((q2:Int) != (m1:Int))=true:=by simp;omega
  have an:=aA (show r= .error 9 by have:=HV.out;have hq:=xF Vi.out (by rw [HN.out]) (by rw [HN.out,<-Ff.out];exact Fm);rw [hq] at this;exact this);clear Fm;go_upto_region 5 with (refine sN ?_)
  try dsimp only
  rw [<-ng,<-WE.out];clear ng;refine Tyal ?_;exact Tzer
 have dq:((q2:Int) != (m1:Int))=false:=by simp [Fm]
 have HQ2:=aA Fm;clear Fm;by_cases iq:h.kind=1
 ·have dk:(h.kind==1)=true:=by simpa using iq
  have uo:=DF Vi.out (by rw [HN.out]) (by rw [HN.out,<-Ff.out];exact HQ2.out) iq;rw [HN.out] at uo;dsimp only at uo;have qs:=HV.out;rw [uo] at qs;have HFT:=aA (tM 73 #[.pointer (some ⟨bd,0,none⟩)] (cC Bd 0) W4 (by intro w;rfl) (λw' gv =>IR bd A2 m2 c2 Bd _ w' ((gv.block bd ld).trans Rd.out) (Vx.ext gv) (by omega)));clear uo iq;go_upto_region 5 with (refine sN ?_)
  try dsimp only
  rw [<-ng,<-WE.out];clear ng;refine Tyal ?_;go_wp2_with fail;refine HFT.out.mono ?_;rintro e w5 ⟨yj,b5⟩;have Cm:=bT b5 Df;have gu:=Below.ext ia b5;have hb5s:=b5.size;unfold NG at yj;cases hw:cC Bd 0 with
  |none=>
   rw [hw] at qs yj;dsimp only at qs yj;subst yj;have an:=aA qs;clear qs hw;go_wp2_with (refine sR Cm ?_)
   refine rT Cm ?_;rw [an.out];exact ⟨⟨by omega,rfl⟩,gu.grown (aC _ _ _) gu.size (λo e=>by cases e;omega)⟩
  |some s=>
   rw [hw] at qs yj;dsimp only at qs yj;obtain ⟨E1,p1,q1,E2,p2,WU,E3,p3,q3,E4,p4,q4,rfl,hT⟩:=yj;have an:=aA qs;clear qs hw;go_wp2_with (refine sR Cm ?_)
   refine rT Cm ?_;rw [an.out];have gE:=aC w5 (w.heap.size+1) #[.slice E1 p1 q1,.slice E2 p2 WU,.slice E3 p3 q3,.slice E4 p4 q4];have kE:ae (λb=>W4.heap.size<=b) w5 (w5.setRow (w.heap.size+1) #[.slice E1 p1 q1,.slice E2 p2 WU,.slice E3 p3 q3,.slice E4 p4 q4]):=λb hb hs=>gE.block b hb (by simp;omega)
   exact ⟨⟨E1,_,q1,E2,_,WU,E3,_,q3,E4,_,q4,rfl,⟨(hT.1.keep kE).mono (λb _ h=>by omega),(hT.2.keep kE).mono (λb _ h=>by omega),(hT.3.keep kE).mono (λb _ h=>by omega),(hT.4.keep kE).mono (λb _ h=>by omega)⟩⟩,gu.grown gE gu.size (λo e=>by cases e;omega)⟩
 ·have dk:(h.kind==1)=false:=by simpa using iq
  have uo:=DE Vi.out (by rw [HN.out]) (by rw [HN.out,<-Ff.out];exact HQ2.out) iq;rw [HN.out] at uo;dsimp only at uo;have qs:=HV.out;rw [uo] at qs;dsimp only at qs;have rb:=aA qs;have HBU:=aA (kG A n c fs S W4 uv hn h.base HF.out);clear uo iq qs;go_upto_region 5 with (refine sN ?_)
  try dsimp only
  rw [<-ng,<-WE.out];clear ng;refine Tyal ?_;go_wp2_with (refine lD (t:=36) Iw ?_)
  refine HBU.out.mono ?_;rintro e w5 ⟨g,Vg,qg,xg,rfl,Lv,b5⟩;have s5:=b5.size;obtain ⟨W6,Jn,kg,Sg,bg,pj,Rg,zq,lg,_⟩:=bE w5 #[.int .i64 g.kind,.int .i64 g.stamp,.int .i64 g.base,.int .i64 g.under] 90;have Ie:=Below.ext b5 kg;have ZY:=bT Ie Iw;have Qf:=bT Ie Df;have UQ:=bT Ie ZS;have Rd6:=bT Ie Rd ld;have il:=Below.ext ia Ie;have hb6s:=Ie.size;have hbg2:bd<bg:=by omega
  have g61:=fi Rg.out;have g63:=lj UQ.out;have g62:=gn UQ.out;have Ho:=uv.ext Ie;have X9:=Vx.ext Ie;clear pj q40 q42 uv Vx;rcases Lv with ⟨p,oi,rfl,rfl,_⟩|⟨oi,fa,rfl,rfl,rfl⟩
  case inr=>
   have dx:((xg:Int) != 0)=true:=by simpa using fa
   have an:=aA (show r= .error 11 by
    rcases rb.out with ⟨_,h2⟩|⟨g',q',r0,h2,_⟩
    ·exact h2
    ·rw [oi] at h2;cases h2)
   clear oi fa;exact Tze2
  by_cases en:g.stamp=h.under;case neg=>
   have ds:(g.stamp != h.under)=true:=by simpa using en
   have an:=aA (show r= .error 11 by
    rcases rb.out with ⟨_,h2⟩|⟨g',q',r0,h2,h3,_⟩
    ·exact h2
    ·rw [oi] at h2;cases h2;exact absurd h3 en)
   clear oi en;exact Tze2
  have ds:(g.stamp != h.under)=false:=by simpa using en
  obtain ⟨r0,⟨ef,Gx⟩,tv⟩:∃r0,LdR fs h.base r0/\r=(match r0 with| .error _=> .error 11| .ok s=>eP s Bd):=by
   rcases rb.out with ⟨h2,_⟩|⟨g',q',r0,h2,_,h3,h4⟩
   ·exact absurd en (h2 g qg oi)
   ·exact ⟨r0,h3,h4⟩
  have HCA:=aA (Gx A n c S W6 Ho hn);have Fw:=aA ef;have Ax:=aA tv;clear oi en Gx ef tv;go_upto_region 12 with (refine sN ?_)
  try dsimp only
  rw [<-Jn,<-zq.out];clear Jn;refine Tyal ?_;go_wp2_with (refine lD (t:=36) ZY ?_)
  refine HCA.out.mono ?_;rintro e w7 ⟨gd,b7⟩;have s7:=b7.size;have YE:=bT b7 Qf;have vj:=Below.ext il b7;unfold Dh at gd;cases r0 with
  |error e0=>
   dsimp only at gd;obtain ⟨Jg,rfl⟩:=gd;have dx:((e0:Int) != 0)=true:=by simpa using Jg
   have an:=Ax;dsimp only at an;obtain ⟨W8,sw,ks,Ss,bs,vg,Rs,Jw,ls,_⟩:=bE w7 #[.slice none 0 0,.slice none 0 0,.slice none 0 0,.slice none 0 0] 51;have Mj:=bT ks YE;have Bl:=Below.ext vj ks;clear vg;go_upto_region 15 with (refine sN ?_)
   try dsimp only
   rw [<-sw,<-Jw.out];clear sw;exact Tzed
  |ok s0=>
   dsimp only at gd;obtain ⟨G1,u1,v1,G2,u2,v2,G3,u3,v3,G4,u4,v4,rfl,hU⟩:=gd;have Dn:=Ax;dsimp only at Dn;obtain ⟨W8,sw,ks,Ss,bs,vg,Rs,Jw,ls,_⟩:=bE w7 #[.slice G1 u1 v1,.slice G2 u2 v2,.slice G3 u3 v3,.slice G4 u4 v4] 51;have Zd:=Below.ext b7 ks;have Mj:=bT ks YE;have Rd8:=bT Zd Rd6;have Bl:=Below.ext vj ks;have hb8s:=Zd.size;have Yc:=hU.ext ks;have hy8:=X9.ext Zd;have hz:=Fw.out s0 rfl;have HFT:=aA (tM 75 #[.pointer (some ⟨bs,0,none⟩),.pointer (some ⟨bd,0,none⟩)] (Mr (eP s0 Bd)) W8 (by intro w;rfl) (λw' gv =>IQ bs bd s0 G1 u1 v1 G2 u2 v2 G3 u3 v3 G4 u4 v4 _ A2 m2 c2 Bd _ w' ((gv.block bs ls).trans Rs.out) ((gv.block bd (by omega)).trans Rd8.out) (Yc.ext gv) hz.1 hz.2.1 hz.2.2.1 hz.2.2.2 (hy8.ext gv) (by omega)));clear vg hz;go_upto_region 15 with (refine sN ?_)
   try dsimp only
   rw [<-sw,<-Jw.out];clear sw;refine Tyal ?_;go_wp2_with fail;refine HFT.out.mono ?_;rintro e w9 ⟨yj,b9⟩;have Fu:=bT b9 Mj;have gf:=Below.ext Bl b9;have hb9s:=b9.size;unfold NG at yj;cases hw:Mr (eP s0 Bd) with
   |none=>
    rw [hw] at yj;dsimp only at yj;subst yj;have an:=aA (Dn.out.trans (oI hw));clear hw;exact Tzej
   |some s=>
    rw [hw] at yj;dsimp only at yj;obtain ⟨E1,p1,q1,E2,p2,WU,E3,p3,q3,E4,p4,q4,rfl,hT⟩:=yj;have an:=aA (Dn.out.trans (AB hw));clear hw;go_wp2_with (refine sR Fu ?_)
    refine rT Fu ?_;rw [an.out];have gE:=aC w9 (w.heap.size+1) #[.slice E1 p1 q1,.slice E2 p2 WU,.slice E3 p3 q3,.slice E4 p4 q4];have kE:ae (λb=>W8.heap.size<=b) w9 (w9.setRow (w.heap.size+1) #[.slice E1 p1 q1,.slice E2 p2 WU,.slice E3 p3 q3,.slice E4 p4 q4]):=λb hb hs=>gE.block b hb (by simp;omega)
    exact ⟨⟨E1,_,q1,E2,_,WU,E3,_,q3,E4,_,q4,rfl,⟨(hT.1.keep kE).mono (λb _ h=>by omega),(hT.2.keep kE).mono (λb _ h=>by omega),(hT.3.keep kE).mono (λb _ h=>by omega),(hT.4.keep kE).mono (λb _ h=>by omega)⟩⟩,gf.grown gE gf.size (λo e=>by cases e;omega)⟩
theorem iT (fs:List au) (hf:eD fs) (m:Nat) (k:Int) (r:Except Nat bj) (h:bm fs m k r):m<=100000->LdR fs k r:=by
 induction h with
 |err h1=>exact λ_=>⟨λs hs=>(by cases hs),oE fs hf _ _ (by unfold L3;rw [h1])⟩
 |full h1=>
  exact λ_=>⟨λs hs=>(by
   cases hs;have h2:=bm.sz (.full (n:=0) h1);have:=h2.c;have:=h2.e;have:=h2.sn;have:=h2.o;omega),oE fs hf _ _ (by unfold L3;rw [h1])⟩
 |lost h1 h2=>exact λ_=>⟨λs hs=>(by cases hs),oE fs hf _ _ (by unfold L3;rw [h1];exact .inl ⟨h2,rfl⟩)⟩
 |under h1 h2 h3 h4 ih=>exact λhm=>⟨λs hs=>(by cases hs),oE fs hf _ _ (by unfold L3;rw [h1];exact .inr ⟨_,_,_,h2,h3,ih (by omega),rfl⟩)⟩
 | @grown n k h g q body s r h1 h2 h3 h4 h5 ih=>
  exact λhm=>⟨λt ht=>(by
   subst ht;have h6:=bm.sz (.grown h1 h2 h3 h4 h5);have:=h6.c;have:=h6.e;have:=h6.sn;have:=h6.o;omega),oE fs hf _ _ (by unfold L3;rw [h1];exact .inr ⟨_,_,_,h2,h3,ih (by omega),by rw [<-h5]⟩)⟩
end Go.Proofs.YtiblijmngokcgaaGreatDoor
