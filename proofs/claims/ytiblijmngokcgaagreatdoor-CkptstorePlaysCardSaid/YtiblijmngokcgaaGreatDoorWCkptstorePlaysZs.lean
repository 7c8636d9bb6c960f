import Derived.Test.YtiblijmngokcgaaGreatDoorG49Zs
import Derived.OpenShut
import Derived.ShutString
set_option linter.unusedVariables false
set_option maxHeartbeats 32000000
set_option maxRecDepth 100000
namespace Go.Proofs.YtiblijmngokcgaaGreatDoor.ckptstorePlays
open Go.Proofs.Tryz
open Go.ChangeShapes Go.WideShapes Go.ChangeAt Go.RowKit
open Go.ChangeMaps (open_string shut_string)
theorem walk (a0:Option Addr) (Nk Py:Nat) (z0:List Int) (a1:Int) (a2:Option Addr) (len2 Dd:Nat) (z2:List Int) (w:World) (w0:ui .u8 w a0 Nk Py z0) (w1:(Lit.int .i64 a1).wf=true) (w2:ui .i64 w a2 len2 Dd z2) (hG:rm 2 w):
 Calls Tryz.prog 3 #[.slice a0 Nk Py,.int .i64 a1,.slice a2 len2 Dd] w λe w' =>e= .returned (.bool true)/\Below w.heap.size w w' :=by
 obtain ⟨L,iq,uc,O8,hkB⟩:=ui.bytes w0;obtain ⟨zs,Rn,Ty,Fk⟩:=ui.zin_ w2;have ed:=Ty.len.2;have HZS:=aA Ty;have HZI:=aA Fk;clear w0 w1 w2 Rn Ty Fk;have HL:=aA iq;have HG:=aA hG;clear iq hG;go_enter func3,ntmps3;go_wp2_with fail;refine (CO _).mono ?_;rintro e x1 ⟨rfl,b1⟩;by_cases Sv:20<len2
 ·have d20:decide (20<len2)=true:=by simpa using Sv
  have d20i:decide ((20:Int)<(len2:Int))=true:=by simp;omega
  clear Sv;go_wp2;go_ret;exact ⟨rfl,b1⟩
 have d20:decide (20<len2)=false:=by simpa using Sv
 have d20i:decide ((20:Int)<(len2:Int))=false:=by simp;omega
 have hl20:len2<=20:=by omega
 clear Sv;have Hn:=aA (FG _ L _ x1 240 (by omega) (hkB.ext b1));go_wp2_with fail;refine Hn.out.mono ?_;rintro e x2 ⟨g,rfl,hC,b2⟩;have s1:=b1.size;have s2:=b2.size;have ar:=Below.ext b1 b2;have Hs:=aA (FA x1.heap.size g x2 hC (JI HG.out ar s1 s2));have hgB:=hC.1;clear hkB;go_wp2_with fail;refine Hs.out.mono ?_;rintro e x3 ⟨c,I1,iw,ix,Q1,k1,d1,Q2,k2,d2,Q3,k3,d3,Q4,k4,d4,L',ln,lc,l,rfl,hCM,hE,Yl,ql,g3⟩;have s3:=g3.size;have ea:Below w.heap.size w x3:=ar.grown g3 ar.size (λo e=>by cases e;omega);have LI:=aA Yl;have l10:=Yl.n;have Dm:=aA hE.len.1;have ln10:ln<=10:=by have:=Dm.out;omega
 clear Yl g3 d20 d20i;obtain ⟨W4,ng,kx,Sx,bx,ff,Rx,HBx,lx,mx⟩:=bE x3 #[.slice I1 iw ix,.slice Q1 k1 d1,.slice Q2 k2 d2,.slice Q3 k3 d3,.slice Q4 k4 d4,.slice L' ln lc] 32;have B4:=Below.ext ea kx;have wx:w.heap.size<=bx:=by omega
 have yo:Ic (λb=>x2.heap.size<=b/\b<W4.heap.size) W4 c I1 iw ix Q1 k1 d1 Q2 k2 d2 Q3 k3 d3 Q4 k4 d4:=((SI hCM).ext kx).kept (λ_ _ _=>rfl) (λb h=>⟨h.1,by have:=kx.size;omega⟩);have hE4:=((hE.mono (S' :=λb=>x2.heap.size<=b/\b<W4.heap.size) (λb hb h=>⟨h,by have:=kx.size;omega⟩)).ext kx)
 have hC4c:=ql.ext kx;have gx2:g<x2.heap.size:=hC.lt;have y4:=kx.size;clear hCM hE ql hC;go_upto_region 7 with (refine sN ?_)
 try dsimp only
 rw [<-ng,<-HBx.out];clear ng ff;refine Tyal ?_;have Bg:=GM 4 (by omega) W4;rw [show ((4:Nat):Int)=4 from rfl] at Bg;have Fe:=aA Bg;clear Bg;go_wp2_with fail;refine Fe.out.mono ?_;rintro e v5 ⟨A1,c1,rfl,D1,b5⟩;obtain ⟨W5,nj,kd,Sd,bd,ll,Rd,WE,ld,md⟩:=bE v5 #[.slice A1 4 c1] 36;have y5:=b5.size;have k5:=Below.ext b5 kd;have xd:W4.heap.size<=bd:=by omega
 have wd:w.heap.size<=bd:=by have:=B4.size;omega
 have Iu:=yo.ext k5;have UA:=hE4.ext k5;have Rx5:=bT k5 Rx;have z5:=k5.size
 have PI0:PI x1.heap.size g bd w W5 W5 A1 c1 (List.replicate 4 fP):={
  b1:=hgB,b2:=by omega,ne:=by omega,g0:=by omega,d0:=wd,gl:=by omega,dl:=ld
  row:=Rd.out
  dsk:=(D1.mono (S' :=λb=>b≠bd/\b≠g) (λb hb h=>⟨by omega,by omega⟩)).ext kd
  ok:=λf hf=>by rw [List.eq_of_mem_replicate hf];simp [fP]
  cod:=hC4c.ext k5
  keep:=λ_ _ _=>rfl
  size:=Nat.le_refl _
  bel:=Below.ext B4 k5}
 have HG5:∀(wv:World) (A:Option Addr) (cc:Nat) (fs:List au),PI x1.heap.size g bd w W5 wv A cc fs->rm x1.heap.size wv:=λwv A cc fs P=>JI HG.out P.bel s1 (by have:=P.size;omega)
 have HGL:=aA HG5;have up:∀(wv:World) (A:Option Addr) (cc:Nat) (fs:List au),PI x1.heap.size g bd w W5 wv A cc fs->wv.heap[bx]? =some (.cells #[.slice I1 iw ix,.slice Q1 k1 d1,.slice Q2 k2 d2,.slice Q3 k3 d3,.slice Q4 k4 d4,.slice L' ln lc] 32 (0,0))/\Ic (λb=>x2.heap.size<=b/\b<W4.heap.size) wv c I1 iw ix Q1 k1 d1 Q2 k2 d2 Q3 k3 d3 Q4 k4 d4/\a7 cH (λb=>x2.heap.size<=b/\b<W4.heap.size) wv (.slice L' ln lc) l:=λwv A cc fs P=>by
  have kp:ae (λb=>x2.heap.size<=b/\b<W4.heap.size) W5 _:=λb hb hs=>P.keep b hb ⟨by omega,by omega⟩
  exact ⟨(P.keep bx (by omega) ⟨by omega,by omega⟩).trans Rx5.out,Iu.kept kp (λb h=>h),UA.keep kp⟩
 have UP:=aA up;have lxd:bx<bd:=by omega
 clear D1 yo hE4 hC4c HG5 up Iu UA;go_upto_region 8 with (refine sN ?_)
 try dsimp only
 rw [<-nj,<-WE.out];clear nj ll;refine Tyal ?_;go_wp2;go_loopw [11] (λv wr=>∃(i:Nat) (A:Option Addr) (c4:Nat) (fs:List au),v= .int .i64 (i:Int)/\i<=7/\PI x1.heap.size g bd w W5 wr A c4 fs) (λv _=>7-(intOf v).toNat);case atStart=>exact ⟨0,A1,c1,_,rfl,by omega,PI0⟩
 case round=>
  obtain ⟨i,A,c4,fs,rfl,hi,P⟩:=hrel;clear PI0;by_cases af:i<7;case neg=>
   obtain rfl:i=7:=by omega
   obtain ⟨v1,Ce⟩:=eX wr;subst Ce;have P1:=P;clear af P;exact Tzc7
  have HLF:=aA (CG _ g wr P.cod);go_wp2_with fail;refine HLF.out.mono ?_;rintro e v1 ⟨bb,rfl,b1_⟩;have P1:=P.ext b1_;clear P HLF;cases bb with
  |false=>
   exact Tzc7
  |true=>
  have HN1:=aA (aV _ g 6 v1 P1.cod (by omega) (by omega));go_wp2_with fail;refine HN1.out.mono ?_;rintro e v2 ⟨p,rfl,hp,ly,g2⟩;have P2:=P1.next ly g2;have HN2:=aA (aV _ g 6 v2 P2.cod (by omega) (by omega));clear P1 ly g2 HN1;go_wp2_with fail;refine HN2.out.mono ?_;rintro e v3 ⟨q,rfl,hq,ql,g3⟩;have P3:=P2.next ql g3;have HN3:=aA (aV _ g 8 v3 P3.cod (by omega) (by omega));clear P2 ql g3 HN2;go_wp2_with fail;refine HN3.out.mono ?_;rintro e v4 ⟨k,rfl,hk,yo,g4⟩;have P4:=P3.next yo g4;have J6:av ((p:Int)-1):=⟨by omega,by omega⟩
  have o5:av ((q:Int)-1):=⟨by omega,by omega⟩
  clear P3 yo g4 HN3;by_cases yi:k=0
  ·have dk:((k:Int)==0)=true:=by simp [yi]
   have dkn:(k==0)=true:=by simp [yi]
   clear yi;have P5:=P4;have z5_:=P5.size;go_upto_region 23 with fail;clear dk dkn P4;obtain ⟨rr,tv⟩:=eX (jI fs ((p:Int)-1));have Ax:=aA tv;clear tv;have T4:=aA P5.row;have ej:=FK A 4 c4 fs _ v4 P5.dsk (by omega) ((p:Int)-1);rw [<-Ax.out] at ej;have HC1:=aA ej;clear ej;go_wp2_with (refine lD (t:=36) T4 ?_)
   refine HC1.out.mono ?_;rintro e v6 ⟨Oi,b6⟩;obtain ⟨Aa,ca,rfl,Da⟩:=Oi.gen;obtain ⟨W7,oy,ka,Sa,ba,o5,Ra,HBa,la,ma⟩:=bE v6 #[.slice Aa (Na 4 rr) ca] 36;have X5:=Below.ext b6 ka;have P7:=P5.ext X5;have z7:=X5.size;have ZO:=aA P7.row;have Da7:=Da.ext ka;clear Oi Da;go_upto_region 24 with (refine sN ?_)
   try dsimp only
   rw [<-oy,<-HBa.out];clear oy o5;refine Tyal ?_;have ed:=EK A 4 c4 fs _ W7 P7.dsk (by omega) ((p:Int)-1);rw [<-Ax.out] at ed;have WD:=aA ed;clear ed;go_wp2_with (refine lD (t:=36) ZO ?_)
   refine WD.out.mono ?_;rintro e v8 ⟨Oh,b8⟩;obtain ⟨Ab,cb,rfl,Db⟩:=Oh.gen;obtain ⟨W8,sw,kb,Sb,bb,fe,Rb,HBb,lb,mb⟩:=bE v8 #[.slice Ab (Na 4 rr) cb] 36;have Tx:=Below.ext b8 kb;have P8:=P7.ext Tx;have z8:=Tx.size;have Ra8:=bT Tx Ra la;have Da8:=Da7.ext Tx;have Vo:=Db.ext kb;have HSD:=aA (pI Aa Ab (Na 4 rr) ca cb (dkF rr) _ _ W8 Da8 Vo (by unfold Na;split<;>omega));clear Oh Db Da7 Da8;go_upto_region 25 with (refine sN ?_)
   try dsimp only
   rw [<-sw,<-HBb.out];clear sw fe;refine Tyal ?_;obtain ⟨nn,tz⟩:=eX (Na 4 rr);obtain ⟨er,Cj⟩:=eX (dkE rr);rw [<-tz] at Rb Ra8 HSD Vo;rw [<-Cj];have HER:=aA Cj;have HNN:=aA tz;have de:((er:Int) != (er:Int))=false:=by simp
   have den:(er != er)=false:=by simp
   clear Cj tz;go_wp2_with (first|(refine lD (t:=36) Ra8 ?_)|(refine lD (t:=36) Rb ?_))
   refine HSD.out.mono ?_;rintro e v9 ⟨rfl,b9⟩;have Pz:=P8.ext b9;have Z9:=Vo.ext b9;have Rb9:=bT b9 Rb lb;clear P8 P7 P5 Vo de den;obtain ⟨ek,mi⟩|⟨vt,mi⟩:(∃ek,rr= .error ek)∨∃vt,rr= .ok vt:=by
    cases rr with
    |error ek=>exact .inl ⟨ek,rfl⟩
    |ok f=>exact .inr ⟨f,rfl⟩
   case inl=>
    have Jf:er≠0:=by
     rw [HER.out,mi];show ek≠0;have h2:=Ax.out.symm.trans mi;unfold jI at h2;split at h2
     ·cases h2
     ·cases h2;omega
    have dz:((er:Int)==0)=false:=by simpa using Jf
    have dzn:(er==0)=false:=by simpa using Jf
    obtain ⟨A9,c9,vt,P9⟩:∃A9 c9 vt,PI x1.heap.size g bd w W5 v9 A9 c9 vt:=⟨A,c4,fs,Pz⟩
    clear Pz Jf mi;exact Tzat
   case inr=>
    have Jf:er=0:=by rw [HER.out,mi];rfl
    obtain rfl:nn=4:=by rw [HNN.out,mi];rfl
    have XJ:=(MP (Ax.out.symm.trans mi)).2 Pz.ok;have dz:((er:Int)==0)=true:=by simp [Jf]
    have dzn:(er==0)=true:=by simp [Jf]
    rw [mi] at Z9
    have hd9:fh (λb=>b≠bd/\b≠g) v9 (.slice Ab 4 cb) vt:=Z9.mono (λb _ h=>by
     rcases h with h|h
     ·exact h
     ·have:=Pz.gl;have:=Pz.dl;exact ⟨by omega,by omega⟩)
    have Jv :=Pz.set hd9 XJ;have UL:=aA Pz.row;obtain ⟨v10,J4⟩:=eX (v9.setRow bd #[.slice Ab 4 cb]);rw [<-J4] at Jv;clear Jf mi Z9 hd9 XJ Pz;go_upto_region 33 with (first|(refine lD (t:=36) Rb9 ?_)|(refine sR UL ?_))
    rw [<-J4];clear J4;obtain ⟨WQ,Xe⟩:=eX v10;subst Xe;obtain ⟨A9,c9,P9⟩:∃A9 c9,PI x1.heap.size g bd w W5 WQ A9 c9 vt:=⟨Ab,cb,Jv⟩
    clear Jv;have Rdz:=aA P9.row;have Ju:=P9.ext (Below.refl _ WQ).drew;have Qw:=aA (aV _ g 12 WQ.drew Ju.cod (by omega) (by omega));go_wp2_with fail;refine aH ((λw' =>w'.heap[bd]? =some (.cells #[.slice A9 4 c9] 36 (0,0)))) (by kernel_rfl) (by kernel_rfl) (Rdz.out) ?_;refine Tyap ?_;go_wp2_with fail;refine Qw.out.mono ?_;rintro e u1 ⟨m9,rfl,hm9,Jr,g9⟩;have PA:=Ju.next Jr g9;have yy:=aA (gH A9 4 c9 vt _ u1 PA.dsk (by omega) PA.ok (m9:Int) a2 len2 Dd zs _ (HZS.out.ext PA.bel) HZI.out);clear P9 Ju Jr g9 Qw;go_wp2_with fail;refine Tybo ?_;go_wp2_with fail;refine yy.out.mono ?_;rintro e u2 ⟨rfl,YB⟩;have PB:=PA.ext YB;clear PA yy;go_wp2_with fail;refine Tybp ?_;go_wp2;go_roundw;case rel=>exact ⟨i+1,A9,c9,vt,by go_num,by omega,PB⟩
    case measure=>simp [intOf];omega
  have dk0:((k:Int)==0)=false:=by simp;omega
  have Yw:(k==0)=false:=by simpa using yi
  by_cases iq:k=1
  ·have dk:((k:Int)==1)=true:=by simp [iq]
   have dkn:(k==1)=true:=by simp [iq]
   clear yi iq;go_upto_region 30 with fail;clear dk dkn dk0 Yw;have P5:=P4.ext (Below.refl _ v4).drew;have T4:=aA P5.row;have HN4:=aA (aV _ g 200 v4.drew P5.cod (by omega) (by omega));clear P4;go_wp2_with fail;refine uJ (λw' =>w'.heap[bd]? =some (.cells #[.slice A 4 c4] 36 (0,0))) 14 (by kernel_rfl) (by kernel_rfl) (by kernel_rfl) (by decide) T4.out ?_;refine Tyau ?_;refine kB (⟨bd,0,none⟩) (.agg #[.slice A 4 c4]) rfl rfl rfl (λw' h=>lB (t:=36) h) ?_;refine TkI ?_;repeat (refine eE (dI rfl) rfl ?_;go_big_quiet_step (fail);refine wpQuiet_nil ?_)
   refine lP rfl ?_;go_wp2_with fail;refine HN4.out.mono ?_;rintro e u1 ⟨k1,rfl,XB,td,g1_⟩;have P6:=P5.next td g1_;have YT:=aA (aV _ g 200 u1 P6.cod (by omega) (by omega));clear P5 td g1_ HN4;go_wp2_with fail;refine kC P6.row ?_;refine pO (.agg #[.int .i64 (k1:Int),.slice none 0 0]) rfl rfl (λw' _=>by kernel_rfl) ?_;refine TkI ?_;repeat (refine eE (dI rfl) rfl ?_;go_big_quiet_step (fail);refine wpQuiet_nil ?_)
   refine lP rfl ?_;go_wp2_with fail;refine YT.out.mono ?_;rintro e u2 ⟨k2,rfl,XA,ly,g2⟩;have P7:=P6.next ly g2;have HN6:=aA (aV _ g 6 u2 P7.cod (by omega) (by omega));clear P6 ly g2 YT;go_wp2_with fail;refine kC P7.row ?_;refine pO (.agg #[.int .i64 (k2:Int),.slice none 0 0]) rfl rfl (λw' _=>by kernel_rfl) ?_;refine TkI ?_;repeat (refine eE (dI rfl) rfl ?_;go_big_quiet_step (fail);refine wpQuiet_nil ?_)
   refine pO (.agg #[.int .i64 4000,.slice none 0 0]) rfl rfl (λw' _=>by kernel_rfl) ?_;refine TkI ?_;repeat (refine eE (dI rfl) rfl ?_;go_big_quiet_step (fail);refine wpQuiet_nil ?_)
   refine lP rfl ?_;go_wp2_with fail;refine HN6.out.mono ?_;rintro e u3 ⟨k3,rfl,hk3_,ql,g3⟩;have P8:=P7.next ql g3;clear P7 ql g3 HN6;go_wp2_with fail;refine kC P8.row ?_;repeat (refine eE (dI rfl) rfl ?_;go_big_quiet_step (fail);refine wpQuiet_nil ?_)
   obtain ⟨W4_,hW4_,ko,So,bo,Lv,Ro,HBo,lo,mo⟩:=bE u3 #[.int .i64 (k3:Int)] 3;have P9_:=P8.ext ko;have ax:a7 bB (λ_=>True) W4_ (.slice (some ⟨bo,0,none⟩) 1 1) [(k3:Int)]:=lW [(k3:Int)] Ro.out rfl (by simp) trivial rfl;refine lP rfl ?_;go_wp2_with fail;rw [<-hW4_,<-HBo.out];clear hW4_ P8 Lv;refine kC P9_.row ?_;refine pO (.agg #[.int .i64 4000,.slice (some ⟨bo,0,none⟩) 1 1]) rfl rfl (λw' _=>by kernel_rfl) ?_;refine TkI ?_;repeat (refine eE (dI rfl) rfl ?_;go_big_quiet_step (fail);refine wpQuiet_nil ?_)
   obtain ⟨W5_,hW5_,kr,Sr,br,ag,Rr,HBr,lr,mr⟩:=bE W4_ #[.int .i64 (k1:Int),.slice none 0 0,.int .i64 (k2:Int),.slice none 0 0,.int .i64 4000,.slice none 0 0,.int .i64 4000,.slice (some ⟨bo,0,none⟩) 1 1] 45;have Wy:=P9_.ext kr;have hT:UJ (λ_=>True) W5_ (.slice (some ⟨br,0,none⟩) 4 4) [⟨(k1:Int),[]⟩,⟨(k2:Int),[]⟩,⟨4000,[]⟩,⟨4000,[(k3:Int)]⟩]:=by
    have ho5:=ax.ext kr;refine ⟨[⟨(k1:Int),none,0,0⟩,⟨(k2:Int),none,0,0⟩,⟨4000,none,0,0⟩,⟨4000,some ⟨bo,0,none⟩,1,1⟩],lW _ Rr.out rfl (by simp) trivial rfl,rfl,λi x t hx ht=> ?_⟩;rcases i with _|_|_|_|i
    ·simp at hx ht;subst hx ht;exact ⟨rfl,a7.nil_ _ _⟩
    ·simp at hx ht;subst hx ht;exact ⟨rfl,a7.nil_ _ _⟩
    ·simp at hx ht;subst hx ht;exact ⟨rfl,a7.nil_ _ _⟩
    ·simp at hx ht;subst hx ht;exact ⟨rfl,ho5⟩
    ·simp at hx
   have HCR:=aA (zR A 4 c4 fs _ W5_ Wy.dsk (by omega) (some ⟨br,0,none⟩) 4 4 _ _ hT (λf hf=>by have:=Wy.ok f hf;omega) (λt ht=>by
    simp only [List.mem_cons,List.not_mem_nil,or_false] at ht;rcases ht with rfl|rfl|rfl|rfl<;>simp))
   refine lP rfl ?_;go_wp2_with fail;rw [<-hW5_,<-HBr.out];clear hW5_ P9_ ax ag;refine kC Wy.row ?_;repeat (refine eE (dI rfl) rfl ?_;go_big_quiet_step (fail);refine wpQuiet_nil ?_)
   refine lP rfl ?_;go_wp2_with fail;refine HCR.out.mono ?_;rintro e u6 ⟨Ac,cc_,rfl,Dc,b6⟩;have T7:=Wy.ext b6;have VU:fh (λb=>b≠bd/\b≠g) u6 (.slice Ac 4 cc_) (lS fs _):=Dc.mono (λb _ h=>by have:=Wy.size;have:=Wy.gl;have:=Wy.dl;exact ⟨by omega,by omega⟩);have Jv :=T7.set VU (MR _ T7.ok);have Rd6:=aA T7.row;obtain ⟨v9,Eb⟩:=eX (u6.setRow bd #[.slice Ac 4 cc_]);rw [<-Eb] at Jv;clear Dc VU Wy hT;go_wp2_with fail;refine kC T7.row ?_;repeat (refine eE (dI rfl) rfl ?_;go_big_quiet_step (fail);refine wpQuiet_nil ?_)
   refine AJ ?_;go_wp2_with (refine sR Rd6 ?_)
   rw [<-Eb];clear Eb T7;obtain ⟨A9,c9,vt,P9⟩:∃A9 c9 vt,PI x1.heap.size g bd w W5 v9 A9 c9 vt:=⟨_,_,_,Jv⟩
   clear Jv;try rw [gI]
   exact Tzat
  have dk1:((k:Int)==1)=false:=by simp;omega
  have dk1n:(k==1)=false:=by simpa using iq
  by_cases uc:k=2
  ·have dk:((k:Int)==2)=true:=by simp [uc]
   have dkn:(k==2)=true:=by simp [uc]
   clear yi iq uc;go_upto_region 32 with fail;clear dk dkn dk0 Yw dk1 dk1n;have P5:=P4.ext (Below.refl _ v4).drew;have T4:=aA P5.row;have HN4:=aA (aV _ g 4 v4.drew P5.cod (by omega) (by omega));clear P4;go_wp2_with fail;refine fH (λw' =>w'.heap[bd]? =some (.cells #[.slice A 4 c4] 36 (0,0))) 9 (by kernel_rfl) (by kernel_rfl) (by kernel_rfl) (by decide) T4.out ?_;refine Tyau ?_;refine Tyap ?_;go_wp2_with fail;refine HN4.out.mono ?_;rintro e u1 ⟨k1,rfl,XB,td,g1_⟩;have P6:=P5.next td g1_;have YT:=aA (aV _ g 256 u1 P6.cod (by omega) (by omega));clear P5 td g1_ HN4;go_wp2_with fail;refine aD (P6.row) ?_;refine Tyah ?_;go_wp2_with fail;refine YT.out.mono ?_;rintro e u2 ⟨k2,rfl,XA,ly,g2⟩;have P7:=P6.next ly g2;have HN6:=aA (aV _ g 8 u2 P7.cod (by omega) (by omega));clear P6 ly g2 YT;go_wp2_with fail;refine aD (P7.row) ?_;refine Tyah ?_;go_wp2_with fail;refine HN6.out.mono ?_;rintro e u3 ⟨k3,rfl,hk3_,ql,g3⟩;have P8:=P7.next ql g3;clear P7 ql g3 HN6;go_wp2_with fail;refine aD (P8.row) ?_;refine Tyah ?_;go_wp2_with fail;have k8:k3=0∨k3=1∨k3=2∨k3=3∨k3=4∨k3=5∨k3=6∨k3=7:=by omega
   refine (GC A 4 c4 fs _ u3 P8.dsk (by omega) (by omega) P8.ok k1 (by omega) k2 (by omega) _ ?y0 ?y1).mono ?_;case y0=>rcases k8 with rfl|rfl|rfl|rfl|rfl|rfl|rfl|rfl<;>decide
   case y1=>rcases k8 with rfl|rfl|rfl|rfl|rfl|rfl|rfl|rfl<;>decide
   rintro e u6 ⟨Ac,cc_,vt,rfl,Dc,hok9,b6⟩;have T7:=P8.ext b6
   have VU:fh (λb=>b≠bd/\b≠g) u6 (.slice Ac 4 cc_) vt:=Dc.mono (λb _ h=>by
    rcases h with h|h
    ·exact h
    ·have:=P8.size;have:=P8.gl;have:=P8.dl;exact ⟨by omega,by omega⟩)
   have Jv :=T7.set VU hok9;have Rd6:=aA T7.row;obtain ⟨v9,Eb⟩:=eX (u6.setRow bd #[.slice Ac 4 cc_]);rw [<-Eb] at Jv;clear Dc VU P8;go_wp2_with fail;refine aD (T7.row) ?_;refine Tyan ?_;go_wp2_with (refine sR Rd6 ?_)
   rw [<-Eb];clear Eb T7;obtain ⟨A9,c9,P9⟩:∃A9 c9,PI x1.heap.size g bd w W5 v9 A9 c9 vt:=⟨_,_,Jv⟩
   clear Jv;try rw [gI]
   exact Tzat
  have dk2:((k:Int)==2)=false:=by simp;omega
  have dk2n:(k==2)=false:=by simpa using uc
  clear yi iq uc;go_upto_region 13 with fail;clear dk0 Yw dk1 dk1n dk2 dk2n;have P5:=P4.ext (Below.refl _ v4).drew;have rx5:=(UP.out _ _ _ _ P5).1;have uv:=P4.dsk.mono (S' :=λb=>(b≠bd/\b≠g)/\b<v4.heap.size) (λb hb h=>⟨h,hb⟩);have szp:=P4.size;have gl5:=P4.gl;have dl5:=P4.dl;have RDx:=aA rx5;try (go_wp2_with fail)
  refine oR (λw' =>w'.heap[bx]? =some (.cells #[.slice I1 iw ix,.slice Q1 k1 d1,.slice Q2 k2 d2,.slice Q3 k3 d3,.slice Q4 k4 d4,.slice L' ln lc] 32 (0,0))) 8 18 51 (.cells #[.slice none 0 0,.slice none 0 0,.slice none 0 0,.slice none 0 0] 51) (by kernel_rfl) (by kernel_rfl) (NE) (λw' h=>kT h _) (RDx.out) ?_;refine TkC ?_;refine AG (⟨bx,0,none⟩) (.agg #[.slice I1 iw ix,.slice Q1 k1 d1,.slice Q2 k2 d2,.slice Q3 k3 d3,.slice Q4 k4 d4,.slice L' ln lc]) rfl rfl rfl rfl (λw' h=>lB (t:=32) h) ?_;refine TkI ?_;refine TkC ?_;refine AG (⟨bx,5,none⟩) (.slice L' ln lc) rfl rfl rfl rfl (λw' h=>aB (iD _) (aM h 5 _ rfl)) ?_;refine TkI ?_;refine TkC ?_;refine vD rfl rfl (λm1 u1 Ew=> ?_);go_wp2_with fail;have x1_:=Ew.bx (Bx.none_ v4.heap.size _ _) (Nat.le_refl _);have P6:=P5.ext Ew.below;have Lj:=aV _ g (ln+1) u1 P6.cod (by omega) (by omega);rw [show ((ln+1:Nat):Int)=(ln:Int)+1 from by push_cast;rfl] at Lj;have HNX:=aA Lj;have Oi:=uv.ext (Below.ext (Below.refl _ v4).drew Ew.below);clear Lj P5 rx5;refine HNX.out.mono ?_;rintro e u2 ⟨kk,rfl,Dw,hCx,gx⟩;have P7:=P6.next hCx gx;have x2_:=x1_.grown gx (by omega);have Oh:=Oi.keep (w' :=u2) (λb hb hs=>gx.block b hb (by simp;exact hs.1.2));have rx7:=(UP.out _ _ _ _ P7).1;clear P6 hCx Oi HNX;go_wp2_with fail;refine pN (rx7) ?_;refine TkC ?_;refine vD rfl rfl (λm3 u3 Fs=> ?_);go_wp2_with fail;have x3_:=Fs.bx x2_ (by have:=Ew.below.size;have:=gx.size;have h:v4.drew.heap.size=v4.heap.size:=rfl;omega);have P8:=P7.ext Fs.below;have hd3:=Oh.ext Fs.below;have uu:=UP.out _ _ _ _ P8;have ee:g<u3.heap.size:=by have:=P8.size;omega
  have Ml:=aA (EZ u3 _ c I1 iw ix Q1 k1 d1 Q2 k2 d2 Q3 k3 d3 Q4 k4 d4 L' ln lc l uu.2.1 uu.2.2 LI.out kk (by have:=Dm.out;omega));clear P7 Oh rx7 uu;refine Ml.out.mono ?_;rintro e u4 ⟨s,E1,nz,pf,E2,jt,pe,E3,js,pb,E4,jr,pa,rfl,hRR,hM,ZM⟩;have PA:=P8.ext ZM;have hd4:=hd3.ext ZM;have x4_:=x3_.ext ZM;have rxa:=(UP.out _ _ _ _ PA).1;have hsb:=(LI.out.st hRR).1;have lf:=aA hsb.stp;clear P8 hd3 Ml hRR hsb;go_wp2_with fail;refine pN (rxa) ?_;refine TkC ?_;refine NL rfl (λX u5 UA=> ?_);refine TkI ?_;refine TkC ?_;have z54:v4.heap.size<=u4.heap.size:=by have:=Ew.below.size;have:=gx.size;have:=Fs.below.size;have:=ZM.size;have h:v4.drew.heap.size=v4.heap.size:=rfl;omega
  have x5_:=UA.bx x4_ z54;have PB:=PA.ext UA.below;have Cp:=(x5_ X rfl).2;have hWX:=(x5_ X rfl).1;have hd5:=hd4.ext UA.below;have M5:=((hM.mono_ (S' :=λb=>m3≠some b/\b≠g) (λb hb h=>⟨x3_.lt h,by have:=ee;omega⟩)).mono_ (S' :=λb=>b≠X/\b≠g) (λb hb h=>⟨λe=>UA.ne hb h.1 (by rw [e]),h.2⟩)).ext UA.below;refine NM rfl rfl ?_;refine dW rfl 51 _ _ rfl X 51 _ _ rfl rfl Cp (by kernel_rfl) rfl (by simp [Value.oneCell']) ?_;obtain ⟨v5,Kh⟩:=eX (u5.setRow X #[.slice E1 nz pf,.slice E2 jt pe,.slice E3 js pb,.slice E4 jr pa]);have g5:u5.grownBy v5 (some X):=by rw [Kh];exact aC _ _ _
  have RX5:=aA (show v5.heap[X]? =some (.cells #[.slice E1 nz pf,.slice E2 jt pe,.slice E3 js pb,.slice E4 jr pa] 51 (0,0)) by rw [Kh];exact setRow_heap _ _ _ _ _ _ Cp);have hd6:=hd5.keep (w' :=v5) (λb hb hs=>g5.block b hb (by simp;omega));have PC:=PB.oth g5 (by omega) (hd6.mono (λb _ h=>h.1));have M6:=M5.kept (S' :=λb=>b≠X/\b≠g) (w' :=v5) (λb hb hs=>g5.block b hb (by simpa using hs.1)) (λb h=>h);have lX:X<v5.heap.size:=(Array.getElem?_eq_some_iff.1 RX5.out).1;have rxc:=(UP.out _ _ _ _ PC).1;rw [<-Kh];clear Kh x1_ x2_ x3_ x4_ x5_ Ew Fs UA hd4 hd5 PA PB hM M5 Cp g5 rxa ZM uv gx;refine pN rxc ?_;simp only [Act.put];refine TkC ?_;refine DI ?_;have HN7:=aA (aV _ g 8 v5 PC.cod (by omega) (by omega));have glX:g<X:=by omega
  clear rxc;go_wp2_with fail;refine HN7.out.mono ?_;rintro e v6 ⟨jj,rfl,hjj,ZF,g7⟩;have PD:=PC.next ZF g7;have RX6:=gT g7 RX5 lX;have zz7:v5.heap.size<=v6.heap.size:=g7.size;have hd7:=hd6.keep (w' :=v6) (λb hb hs=>g7.block b hb (by simp;exact hs.1.2));clear PC ZF HN7;by_cases hj7:jj=7
  ·have dj:((jj:Int)==7)=true:=by simp [hj7]
   have djn:(jj==7)=true:=by simp [hj7]
   have HSA:=GA _ g 3 (by omega) v6 PD.cod (HGL.out _ _ _ _ PD);rw [show ((3:Nat):Int)=3 from rfl] at HSA;have HSA:=aA HSA;clear hj7 M6 lf g7;go_wp2_with fail;refine HSA.out.mono ?_;rintro e v7 ⟨c2,self2,evs2,s2,G1,Mp,Tg,G2,J0,Tf,G3,Iz,Te,G4,Iy,Td,rfl,sf,hci2,hel2,ri,Ua,jy,hse2,qu,Ys,ZE,g8⟩;have hsb2:=KJ jy hel2 hse2 qu Ys hci2;have Ta:=aA hsb2.stp;have PE:=PD.next ZE g8;have RX7:=gT g8 RX6;have zz8:v6.heap.size<=v7.heap.size:=g8.size;obtain ⟨v8,hv8⟩:=eX (v7.setRow X #[.slice G1 Mp Tg,.slice G2 J0 Tf,.slice G3 Iz Te,.slice G4 Iy Td]);have g9:v7.grownBy v8 (some X):=by rw [hv8];exact aC _ _ _
   have zz9:v7.heap.size<=v8.heap.size:=g9.size;have RX8:=aA (show v8.heap[X]? =some (.cells #[.slice G1 Mp Tg,.slice G2 J0 Tf,.slice G3 Iz Te,.slice G4 Iy Td] 51 (0,0)) by rw [hv8];exact setRow_heap _ _ _ _ _ _ RX7.out);have M8:=(ri.mono_ (S' :=λb=>b≠X/\b≠g) (λb hb h=>⟨by omega,by omega⟩)).kept (S' :=λb=>b≠X/\b≠g) (w' :=v8) (λb hb hs=>g9.block b hb (by simpa using hs.1)) (λb h=>h);have hdx:=((hd7.keep (w' :=v7) (λb hb hs=>g8.block b hb (by simp;exact hs.1.2))).keep (w' :=v8) (λb hb hs=>g9.block b hb (by simp;omega))).mono (S' :=λb=>b≠bd/\b≠g) (λb _ h=>h.1);have PF:=PE.oth g9 (by omega) hdx;clear sf hci2 hel2 ri Ua jy hse2 qu Ys ZE g8 hsb2 PD PE;go_upto_region 16 with (refine sR RX7 ?_)
   rw [<-hv8];refine Tyal ?_;clear hv8 dj djn hdx g9;obtain ⟨vs,Xd⟩:=eX v8;subst Xd;obtain ⟨s9,Z1,Tk,To,Z2,Tj,Tn,Z3,Ti,Tm,Z4,Th,Tl,Rq5,M9,HS9⟩:∃(s9:bj) (Z1:Option Addr) (Tk To:Nat) (Z2:Option Addr) (Tj Tn:Nat) (Z3:Option Addr) (Ti Tm:Nat) (Z4:Option Addr) (Th Tl:Nat),RowKit.Hid (vs.heap[X]? =some (.cells #[.slice Z1 Tk To,.slice Z2 Tj Tn,.slice Z3 Ti Tm,.slice Z4 Th Tl] 51 (0,0)))/\j7 (λb=>b≠X/\b≠g) vs s9 Z1 Tk To Z2 Tj Tn Z3 Ti Tm Z4 Th Tl/\RowKit.Hid (StP s9):=⟨s2,G1,Mp,Tg,G2,J0,Tf,G3,Iz,Te,G4,Iy,Td,RX8,M8,Ta⟩
   have P5:=PF;have lX9:X<vs.heap.size:=by omega
   clear RX8 M8 Ta PF;exact Tzae
  ·have dj:((jj:Int)==7)=false:=by simp;omega
   have djn:(jj==7)=false:=by simpa using hj7
   have M7:=M6.kept (S' :=λb=>b≠X/\b≠g) (w' :=v6) (λb hb hs=>g7.block b hb (by simp;exact hs.2)) (λb h=>h);clear hj7 M6 g7;go_upto_region 16 with fail;clear dj djn;obtain ⟨vs,Xd⟩:=eX v6;subst Xd;obtain ⟨s9,Z1,Tk,To,Z2,Tj,Tn,Z3,Ti,Tm,Z4,Th,Tl,Rq5,M9,HS9⟩:∃(s9:bj) (Z1:Option Addr) (Tk To:Nat) (Z2:Option Addr) (Tj Tn:Nat) (Z3:Option Addr) (Ti Tm:Nat) (Z4:Option Addr) (Th Tl:Nat),RowKit.Hid (vs.heap[X]? =some (.cells #[.slice Z1 Tk To,.slice Z2 Tj Tn,.slice Z3 Ti Tm,.slice Z4 Th Tl] 51 (0,0)))/\j7 (λb=>b≠X/\b≠g) vs s9 Z1 Tk To Z2 Tj Tn Z3 Ti Tm Z4 Th Tl/\RowKit.Hid (StP s9):=⟨s,E1,nz,pf,E2,jt,pe,E3,js,pb,E4,jr,pa,RX6,M7,lf⟩
   have P5:=PD;have lX9:X<vs.heap.size:=by omega
   clear RX6 M7 lf PD;exact Tzae
end Go.Proofs.YtiblijmngokcgaaGreatDoor.ckptstorePlays
