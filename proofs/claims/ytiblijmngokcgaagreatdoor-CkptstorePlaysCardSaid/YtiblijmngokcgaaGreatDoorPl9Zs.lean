import Derived.Test.YtiblijmngokcgaaGreatDoorPl2Zs
import Derived.Test.YtiblijmngokcgaaGreatDoorG43Zs
import Derived.Test.YtiblijmngokcgaaGreatDoorG44Zs
set_option linter.unusedVariables false
set_option linter.unusedSimpArgs false
set_option maxHeartbeats 16000000
set_option maxRecDepth 100000
namespace Go.Proofs.YtiblijmngokcgaaGreatDoor
open Go.Proofs.Tryz
open Go.RowKit
def RlR (fs:List au) (k:Int) (r:Except Nat bj):Prop:=(∀s,r= .ok s->s.cells.length<=1000000000/\s.evs.length<=1000000000/\s.sent.length<=1000000000/\s.outs.length<=1000000000)/\∀(A:Option Addr) (n c:Nat) (S:Nat->Prop) (w:World),fh S w (.slice A n c) fs->n<=1000->Calls Tryz.prog 52 #[.agg #[.slice A n c],.int .i64 k] w λe w' =>Dh w.heap.size w' r e/\Below w.heap.size w w'
theorem mQ (fs:List au) (hf:eD fs) (k:Int) (r:Except Nat bj) (hv:L3 fs k (RlR fs) r) (A:Option Addr) (n c:Nat) (S:Nat->Prop) (w:World) (hD:fh S w (.slice A n c) fs) (hn:n<=1000):
 Calls Tryz.prog 52 #[.agg #[.slice A n c],.int .i64 k] w λe w' =>Dh w.heap.size w' r e/\Below w.heap.size w w' :=by
 obtain ⟨W,hW,aw,SW,R0,R1⟩:∃W,W=(w.alloc (.cells #[.slice A n c] 36)).alloc (.cells #[.slice none 0 0,.slice none 0 0,.slice none 0 0,.slice none 0 0] 51)/\Below w.heap.size w W/\RowKit.Hid (W.heap.size=w.heap.size+2)/\
  RowKit.Hid (W.heap[w.heap.size]? =some (.cells #[.slice A n c] 36 (0,0)))/\RowKit.Hid (W.heap[w.heap.size+1]? =some (.cells #[.slice none 0 0,.slice none 0 0,.slice none 0 0,.slice none 0 0] 51 (0,0))):=by
  refine ⟨_,rfl,((Below.refl _ w).alloc (Nat.le_refl _) _).alloc (by simp) _,aA (by simp),aA ?_,aA ?_⟩
  ·exact Tzap
  ·exact Tzeb
 have af:w.heap.size+1<W.heap.size:=by have:=SW.out;omega
 have WC:=aA (mS A n c fs S W (hD.ext aw) hn k hf);have HDW:=aA (hD.ext aw);have HF:=aA hf;have hLl:=jS hf k;unfold L3 at hv;obtain ⟨L,hL⟩:=eX (bV fs k);rw [<-hL] at WC hv hLl;have HV:=aA hv;clear hv hD hf hL;go_enter func52,ntmps52;go_upto_region 1 with fail;rw [<-hW];clear hW;go_wp2_with (refine lD (t:=36) R0 ?_)
 refine WC.out.mono ?_;rintro e w1 ⟨A1,m1,c1,rfl,Ge,b1⟩;have s1:=b1.size;have jh:=Ge.len.1;have uh:=bT b1 R0;have yw:=bT b1 R1 af;have al:=Below.ext aw b1;have hD1:=HDW.out.ext b1;by_cases Sf:m1=0
 ·have dm:((m1:Int)==0)=true:=by simp [Sf]
  have an:=aA (show r= .error 11 by
   have:=HV.out;have Wi:L=[]:=List.eq_nil_of_length_eq_zero (by omega);rw [Wi,show eO []= .err 11 from rfl] at this;exact this)
  clear Sf jh Ge;go_wp2_with (refine sR yw ?_)
  refine rT yw ?_;rw [an.out];exact ⟨⟨by omega,rfl⟩,al.grown (aC _ _ _) al.size (λo e=>by cases e;omega)⟩
 have dm:((m1:Int)==0)=false:=by simpa using Sf
 have Ff:=aA jh;have hmb:m1<=1000000:=by omega
 have Vd:=aA (mR A1 m1 c1 L _ w1 Ge (by omega));clear Sf jh hLl;go_wp2_with fail;refine Vd.out.mono ?_;rintro e w2 ⟨h,q,x,rfl,Zt,b2⟩;have s2:=b2.size;obtain ⟨W3,ig,kh,Sh,bh,Lw,Rh,L7,lh,mh⟩:=bE w2 #[.int .i64 h.kind,.int .i64 h.stamp,.int .i64 h.base,.int .i64 h.under] 96;have y3:=Below.ext b2 kh;have I7:=bT y3 uh;have Fa:=bT y3 yw;have ea:=Below.ext al y3;have D8:=hD1.ext y3;have Vy:=Ge.ext y3;have z3:=y3.size;have wbh:w.heap.size+1<bh:=by omega
 clear hD1 Ge;go_upto_region 5 with (refine sN ?_)
 try dsimp only
 rw [<-ig,<-L7.out];clear ig Lw;refine Tyal ?_;rcases Zt with ⟨oi,rfl⟩|⟨oi,fa,rfl,rfl⟩
 case inr=>
  have dx:((x:Int) != 0)=true:=by simpa using fa
  have an:=aA (show r= .error x by have:=HV.out;rw [vB oi] at this;exact this);have Va:=aA fa;clear oi fa;go_wp2_with (refine sR Fa ?_)
  refine rT Fa ?_;rw [an.out];exact ⟨⟨Va.out,rfl⟩,ea.grown (aC _ _ _) ea.size (λo e=>by cases e;omega)⟩
 have Lj:=tF (.slice A1 m1 c1) L _ W3 (q:Int) Vy (by have:=Ff.out;omega);obtain ⟨Bd,q2,er,hN⟩:∃Bd q2 er,bL L (q:Int)=(Bd,q2,er):=⟨_,_,_,rfl⟩
 have Yp:Bd.length<=4096:=by have:=kY L (q:Int);rw [hN] at this;exact this
 rw [hN] at Lj;dsimp only at Lj;have HNX:=aA Lj;have HN:=aA hN;have Vi:=aA oi;clear Lj hN oi Vy;go_wp2_with fail;refine HNX.out.mono ?_;rintro e w4 ⟨V2,rfl,dw,b4⟩;have s4:=b4.size;obtain ⟨A2,c2,rfl,Cy,Cx,Gd⟩:=dw.bytes;obtain ⟨m2,pg⟩:=eX Bd.length;rw [<-pg] at Cy Yp ⊢;have Vx:Bytes (λ_=>True) w4 (.slice A2 m2 c2) Bd:=⟨A2,c2,by rw [pg],by omega,Cx,Gd.mono (λ_ _ _=>trivial)⟩
 have WG:=aA pg;have Iw:=bT b4 I7;have Df:=bT b4 Fa;have Rh4:=bT b4 Rh lh;have ia:=Below.ext ea b4;have uv:=D8.ext b4;have q40:=bn Rh4.out;have q42:=gn Rh4.out;clear pg Gd Cy Cx dw D8;by_cases Cj:er=0;case neg=>
  have dx:((er:Int) != 0)=true:=by simpa using Cj
  have an:=aA (show r= .error er by have:=HV.out;have hq:=uZ Vi.out (by rw [HN.out];exact Cj);rw [hq,HN.out] at this;exact this);have Va:=aA Cj;clear Cj;exact Tzes
 subst Cj;by_cases Fm:q2=m1;case neg=>
  have dq:((q2:Int) != (m1:Int))=true:=by simp;omega
  have dqn:(q2 != m1)=true:=by simpa using Fm
  have an:=aA (show r= .error 9 by have:=HV.out;have hq:=xF Vi.out (by rw [HN.out]) (by rw [HN.out,Ff.out];exact Fm);rw [hq] at this;exact this);clear Fm;exact Tzer
 have dq:((q2:Int) != (m1:Int))=false:=by simp [Fm]
 have dqn:(q2 != m1)=false:=by simp [Fm]
 have HQ2:=aA Fm;clear Fm;by_cases iq:h.kind=1
 ·have dk:(h.kind==1)=true:=by simpa using iq
  have uo:=DF Vi.out (by rw [HN.out]) (by rw [HN.out,Ff.out];exact HQ2.out) iq;rw [HN.out] at uo;dsimp only at uo;have qs:=HV.out;rw [uo] at qs;have hwh:=uP A2 m2 c2 Bd _ w4 Vx (by omega) 0 (by omega);rw [show ((0:Nat):Int)=0 from rfl] at hwh;have HWH:=aA hwh;have rb:=aA qs;clear uo iq hwh qs;go_wp2_with fail;refine HWH.out.mono ?_;rintro e w5 ⟨ok,E1,nz,pf,E2,jt,pe,E3,js,pb,E4,jr,pa,rfl,hy,xe,b5⟩;obtain ⟨W6,Jn,ks,Ss,bs,vg,Rs,Jw,ls,ms⟩:=bE w5 #[.slice E1 nz pf,.slice E2 jt pe,.slice E3 js pb,.slice E4 jr pa] 51;have y6:=Below.ext b5 ks;have Qf:=bT y6 Df;have il:=Below.ext ia y6;go_upto_region 14 with (refine sN ?_)
  try dsimp only
  rw [<-Jn,<-Jw.out];clear Jn vg;refine Tyal ?_;cases hw:cC Bd 0 with
  |none=>
   have qs:=rb.out;rw [hw] at qs;dsimp only at qs;obtain rfl:=xe hw;have an:=aA qs;clear qs hw hy xe;exact Tzb1
  |some s=>
   have qs:=rb.out;rw [hw] at qs;dsimp only at qs;obtain ⟨rfl,hT⟩:=hy s hw;have an:=aA qs;have hT6:=hT.ext ks;clear qs hw hy xe hT;go_wp2_with (first|(refine lD (t:=51) Rs ?_)|(refine sR Qf ?_))
   refine rT Qf ?_;rw [an.out];have gE:=aC W6 (w.heap.size+1) #[.slice E1 nz pf,.slice E2 jt pe,.slice E3 js pb,.slice E4 jr pa];have M7:=hT6.kept (S' :=λb=>w.heap.size<=b) (w' :=W6.setRow (w.heap.size+1) #[.slice E1 nz pf,.slice E2 jt pe,.slice E3 js pb,.slice E4 jr pa]) (λb hb hs=>gE.block b hb (by simp;omega)) (λb h=>by omega);exact ⟨⟨E1,nz,pf,E2,jt,pe,E3,js,pb,E4,jr,pa,rfl,M7⟩,il.grown gE il.size (λo e=>by cases e;omega)⟩
 ·have dk:(h.kind==1)=false:=by simpa using iq
  have uo:=DE Vi.out (by rw [HN.out]) (by rw [HN.out,Ff.out];exact HQ2.out) iq;rw [HN.out] at uo;dsimp only at uo;have qs:=HV.out;rw [uo] at qs;dsimp only at qs;have rb:=aA qs;have HFB:=aA (mS A n c fs S w4 uv hn h.base HF.out);have Uo:=jS HF.out h.base;clear uo iq qs;go_wp2_with (refine lD (t:=36) Iw ?_)
  refine HFB.out.mono ?_;rintro e w5 ⟨A5,m5,c5,rfl,hy5,b5⟩;have hm5:=hy5.len.1;have HRG:=aA (mR A5 m5 c5 (bV fs h.base) _ w5 hy5 (by omega));clear hy5 hm5 Uo;go_wp2_with fail;refine HRG.out.mono ?_;rintro e w5b ⟨g,qg,xg,rfl,qj,b5b⟩;have k5:=Below.ext b5 b5b;have s5:=k5.size;obtain ⟨W6,Jn,kg,Sg,bg,pj,Rg,zq,lg,mg⟩:=bE w5b #[.int .i64 g.kind,.int .i64 g.stamp,.int .i64 g.base,.int .i64 g.under] 96;have Ie:=Below.ext k5 kg;have ZY:=bT Ie Iw;have Qf:=bT Ie Df;have UQ:=bT Ie Rh4;have il:=Below.ext ia Ie;have hb6s:=Ie.size;have g61:=fi Rg.out;have g63:=lj UQ.out;have g62:=gn UQ.out;have Ho:=uv.ext Ie;have X9:=Vx.ext Ie;clear q40 q42 uv Vx;go_upto_region 18 with (refine sN ?_)
  try dsimp only
  rw [<-Jn,<-zq.out];clear Jn pj;refine Tyal ?_;rcases qj with ⟨uw,rfl⟩|⟨uw,fa,rfl,rfl⟩
  case inr=>
   have dx:((xg:Int) != 0)=true:=by simpa using fa
   have an:=aA (show r= .error 11 by
    rcases rb.out with ⟨_,h2⟩|⟨g',q',r0,h2,_⟩
    ·exact h2
    ·rw [uw] at h2;cases h2)
   clear uw fa;exact Tzb1
  by_cases en:g.stamp=h.under;case neg=>
   have ds:(g.stamp != h.under)=true:=by simpa using en
   have an:=aA (show r= .error 11 by
    rcases rb.out with ⟨_,h2⟩|⟨g',q',r0,h2,h3,_⟩
    ·exact h2
    ·rw [uw] at h2;cases h2;exact absurd h3 en)
   clear uw en;exact Tzb1
  have ds:(g.stamp != h.under)=false:=by simpa using en
  obtain ⟨r0,⟨ef,Gx⟩,tv⟩:∃r0,RlR fs h.base r0/\r=(match r0 with| .error _=> .error 11| .ok s=>eP s Bd):=by
   rcases rb.out with ⟨h2,_⟩|⟨g',q',r0,h2,_,h3,h4⟩
   ·exact absurd en (h2 g qg uw)
   ·exact ⟨r0,h3,h4⟩
  have HCA:=aA (Gx A n c S W6 Ho hn);have Fw:=aA ef;have Ax:=aA tv;clear uw en Gx ef tv;go_wp2_with (refine lD (t:=36) ZY ?_)
  refine HCA.out.mono ?_;rintro e w7 ⟨gd,b7⟩;have s7:=b7.size;have YE:=bT b7 Qf;have vj:=Below.ext il b7;unfold Dh at gd;cases r0 with
  |error e0=>
   dsimp only at gd;obtain ⟨Jg,rfl⟩:=gd;have dx:((e0:Int) != 0)=true:=by simpa using Jg
   have an:=Ax;dsimp only at an;obtain ⟨W8,sw,ks,Ss,bs,vg,Rs,Jw,ls,ms⟩:=bE w7 #[.slice none 0 0,.slice none 0 0,.slice none 0 0,.slice none 0 0] 51;have Mj:=bT ks YE;have Bl:=Below.ext vj ks;go_upto_region 21 with (refine sN ?_)
   try dsimp only
   rw [<-sw,<-Jw.out];clear sw vg;exact Tzed
  |ok s0=>
   dsimp only at gd;obtain ⟨G1,Mp,Tg,G2,J0,Tf,G3,Iz,Te,G4,Iy,Td,rfl,hU⟩:=gd;have Dn:=Ax;dsimp only at Dn;obtain ⟨W8,sw,ks,Ss,bs,vg,Rs,Jw,ls,ms⟩:=bE w7 #[.slice G1 Mp Tg,.slice G2 J0 Tf,.slice G3 Iz Te,.slice G4 Iy Td] 51;have Zd:=Below.ext b7 ks;have Mj:=bT ks YE;have Bl:=Below.ext vj ks;have hb8s:=Zd.size;have Yc:=hU.ext ks;have hy8:=X9.ext Zd;have HSZ0:=aA (Fw.out s0 rfl);have Eg:=zT A2 m2 c2 0 Bd _ W8 hy8 (by omega);have jx:eK eF Bd 0=eF Bd 0:=by unfold eK;rw [if_neg (by omega)];rfl
   rw [jx] at Eg;clear jx hU;go_upto_region 21 with (refine sN ?_)
   try dsimp only
   rw [<-sw,<-Jw.out];clear sw vg;refine Tyal ?_;cases hp:eF Bd 0 with
   |error k9=>
    have Xz:k9≠0:=zU Bd 0 k9 hp;have dx:((k9:Int) != 0)=true:=by simpa using Xz
    have an:=aA (Dn.out.trans (oI (AR (s:=s0) hp)));rw [hp] at Eg;have Ia:=aA Eg;clear Eg hp Xz;go_wp2_with fail;refine Ia.out.mono ?_;rintro e w9 ⟨h9,b9⟩;unfold iE at h9;dsimp only at h9;subst h9;have Fu:=bT b9 Mj;have gf:=Below.ext Bl b9;exact Tzej
   |ok pq=>
    obtain ⟨ps,qp⟩:=pq;rw [hp] at Eg;have Ia:=aA Eg;have Zp:qp<=Bd.length:=(rK hp).hi;have HPP:=aA hp;clear Eg hp;go_wp2_with fail;refine Ia.out.mono ?_;rintro e w9 ⟨h9,b9⟩;unfold iE at h9;dsimp only at h9;obtain ⟨v9,rfl,Ap,pc,rfl,Ch⟩:=h9;have Xn:=Ch.pgs;obtain ⟨np,Xp⟩:=eX ps.length;rw [<-Xp] at Xn ⊢;have Fu:=bT b9 Mj;have Rs9:=bT b9 Rs ls;have gf:=Below.ext Bl b9;have s9:=b9.size;have We:=Yc.ext b9;have HWH:=aA (uP A2 m2 c2 Bd _ w9 (hy8.ext b9) (by omega) qp Zp);clear Ch Xp Yc hy8 Zp;go_wp2_with fail;refine HWH.out.mono ?_;rintro e kc ⟨ok,E1,nz,pf,E2,jt,pe,E3,js,pb,E4,jr,pa,rfl,X8,xe,nh⟩;have s10:=nh.size;obtain ⟨yr,vr,kt,St,bt,Lu,Rt,HBt,lt,mt⟩:=bE kc #[.slice E1 nz pf,.slice E2 jt pe,.slice E3 js pb,.slice E4 jr pa] 51;have uk:=Below.ext nh kt;have z11:=uk.size;have R1B:=bT uk Fu;have RsB:=bT uk Rs9;have hbB:=Below.ext gf uk;have hUB:=We.ext uk;have q11:=bn RsB.out;have Fx:=aA (EM G1 Mp Tg s0.cells yr (hUB.1.mono (λb h _=>h)) (by have:=hUB.1.len.1;have:=HSZ0.out.1;omega) Ap np pc ps (DB (Xn.ext uk)));clear Xn We;go_upto_region 27 with (refine sN ?_)
    try dsimp only
    rw [<-vr,<-HBt.out];clear vr Lu;refine Tyal ?_;go_wp2_with fail;refine Fx.out.mono ?_;rintro e vb ⟨N4,tj⟩;have z12:=tj.size;clear q11;have R1C:=bT tj R1B;have Wt:=bT tj RsB;have UK:=bT tj Rt lt;have hbC:=Below.ext hbB tj;have hUC:=hUB.ext tj;have qt:=bn UK.out;cases hw:cC Bd qp with
    |none=>
     obtain rfl:=xe hw;obtain ⟨Aq,mq,cq,kq,rfl⟩:=N4.gen;have an:=aA (Dn.out.trans (oI (AQ (s:=s0) HPP.out hw)));clear hw X8 xe N4;exact Tzc0
    |some t=>
     obtain ⟨rfl,hT⟩:=X8 t hw;have hTC:=(hT.ext kt).ext tj;have ki:=hTC.1.len.1;have YL:=aA hw;clear hw X8 xe hT;by_cases Xh:t.cells=[]
     case neg=>
      have um:0<nz:=by have:=List.length_pos_iff.2 Xh;omega
      have de:decide (0<nz)=true:=by simpa using um
      have dei:decide ((0:Int)<(nz:Int))=true:=by simpa using um
      obtain ⟨Aq,mq,cq,kq,rfl⟩:=N4.gen
      have an:=aA (Dn.out.trans (oI (by
       cases hx:bO s0.cells ps with
       |error kx=>exact uD HPP.out YL.out hx
       |ok bx=>exact AS HPP.out YL.out hx Xh)))
      clear Xh N4;exact Tzc0
     obtain rfl:nz=0:=by rw [Xh] at ki;simpa using ki.symm
     cases hx:bO s0.cells ps with
     |error kx=>
      rw [hx] at N4;unfold Fh at N4;dsimp only at N4;obtain ⟨yi,rfl⟩:=N4;have dx:((kx:Int) != 0)=true:=by simpa using yi
      have an:=aA (Dn.out.trans (oI (uD HPP.out YL.out hx)));clear hx yi Xh;exact Tzc0
     |ok cs=>
      rw [hx] at N4;unfold Fh at N4;dsimp only at N4;obtain ⟨Aq,cq,rfl,hOQ⟩:=N4;have an:=aA (Dn.out.trans (AB (AT HPP.out YL.out hx Xh)));have hcq:=hOQ.recs.mono (S' :=λb=>yr.heap.size<=b) (λb _ h=>h.1);have hcqn:=hOQ.len.1;clear hx Xh hOQ;go_upto_region 30 with fail;clear qt;obtain ⟨wd,Cb⟩:=eX vb.drew;have kd:Below vb.heap.size vb wd:=by rw [Cb];exact (Below.refl _ vb).drew
      have Yb:=hUC.ext kd;have ZB:=hTC.ext kd;have ZM:=HSZ0.out;have ul1:=Yb.1.len.1;go_wp2_with fail;refine aH ((λw' =>w'.heap[bs]? =some (.cells #[.slice G1 Mp Tg,.slice G2 J0 Tf,.slice G3 Iz Te,.slice G4 Iy Td] 51 (0,0))/\w'.heap[bt]? =some (.cells #[.slice E1 0 pf,.slice E2 jt pe,.slice E3 js pb,.slice E4 jr pa] 51 (0,0)))) (by kernel_rfl) (by kernel_rfl) (⟨Wt.out,UK.out⟩) ?_;refine TkB ?_;have K0_:Below wd.heap.size wd wd:=Below.refl _ wd;have lu2:=(Yb.2).len.1;have lt2:=(ZB.2).len.1;have mt2:jt<=100000000:=by have:=(jJ (by have:=WG.out;omega) YL.out).e;omega
      refine lL (λw' ah =>aB (iD _) (fi ah.1)) ?_;refine Tya0 ?_;rw [<-Cb];clear Cb;refine aF rfl ?_;refine aJ cN iA (.agg #[.int .i64 0,.int .i64 0,.int .i64 0,.int .i64 0,.int .i64 0,.int .i64 0,.int .i64 0]) 56 _ _ 30 78 wd.heap.size [] s0.evs G2 J0 Tf (.slice none 0 0) J0 rfl rfl underlying30 nR rfl (by omega) rfl rfl (a8.nil_ _ _ _) (Yb.2.ext K0_) (by simp) (by simp;omega) (by simp;omega) (Nat.le_refl _) ?_;intro X2 xc2 wa2 J7 da _ ew Mu;rw [List.nil_append] at J7;have ka2:Below wd.heap.size wd wa2:=(Below.refl _ _).grown da (Nat.le_refl _) (λo e=>by cases e);have Ka2:=Below.ext K0_ ka2;refine aD ⟨((Below.ext kd Ka2).block bs (by omega)).trans Wt.out,((Below.ext kd Ka2).block bt (by omega)).trans UK.out⟩ ?_;refine Tya0 ?_;refine TkB ?_;refine lL (λw' ah =>aB (iD _) (fi ah.2)) ?_;refine Tya0 ?_;refine aF rfl ?_;refine aJ cN iA (.agg #[.int .i64 0,.int .i64 0,.int .i64 0,.int .i64 0,.int .i64 0,.int .i64 0,.int .i64 0]) 56 _ _ 30 78 wd.heap.size s0.evs t.evs E2 jt pe (.slice X2 J0 xc2) (J0+jt) rfl rfl underlying30 nR rfl (by omega) rfl rfl J7 (ZB.2.ext Ka2) (by omega) (by omega) (by omega) ka2.size ?_;intro Y2 Rk Vq Nx Fm _ mi Ds;have kb2:Below wd.heap.size wd Vq:=ka2.grown Fm ka2.size (λo e=>(World.ownsRow.lt J7 _ e).1);have Kb2:=Below.ext K0_ kb2;have Sj:=Nx.recs.mono (S' :=λb=>yr.heap.size<=b) (λb _ h=>by have h2:wd.heap.size<=b:=h.1;have:=K0_.size;have:=kd.size;omega);refine aD ⟨((Below.ext kd Kb2).block bs (by omega)).trans Wt.out,((Below.ext kd Kb2).block bt (by omega)).trans UK.out⟩ ?_;refine Tya0 ?_;refine TkB ?_;have lu3:=(Yb.3).len.1;have lt3:=(ZB.3).len.1;have mt3:js<=100000000:=by have:=(jJ (by have:=WG.out;omega) YL.out).sn;omega
      refine lL (λw' ah =>aB (jA _) (gn ah.1)) ?_;refine Tya0 ?_;refine aF rfl ?_;refine aJ cZ iP (.agg #[.int .i64 0,.int .i64 0,.int .i64 0,.int .i64 0]) 32 _ _ 48 127 Vq.heap.size [] s0.sent G3 Iz Te (.slice none 0 0) Iz rfl rfl underlying48 sZ rfl (by omega) rfl rfl (a8.nil_ _ _ _) (Yb.3.ext Kb2) (by simp) (by simp;omega) (by simp;omega) (Nat.le_refl _) ?_;intro X3 xc3 wa3 VI ee _ rh Vy;rw [List.nil_append] at VI;have ka3:Below Vq.heap.size Vq wa3:=(Below.refl _ _).grown ee (Nat.le_refl _) (λo e=>by cases e);have Ka3:=Below.ext Kb2 ka3;refine aD ⟨((Below.ext kd Ka3).block bs (by omega)).trans Wt.out,((Below.ext kd Ka3).block bt (by omega)).trans UK.out⟩ ?_;refine Tya0 ?_;refine TkB ?_;refine lL (λw' ah =>aB (jA _) (gn ah.2)) ?_;refine Tya0 ?_;refine aF rfl ?_;refine aJ cZ iP (.agg #[.int .i64 0,.int .i64 0,.int .i64 0,.int .i64 0]) 32 _ _ 48 127 Vq.heap.size s0.sent t.sent E3 js pb (.slice X3 Iz xc3) (Iz+js) rfl rfl underlying48 sZ rfl (by omega) rfl rfl VI (ZB.3.ext Ka3) (by omega) (by omega) (by omega) ka3.size ?_;intro Y3 yc3 Vp Eh Lg _ Mz Aj;have Tv:Below Vq.heap.size Vq Vp:=ka3.grown Lg ka3.size (λo e=>(World.ownsRow.lt VI _ e).1);have ZZ:=Below.ext Kb2 Tv;have hZ3:=Eh.recs.mono (S' :=λb=>yr.heap.size<=b) (λb _ h=>by have h2:Vq.heap.size<=b:=h.1;have:=Kb2.size;have:=kd.size;omega);refine aD ⟨((Below.ext kd ZZ).block bs (by omega)).trans Wt.out,((Below.ext kd ZZ).block bt (by omega)).trans UK.out⟩ ?_;refine Tya0 ?_;refine TkB ?_;have lu4:=(Yb.4).len.1;have lt4:=(ZB.4).len.1;have mt4:jr<=100000000:=by have:=(jJ (by have:=WG.out;omega) YL.out).o;omega
      refine lL (λw' ah =>aB (jB _) (lj ah.1)) ?_;refine Tya0 ?_;refine aF rfl ?_;refine aJ dA iQ (.agg #[.int .i64 0,.int .i64 0]) 16 _ _ 49 129 Vp.heap.size [] s0.outs G4 Iy Td (.slice none 0 0) Iy rfl rfl underlying49 tA rfl (by omega) rfl rfl (a8.nil_ _ _ _) (Yb.4.ext ZZ) (by simp) (by simp;omega) (by simp;omega) (Nat.le_refl _) ?_;intro X4 xc4 wa4 ho4 nw _ Cr Vx;rw [List.nil_append] at ho4;have ka4:Below Vp.heap.size Vp wa4:=(Below.refl _ _).grown nw (Nat.le_refl _) (λo e=>by cases e);have Ka4:=Below.ext ZZ ka4;refine aD ⟨((Below.ext kd Ka4).block bs (by omega)).trans Wt.out,((Below.ext kd Ka4).block bt (by omega)).trans UK.out⟩ ?_;refine Tya0 ?_;refine TkB ?_;refine lL (λw' ah =>aB (jB _) (lj ah.2)) ?_;refine Tya0 ?_;refine aF rfl ?_;refine aJ dA iQ (.agg #[.int .i64 0,.int .i64 0]) 16 _ _ 49 129 Vp.heap.size s0.outs t.outs E4 jr pa (.slice X4 Iy xc4) (Iy+jr) rfl rfl underlying49 tA rfl (by omega) rfl rfl ho4 (ZB.4.ext Ka4) (by omega) (by omega) (by omega) ka4.size ?_;intro Y4 yc4 wb4 hp4 Nw _ Lf Io;have kb4:Below Vp.heap.size Vp wb4:=ka4.grown Nw ka4.size (λo e=>(World.ownsRow.lt ho4 _ e).1);have Kb4:=Below.ext ZZ kb4;have hZ4:=hp4.recs.mono (S' :=λb=>yr.heap.size<=b) (λb _ h=>by have h2:Vp.heap.size<=b:=h.1;have:=ZZ.size;have:=kd.size;omega);refine aD ⟨((Below.ext kd Kb4).block bs (by omega)).trans Wt.out,((Below.ext kd Kb4).block bt (by omega)).trans UK.out⟩ ?_;refine Tya0 ?_;refine TkB ?_;have KZ:=Below.ext kd Kb4;have kzs:=KZ.size;have RsZ:=bT KZ Wt;have RtZ:=bT KZ UK;have RZ:=bT KZ R1C;refine aF rfl ?_;go_wp2_with fail;refine aD (⟨RsZ.out,RtZ.out⟩) ?_;refine TkB ?_;obtain ⟨wz,Xa⟩:=eX (wb4.setRow (w.heap.size+1) #[.slice Aq Mp cq,.slice Y2 (J0+jt) Rk,.slice Y3 (Iz+js) yc3,.slice Y4 (Iy+jr) yc4]);have gz:wb4.grownBy wz (some (w.heap.size+1)):=by rw [Xa];exact aC _ _ _
      have Nc:=aA (show wz.heap[w.heap.size+1]? =some (.cells #[.slice Aq Mp cq,.slice Y2 (J0+jt) Rk,.slice Y3 (Iz+js) yc3,.slice Y4 (Iy+jr) yc4] 51 (0,0)) by rw [Xa];exact setRow_heap _ _ _ _ _ _ RZ.out);refine aF rfl ?_;refine sR RZ ?_;rw [<-Xa];clear Xa;refine aD ⟨(gz.block bs (by omega) (by simp;omega)).trans RsZ.out,(gz.block bt (by omega) (by simp;omega)).trans RtZ.out⟩ ?_;simp only [Act.put];refine TkB ?_;refine aP ?_;go_wp2_with fail;refine bodyPost_ret (jX rfl rfl (lB (t:=51) Nc.out)) rfl ?_;rw [an.out];have kp:ae (λb=>yr.heap.size<=b) wb4 wz:=λb hb hs=>gz.block b hb (by simp;omega)
      exact ⟨⟨Aq,Mp,cq,Y2,J0+jt,Rk,Y3,Iz+js,yc3,Y4,Iy+jr,yc4,rfl,⟨((hcq.ext KZ).keep kp).mono (λb _ h=>by omega),(((Sj.ext Tv).ext kb4).keep kp).mono (λb _ h=>by omega),((hZ3.ext kb4).keep kp).mono (λb _ h=>by omega),(hZ4.keep kp).mono (λb _ h=>by omega)⟩⟩,(Below.ext hbC KZ).grown gz (Below.ext hbC KZ).size (λo e=>by cases e;omega)⟩
theorem mP (fs:List au) (hf:eD fs) (m:Nat) (k:Int) (r:Except Nat bj) (h:bm fs m k r):m<=100000->RlR fs k r:=by
 induction h with
 |err h1=>exact λ_=>⟨λs hs=>(by cases hs),mQ fs hf _ _ (by unfold L3;rw [h1])⟩
 |full h1=>exact λhm=>⟨(iT fs hf _ _ _ (.full (n:=0) h1) (by omega)).1,mQ fs hf _ _ (by unfold L3;rw [h1])⟩
 |lost h1 h2=>exact λ_=>⟨λs hs=>(by cases hs),mQ fs hf _ _ (by unfold L3;rw [h1];exact .inl ⟨h2,rfl⟩)⟩
 |under h1 h2 h3 h4 ih=>exact λhm=>⟨λs hs=>(by cases hs),mQ fs hf _ _ (by unfold L3;rw [h1];exact .inr ⟨_,_,_,h2,h3,ih (by omega),rfl⟩)⟩
 |grown h1 h2 h3 h4 h5 ih=>exact λhm=>⟨(iT fs hf _ _ _ (.grown h1 h2 h3 h4 h5) hm).1,mQ fs hf _ _ (by unfold L3;rw [h1];exact .inr ⟨_,_,_,h2,h3,ih (by omega),by rw [<-h5]⟩)⟩
end Go.Proofs.YtiblijmngokcgaaGreatDoor
