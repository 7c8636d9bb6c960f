import Derived.Test.YtiblijmngokcgaaGreatDoorPl2Zs
import Derived.Test.YtiblijmngokcgaaGreatDoorG44Zs
set_option linter.unusedVariables false
set_option linter.unusedSimpArgs false
set_option maxHeartbeats 8000000
set_option maxRecDepth 100000
namespace Go.Proofs.YtiblijmngokcgaaGreatDoor
open Go.Proofs.Tryz
open Go.RowKit
theorem uQ (A:Option Addr) (n c:Nat) (fs:List au) (S:Nat->Prop) (w:World) (hD:fh S w (.slice A n c) fs) (hn:n<=1000) (hf:eD fs):
 Calls Tryz.prog 58 #[.agg #[.slice A n c]] w λe w' =>e= .returned (.int .i64 (bM fs))/\Below w.heap.size w w' :=by
 have HF:=aA hf;have ez:=aA hD.len.1;obtain ⟨W,hW,bW,kW,SW,R0⟩:=bX w w #[.slice A n c] 36 (Below.refl _ _);have sW:w.heap.size<W.heap.size:=by have:=SW.out;omega
 have Bp:=hD.ext kW;clear hD hf;go_enter func58,ntmps58;go_upto_region 1 with fail;rw [<-hW];clear hW;go_wp2;go_loopw [3,4] (λz i wr=>∃(iv:Nat),i= .int .i64 iv/\iv<=n/\z= .int .i64 (bM (fs.take iv))/\Below W.heap.size W wr) (λ_ i _=>n-(intOf i).toNat);case atStart=>exact ⟨0,rfl,by omega,rfl,Below.refl _ _⟩
 case round=>
  obtain ⟨iv,rfl,hiv,rfl,ag⟩:=hrel;obtain ⟨z,hz⟩:=eX (bM (fs.take iv));rw [<-hz];have Fk:=iR (fs.take iv);rw [<-hz] at Fk;unfold nD at Fk;have HZ:=aA hz;clear hz;have Ng:=ag.size;have E6:=bT ag R0;have qd:=bn E6.out;by_cases af:iv<n
  ·obtain ⟨f,hf⟩:∃f,fs[iv]? =some f:=⟨_,List.getElem?_eq_getElem (by have:=ez.out;omega)⟩
   have en:=nZ hf;rw [<-HZ.out,zG hf] at en;have lf:=aA en;have WC:=aA (mS A n c fs _ wr (Bp.ext ag) hn (iv:Int) HF.out);have o7:=jS HF.out (iv:Int);clear hf en;go_wp2_with (refine lD (t:=36) E6 ?_)
   refine WC.out.mono ?_;rintro e wa ⟨A1,m1,c1,rfl,hy,ba⟩;have hym:=hy.len.1;have Vd:=aA (mR A1 m1 c1 _ _ wa hy (by omega));clear hy hym o7 qd;go_wp2_with fail;refine Vd.out.mono ?_;rintro e wb ⟨h,q,x,rfl,Zt,YA⟩;obtain ⟨Wb,su,kg,Sg,bg,pj,Rg,zq,lg,mg⟩:=bE wb #[.int .i64 h.kind,.int .i64 h.stamp,.int .i64 h.base,.int .i64 h.under] 96;have fe:=Below.ext ag (Below.ext ba (Below.ext YA kg));have qg:=fi Rg.out;go_upto_region 6 with (refine sN ?_)
   try dsimp only
   rw [<-su,<-zq.out];clear su pj;refine Tyal ?_;rcases Zt with ⟨oi,rfl⟩|⟨oi,fa,rfl,rfl⟩
   case inr=>
    have dx:((x:Int)==0)=false:=by simpa using fa
    have HN:=aA (show bM (fs.take (iv+1))=z by have:=lf.out;rw [oi] at this;rw [this];show max z 0=z;omega);clear oi fa qg;go_wp2;go_roundw;case rel=>exact ⟨iv+1,by go_num,by omega,by rw [HN.out],fe⟩
    case measure=>simp [intOf];omega
   have Jd:=jP oi;have Lp:=Jd.1 h.stamp (by simp [Hd.l]);unfold av at Lp;have HN:=aA (show bM (fs.take (iv+1))=max z h.stamp by have:=lf.out;rw [oi] at this;exact this);clear oi Jd;by_cases hzg:z<h.stamp
   ·have dz:decide (z<h.stamp)=true:=by simpa using hzg
    have HM:=aA (show bM (fs.take (iv+1))=h.stamp by rw [HN.out];omega);exact Tze4
   ·have dz:decide (z<h.stamp)=false:=by simpa using hzg
    have HM:=aA (show bM (fs.take (iv+1))=z by rw [HN.out];omega);exact Tze4
  ·obtain rfl:n=iv:=by omega
   have an:=aA (show bM fs=z by rw [HZ.out,List.take_of_length_le (by rw [ez.out];exact Nat.le_refl _)]);go_wp2;go_ret;rw [an.out];exact ⟨rfl,Below.ext kW ag⟩
theorem CB (s u:bj) (A1:Option Addr) (n1 c1:Nat) (A2:Option Addr) (n2 c2:Nat) (A3:Option Addr) (n3 c3:Nat) (A4:Option Addr) (n4 c4:Nat) (B1:Option Addr) (m1 d1:Nat) (B2:Option Addr) (m2 d2:Nat) (B3:Option Addr) (m3 d3:Nat) (B4:Option Addr) (m4 d4:Nat) (S1 S2:Nat->Prop) (w:World) (hM:j7 S1 w s A1 n1 c1 A2 n2 c2 A3 n3 c3 A4 n4 c4) (hU:j7 S2 w u B1 m1 d1 B2 m2 d2 B3 m3 d3 B4 m4 d4):
 Calls Tryz.prog 53 #[.agg #[.slice A1 n1 c1,.slice A2 n2 c2,.slice A3 n3 c3,.slice A4 n4 c4],.agg #[.slice B1 m1 d1,.slice B2 m2 d2,.slice B3 m3 d3,.slice B4 m4 d4]] w λe w' =>e= .returned (.bool (nE s u))/\Below w.heap.size w w' :=by
 obtain ⟨W,hW,aw,SW,R0,R1⟩:∃W,W=(w.alloc (.cells #[.slice A1 n1 c1,.slice A2 n2 c2,.slice A3 n3 c3,.slice A4 n4 c4] 51)).alloc (.cells #[.slice B1 m1 d1,.slice B2 m2 d2,.slice B3 m3 d3,.slice B4 m4 d4] 51)/\Below w.heap.size w W/\RowKit.Hid (W.heap.size=w.heap.size+2)/\
  RowKit.Hid (W.heap[w.heap.size]? =some (.cells #[.slice A1 n1 c1,.slice A2 n2 c2,.slice A3 n3 c3,.slice A4 n4 c4] 51 (0,0)))/\RowKit.Hid (W.heap[w.heap.size+1]? =some (.cells #[.slice B1 m1 d1,.slice B2 m2 d2,.slice B3 m3 d3,.slice B4 m4 d4] 51 (0,0))):=by
  refine ⟨_,rfl,((Below.refl _ w).alloc (Nat.le_refl _) _).alloc (by simp) _,aA (by simp),aA ?_,aA ?_⟩
  ·exact Tzap
  ·exact Tzch
 have af:w.heap.size+1<W.heap.size:=by have:=SW.out;omega
 have dv:=hM.1.len.1;have iq:=hU.1.len.1;have dd:=hM.2.len;have uc:=hU.2.len;have Ak:=hM.3.len;have O8:=hU.3.len;have Ir:=hM.4.len;have Gu:=hU.4.len;have HMW:=aA (hM.ext aw);have HUW:=aA (hU.ext aw);have p0:=bn R0.out;have q0:=bn R1.out;have p1:=fi R0.out;have q1:=fi R1.out;have p2:=gn R0.out;have q2:=gn R1.out;have p3:=lj R0.out;have q3:=lj R1.out;have noB:¬(n1=m1/\m2<=n2/\m3<=n3/\m4<=n4)->nE s u=false:=by
  intro h;cases hx:nE s u with
  |false=>rfl
  |true=>
   have hy:=(oM s u).1 hx;have:=hy.c;have:=hy.e.length_le;have:=hy.sn.length_le;have:=hy.o.length_le;exact absurd ⟨by omega,by omega,by omega,by omega⟩ h
 have NOB:=aA noB;have HK:=aA (show u.evs.length=m2/\u.sent.length=m3/\u.outs.length=m4 from ⟨uc.1,O8.1,Gu.1⟩);have zp:=aA (show s.cells.length=n1/\u.cells.length=m1 from ⟨dv,iq⟩);have cb2:=dd.2;have cb3:=Ak.2;have cb4:=Ir.2;have db2:=uc.2;have db3:=O8.2;have db4:=Gu.2;clear hM hU noB dv iq dd uc Ak O8 Ir Gu;go_enter func53,ntmps53;go_upto_region 1 with fail;rw [<-hW];clear hW;by_cases h1:n1=m1;case neg=>
  have d1:((n1:Int) != (m1:Int))=true:=by simp;omega
  have d1n:(n1 != m1)=true:=by simpa using h1
  have an:=aA (NOB.out (by omega));clear h1;go_wp2;go_ret;rw [an.out];exact ⟨rfl,aw⟩
 have d1:((n1:Int) != (m1:Int))=false:=by simp [h1]
 have d1n:(n1 != m1)=false:=by simp [h1]
 by_cases h2:n2<m2;case pos=>
  have d2:decide (n2<m2)=true:=by simpa using h2
  have d2i:decide ((n2:Int)<(m2:Int))=true:=by simp;omega
  have an:=aA (NOB.out (by omega));clear h2;go_wp2;go_ret;rw [an.out];exact ⟨rfl,aw⟩
 have d2:decide (n2<m2)=false:=by simpa using h2
 have d2i:decide ((n2:Int)<(m2:Int))=false:=by simp;omega
 have le2:m2<=n2:=by omega
 by_cases h3:n3<m3;case pos=>
  have d3:decide (n3<m3)=true:=by simpa using h3
  have d3i:decide ((n3:Int)<(m3:Int))=true:=by simp;omega
  have an:=aA (NOB.out (by omega));clear h3;go_wp2;go_ret;rw [an.out];exact ⟨rfl,aw⟩
 have d3:decide (n3<m3)=false:=by simpa using h3
 have d3i:decide ((n3:Int)<(m3:Int))=false:=by simp;omega
 have le3:m3<=n3:=by omega
 by_cases h4:n4<m4;case pos=>
  have d4:decide (n4<m4)=true:=by simpa using h4
  have d4i:decide ((n4:Int)<(m4:Int))=true:=by simp;omega
  have an:=aA (NOB.out (by omega));clear h4;go_wp2;go_ret;rw [an.out];exact ⟨rfl,aw⟩
 have d4:decide (n4<m4)=false:=by simpa using h4
 have d4i:decide ((n4:Int)<(m4:Int))=false:=by simp;omega
 have nq:m4<=n4:=by omega
 have H1:=aA h1;clear h1 h2 h3 h4;go_upto_region 3 with fail;clear p0 q0 p1 q1 p2 q2 p3 q3 d1 d1n d2 d2i d3 d3i d4 d4i;obtain ⟨wd,Cb⟩:=eX W.drew;have kd:Below W.heap.size W wd:=by rw [Cb];exact (Below.refl _ W).drew
 have E1:=aA (NZ A2 B2 m2 c2 m2 d2 (s.evs.take m2) u.evs S1 S2 wd ((HMW.out.2.take_ cN le2).ext kd) (HUW.out.2.ext kd));have E2:=aA (λ(w' :World) (b:Below W.heap.size W w')=>NX A3 B3 m3 c3 m3 d3 (s.sent.take m3) u.sent S1 S2 w' ((HMW.out.3.take_ cZ le3).ext b) (HUW.out.3.ext b));have E3:=aA (λ(w' :World) (b:Below W.heap.size W w')=>NY A4 B4 m4 c4 m4 d4 (s.outs.take m4) u.outs S1 S2 w' ((HMW.out.4.take_ dA nq).ext b) (HUW.out.4.ext b));obtain ⟨g1,fj⟩:=eX (decide (s.evs.take m2=u.evs));obtain ⟨g2,da⟩:=eX (decide (s.sent.take m3=u.sent));obtain ⟨g3,ee⟩:=eX (decide (s.outs.take m4=u.outs));rw [<-fj] at E1;rw [<-da] at E2;rw [<-ee] at E3;have an:=aA (show nE s u=(g1 && (g2 && g3)) by unfold nE;rw [HK.out.1,HK.out.2.1,HK.out.2.2,fj,da,ee,zp.out.1,zp.out.2,H1.out];simp);clear fj da ee;go_wp2_with fail;refine aH ((λw' =>w'.heap[w.heap.size]? =some (.cells #[.slice A1 n1 c1,.slice A2 n2 c2,.slice A3 n3 c3,.slice A4 n4 c4] 51 (0,0))/\w'.heap[w.heap.size+1]? =some (.cells #[.slice B1 m1 d1,.slice B2 m2 d2,.slice B3 m3 d3,.slice B4 m4 d4] 51 (0,0)))) (by kernel_rfl) (by kernel_rfl) (⟨R0.out,R1.out⟩) ?_;refine TkA ?_;refine lL (λw' ah =>aB (iD _) (fi ah.1)) ?_;refine Tyac ?_;refine lL (λw' ah =>aB (iD _) (fi ah.2)) ?_;refine Tyac ?_;refine lL (λw' ah =>aB (iD _) (fi ah.2)) ?_;refine Tyac ?_;rw [<-Cb];clear Cb;refine aF rfl ?_;go_wp2_with fail;refine E1.out.mono ?_;rintro e w1 ⟨rfl,b1⟩;have y1:=Below.ext kd b1;have S1_:=aA (show w1.heap[w.heap.size]? =some (.cells #[.slice A1 n1 c1,.slice A2 n2 c2,.slice A3 n3 c3,.slice A4 n4 c4] 51 (0,0))/\w1.heap[w.heap.size+1]? =some (.cells #[.slice B1 m1 d1,.slice B2 m2 d2,.slice B3 m3 d3,.slice B4 m4 d4] 51 (0,0)) from ⟨(y1.block w.heap.size (by omega)).trans R0.out,(y1.block (w.heap.size+1) af).trans R1.out⟩);cases g1 with
 |false=>
  go_wp2_with fail;refine aD (S1_.out) ?_;refine TkA ?_;refine gU rfl rfl (S1_.out) ?_;refine Tyac ?_;refine gU rfl rfl (S1_.out) ?_;refine Tyac ?_;refine aP ?_;go_wp2;go_ret;rw [an.out];exact ⟨rfl,Below.ext aw y1⟩
 |true=>
 go_wp2_with fail;refine aD (S1_.out) ?_;refine TkA ?_;refine lL (λw' ah =>aB (jA _) (gn ah.1)) ?_;refine Tyac ?_;refine lL (λw' ah =>aB (jA _) (gn ah.2)) ?_;refine Tyac ?_;refine lL (λw' ah =>aB (jA _) (gn ah.2)) ?_;refine Tyai ?_;go_wp2_with fail;refine (E2.out w1 y1).mono ?_;rintro e w2 ⟨rfl,b2⟩;have y2:=Below.ext y1 b2;have S2_:=aA (show w2.heap[w.heap.size]? =some (.cells #[.slice A1 n1 c1,.slice A2 n2 c2,.slice A3 n3 c3,.slice A4 n4 c4] 51 (0,0))/\w2.heap[w.heap.size+1]? =some (.cells #[.slice B1 m1 d1,.slice B2 m2 d2,.slice B3 m3 d3,.slice B4 m4 d4] 51 (0,0)) from ⟨(y2.block w.heap.size (by omega)).trans R0.out,(y2.block (w.heap.size+1) af).trans R1.out⟩);cases g2 with
 |false=>
  go_wp2_with fail;refine aD (S2_.out) ?_;refine TkA ?_;refine gU rfl rfl (S2_.out) ?_;refine Tyac ?_;refine aP ?_;go_wp2;go_ret;rw [an.out];exact ⟨rfl,Below.ext aw y2⟩
 |true=>
 go_wp2_with fail;refine aD (S2_.out) ?_;refine TkA ?_;refine lL (λw' ah =>aB (jB _) (lj ah.1)) ?_;refine Tyac ?_;refine lL (λw' ah =>aB (jB _) (lj ah.2)) ?_;refine Tyac ?_;refine lL (λw' ah =>aB (jB _) (lj ah.2)) ?_;refine Tyai ?_;go_wp2_with fail;refine (E3.out w2 y2).mono ?_;rintro e w3 ⟨rfl,b3⟩;have y3:=Below.ext y2 b3;go_wp2_with fail;refine aD (⟨(y3.block w.heap.size (by omega)).trans R0.out,(y3.block (w.heap.size+1) af).trans R1.out⟩) ?_;refine Tyan ?_;go_wp2;go_ret;rw [an.out];exact ⟨rfl,Below.ext aw y3⟩
theorem a7.cap {α:Type} {enc:α->List Value} {S:Nat->Prop} {w:World} {A:Option Addr} {n c c' :Nat} {l:List α} (h:a7 enc S w (.slice A n c) l) (h1:n<=c') (h2:c'<=maxLen):a7 enc S w (.slice A n c') l:=by
 have hl:=h.len.1;obtain ⟨A',d,e,g1,g2,g3⟩:=h;cases e;exact ⟨_,c',rfl,h1,h2,g3⟩
theorem CT (A:Option Addr) (n c:Nat) (a:List Int) (S:Nat->Prop) (w:World) (h:a7 bB S w (.slice A n c) a) (hn:n<=1000000000) (k:Nat):∃X m d,Calls Tryz.prog 124 #[.slice A n c,.int .i64 (k:Int)] w (λe w' =>e= .returned (.slice X m d)/\w' =w)/\(k*4<n->m=dD n k/\a7 bB S w (.slice X m d) (cR a k)):=by
 have hl:=h.len;by_cases hk:k*4<n
 ·obtain ⟨g,o,rfl⟩:∃g o,A=some ⟨g,o,none⟩:=by
   obtain ⟨_,_,e,_,_,h3⟩:=h;simp only [Value.slice.injEq] at e;obtain ⟨g,o,e2,_⟩:=h3 (by rw [eT,List.length_map];omega);exact ⟨g,o,e.1.trans e2⟩
  exact ⟨_,_,_,zP g o n c k w hn hl.2.1 hk,λ_=>⟨rfl,(rM h hk).cap (by unfold dD;omega) (by unfold maxLen;omega)⟩⟩
 ·exact ⟨_,_,_,GG A n c k w hn (.inr (by unfold bN;omega)),λh=>absurd h hk⟩
theorem GQ (A:Option Addr) (na ca:Nat) (a:List Int) (B:Option Addr) (nb cb:Nat) (b:List Int) (S1 S2:Nat->Prop) (w:World) (h1:a7 bB S1 w (.slice A na ca) a) (h2:a7 bB S2 w (.slice B nb cb) b) (hna:na<=1000000000) (hnb:nb<=1000000):
 Calls Tryz.prog 57 #[.slice A na ca,.slice B nb cb] w λe w' =>∃P m pc,e= .returned (.slice P m pc)/\Dg (w.heap.size<=·) w' (.slice P m pc) (dJ a b)/\Below w.heap.size w w' :=by
 have HA:=aA h1.len.1;have HB:=aA h2.len.1;have hpc:bN nb<=250001:=by unfold bN;omega
 have H1:=aA h1;have H2:=aA h2;clear h1 h2;go_enter func57,ntmps57;go_wp2;go_loopw [5,6] (λl i wr=>∃(k:Nat) (P:Option Addr) (m pc:Nat),l= .slice P m pc/\i= .int .i64 k/\k<=bN nb/\m<=k/\cg w.heap.size wr (.slice P m pc) (iB a b k)/\Below w.heap.size w wr) (λ_ i _=>bN nb-(intOf i).toNat);case atStart=>exact ⟨0,none,0,0,rfl,rfl,by omega,by omega,cg.nil_ _ _,Below.refl _ _⟩
 case round=>
  obtain ⟨k,P,m,pc,rfl,rfl,hk,Kl,hP,ag⟩:=hrel;have HC:=aA (nH B nb cb wr (by omega));obtain ⟨X,mx,xd,Va,HXk⟩:=CT A na ca a _ wr (H1.out.ext ag) hna k;obtain ⟨Y,my,yd,HY0,HYk⟩:=CT B nb cb b _ wr (H2.out.ext ag) (by omega) k;have HX:=aA Va;have HY:=aA HY0;have HXK:=aA HXk;have HYK:=aA HYk;clear Va HXk HY0 HYk;go_wp2_with fail;refine HC.out.mono ?_;rintro e w1 ⟨rfl,rfl⟩;by_cases af:k<bN nb
  ·have Gu:k*4<nb:=by unfold bN at af;omega
   obtain ⟨hmy,hyR⟩:=HYK.out Gu;have hmy4:my<=4:=by rw [hmy];unfold dD;omega
   have HYR:=aA hyR;have U3:pc<=9223372036854775807:=hP.len.2.2;have jd:=hP.len.1;have Dl:=aA jd;clear hmy hyR HYK HC jd;go_wp2_with fail;refine HX.out.mono ?_;rintro e w2 ⟨rfl,rfl⟩;go_wp2_with fail;refine HY.out.mono ?_;rintro e w3 ⟨rfl,rfl⟩;have sz3:=ag.size;by_cases Pd:na=nb
   ·obtain ⟨J9,Zm⟩:=HXK.out (by omega);have yy:=aA (CR X Y mx xd my yd (cR a k) (cR b k) _ _ w3 Zm HYR.out);obtain ⟨ge,Ci⟩:=eX (decide (cR a k=cR b k));rw [<-Ci] at yy;have HGE:=aA Ci;have HAB:=aA Pd;have dn:((na:Int) != (nb:Int))=false:=by simp [Pd]
    have dnn:(na != nb)=false:=by simp [Pd]
    clear J9 Zm Ci Pd HXK;go_wp2_with fail;refine yy.out.mono ?_;rintro e w4 ⟨rfl,b4⟩;have ia:=Below.ext ag b4;have sz4:=b4.size;have hP4:cg w.heap.size w4 (.slice P m pc) (iB a b k):=by
     obtain ⟨xs,g1,g2,g3⟩:=hP;exact ⟨xs,g1.ext b4,g2,λi x t hx ht=>⟨(g3 i x t hx ht).1,(g3 i x t hx ht).2.ext b4⟩⟩
    have hyv:=HYR.out.ext b4;clear hP;cases ge with
    |true=>
     have hd:=aA (AZ (a:=a) (b:=b) (k:=k) (by rw [HA.out,HB.out];exact HAB.out) (by have:=HGE.out;simpa using this.symm));go_wp2;go_roundw;case rel=>exact ⟨k+1,P,m,pc,rfl,by go_num,by omega,by omega,by rw [hd.out];exact hP4,ia⟩
     case measure=>simp [intOf];omega
    |false=>
     have hd:=aA (pE (a:=a) (b:=b) (k:=k) (λh=>by have:=HGE.out;simp at this;exact this h.2));obtain ⟨xs,aj,oo,Gg⟩:=hP4;have Ei:=aj.len.1;have Ll:∀b,(Value.slice P m pc).ownBlock=some b->w.heap.size<=b/\b<w4.heap.size:=λb e=>World.ownsRow.lt aj b e
     have HYV:=aA hyv;go_upto_region 7 with fail;clear dn dnn;go_wp2_with (refine eY 35 rfl ?_)
     refine ⟨?_⟩;refine aJ cD gK (.int .i64 0) 8 _ _ 23 3 w4.heap.size [] (cR b k) Y my yd (.slice none 0 0) my rfl rfl underlying23 kZ rfl (by omega) rfl rfl (a8.nil_ _ _ _) HYV.out (by simp) (by simp;omega) (by simp;omega) (Nat.le_refl _) ?_;intro Q qc w5 hq o8 hq0 hq1 Fm;rw [List.nil_append] at hq;have k5:Below w4.heap.size w4 w5:=(Below.refl _ _).grown o8 (Nat.le_refl _) (λo e=>by cases e);have ha:Below w5.heap.size w5 (w5.alloc (.cells #[.int .i64 (k:Int),.slice Q my qc] 163)):=(Below.refl _ _).alloc (Nat.le_refl _) _;have k6:=Below.ext k5 ha;have ax:a7 iJ (λ_=>True) (w5.alloc (.cells #[.int .i64 (k:Int),.slice Q my qc] 163)) (.slice (some ⟨w5.heap.size,0,none⟩) 1 1) [⟨(k:Int),Q,my,qc⟩]:=⟨_,1,rfl,by simp,by simp [maxLen],Cs.lit _ _ _ _ _ trivial rfl⟩
     have hqr:a7 bB (λb=>w.heap.size<=b/\(Value.slice P m pc).ownBlock≠some b) (w5.alloc (.cells #[.int .i64 (k:Int),.slice Q my qc] 163)) (.slice Q my qc) (cR b k):=(hq.recs.mono (λb _ h=>⟨by have h2:w4.heap.size<=b:=h.1;omega,λe=>by have h2:w4.heap.size<=b:=h.1;have:=Ll b e;omega⟩)).ext ha;have ru:=aj.ext k6;have il:=Below.ext ia k6;exact Tzbh
   ·have dn:((na:Int) != (nb:Int))=true:=by simp;omega
    have dnn:(na != nb)=true:=by simpa using Pd
    have hd:=aA (pE (a:=a) (b:=b) (k:=k) (λh=>Pd (by rw [<-HA.out,<-HB.out];exact h.1)));have hyv:=HYR.out;clear Pd HXK;obtain ⟨xs,aj,oo,Gg⟩:=hP;have Ei:=aj.len.1;have Ll:∀b,(Value.slice P m pc).ownBlock=some b->w.heap.size<=b/\b<w3.heap.size:=λb e=>World.ownsRow.lt aj b e
    have HYV:=aA hyv;go_upto_region 7 with fail;clear dn dnn;go_wp2_with (refine eY 35 rfl ?_)
    refine ⟨?_⟩;refine aJ cD gK (.int .i64 0) 8 _ _ 23 3 w3.heap.size [] (cR b k) Y my yd (.slice none 0 0) my rfl rfl underlying23 kZ rfl (by omega) rfl rfl (a8.nil_ _ _ _) HYV.out (by simp) (by simp;omega) (by simp;omega) (Nat.le_refl _) ?_;intro Q qc w5 hq o8 hq0 hq1 Fm;rw [List.nil_append] at hq;have k5:Below w3.heap.size w3 w5:=(Below.refl _ _).grown o8 (Nat.le_refl _) (λo e=>by cases e);have ha:Below w5.heap.size w5 (w5.alloc (.cells #[.int .i64 (k:Int),.slice Q my qc] 163)):=(Below.refl _ _).alloc (Nat.le_refl _) _;have k6:=Below.ext k5 ha;have ax:a7 iJ (λ_=>True) (w5.alloc (.cells #[.int .i64 (k:Int),.slice Q my qc] 163)) (.slice (some ⟨w5.heap.size,0,none⟩) 1 1) [⟨(k:Int),Q,my,qc⟩]:=⟨_,1,rfl,by simp,by simp [maxLen],Cs.lit _ _ _ _ _ trivial rfl⟩
    have hqr:a7 bB (λb=>w.heap.size<=b/\(Value.slice P m pc).ownBlock≠some b) (w5.alloc (.cells #[.int .i64 (k:Int),.slice Q my qc] 163)) (.slice Q my qc) (cR b k):=(hq.recs.mono (λb _ h=>⟨by have h2:w3.heap.size<=b:=h.1;omega,λe=>by have h2:w3.heap.size<=b:=h.1;have:=Ll b e;omega⟩)).ext ha;have ru:=aj.ext k6;have il:=Below.ext ag k6;exact Tzbh
  ·obtain rfl:k=bN nb:=by omega
   have an:=aA (show Dg (w.heap.size<=·) w1 (.slice P m pc) (dJ a b) by have:=hP.pgs;rw [show dJ a b=iB a b (bN nb) by unfold dJ iB;rw [HB.out]];exact this);go_wp2;go_ret;exact ⟨P,m,pc,rfl,an.out,ag⟩
end Go.Proofs.YtiblijmngokcgaaGreatDoor
