import Derived.Test.YtiblijmngokcgaaGreatDoorG39Zs
set_option linter.unusedVariables false
set_option linter.unusedSimpArgs false
set_option maxHeartbeats 8000000
set_option maxRecDepth 100000
namespace Go.Proofs.YtiblijmngokcgaaGreatDoor
open Go.Proofs.Tryz
open Go.RowKit
theorem nH (A:Option Addr) (n c:Nat) (w:World) (hn:n<=1000000000):Calls Tryz.prog 123 #[.slice A n c] w λe w' =>e= .returned (.int .i64 (bN n:Nat))/\w' =w:=by
 obtain ⟨q,hq⟩:=eX (n / 4);obtain ⟨r,hr⟩:=eX (n%4);have Fm:((n:Int).tdiv 4)=(q:Int):=by rw [hq];rfl
 have mi:((n:Int).tmod 4)=(r:Int):=by rw [hr];rfl
 have hqb:q<=1000000000:=by omega
 have HQ:=aA hq;by_cases h:r=0
 ·have HP:=aA (show bN n=q by unfold bN;omega);have d:((r:Int) != 0)=false:=by simp [h]
  have dn:(r != 0)=false:=by simp [h]
  clear h hq hr;go_enter func123,ntmps123;go_wp2;go_ret;rw [HP.out];exact ⟨rfl,rfl⟩
 ·have HP:=aA (show bN n=q+1 by unfold bN;omega);have d:((r:Int) != 0)=true:=by simpa using h
  have dn:(r != 0)=true:=by simpa using h
  clear h hr hq;go_enter func123,ntmps123;go_wp2;go_ret;rw [HP.out];have:=HQ.out;exact ⟨by simp<;>omega,rfl⟩
theorem zP (g o n c k:Nat) (w:World) (hn:n<=1000000000) (VJ:n<=c) (hk:k*4<n):Calls Tryz.prog 124 #[.slice (some ⟨g,o,none⟩) n c,.int .i64 (k:Int)] w λe w' =>e= .returned (.slice (some ⟨g,o+k*4,none⟩) (dD n k) (c-k*4))/\w' =w:=by
 obtain ⟨L,hL⟩:=eX (dD n k);rw [<-hL];unfold dD at hL;have Qx:=aA hL;have HC:=aA (nH (some ⟨g,o,none⟩) n c w hn);have d0:decide ((k:Int)<0)=false:=by simp
 have d1:decide (bN n<=k)=false:=by unfold bN;simp;omega
 clear hL;by_cases h:k*4+4<n
 ·go_enter func124,ntmps124;go_wp2_with fail;refine HC.out.mono ?_;rintro e w1 ⟨rfl,rfl⟩;go_wp2;all_goals
   go_ret;have hl:=Qx.out;clear Qx;refine ⟨?_,rfl⟩;first
   |(have e:k*4+4-k*4=L:=(by omega);rw [<-e];rfl)
   |(have e:n-k*4=L:=(by omega);rw [<-e];rfl)
   |(have e:((k:Int)*4+4).toNat-k*4=L:=(by omega);rw [<-e];rfl)
 ·go_enter func124,ntmps124;go_wp2_with fail;refine HC.out.mono ?_;rintro e w1 ⟨rfl,rfl⟩;go_wp2;all_goals
   go_ret;have hl:=Qx.out;clear Qx;refine ⟨?_,rfl⟩;first
   |(have e:n-k*4=L:=(by omega);rw [<-e];rfl)
   |(have e:((k:Int)*4+4).toNat-k*4=L:=(by omega);rw [<-e];rfl)
theorem GG (A:Option Addr) (n c:Nat) (k:Int) (w:World) (hn:n<=1000000000) (hk:k<0∨(bN n:Int)<=k):Calls Tryz.prog 124 #[.slice A n c,.int .i64 k] w λe w' =>e= .returned (.slice none 0 0)/\w' =w:=by
 have HC:=aA (nH A n c w hn);by_cases h:k<0
 ·have d0:decide (k<0)=true:=by simpa using h
  clear h hk;go_enter func124,ntmps124;go_wp2;go_ret;exact ⟨rfl,rfl⟩
 ·have d0:decide (k<0)=false:=by simpa using h
  have d1:decide ((bN n:Int)<=k)=true:=by simp;omega
  clear h hk;go_enter func124,ntmps124;go_wp2_with fail;refine HC.out.mono ?_;rintro e w1 ⟨rfl,rfl⟩;go_wp2;go_ret;exact ⟨rfl,rfl⟩
theorem OY (cur:List Int) (o:Nat):iF cur o []=cur:=by simp [iF]
theorem ME {cur l:List Int} {o m:Nat} {x:Int} (h:l[m]? =some x) (ho:o+l.length<=cur.length):iF cur o (l.take (m+1))=(iF cur o (l.take m)).set (o+m) x:=by
 have hm:=(List.getElem?_eq_some_iff.1 h).1;have e1:(l.take (m+1)).length=m+1:=by simp;omega
 have e0:(l.take m).length=m:=by simp;omega
 apply List.ext_getElem?
 intro i;rw [tZ _ _ _ _ (by omega),List.getElem?_set,tZ _ _ _ _ (by omega),e1,e0,tY _ _ _ (by omega)];by_cases h1:o+m=i
 ·subst h1;rw [if_pos (by omega),if_pos rfl,if_pos (by omega),Nat.add_sub_cancel_left,List.getElem?_take,if_pos (by omega),h]
 ·rw [if_neg h1];by_cases h2:o<=i/\i<o+m
  ·rw [if_pos (by omega),if_pos h2,List.getElem?_take,List.getElem?_take,if_pos (by omega),if_pos (by omega)]
  ·rw [if_neg (by omega),if_neg h2]
theorem Fh.gen {base:Nat} {w' :World} {n:Nat} {x:Except Nat (List Int)} {e:Ending} (h:Fh base w' n x e):∃A m c k,e= .returned (.tuple #[.slice A m c,.int .i64 k]):=by
 unfold Fh at h;split at h
 ·obtain ⟨A,c,h,_⟩:=h;exact ⟨A,n,c,0,h⟩
 ·exact ⟨none,0,0,_,h.2⟩
theorem EM (A:Option Addr) (n c:Nat) (a:List Int) (w:World) (hr:a7 bB (·<w.heap.size) w (.slice A n c) a) (hn:n<=1000000000) (Ap:Option Addr) (np cp:Nat) (ps:List Pg) (hP:Dg (·<w.heap.size) w (.slice Ap np cp) ps):
 Calls Tryz.prog 121 #[.slice A n c,.slice Ap np cp] w λe w' =>Fh w.heap.size w' n (bO a ps) e/\Below w.heap.size w w' :=by
 have HLA:=aA hr.len.1;have Dl:=aA hP.len;have Ee:=hP.len.2;have VJ:=hr.len.2.1;have HR:=aA hr;clear hr;go_enter func121,ntmps121;go_wp2_with (refine aJ (o:=⟨some 11,_,_,_,_,_⟩) cD gK (.int .i64 0) 8 _ _ 23 3 w.heap.size [] a A n c (.slice none 0 0) n rfl rfl underlying23 kZ rfl (by omega) rfl rfl (a8.nil_ _ _ _) HR.out (by simp) (by simp;omega) (by simp;omega) (Nat.le_refl _) ?_;intro B cB w1 hO hgr8 hat8 hc81 hc82;rw [List.nil_append] at hO;have b1:Below w.heap.size w w1:=(Below.refl _ w).grown hgr8 (Nat.le_refl _) (λo e=>by cases e))
 clear hgr8 hat8;go_loopg [7] (np+1) (λgk i wr=>∃(k:Nat) (cur:List Int),i= .int .i64 k/\k<=np/\np+1<=k+gk/\a8 bB 1 wr w.heap.size 3 (.slice B n cB) cur/\RowKit.Hid (bO a ps=bO cur (ps.drop k))/\Below w.heap.size w wr);case atStart=>exact ⟨0,a,rfl,by omega,by omega,hO,aA (by simp),b1⟩
 case round=>
  clear hO b1;obtain ⟨k,cur,rfl,hk,XG,hO,fm,ag⟩:=hrel;have nd:=aA hO.len;have Ng:=ag.size;obtain ⟨g0,El⟩:=eX gk;rw [<-El] at XG;have Vj:=aA El;clear El;by_cases af:k<np
  ·obtain ⟨b,off,x,p,rfl,Ur,j6,Li,zi,fq,c0,c1⟩:=hP.at_ af;have Dx:ps.drop k=p::ps.drop (k+1):=by
    exact Tzei
   have Fx:=aA (show bO a ps=(match jW cur p with| .ok b=>bO b (ps.drop (k+1))| .error e=> .error e) by rw [fm.out,Dx];rfl);have T8:=aA fq.len;obtain ⟨z,hz⟩:=eX x.num;rw [<-hz] at c0;have HZ:=aA (hz.trans zi);have WR:∀w',Below w.heap.size w w'->w'.cell? ⟨b,off+k*2,none⟩=some (.int .i64 z):=λw' h=>(h.cell (p:=⟨b,off+k*2,none⟩) j6).trans c0
   have up1:∀w',Below w.heap.size w w'->w'.cell? ⟨b,off+k*2+1,none⟩=some (.slice x.A x.n x.c):=λw' h=>(h.cell (p:=⟨b,off+k*2+1,none⟩) j6).trans c1
   have UP1:=aA up1;have HCS:=aA fq;have q0:=WR wr ag;clear Dx Li hz zi fq WR up1 c0 c1 fm;go_upto_region 6 with fail;clear q0;by_cases rf:z<0
   ·have dz:decide (z<0)=true:=by simpa using rf
    have an:=aA (show bO a ps= .error 3 by rw [Fx.out];unfold jW;rw [if_pos (.inl (by rw [<-HZ.out];exact rf))]);clear rf;go_wp2;go_ret2;rw [an.out];exact ⟨⟨by omega,rfl⟩,ag⟩
   have dz:decide (z<0)=false:=by simpa using rf
   obtain ⟨zn,rfl⟩:=Int.eq_ofNat_of_zero_le (show 0<=z by omega);have HCT:=aA (nH A n c wr hn);clear rf;by_cases od:bN n<=zn
   ·have dz1:decide (bN n<=zn)=true:=by simpa using od
    have an:=aA (show bO a ps= .error 3 by rw [Fx.out];unfold jW;rw [if_pos (.inr (by rw [<-HZ.out,nd.out.1];omega))]);clear od;go_wp2_with fail;refine HCT.out.mono ?_;rintro e w5 ⟨rfl,rfl⟩;go_wp2;go_ret2;rw [an.out];exact ⟨⟨by omega,rfl⟩,ag⟩
   have dz1:decide (bN n<=zn)=false:=by simpa using od
   have hz4:zn*4<n:=by unfold bN at od;omega
   obtain ⟨g,rfl,pj,sm⟩:=hO.some_ (by have:=nd.out.1;omega);obtain ⟨ga,oa,rfl⟩:∃g o,A=some ⟨g,o,none⟩:=by
    obtain ⟨_,_,e,_,_,h3⟩:=HR.out;simp only [Value.slice.injEq] at e;obtain ⟨g,o,e2,_⟩:=h3 (by rw [eT,List.length_map];have:=HLA.out;omega);exact ⟨g,o,e.1.trans e2⟩
   obtain ⟨L,hL⟩:=eX (dD n zn);have Ia:=aA (zP ga oa n c zn wr.drew hn VJ hz4);rw [<-hL] at Ia;have hLn:zn*4+L<=n:=by rw [hL];unfold dD;omega
   have HL:=aA hL;have hzb:zn<=1000000000:=by omega
   have q1:wr.drew.cell? ⟨b,off+k*2+1,none⟩=some (.slice x.A x.n x.c):=UP1.out _ ag.drew
   have HZ1:=aA od;clear hL od;go_wp2_with fail;refine HCT.out.mono ?_;rintro e w5 ⟨rfl,rfl⟩;go_upto_region 8 with fail;clear HCT dz1;by_cases Fq:x.n=L;case neg=>
    have dL:((x.n:Int) != (L:Int))=true:=by simp;omega
    have an:=aA (show bO a ps= .error 7 by rw [Fx.out];unfold jW;rw [if_neg (by have:=HZ1.out;rw [<-HZ.out,nd.out.1];omega),<-HZ.out,if_neg (by rw [nd.out.1,Int.toNat_natCast,<-HL.out,T8.out.1];exact λe=>Fq e.symm)]);clear Fq;go_wp2_with fail;refine aH ((λw' =>w'.cell? ⟨b,off+k*2+1,none⟩=some (.slice x.A x.n x.c))) (by kernel_rfl) (by kernel_rfl) (q1) ?_;refine TkA ?_;refine lL (λw' h=>aB (eQ _) h) ?_;refine Tyai ?_;go_wp2_with fail;refine Ia.out.mono ?_;rintro e w6 ⟨rfl,rfl⟩;go_wp2_with fail;refine aD (q1) ?_;refine Tyan ?_;go_wp2;go_ret2;rw [an.out];exact ⟨⟨by omega,rfl⟩,ag.drew⟩
   have dL:((x.n:Int) != (L:Int))=false:=by simp [Fq]
   have HLX:=aA Fq
   have Ve:=aA (show bO a ps=bO (iF cur (zn*4) p.cells) (ps.drop (k+1)) by
    rw [Fx.out];unfold jW;rw [if_neg (by have:=HZ1.out;rw [<-HZ.out,nd.out.1];omega),<-HZ.out,if_pos (by rw [nd.out.1,Int.toNat_natCast,<-HL.out,T8.out.1];exact Fq.symm)];rfl)
   have jd:p.cells.length=L:=T8.out.1.trans Fq;have YS:=aA jd;have gy:cur.length=n:=nd.out.1;have HCUR:=aA gy;obtain ⟨zz,Gb⟩:=eX (zn*4);rw [<-Gb] at Ve hLn;have Fk:(zn:Int)*4=(zz:Int):=by omega
   have ll:=ag.drew;have hOd:=hO.drew;have xn1:x.n=L:=Fq;clear Fq jd gy Gb hO;go_wp2_with fail;refine aH ((λw' =>w'.cell? ⟨b,off+k*2+1,none⟩=some (.slice x.A x.n x.c))) (by kernel_rfl) (by kernel_rfl) (q1) ?_;refine TkA ?_;refine lL (λw' h=>aB (eQ _) h) ?_;refine Tyai ?_;go_wp2_with fail;refine Ia.out.mono ?_;rintro e w6 ⟨rfl,rfl⟩;go_wp2_with fail;refine aD (q1) ?_;refine Tyan ?_;obtain ⟨wd,Cb⟩:=eX w5.drew;rw [<-Cb] at ll hOd ⊢;clear Cb q1;go_wp2_with fail;go_loopg [9] (L+1) (λgj v wr=>∃(m:Nat),v= .int .i64 (m:Int)/\m<=L/\L+1<=m+gj/\a8 bB 1 wr w.heap.size 3 (.slice (some ⟨g,0,none⟩) n cB) (iF cur zz (p.cells.take m))/\Below w.heap.size w wr);case atStart=>exact ⟨0,rfl,by omega,by omega,by rw [List.take_zero,OY];exact hOd,ll⟩
   case round=>
    clear hOd ll;obtain ⟨m,rfl,hm,VS,dw,ar⟩:=hrel;obtain ⟨g1,fj⟩:=eX gk;rw [<-fj] at VS;have HG1:=aA fj;have q1:=UP1.out _ ar;clear fj;by_cases Ei:m<L
    ·obtain ⟨cb,co,y,hxA,_,hcb,kn,Dy⟩:=(HCS.out.ext ar).at_ cD (j:=m) (by have:=YS.out;omega) (by omega);have en:=ME (cur:=cur) (o:=zz) kn (by have:=YS.out;have:=HCUR.out;omega);have lf:=aA en;have e0:wr.cell? ⟨cb,co+m,none⟩=some (.int .i64 y):=by have:=Dy 0 _ rfl;simpa using this
     obtain ⟨j,hj⟩:=eX (zz+m);have hji:(zz:Int)+(m:Int)=(j:Int):=by omega
     obtain ⟨db,dof,dx,de,_,hdb,hdx,VU⟩:=dw.recs.at_ cD (j:=j) (by rw [dw.len.1];omega) (by omega);cases de;have d0:wr.cell? ⟨g,j,none⟩=some (.int .i64 dx):=by have:=VU 0 _ rfl;simpa using this
     have df:=dw.frozenZ j;have gg:=dw.setZ j y;rw [hj,<-lf.out] at gg;have ea:=ar.setCell (p:=⟨g,j,none⟩) pj (.int .i64 y);have HJ:=aA hj;have VP:j<n:=by omega
     rw [hxA] at q1;clear kn Dy hdx VU en dw hj;go_wp2;go_roundg (g1-1);case rel=>exact ⟨m+1,by go_num,by omega,by omega,by have:=gg;rw [<-HJ.out] at this;exact this,ea⟩
     case measure=>have:=HG1.out;omega
    ·obtain rfl:L=m:=by omega
     rw [List.take_of_length_le (by rw [YS.out];exact Nat.le_refl _)] at dw;go_wp2;go_roundg (g0-1);case rel=>exact ⟨k+1,iF cur zz p.cells,by go_num,by omega,by omega,dw,Ve,ar⟩
     case measure=>have:=Vj.out;omega
  ·exact Tzd5
end Go.Proofs.YtiblijmngokcgaaGreatDoor
