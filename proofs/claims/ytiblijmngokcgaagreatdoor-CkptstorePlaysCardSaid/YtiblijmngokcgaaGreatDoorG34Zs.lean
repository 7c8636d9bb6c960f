import Derived.Test.YtiblijmngokcgaaGreatDoorG22Zs
import Derived.Laws.CopyOwn
set_option linter.unusedVariables false
set_option linter.unusedSimpArgs false
set_option maxHeartbeats 4000000
set_option maxRecDepth 100000
namespace Go.Proofs.YtiblijmngokcgaaGreatDoor
open Go.Proofs.Tryz
open Go.RowKit
theorem xZ (A:Option Addr) (n c:Nat) (w:World) (hn:n<=1000000000):Calls Tryz.prog 160 #[.slice A n c] w λe w' =>e= .returned (.int .i64 (bN n:Nat))/\w' =w:=by
 by_cases h:n%4=0
 ·have hp:(bN n:Int)=(n:Int) / 4:=by unfold bN;omega
  exact Tzfd
 ·have hp:(bN n:Int)=(n:Int) / 4+1:=by unfold bN;omega
  exact Tzfd
theorem tT (g o n c k:Nat) (w:World) (hn:n<=1000000000) (VJ:n<=c) (hk:k*4<n):Calls Tryz.prog 161 #[.slice (some ⟨g,o,none⟩) n c,.int .i64 (k:Int)] w λe w' =>e= .returned (.slice (some ⟨g,o+k*4,none⟩) (dD n k) (dD n k))/\w' =w:=by
 obtain ⟨L,hL⟩:=eX (dD n k);rw [<-hL];unfold dD at hL;have Qx:=aA hL;clear hL;by_cases h:k*4+4<n
 ·go_enter func161,ntmps161;go_wp2;go_ret;have hl:=Qx.out;clear Qx;refine ⟨?_,rfl⟩;have e:k*4+4-k*4=L:=by omega
  rw [<-e];rfl
 ·go_enter func161,ntmps161;go_wp2;go_ret;have hl:=Qx.out;clear Qx;refine ⟨?_,rfl⟩;have e:n-k*4=L:=by omega
  rw [<-e];rfl
  ·go_ret;have hl:=Qx.out;clear Qx;refine ⟨?_,rfl⟩;have e:((k:Int)*4+4).toNat-k*4=L:=by omega
   rw [<-e];rfl
theorem eT (l:List Int):l.flatMap bB=l.map (λz=>Value.int .i64 z):=by
 induction l with
 |nil=>rfl
 |cons z l ih=>rw [List.flatMap_cons,ih];rfl
theorem a8.splice_ {w w' :World} {base:Nat} {e:TypeId} {g n c o:Nat} {cur:Array Value} {l zs:List Int} (h:a8 bB 1 w base e (.slice (some ⟨g,0,none⟩) n c) l) (hr:w.heap[g]? =some (.cells cur e (0,0))) (ho:o+zs.length<=n) (h' :w'.heap[g]? =some (.cells (splice cur.toList o (zs.flatMap bB)).toArray e (0,0))):a8 bB 1 w' base e (.slice (some ⟨g,0,none⟩) n c) (iF l o zs):=by
 have hl:=h.len;have e1:(iF l o zs).length=n:=by rw [tY _ _ _ (by omega)];exact hl.1
 have e0:=hl.1;unfold a8 at*;rw [e1];refine ⟨by rw [eT,List.length_map,e1];omega,?_⟩;rcases h.2 with ⟨e0,hn⟩|⟨g',cap,cur',e0,hb,hh,h1,h2,h3,h4⟩
 ·cases e0
 ·cases e0;rw [hr] at hh;cases hh;have Rn:(zs.flatMap bB).length=zs.length:=by rw [eT,List.length_map]
  refine .inr ⟨g,c,_,rfl,hb,h',by omega,h2,by simp [length_splice,Rn];rw [length_splice _ _ _ (by rw [Rn];simp;omega)];simpa using h3,?_⟩;have ef:cur.toList.length=c:=by simpa using h3
  have h4' :cur.toList.take l.length=l.map (λz=>Value.int .i64 z):=by rw [<-eT,<-h4];simp
  show (splice cur.toList o (zs.flatMap bB)).take (l.length*1)=_;rw [Nat.mul_one,eT,eT];unfold splice iF;apply List.ext_getElem?
  intro i;have hlm:(zs.map (λz=>Value.int .i64 z)).length=zs.length:=by simp
  rw [List.getElem?_take];split
  ·rename_i hi;rw [List.map_append,List.map_append,List.append_assoc,List.getElem?_append];rw [List.getElem?_append (l₁:=(l.take o).map (λz=>Value.int .i64 z))];have t1:(cur.toList.take o).length=o:=by rw [List.length_take];omega
   have t2:((l.take o).map (λz=>Value.int .i64 z)).length=o:=by rw [List.length_map,List.length_take];omega
   rw [t1,t2];split
   ·rename_i J7;rw [List.map_take,<-h4',List.take_take,List.getElem?_take,List.getElem?_take,if_pos J7,if_pos (by omega)]
   ·rw [List.getElem?_append,List.getElem?_append,hlm];split
    ·rfl
    ·rw [List.map_drop,<-h4',List.getElem?_drop,List.getElem?_drop,List.getElem?_take];rw [if_pos (by omega)]
  ·rename_i hi;symm;apply List.getElem?_eq_none;rw [List.length_map];simp only [List.length_append,List.length_take,List.length_drop];omega
theorem a8.row_ {w:World} {base:Nat} {e:TypeId} {g n c:Nat} {l:List Int} (h:a8 bB 1 w base e (.slice (some ⟨g,0,none⟩) n c) l):∃cur:Array Value,w.heap[g]? =some (.cells cur e (0,0))/\cur.size=c/\base<=g:=by
 rcases h.2 with ⟨e0,hn⟩|⟨g',cap,cur',e0,hb,hh,h1,h2,h3,h4⟩
 ·cases e0
 ·cases e0;exact ⟨_,hh,by omega,hb⟩
def Fh (base:Nat) (w' :World) (n:Nat) (x:Except Nat (List Int)) (e:Ending):Prop:=
 match x with
 | .ok b=>∃A c,e= .returned (.tuple #[.slice A n c,.int .i64 0])/\a8 bB 1 w' base 3 (.slice A n c) b
 | .error k=>k≠0/\e= .returned (.tuple #[.slice none 0 0,.int .i64 (k:Int)])
theorem AM (A:Option Addr) (n c:Nat) (a:List Int) (w:World) (hr:a7 bB (·<w.heap.size) w (.slice A n c) a) (hn:n<=1000000000) (Ap:Option Addr) (np cp:Nat) (ps:List Pg) (hP:Dg (·<w.heap.size) w (.slice Ap np cp) ps):
 Calls Tryz.prog 133 #[.slice A n c,.slice Ap np cp] w λe w' =>Fh w.heap.size w' n (bO a ps) e/\Below w.heap.size w w' :=by
 have HLA:=aA hr.len.1;have Dl:=aA hP.len;have Ee:=hP.len.2;have HC:=aA (SF A n c a _ w hr (by omega));clear hr;go_enter func133,ntmps133;go_wp2_with fail;refine HC.out.mono ?_;rintro e w1 ⟨B,cB,rfl,hO,b1⟩;clear HC;go_wp2;go_loopw [14] (λi wr=>∃(k:Nat) (cur:List Int),i= .int .i64 k/\k<=np/\a8 bB 1 wr w.heap.size 3 (.slice B n cB) cur/\RowKit.Hid (bO a ps=bO cur (ps.drop k))/\Below w.heap.size w wr) (λi _=>np-(intOf i).toNat);case atStart=>exact ⟨0,a,rfl,by omega,hO,aA (by simp),b1⟩
 case round=>
  clear hO b1;obtain ⟨k,cur,rfl,hk,hO,fm,ag⟩:=hrel;have nd:=aA hO.len;by_cases af:k<np
  ·obtain ⟨b,off,x,p,rfl,Ur,j6,Li,zi,fq,c0,c1⟩:=(hP.ext ag).at_ af;have Dx:ps.drop k=p::ps.drop (k+1):=by
    exact Tzei
   have hap' :bO a ps=(match jW cur p with| .ok b=>bO b (ps.drop (k+1))| .error e=> .error e):=by rw [fm.out,Dx];rfl
   have Fx:=aA hap';have ef:=ag.size;have HNUM:=aA zi;have T8:=aA fq.len;obtain ⟨z,hz⟩:=eX x.num;rw [<-hz] at c0;obtain ⟨W3,ig⟩:=eX (wr.alloc (.cells #[.int .i64 z,.slice x.A x.n x.c] 163));obtain ⟨bx,ff⟩:=eX wr.heap.size;have ea:Below wr.heap.size wr W3:=by rw [ig];exact (Below.refl _ _).alloc (Nat.le_refl _) _
   have r3:W3.heap[bx]? =some (.cells #[.int .i64 z,.slice x.A x.n x.c] 163 (0,0)):=by rw [ig,ff];exact heap_alloc_new _ _
   have Aj:bx<W3.heap.size:=by rw [ig,ff];simp
   have hbx2:wr.heap.size<=bx:=by omega
   have tm:=aA ff;have R3:=aA r3;have gg:=hO.ext ea;have hc3:=fq.ext ea;have XZ:=Below.ext ag ea;have HZ:=aA (hz.trans zi);clear hap' Dx Li ff r3 hz zi HNUM hO fq;go_upto_region 5 with fail;rw [<-ig,<-tm.out];clear ig;obtain ⟨w4,Il⟩:=eX W3.drew;have b4:Below W3.heap.size W3 w4:=by rw [Il];exact (Below.refl _ W3).drew
   have R4:=bT b4 R3 Aj;have jq:=gg.ext b4;have hc4:=hc3.ext b4;have Jj:=Below.ext XZ b4;have q0:=bn R4.out;have q1:=fi R4.out;by_cases rf:z<0
   ·have dz:decide (z<0)=true:=by simpa using rf
    have an:=aA (show bO a ps= .error 3 by rw [Fx.out];unfold jW;rw [if_pos (.inl (by rw [<-HZ.out];exact rf))]);clear q0 q1;go_wp2_with fail;refine aH ((λw' =>w'.heap[bx]? =some (.cells #[.int .i64 z,.slice x.A x.n x.c] 163 (0,0)))) (by kernel_rfl) (by kernel_rfl) (R3.out) ?_;refine TkA ?_;refine Tybk ?_;rw [<-Il];clear Il;refine gU rfl rfl (R4.out) ?_;refine Tyac ?_;refine Tyan ?_;exact Tzeq
   ·have dz:decide (z<0)=false:=by simpa using rf
    obtain ⟨zn,rfl⟩:=Int.eq_ofNat_of_zero_le (show 0<=z by omega);have HCT:=aA (xZ B n cB w4 hn);by_cases od:bN n<=zn
    ·have dz1:decide (bN n<=zn)=true:=by simpa using od
     have an:=aA (show bO a ps= .error 3 by rw [Fx.out];unfold jW;rw [if_pos (.inr (by rw [<-HZ.out,nd.out.1];omega))]);clear q0 q1;go_wp2_with fail;refine aH ((λw' =>w'.heap[bx]? =some (.cells #[.int .i64 (zn:Int),.slice x.A x.n x.c] 163 (0,0)))) (by kernel_rfl) (by kernel_rfl) (R3.out) ?_;refine TkA ?_;refine Tybk ?_;refine Tybk ?_;rw [<-Il];clear Il;refine aF rfl ?_;go_wp2_with fail;refine HCT.out.mono ?_;rintro e w5 ⟨rfl,rfl⟩;go_wp2_with fail;refine aD (R4.out) ?_;refine Tyan ?_;exact Tzeq
    ·have dz1:decide (bN n<=zn)=false:=by simpa using od
     have hz4:zn*4<n:=by unfold bN at od;omega
     have gy:=nd.out;obtain ⟨g,rfl,pj,sm⟩:=jq.some_ (by omega);have Ia:=aA (tT g 0 n cB zn w4 hn gy.2.1 hz4);obtain ⟨L,hL⟩:=eX (dD n zn);rw [<-hL] at Ia;have hLn:zn*4+L<=n:=by rw [hL];unfold dD;omega
     have HL:=aA hL;clear hL gy;go_wp2_with fail;refine aH ((λw' =>w'.heap[bx]? =some (.cells #[.int .i64 (zn:Int),.slice x.A x.n x.c] 163 (0,0)))) (by kernel_rfl) (by kernel_rfl) (R3.out) ?_;refine TkA ?_;refine Tybk ?_;refine Tybk ?_;rw [<-Il];clear Il;refine aF rfl ?_;go_wp2_with fail;refine HCT.out.mono ?_;rintro e w5 ⟨rfl,rfl⟩;go_wp2_with fail;refine aD (R4.out) ?_;refine Tyan ?_;go_wp2_with fail;refine Ia.out.mono ?_;rintro e w5 ⟨rfl,rfl⟩;by_cases Fq:L=x.n
     ·have dL:((L:Int) != (x.n:Int))=false:=by simp [Fq]
      have HLX:=aA Fq;obtain ⟨cr,hcr,hcrs,_⟩:=jq.row_;have hlay:jW cur p= .ok (iF cur (zn*4) p.cells):=by
       unfold jW;rw [if_neg (by rw [<-HZ.out,nd.out.1];omega),<-HZ.out,if_pos (by rw [nd.out.1,Int.toNat_natCast,<-HL.out,Fq,T8.out.1])];rfl
      have Ve:=aA (show bO a ps=bO (iF cur (zn*4) p.cells) (ps.drop (k+1)) by rw [Fx.out,hlay]);have XQ:=T8.out;have um:0<(p.cells.flatMap bB).length->∃ad,x.A=some ad/\∀j v,(p.cells.flatMap bB)[j]? =some v->w5.cell? (ad.add j)=some v:=by
       intro h0;obtain ⟨A',c',e,_,_,h3⟩:=hc4;simp only [Value.slice.injEq] at e;obtain ⟨b',o',e2,_,h4⟩:=h3 h0;exact ⟨_,e.1.trans e2,λj v hj=>by rw [show (⟨b',o',none⟩:Addr).add j=⟨b',o' +j,none⟩ by unfold Addr.add;cases j<;>rfl];exact h4 j v hj⟩
      have nx:(p.cells.flatMap bB).length=x.n:=by rw [eT,List.length_map];exact XQ.1
      have ax:∀v∈p.cells.flatMap bB,v.oneCell' =true:=by
       intro v hv;rw [eT] at hv;obtain ⟨z,_,rfl⟩:=List.mem_map.1 hv;rfl
      have hn5:(p.cells.flatMap bB).length=Nat.min x.n L:=by rw [nx,Fq];simp
      have HPOS:=aA um;have HFL:=aA nx;have YT:=aA hn5;have HCR:=aA hcr;have hfit:zn*4+(p.cells.flatMap bB).length<=cr.toList.length:=by
       have:=nd.out;rw [nx,<-Fq];simp;omega
      have HFIT:=aA hfit;have hfit2:zn*4+p.cells.length<=n:=by rw [XQ.1,<-Fq];exact hLn
      clear hlay XQ um nx hn5 hcr hcrs hfit Fq;go_wp2_with (refine wpList_copy_splice rfl (.tmp 38) (.tmp 40) 23 23 rfl 3 underlying23 (by kernel_rfl) (some ⟨g,zn*4,none⟩) x.A L L x.n x.c rfl rfl g (zn*4) cr.toList 3 HCR.out (p.cells.flatMap bB) YT.out (λh=>⟨rfl,HPOS.out h⟩) HFIT.out ax w.heap.size w Jj pj ?_;intro w6 HG6 hB6)
      have Dz:=a8.splice_ jq HCR.out hfit2 HG6.out;go_roundw;case rel=>exact ⟨k+1,iF cur (zn*4) p.cells,rfl,by omega,Dz,Ve,hB6⟩
      case measure=>simp [intOf];omega
     ·have dL:((L:Int) != (x.n:Int))=true:=by simp;omega
      have an:=aA (show bO a ps= .error 7 by rw [Fx.out];unfold jW;rw [if_neg (by rw [<-HZ.out,nd.out.1];omega),<-HZ.out,if_neg (by rw [nd.out.1,Int.toNat_natCast,<-HL.out,T8.out.1];exact Fq)]);clear Fq;exact Tzeq
  ·exact Tzd5
def LT:Value:= .iface 174 (.agg #[])
def EW:List PanicEntry:=[{v:=LT,recovered:=false}]
def nF (base:Nat) (w' :World) (x:Option bj) (e:Ending):Prop:=
 match x with
 |some s=>∃E1 p1 q1 E2 p2 q2 E3 p3 q3 E4 p4 q4,e= .returned (.agg #[.slice E1 p1 q1,.slice E2 p2 q2,.slice E3 p3 q3,.slice E4 p4 q4])/\j7 (base<=·) w' s E1 p1 q1 E2 p2 q2 E3 p3 q3 E4 p4 q4
 |none=>e= .panicked EW
theorem uN (A:Option Addr) (n c:Nat) (L:List UInt8) (S:Nat->Prop) (w:World) (hv:Bytes S w (.slice A n c) L) (hn:n<=100000000) (k:Nat) (hk:k<=n):
 Calls Tryz.prog 74 #[.slice A n c,.int .i64 (k:Int)] w λe w' =>nF w.heap.size w' (cC L k) e/\Below w.heap.size w w' :=by
 have yg:=hv.len.1;obtain ⟨W,hW,bW,kW,SW,R0⟩:=bX w w #[.slice none 0 0,.slice none 0 0,.slice none 0 0,.slice none 0 0] 51 (Below.refl _ _);have af:w.heap.size<W.heap.size:=by have:=SW.out;omega
 have en:=wI A n c (k:Int) L S W (hv.ext bW) hn;have jx:eK eN L (k:Int)=eN L k:=by unfold eK;rw [if_neg (by omega),Int.toNat_natCast]
 rw [jx] at en;have Dm:=aA yg;clear jx hv yg;cases hr:eN L k with
 |error x=>
  have fa:((x:Int) != 0)=true:=by
   have:=CU L k x hr;simpa using this
  have an:=aA (show cC L k=none by unfold cC;rw [hr]);rw [hr] at en;unfold iE at en;dsimp only at en;have Ml:=aA en;clear en hr;obtain ⟨W3,ig⟩:∃x:Nat,x=0:=⟨_,rfl⟩
  clear ig;go_enter func74,ntmps74;go_upto_region 1 with fail;rw [<-hW];clear hW;go_wp2_with fail;refine Ml.out.mono ?_;rintro e w1 ⟨rfl,b1⟩;have b1a:Below w.heap.size w (w1.alloc (.cells #[.slice none 0 0,.slice none 0 0,.slice none 0 0,.slice none 0 0] 51)):=(Below.ext bW b1).alloc (Below.ext bW b1).size _;go_upto_region 2 with (refine sN ?_)
  go_wp2;refine ⟨rfl,?_,b1a⟩;rw [an.out];rfl
 |ok sq=>
  obtain ⟨s,q⟩:=sq;rw [hr] at en;unfold iE at en;dsimp only at en;have Ml:=aA en;clear en;go_enter func74,ntmps74;go_upto_region 1 with fail;rw [<-hW];clear hW;go_wp2_with fail;refine Ml.out.mono ?_;rintro e w1 ⟨⟨v,rfl,F1,r1,F2,r2,F3,r3,F4,r4,rfl,o1,o2,o3,o4⟩,b1⟩;obtain ⟨W3,ig,_,k3,S3,R3⟩:=bX w1 w1 #[.slice F1 s.cells.length r1,.slice F2 s.evs.length r2,.slice F3 s.sent.length r3,.slice F4 s.outs.length r4] 51 (Below.refl _ _);obtain ⟨bx,ff⟩:=eX w1.heap.size;rw [<-ff] at R3;have tm:=aA ff;have s1:=b1.size;have b3:=Below.ext b1 k3;have ea:=Below.ext bW b3;have I7:=bT b3 R0 af;have O1:=o1.recs.ext k3;have O2:=o2.recs.ext k3;have O3:=o3.recs.ext k3;have O4:=o4.recs.ext k3;clear ff o1 o2 o3 o4;by_cases N0:q=n
  ·have dq:((q:Int) != (n:Int))=false:=by simp [N0]
   have an:=aA (show cC L k=some s by unfold cC;rw [hr];dsimp only;rw [if_pos (by rw [Dm.out];exact N0)]);clear N0 hr;go_upto_region 2 with (refine sN ?_)
   try dsimp only
   rw [<-ig,<-tm.out];clear ig;refine Tyal ?_;go_wp2_with (first|(refine lD (t:=51) R3 ?_)|(refine sR I7 ?_))
   refine rC I7 ?_;rw [an.out];have gE:=aC W3 w.heap.size #[.slice F1 s.cells.length r1,.slice F2 s.evs.length r2,.slice F3 s.sent.length r3,.slice F4 s.outs.length r4];have kE:ae (λb=>w.heap.size+1<=b) W3 (W3.setRow w.heap.size #[.slice F1 s.cells.length r1,.slice F2 s.evs.length r2,.slice F3 s.sent.length r3,.slice F4 s.outs.length r4]):=λb hb hs=>gE.block b hb (by simp;omega)
   have mm:∀b,b<W3.heap.size->W.heap.size<=b->w.heap.size+1<=b:=λb _ h=>by omega
   refine ⟨⟨F1,_,r1,F2,_,r2,F3,_,r3,F4,_,r4,rfl,⟨?_,?_,?_,?_⟩⟩,ea.grown gE ea.size (λo e=>by cases e;omega)⟩
   ·exact ((O1.mono (λb hb h=>mm b hb h.1)).keep kE).mono (λb _ h=>by omega)
   ·exact ((O2.mono (λb hb h=>mm b hb h.1)).keep kE).mono (λb _ h=>by omega)
   ·exact ((O3.mono (λb hb h=>mm b hb h.1)).keep kE).mono (λb _ h=>by omega)
   ·exact ((O4.mono (λb hb h=>mm b hb h.1)).keep kE).mono (λb _ h=>by omega)
  ·have dq:((q:Int) != (n:Int))=true:=by simp;omega
   have an:=aA (show cC L k=none by unfold cC;rw [hr];dsimp only;rw [if_neg (λh=>N0 (by rw [<-Dm.out];exact h))]);clear N0 hr;go_upto_region 2 with (refine sN ?_)
   try dsimp only
   rw [<-ig,<-tm.out];clear ig;refine Tyal ?_;go_wp2;refine ⟨rfl,?_,ea⟩;rw [an.out];rfl
theorem CK (p q:Addr) (w:World):CallsD Tryz.prog 132 #[.pointer (some p),.pointer (some q)] .returning w λe u' w' =>e= .returned (.tuple #[])/\u' = .returning/\w' =w:=by
 refine callsD_of_wpS func132 rfl λc₀ cs hu=> ?_
 apply wpS_seq;apply wpS_region;generalize hQ:Exit.thenS _ _=Q0;simp [wpOpsS,go_sem,recoverD,hu,ntmps132,Array.replicate];subst hQ;refine wpS_of_wp ?_;go_wp2;cases c₀
 simp_all [bodyPostS,results,Tryz.results132]
theorem CM (b2 b3:Nat) (x2:Array Value) (x3:Int) (w:World) (h2:w.heap[b2]? =some (.cells x2 51 (0,0))) (ew:x2.size=4) (h3:w.heap[b3]? =some (.cells #[.int .i64 x3] 37 (0,0))) (fb:b2≠b3):
 CallsD Tryz.prog 132 #[.pointer (some ⟨b2,0,none⟩),.pointer (some ⟨b3,0,none⟩)] (.panicking EW) w λe u' w' =>e= .returned (.tuple #[])/\u' = .panicking [{v:=LT,recovered:=true}]/\w'.heap[b2]? =some (.cells #[.slice none 0 0,.slice none 0 0,.slice none 0 0,.slice none 0 0] 51 (0,0))/\w'.cell? ⟨b3,0,none⟩=some (.int .i64 9)/\(∀B,B<=b2->B<=b3->B<=w.heap.size->Below B w w'):=by
 have H2:=aA h2;have w3:(w.setRow b2 #[.slice none 0 0,.slice none 0 0,.slice none 0 0,.slice none 0 0]).heap[b3]? =some (.cells #[.int .i64 x3] 37 (0,0)):=(setRow_other _ _ _ _ (Ne.symm fb)).trans h3
 have w2:(w.setRow b2 #[.slice none 0 0,.slice none 0 0,.slice none 0 0,.slice none 0 0]).heap[b2]? =some (.cells #[.slice none 0 0,.slice none 0 0,.slice none 0 0,.slice none 0 0] 51 (0,0)):=setRow_heap _ _ _ _ _ _ h2
 have c3:(w.setRow b2 #[.slice none 0 0,.slice none 0 0,.slice none 0 0,.slice none 0 0]).cell? ⟨b3,0,none⟩=some (.int .i64 x3):=by rw [cell_of_row _ _ _ _ _ _ w3];rfl
 have f3:=frozen_of_row _ _ 0 _ _ w3;have W3:=aA w3;have W2:=aA w2;clear h2 h3 w2 w3;unfold EW;refine callsD_of_wpS func132 rfl λc₀ cs hu=> ?_
 apply wpS_seq;apply wpS_region;generalize hQ:Exit.thenS _ _=Q0;simp [wpOpsS,go_sem,recoverD,hu,ntmps132,Array.replicate];subst hQ;refine wpS_of_wp ?_;unfold LT;go_wp2_with (refine dW rfl 51 _ _ rfl b2 51 _ _ rfl rfl H2.out (by kernel_rfl) (by rw [ew];rfl) (by simp [Value.oneCell']) ?_)
 refine ⟨rfl,_,rfl,_,results_none rfl _ _ _,rfl,rfl,?_,?_,?_⟩
 ·exact (heap_setCell_other _ _ _ _ fb).trans W2.out
 ·rw [cell_of_row _ _ _ _ _ _ (heap_setCell_same _ b3 0 _ _ _ W3.out)];rfl
 ·intro B UB hB3 hBw;exact Below.setCell (p:=⟨b3,0,none⟩) (Below.setRow ((Below.refl _ _).mono hBw) UB _) hB3 _
theorem tE {P:Program} {fn:Func} {tmps:Array Value} {w:World} {a b:Nat} {t u:TypeId} {A B:Addr} {x y:Value} (h:fn.results= #[.cell a t,.cell b u]) (ha:tmps.getD a undef= .pointer (some A)) (hb:tmps.getD b undef= .pointer (some B)) (hl:(loadVar t A).run P w= .ok x w) (hm:(loadVar u B).run P w= .ok y w):(results fn tmps).run P w= .ok (.tuple #[x,y]) w:=by
 have N5 :tmps[a]?.getD undef= .pointer (some A):=by simpa using ha
 have gv :tmps[b]?.getD undef= .pointer (some B):=by simpa using hb
 simp [results,h,asAddr,N5,gv,hl,hm]
def NG (base:Nat) (w' :World) (x:Option bj) (e:Ending):Prop:=
 match x with
 |some s=>∃E1 p1 q1 E2 p2 q2 E3 p3 q3 E4 p4 q4,e= .returned (.tuple #[.agg #[.slice E1 p1 q1,.slice E2 p2 q2,.slice E3 p3 q3,.slice E4 p4 q4],.int .i64 0])/\j7 (base<=·) w' s E1 p1 q1 E2 p2 q2 E3 p3 q3 E4 p4 q4
 |none=>e= .returned (.tuple #[.agg #[.slice none 0 0,.slice none 0 0,.slice none 0 0,.slice none 0 0],.int .i64 9])
theorem tM (f:FuncId) (UF:Array Value) (x:Option bj) (w:World) (hf:∀w,(callFunc f UF).run Tryz.prog w= .ok (.enter f UF) w) (h:∀w',Below w.heap.size w w'->Calls Tryz.prog f UF w' λe w2=>nF w'.heap.size w2 x e/\Below w'.heap.size w' w2):
 Calls Tryz.prog 72 #[.func (.func f) #[] UF] w λe w' =>NG w.heap.size w' x e/\Below w.heap.size w w' :=by
 have hmf:∀(fn:Fn) (first cap:Array Value) (w:World),(Instr.makeFunc fn first cap).run Tryz.prog w= .ok (.func fn first cap) w:=λ_ _ _ _=>rfl
 obtain ⟨W,hW,aw,SW,R0,R1⟩:∃W,W=(w.alloc (.cells #[.slice none 0 0,.slice none 0 0,.slice none 0 0,.slice none 0 0] 51)).alloc (.cells #[.int .i64 0] 37)/\Below w.heap.size w W/\RowKit.Hid (W.heap.size=w.heap.size+2)/\
  RowKit.Hid (W.heap[w.heap.size]? =some (.cells #[.slice none 0 0,.slice none 0 0,.slice none 0 0,.slice none 0 0] 51 (0,0)))/\RowKit.Hid (W.heap[w.heap.size+1]? =some (.cells #[.int .i64 0] 37 (0,0))):=by
  refine ⟨_,rfl,((Below.refl _ w).alloc (Nat.le_refl _) _).alloc (by simp) _,aA (by simp),aA ?_,aA ?_⟩
  ·exact Tzap
  ·have:=heap_alloc_new (w.alloc (.cells #[.slice none 0 0,.slice none 0 0,.slice none 0 0,.slice none 0 0] 51)) (.cells #[.int .i64 0] 37);rw [World.size_alloc] at this;exact this
 have af:w.heap.size+1<W.heap.size:=by have:=SW.out;omega
 have H:=aA (h W aw);clear h;go_enter_defers func72,ntmps72;go_wp2_with fail;try rw [<-hW]
 clear hW;refine H.out.mono ?_;rintro e w1 ⟨hg,b1⟩;have uh:=(b1.block w.heap.size (by omega)).trans R0.out;have yw:=(b1.block (w.heap.size+1) af).trans R1.out;have al:=Below.ext aw b1;have vg:=al.size;unfold nF at hg;cases x with
 |none=>
  dsimp only at hg;subst hg;have xw:=aA (CM w.heap.size (w.heap.size+1) _ _ w1 uh rfl yw (by omega));clear uh yw;go_wp2;refine leaves_cons (f:=132) (args:= #[.pointer (some ⟨w.heap.size,0,none⟩),.pointer (some ⟨w.heap.size+1,0,none⟩)]) (by simp [EW]) (by simp [go_sem]) ?_;refine xw.out.mono ?_;rintro e u' w2 ⟨rfl,rfl,g2,g3,fe⟩;refine fN rfl (tE rfl rfl rfl (lB (t:=51) g2) (aB (by simp [isAgg,run_underlying underlying37]) g3)) ?_;exact ⟨rfl,Below.trans al (fe _ (Nat.le_refl _) (by omega) vg)⟩
 |some s=>
  dsimp only at hg;obtain ⟨E1,p1,q1,E2,p2,q2,E3,p3,q3,E4,p4,q4,rfl,hM⟩:=hg;have Q0:=aA uh;have w2r:(w1.setRow w.heap.size #[.slice E1 p1 q1,.slice E2 p2 q2,.slice E3 p3 q3,.slice E4 p4 q4]).heap[w.heap.size+1]? =some (.cells #[.int .i64 0] 37 (0,0)):=(setRow_other _ _ _ _ (by omega)).trans yw
  have c1:(w1.setRow w.heap.size #[.slice E1 p1 q1,.slice E2 p2 q2,.slice E3 p3 q3,.slice E4 p4 q4]).cell? ⟨w.heap.size+1,0,none⟩=some (.int .i64 0):=by rw [cell_of_row _ _ _ _ _ _ w2r];rfl
  have f1:=frozen_of_row _ _ 0 _ _ w2r;obtain ⟨w3,Be⟩:=eX ((w1.setRow w.heap.size #[.slice E1 p1 q1,.slice E2 p2 q2,.slice E3 p3 q3,.slice E4 p4 q4]).setCell ⟨w.heap.size+1,0,none⟩ (.int .i64 0));have r0:w3.heap[w.heap.size]? =some (.cells #[.slice E1 p1 q1,.slice E2 p2 q2,.slice E3 p3 q3,.slice E4 p4 q4] 51 (0,0)):=by rw [Be];exact (heap_setCell_other _ _ _ _ (by simp)).trans (setRow_heap _ _ _ _ _ _ uh)
  have r1:w3.cell? ⟨w.heap.size+1,0,none⟩=some (.int .i64 0):=by rw [Be,cell_of_row _ _ _ _ _ _ (heap_setCell_same _ (w.heap.size+1) 0 _ _ _ w2r)];rfl
  have ea:Below w.heap.size w w3:=by rw [Be];exact Below.setCell (p:=⟨w.heap.size+1,0,none⟩) (Below.setRow al (Nat.le_refl _) _) (by show _<=w.heap.size+1;omega) _
  have kE:ae (λb=>W.heap.size<=b) w1 w3:=λb hb hs=>by rw [Be];exact (heap_setCell_other _ _ _ _ (by show b≠w.heap.size+1;omega)).trans (setRow_other _ _ _ _ (by omega))
  have Kr:j7 (w.heap.size<=·) w3 s E1 p1 q1 E2 p2 q2 E3 p3 q3 E4 p4 q4:=⟨(hM.1.keep kE).mono (λb _ h=>by omega),(hM.2.keep kE).mono (λb _ h=>by omega),(hM.3.keep kE).mono (λb _ h=>by omega),(hM.4.keep kE).mono (λb _ h=>by omega)⟩
  have HM3:=aA Kr;have HB3:=aA ea;have R0' :=aA r0;have R1' :=aA r1;clear uh yw w2r r0 r1 ea kE Kr hM;go_wp2_with (refine sR Q0 ?_)
  rw [<-Be];refine leaves_cons (f:=132) (args:= #[.pointer (some ⟨w.heap.size,0,none⟩),.pointer (some ⟨w.heap.size+1,0,none⟩)]) (by simp) (by simp [go_sem]) ?_;refine (CK _ _ w3).mono ?_;rintro e u' w4 ⟨rfl,rfl,rfl⟩;refine fN rfl (tE rfl rfl rfl (lB (t:=51) R0'.out) (aB (by simp [isAgg,run_underlying underlying37]) R1'.out)) ?_;exact ⟨⟨E1,p1,q1,E2,p2,q2,E3,p3,q3,E4,p4,q4,rfl,HM3.out⟩,HB3.out⟩
end Go.Proofs.YtiblijmngokcgaaGreatDoor
