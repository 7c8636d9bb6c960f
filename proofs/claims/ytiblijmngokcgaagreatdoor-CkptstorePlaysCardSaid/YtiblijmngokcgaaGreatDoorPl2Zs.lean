import Derived.Test.YtiblijmngokcgaaGreatDoorG39Zs
set_option linter.unusedVariables false
set_option linter.unusedSimpArgs false
set_option maxHeartbeats 8000000
set_option maxRecDepth 100000
namespace Go.Proofs.YtiblijmngokcgaaGreatDoor
open Go.Proofs.Tryz
open Go.RowKit
def HdO (L:List UInt8) (h:Hd) (q x:Nat):Prop:=(cA L= .ok (h,q)/\x=0)∨(cA L= .error x/\x≠0/\h=⟨0,0,0,0⟩/\q=0)
theorem mR (A:Option Addr) (n c:Nat) (L:List UInt8) (S:Nat->Prop) (w:World) (hv:Bytes S w (.slice A n c) L) (hn:n<=100000000):
 Calls Tryz.prog 54 #[.slice A n c] w λe w' =>∃(h:Hd) (q x:Nat),e= .returned (.tuple #[.agg #[.int .i64 h.kind,.int .i64 h.stamp,.int .i64 h.base,.int .i64 h.under],.int .i64 q,.int .i64 x])/\HdO L h q x/\Below w.heap.size w w' :=by
 have Dm:=aA hv.len.1;obtain ⟨W,hW,bW,kW,SW,R0⟩:=bX w w #[.int .i64 0,.int .i64 0,.int .i64 0,.int .i64 0] 96 (Below.refl _ _);have sW:w.heap.size<W.heap.size:=by have:=SW.out;omega
 have o7:=hv.len.1;have V7:=aA (tF (.slice A n c) L S W 0 (hv.ext kW) (by omega));obtain ⟨bd,q,er,hN⟩:∃bd q er,bL L 0=(bd,q,er):=⟨_,_,_,rfl⟩
 have ll:bd.length<=4096:=by have:=kY L 0;rw [hN] at this;exact this
 rw [hN] at V7;dsimp only at V7;have HN:=aA hN;clear hv o7 hN;go_enter func54,ntmps54;go_upto_region 1 with fail;rw [<-hW];clear hW;go_wp2_with fail;refine V7.out.mono ?_;rintro e w1 ⟨V1,rfl,lv,b1⟩;have s1:=b1.size;have uh:=bT b1 R0 sW;have al:=Below.ext kW b1;obtain ⟨A1,c1,rfl,ej,ed,_⟩:=lv.bytes;obtain ⟨m1,jh⟩:=eX bd.length;have hm1b:m1<=4096:=by omega
 rw [<-jh] at lv ej ⊢;have Ff:=aA jh;by_cases he:er=0;case neg=>
  have de:((er:Int) != 0)=true:=by simpa using he
  have an:=aA (show HdO L ⟨0,0,0,0⟩ 0 er from .inr ⟨by unfold cA;rw [HN.out];simp [he],he,rfl,rfl⟩);clear he lv jh ej ed;go_wp2_with (refine sR uh ?_)
  refine rU uh ?_;exact ⟨⟨0,0,0,0⟩,0,er,rfl,an.out,al.grown (aC _ _ _) al.size (λo e=>by cases e;omega)⟩
 subst he;have HY:=aA lv.bytes;obtain ⟨W2,fv,_,k2,S2,R2⟩:=bX w1 w1 (lQ []) 161 (Below.refl _ _);obtain ⟨ba,o5⟩:=eX w1.heap.size;rw [<-o5] at R2;have HBA:=aA o5;have la:ba<W2.heap.size:=by have:=S2.out;omega
 have ma:w.heap.size<ba:=by omega
 have mba:w1.heap.size<=ba:=by omega
 have rj:=bT k2 uh;have ar:=Below.ext al k2;have s2:=k2.size;clear lv jh o5;go_upto_region 5 with fail;try dsimp only
 have e0:w1.alloc (.cells #[.int .i64 0,.int .i64 0,.int .i64 0,.int .i64 0] 161)=W2:=fv.symm;rw [e0,<-HBA.out];clear fv e0;go_wp2;go_loopw [9,10] (λp i wr=>∃(vs:List Int) (p0:Nat),p= .int .i64 (p0:Int)/\i= .int .i64 (vs.length:Int)/\vs.length<=4/\p0<=bd.length/\RowKit.Hid (jO bd 0=oG bd vs p0)/\RowKit.Hid (wr.heap[w.heap.size]? =some (.cells #[.int .i64 0,.int .i64 0,.int .i64 0,.int .i64 0] 96 (0,0)))/\RowKit.Hid (wr.heap[ba]? =some (.cells (lQ vs) 161 (0,0)))/\Below w.heap.size w wr/\W2.grownBy wr (some ba)) (λ_ i _=>4-(intOf i).toNat);case atStart=>exact ⟨[],0,rfl,rfl,by simp,by omega,aA rfl,rj,R2,ar,bC _ _⟩
 case round=>
  obtain ⟨vs,p0,rfl,rfl,qi,Zp,Oe,Q0,Q1,hb,ja⟩:=hrel;have Ng:W2.heap.size<=wr.heap.size:=ja.size;by_cases af:vs.length<4
  ·have jx:eK aQ bd (p0:Int)=aQ bd p0:=by unfold eK;rw [if_neg (by omega),Int.toNat_natCast]
   have hyr:Bytes (λb=>b≠ba) wr (.slice A1 m1 c1) bd:=((HY.out.mono (S' :=λb=>b≠ba) (λb h _=>by have:=ma;omega)).ext k2).keep (λb hb hs=>ja.block b hb (by simp;omega));have ou:=EJ A1 m1 c1 (p0:Int) bd _ wr hyr (by omega);rw [jx] at ou;obtain ⟨j,hj⟩:=eX vs.length;have HJ:=aA hj;rw [<-hj] at af qi ⊢;clear jx hj hyr;cases hr:aQ bd p0 with
   |error k=>
    have U3:fS bd=none:=by unfold fS;rw [Oe.out,xR (by rw [<-HJ.out];exact af) hr]
    have an:=aA (show HdO L ⟨0,0,0,0⟩ 0 9 from .inr ⟨by unfold cA;rw [HN.out];simp [U3],by decide,rfl,rfl⟩);have yi:((k:Int) != 0)=true:=by
     have:=dX bd p0 k hr;simpa using this
    rw [hr] at ou;unfold mE iv at ou;have Mo:=aA ou;clear ou hr U3;go_wp2_with fail;refine Mo.out.mono ?_;rintro e w2 ⟨rfl,b2⟩;have Qi:=bT b2 Q0;have Hb :=Below.ext hb b2;go_wp2_with (refine sR Qi ?_)
    refine rU Qi ?_;exact ⟨⟨0,0,0,0⟩,0,9,rfl,an.out,Hb.grown (aC _ _ _) Hb.size (λo e=>by cases e;omega)⟩
   |ok vq=>
    obtain ⟨a,p⟩:=vq;have Np:=cQ hr;have jd:=Np.hi;have Vk:=aA (show jO bd 0=oG bd (vs++ [a]) p by rw [Oe.out,xQ (by rw [<-HJ.out];exact af) hr]);rw [hr] at ou;unfold mE iv at ou;have Mo:=aA ou;clear ou hr Np;go_wp2_with fail;refine Mo.out.mono ?_;rintro e w2 ⟨rfl,b2⟩;have Qi:=bT b2 Q0;have UY:=bT b2 Q1;have c9:w2.cell? ⟨ba,j,none⟩=some (.int .i64 (vs.getD j 0)):=aM UY.out j _ (xP af)
    have f9:w2.frozen? ⟨ba,j,none⟩=false:=frozen_of_row _ _ _ _ _ UY.out
    obtain ⟨w3,Be⟩:=eX (w2.setCell ⟨ba,j,none⟩ (.int .i64 a));have gS:w2.grownBy w3 (some ba):=by rw [Be];exact aL (bC _ _)
    have Q13:=aA (show w3.heap[ba]? =some (.cells (lQ (vs++ [a])) 161 (0,0)) by rw [Be,<-xO a (by rw [<-HJ.out];exact af),<-HJ.out];exact heap_setCell_same _ _ _ _ _ _ UY.out);have E7:=aA ((gS.block w.heap.size (by have:=b2.size;omega) (by simp;omega)).trans Qi.out);have ea:Below w.heap.size w w3:=(Below.ext hb b2).grown gS (Below.ext hb b2).size (λo e=>by cases e;omega);have UE:W2.grownBy w3 (some ba):=aE ja (aE (aN b2 _) gS);clear gS UY Qi;go_upto_region 8 with fail;rw [<-Be];clear Be c9 f9;go_wp2;go_roundw;case rel=>exact ⟨vs++ [a],p,rfl,by rw [List.length_append,<-HJ.out];simp,by rw [List.length_append,<-HJ.out];simp;omega,jd,Vk,E7,Q13,ea,UE⟩
    case measure=>simp [intOf];omega
  ·obtain ⟨a,b,d,u,Xd⟩:∃a b d u,vs=[a,b,d,u]:=by
    exact Tzd2
   subst Xd;have Od:jO bd 0= .ok (⟨a,b,d,u⟩,p0):=Oe.out;have Vk:=aA Od;have c0:=bn Q1.out;have UG:=fi Q1.out;have c2_:=gn Q1.out;have c3_:=lj Q1.out;obtain ⟨W3,ig,kx,Sx,bx,ff,Rx,HBx,lx,mx⟩:=bE wr #[.int .i64 a,.int .i64 b,.int .i64 d,.int .i64 u] 96;have E7:=bT kx Q0;have ea:=Below.ext hb kx;have bad_:¬(p0=bd.length/\fD ⟨a,b,d,u⟩)->HdO L ⟨0,0,0,0⟩ 0 9:=λh=> .inr ⟨by unfold cA fS;rw [HN.out];simp only [];rw [Vk.out];simp [h],by decide,rfl,rfl⟩
   have Wl:p0=bd.length/\fD ⟨a,b,d,u⟩->HdO L ⟨a,b,d,u⟩ q 0:=λh=> .inl ⟨by unfold cA fS;rw [HN.out];simp only [];rw [Vk.out];simp [h.1,h.2],rfl⟩
   have WH:=aA bad_;have GOOD:=aA Wl;clear Oe Od qi af bad_ Wl ja;go_upto_region 14 with (refine sN ?_)
   try dsimp only
   try simp only [List.length_cons,List.length_nil,Nat.zero_add]
   rw [<-ig,<-HBx.out];clear ig c0 UG c2_ c3_ ff;refine Tyal ?_;have y0:=bn Rx.out;have y1:=fi Rx.out;have y2:=gn Rx.out;have y3:=lj Rx.out;by_cases p1:p0=m1;case pos=>
    have e1:((p0:Int) != (m1:Int))=false:=by simp [p1]
    have e1n:(p0 != m1)=false:=by simp [p1]
    have HP:=aA (p1.trans Ff.out);clear p1;by_cases p2:b<1;case pos=>
     have e2:decide (b<1)=true:=by simpa using p2
     have an:=aA (WH.out (by rintro ⟨g1,g2,g3⟩;simp only [] at g2 g3;omega));clear p2;exact Tza3
    case neg=>
     have e2:decide (b<1)=false:=by simpa using p2
     by_cases p3:a=1;case pos=>
      have e3:(a != 1)=false:=by simp [p3]
      have e3b:(a==1)=true:=by simp [p3]
      have e3c:(a==2)=false:=by simp [p3]
      by_cases p4:d= -1;case pos=>
       have e4:(d != -1)=false:=by simp [p4]
       by_cases p5:u=0;case pos=>
        have e5:(u != 0)=false:=by simp [p5]
        have an:=aA (GOOD.out (by exact ⟨HP.out,by show 1<=b;omega,.inl ⟨p3,p4,p5⟩⟩));clear p3 p4 p5 p2;exact Tzdm
       case neg=>
        have e5:(u != 0)=true:=by simpa using p5
        have an:=aA (WH.out (by rintro ⟨g1,g2,g3⟩;simp only [] at g2 g3;omega));clear p3 p4 p5 p2;exact Tza3
      case neg=>
       have e4:(d != -1)=true:=by simpa using p4
       have an:=aA (WH.out (by rintro ⟨g1,g2,g3⟩;simp only [] at g2 g3;omega));clear p3 p4 p2;exact Tza3
     case neg=>
      have e3:(a != 1)=true:=by simpa using p3
      have e3b:(a==1)=false:=by simpa using p3
      by_cases p6:a=2;case pos=>
       have e6:(a != 2)=false:=by simp [p6]
       have e6b:(a==2)=true:=by simp [p6]
       by_cases p7:d<0;case pos=>
        have e7:decide (d<0)=true:=by simpa using p7
        have an:=aA (WH.out (by rintro ⟨g1,g2,g3⟩;simp only [] at g2 g3;omega));clear p3 p6 p7 p2;exact Tza3
       case neg=>
        have e7:decide (d<0)=false:=by simpa using p7
        by_cases p8:u<1;case pos=>
         have e8:decide (u<1)=true:=by simpa using p8
         have an:=aA (WH.out (by rintro ⟨g1,g2,g3⟩;simp only [] at g2 g3;omega));clear p3 p6 p7 p8 p2;exact Tza3
        case neg=>
         have e8:decide (u<1)=false:=by simpa using p8
         by_cases p9:b<=u;case pos=>
          have e9:decide (b<=u)=true:=by simpa using p9
          have an:=aA (WH.out (by rintro ⟨g1,g2,g3⟩;simp only [] at g2 g3;omega));clear p3 p6 p7 p8 p9 p2;exact Tza3
         case neg=>
          have e9:decide (b<=u)=false:=by simpa using p9
          have an:=aA (GOOD.out (by exact ⟨HP.out,by show 1<=b;omega,.inr ⟨p6,by show 0<=d;omega,by show 1<=u;omega,by show u<b;omega⟩⟩));clear p3 p6 p7 p8 p9 p2;exact Tzdm
      case neg=>
       have e6:(a != 2)=true:=by simpa using p6
       have e6b:(a==2)=false:=by simpa using p6
       have an:=aA (WH.out (by rintro ⟨g1,g2,g3⟩;simp only [] at g2 g3;omega));clear p3 p6 p2;exact Tza3
   case neg=>
    have e1:((p0:Int) != (m1:Int))=true:=by simp;omega
    have e1n:(p0 != m1)=true:=by simpa using p1
    have an:=aA (WH.out (by rintro ⟨g1,g2,g3⟩;exact p1 (g1.trans Ff.out.symm)));clear p1;exact Tza3
end Go.Proofs.YtiblijmngokcgaaGreatDoor
