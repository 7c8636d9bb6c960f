import Derived.Test.YtiblijmngokcgaaGreatDoorG32Zs
import Derived.Test.YtiblijmngokcgaaGreatDoorG12Zs
set_option linter.unusedVariables false
set_option linter.unusedSimpArgs false
set_option maxHeartbeats 4000000
set_option maxRecDepth 100000
namespace Go.Proofs.YtiblijmngokcgaaGreatDoor
open Go.Proofs.Tryz
open Go.RowKit
theorem lR {p:Prop} [Decidable p] {B:Bool} (F:B=true↔p):decide p=B:=by
 cases B with
 |true=>exact decide_eq_true (F.1 rfl)
 |false=>exact decide_eq_false (λh=>by have:=F.2 h;cases this)
theorem jN {P:Program} {fn:Func} {tmps:Array Value} {w:World} {a u v x:Nat} {t:TypeId} {A:Addr} {y:Value} (h:fn.results= #[.cell a t,.tmp u,.tmp v,.tmp x]) (ha:tmps.getD a undef= .pointer (some A)) (hl:(loadVar t A).run P w= .ok y w):(results fn tmps).run P w= .ok (.tuple #[y,tmps.getD u undef,tmps.getD v undef,tmps.getD x undef]) w:=by
 exact Tzdd
theorem JB (h:Hd) (w:World):Calls Tryz.prog 159 #[.agg #[.int .i64 h.kind,.int .i64 h.stamp,.int .i64 h.base,.int .i64 h.under]] w λe w' =>e= .returned (.bool (decide (fD h)))/\Below w.heap.size w w' :=by
 obtain ⟨g,hg⟩:=eX (decide (fD h));rw [<-hg];obtain ⟨k,s,b,u⟩:=h;obtain ⟨W,hW,bW,kW,SW,R0⟩:=bX w w #[.int .i64 k,.int .i64 s,.int .i64 b,.int .i64 u] 90 (Below.refl _ _);have c0:=bn R0.out;have c1:=fi R0.out;have c2:=gn R0.out;have c3:=lj R0.out;by_cases h1:s<1
 ·have d1:decide (s<1)=true:=by simpa using h1
  have F:=aA (show false=true↔fD ⟨k,s,b,u⟩ from ⟨λh=>(by cases h),λh=>by have:1<=s:=h.1;omega⟩);clear h1;exact Tzc1
 ·have d1:decide (s<1)=false:=by simpa using h1
  by_cases iq:k=1
  ·have e1:(k==1)=true:=by simpa using iq
   by_cases al:b= -1
   ·have e2:(b== -1)=true:=by simpa using al
    by_cases hu:u=0
    ·have e3:(u==0)=true:=by simpa using hu
     have F:=aA (show true=true↔fD ⟨k,s,b,u⟩ from ⟨λ_=>⟨by show 1<=s;omega,.inl ⟨iq,al,hu⟩⟩,λ_=>rfl⟩);clear h1 iq al hu;obtain rfl:g=true:=by rw [hg];exact lR F.out
     exact Tza5
    ·have e3:(u==0)=false:=by simpa using hu
     have F:=aA (show false=true↔fD ⟨k,s,b,u⟩ from ⟨λh=>(by cases h),λh=>by
      rcases h.2 with g|g
      ·exact absurd g.2.2 hu
      ·have:k=2:=g.1;omega⟩)
     clear h1 iq al hu;exact Tzc1
   ·have e2:(b== -1)=false:=by simpa using al
    have F:=aA (show false=true↔fD ⟨k,s,b,u⟩ from ⟨λh=>(by cases h),λh=>by
     rcases h.2 with g|g
     ·exact absurd g.2.1 al
     ·have:k=2:=g.1;omega⟩)
    clear h1 iq al;exact Tzc1
  ·have e1:(k==1)=false:=by simpa using iq
   by_cases uc:k=2
   ·have e2:(k==2)=true:=by simpa using uc
    have xe:fD ⟨k,s,b,u⟩->0<=b/\1<=u/\u<s:=λh=>by
     rcases h.2 with g|g
     ·exact absurd g.1 iq
     ·exact g.2
    by_cases Ly:0<=b
    ·have e3:decide (0<=b)=true:=by simpa using Ly
     by_cases Nm:1<=u
     ·have e4:decide (1<=u)=true:=by simpa using Nm
      by_cases Dr:u<s
      ·have e5:decide (u<s)=true:=by simpa using Dr
       have F:=aA (show true=true↔fD ⟨k,s,b,u⟩ from ⟨λ_=>⟨by show 1<=s;omega,.inr ⟨uc,Ly,Nm,Dr⟩⟩,λ_=>rfl⟩);clear h1 iq uc Ly Nm Dr xe;obtain rfl:g=true:=by rw [hg];exact lR F.out
       exact Tza5
      ·have e5:decide (u<s)=false:=by simpa using Dr
       have F:=aA (show false=true↔fD ⟨k,s,b,u⟩ from ⟨λh=>(by cases h),λh=>absurd (xe h).2.2 Dr⟩);clear h1 iq uc Ly Nm Dr xe;exact Tzc1
     ·have e4:decide (1<=u)=false:=by simpa using Nm
      have F:=aA (show false=true↔fD ⟨k,s,b,u⟩ from ⟨λh=>(by cases h),λh=>absurd (xe h).2.1 Nm⟩);clear h1 iq uc Ly Nm xe;exact Tzc1
    ·have e3:decide (0<=b)=false:=by simpa using Ly
     have F:=aA (show false=true↔fD ⟨k,s,b,u⟩ from ⟨λh=>(by cases h),λh=>absurd (xe h).1 Ly⟩);clear h1 iq uc Ly xe;exact Tzc1
   ·have e2:(k==2)=false:=by simpa using uc
    have F:=aA (show false=true↔fD ⟨k,s,b,u⟩ from ⟨λh=>(by cases h),λh=>by
     rcases h.2 with g|g
     ·exact absurd g.1 iq
     ·exact absurd g.1 uc⟩)
    clear h1 iq uc;exact Tzc1
theorem FB (h:Hd) (hi:∀z∈h.l,av z) (w:World):Calls Tryz.prog 117 #[.agg #[.int .i64 h.kind,.int .i64 h.stamp,.int .i64 h.base,.int .i64 h.under]] w λe w' =>∃v,e= .returned v/\Bytes (λ_=>True) w' v (aI h.l)/\Below w.heap.size w w' :=by
 obtain ⟨k,s,b,u⟩:=h;obtain ⟨W,hW,bW,kW,SW,R0⟩:=bX w w #[.int .i64 k,.int .i64 s,.int .i64 b,.int .i64 u] 90 (Below.refl _ _);have af:w.heap.size<W.heap.size:=by have:=SW.out;omega
 have c0:=bn R0.out;have hk:=hi k (by simp [Hd.l]);have hs:=hi s (by simp [Hd.l]);have hb:=hi b (by simp [Hd.l]);have hu:=hi u (by simp [Hd.l]);have HF:=aA (show aI (Hd.l ⟨k,s,b,u⟩)=((([]++cP k)++cP s)++cP b)++cP u by simp [Hd.l,aI]);have n1:=fY hk.1 hk.2;have n2:=fY hs.1 hs.2;have n3:=fY hb.1 hb.2;have H1:=aA (nI none 0 0 k [] (λ_=>True) W (Bytes.nil_ _ _) (by omega) hk.1 hk.2);go_enter func117,ntmps117;go_upto_region 1 with fail;rw [<-hW];clear hW;go_wp2_with fail;refine H1.out.mono ?_;rintro e w1 ⟨v1,rfl,y1,b1⟩;obtain ⟨A1,q1,rfl⟩:=sI y1;obtain ⟨m1,jh⟩:=eX (([]++cP k).length);rw [<-jh] at y1 ⊢;have M1:m1<=10:=by rw [jh];simp;omega
 clear jh;have r1:=bT b1 R0 af;have c1:=fi r1.out;have H2:=aA (nI A1 m1 q1 s _ (λ_=>True) w1 y1 (by omega) hs.1 hs.2);go_wp2_with fail;refine H2.out.mono ?_;rintro e w2 ⟨v2,rfl,y2,b2⟩;obtain ⟨A2,q2,rfl⟩:=sI y2;obtain ⟨m2,pg⟩:=eX ((([]++cP k)++cP s).length);rw [<-pg] at y2 ⊢;have M2:m2<=20:=by rw [pg];simp;omega
 clear pg;have tj:=Below.ext b1 b2;have r2:=bT tj R0 af;have c2:=gn r2.out;have H3:=aA (nI A2 m2 q2 b _ (λ_=>True) w2 y2 (by omega) hb.1 hb.2);go_wp2_with fail;refine H3.out.mono ?_;rintro e w3 ⟨v3,rfl,y3,b3⟩;obtain ⟨A3,q3,rfl⟩:=sI y3;obtain ⟨m3,Iq⟩:=eX (((([]++cP k)++cP s)++cP b).length);rw [<-Iq] at y3 ⊢;have M3:m3<=30:=by rw [Iq];simp;omega
 clear Iq;have b123:=Below.ext tj b3;have r3:=bT b123 R0 af;have c3:=lj r3.out;have H4:=aA (nI A3 m3 q3 u _ (λ_=>True) w3 y3 (by omega) hu.1 hu.2);go_wp2_with fail;refine H4.out.mono ?_;rintro e w4 ⟨v4,rfl,y4,b4⟩;go_wp2;go_ret;exact ⟨v4,rfl,by rw [HF.out];exact y4,Below.ext bW (Below.ext b123 b4)⟩
def oG (L:List UInt8):List Int->Nat->Except Nat (Hd×Nat)
 |[],q=>jO L q
 |[a],q=>ft (aQ L q) λb p2=>ft (aQ L p2) λc p3=>ft (aQ L p3) λd p4=> .ok (⟨a,b,c,d⟩,p4)
 |[a,b],q=>ft (aQ L q) λc p3=>ft (aQ L p3) λd p4=> .ok (⟨a,b,c,d⟩,p4)
 |[a,b,c],q=>ft (aQ L q) λd p4=> .ok (⟨a,b,c,d⟩,p4)
 |a::b::c::d::_,q=> .ok (⟨a,b,c,d⟩,q)
theorem xQ {L:List UInt8} {vs:List Int} {q p:Nat} {a:Int} (hl:vs.length<4) (h:aQ L q= .ok (a,p)):oG L vs q=oG L (vs++ [a]) p:=by
 match vs,hl with
 |[],_=>show jO L q=_;unfold jO;rw [aY h];rfl
 |[x],_=>show ft _ _=_;rw [aY h];rfl
 |[x,y],_=>show ft _ _=_;rw [aY h];rfl
 |[x,y,z],_=>show ft _ _=_;rw [aY h];rfl
theorem xR {L:List UInt8} {vs:List Int} {q k:Nat} (hl:vs.length<4) (h:aQ L q= .error k):oG L vs q= .error k:=by
 match vs,hl with
 |[],_=>show jO L q=_;unfold jO;rw [cV h]
 |[x],_=>show ft _ _=_;rw [cV h]
 |[x,y],_=>show ft _ _=_;rw [cV h]
 |[x,y,z],_=>show ft _ _=_;rw [cV h]
def lQ (vs:List Int):Array Value:= #[.int .i64 (vs.getD 0 0),.int .i64 (vs.getD 1 0),.int .i64 (vs.getD 2 0),.int .i64 (vs.getD 3 0)]
theorem xO {vs:List Int} (a:Int) (hl:vs.length<4):(lQ vs).setIfInBounds vs.length (.int .i64 a)=lQ (vs++ [a]):=by
 match vs,hl with
 |[],_=>rfl
 |[x],_=>rfl
 |[x,y],_=>rfl
 |[x,y,z],_=>rfl
theorem xP {vs:List Int} {j:Nat} (hj:j<4):(lQ vs)[j]? =some (.int .i64 (vs.getD j 0)):=by
 have:j=0∨j=1∨j=2∨j=3:=by omega
 rcases this with rfl|rfl|rfl|rfl<;>rfl
theorem IA (A:Option Addr) (n c:Nat) (L:List UInt8) (S:Nat->Prop) (w:World) (hv:Bytes S w (.slice A n c) L) (hn:n<=100000000):
 Calls Tryz.prog 113 #[.slice A n c] w λe w' =>∃(h:Hd) (b:Bool),e= .returned (.tuple #[.agg #[.int .i64 h.kind,.int .i64 h.stamp,.int .i64 h.base,.int .i64 h.under],.bool b])/\(fS L=if b then some h else none)/\Below w.heap.size w w' :=by
 have Dm:=aA hv.len.1;obtain ⟨W,hW,aw,SW,R0,R1⟩:∃W,W=(w.alloc (.cells #[.int .i64 0,.int .i64 0,.int .i64 0,.int .i64 0] 90)).alloc (.cells (lQ []) 161)/\Below w.heap.size w W/\RowKit.Hid (W.heap.size=w.heap.size+2)/\
  RowKit.Hid (W.heap[w.heap.size]? =some (.cells #[.int .i64 0,.int .i64 0,.int .i64 0,.int .i64 0] 90 (0,0)))/\RowKit.Hid (W.heap[w.heap.size+1]? =some (.cells (lQ []) 161 (0,0))):=by
  refine ⟨_,rfl,((Below.refl _ w).alloc (Nat.le_refl _) _).alloc (by simp) _,aA (by simp),aA ?_,aA ?_⟩
  ·exact Tzap
  ·have:=heap_alloc_new (w.alloc (.cells #[.int .i64 0,.int .i64 0,.int .i64 0,.int .i64 0] 90)) (.cells (lQ []) 161);rw [World.size_alloc] at this;exact this
 have HV_:=aA hv;clear hv;go_enter func113,ntmps113;go_upto_region 2 with fail;have e0:((w.alloc (.cells #[.int .i64 0,.int .i64 0,.int .i64 0,.int .i64 0] 90)).alloc (.cells #[.int .i64 0,.int .i64 0,.int .i64 0,.int .i64 0] 161))=W:=hW.symm;rw [e0];clear hW e0;have b0lt:w.heap.size+1<W.heap.size:=by have:=SW.out;omega
 go_wp2;go_loopw [5,11] (λp i wr=>∃(vs:List Int) (q:Nat),p= .int .i64 q/\i= .int .i64 vs.length/\vs.length<=4/\q<=L.length/\RowKit.Hid (jO L 0=oG L vs q)/\RowKit.Hid (wr.heap[w.heap.size]? =some (.cells #[.int .i64 0,.int .i64 0,.int .i64 0,.int .i64 0] 90 (0,0)))/\RowKit.Hid (wr.heap[w.heap.size+1]? =some (.cells (lQ vs) 161 (0,0)))/\Below w.heap.size w wr) (λ_ i _=>4-(intOf i).toNat);case atStart=>exact ⟨[],0,rfl,rfl,by simp,by omega,aA rfl,R0,R1,aw⟩
 case round=>
  obtain ⟨vs,q,rfl,rfl,qi,Zp,Oe,Q0,Q1,hb⟩:=hrel;by_cases af:vs.length<4
  ·have Nz:w.heap.size+1<wr.heap.size:=(Array.getElem?_eq_some_iff.1 Q1.out).1;have jx:eK aQ L (q:Int)=aQ L q:=by unfold eK;rw [if_neg (by omega),Int.toNat_natCast]
   have ou:=BC A n c (q:Int) L S wr (HV_.out.ext hb) hn;rw [jx] at ou;obtain ⟨j,hj⟩:=eX vs.length;have HJ:=aA hj;rw [<-hj] at af qi ⊢;clear jx hj;cases hr:aQ L q with
   |error k=>
    have an:=aA (show fS L=none by unfold fS;rw [Oe.out,xR (by rw [<-HJ.out];exact af) hr]);have yi:((k:Int) != 0)=true:=by
     have:=dX L q k hr;simpa using this
    rw [hr] at ou;unfold mE iv at ou;have Mo:=aA ou;clear ou hr;go_wp2_with fail;refine Mo.out.mono ?_;rintro e w2 ⟨rfl,b2⟩;have Qi:=bT b2 Q0;go_wp2_with (refine sR Qi ?_)
    refine rT Qi ?_;refine ⟨⟨0,0,0,0⟩,false,rfl,an.out,(Below.ext hb b2).grown (aC _ _ _) (Below.ext hb b2).size (λo e=>by cases e;omega)⟩
   |ok vq=>
    obtain ⟨a,p⟩:=vq;have Np:=cQ hr;have jd:=Np.hi;have Vk:=aA (show jO L 0=oG L (vs++ [a]) p by rw [Oe.out,xQ (by rw [<-HJ.out];exact af) hr]);rw [hr] at ou;unfold mE iv at ou;have Mo:=aA ou;clear ou hr Np;go_wp2_with fail;refine Mo.out.mono ?_;rintro e w2 ⟨rfl,b2⟩;have Qi:=bT b2 Q0;have UY:=bT b2 Q1 Nz;have c9:w2.cell? ⟨w.heap.size+1,j,none⟩=some (.int .i64 (vs.getD j 0)):=aM UY.out j _ (xP af)
    have f9:w2.frozen? ⟨w.heap.size+1,j,none⟩=false:=frozen_of_row _ _ _ _ _ UY.out
    obtain ⟨w3,Be⟩:=eX (w2.setCell ⟨w.heap.size+1,j,none⟩ (.int .i64 a));have gS:w2.grownBy w3 (some (w.heap.size+1)):=by rw [Be];exact aL (bC _ _)
    have Q13:=aA (show w3.heap[w.heap.size+1]? =some (.cells (lQ (vs++ [a])) 161 (0,0)) by rw [Be,<-xO a (by rw [<-HJ.out];exact af),<-HJ.out];exact heap_setCell_same _ _ _ _ _ _ UY.out);have E7:=aA ((gS.block w.heap.size (by have:=b2.size;omega) (by simp)).trans Qi.out);have ea:Below w.heap.size w w3:=(Below.ext hb b2).grown gS (Below.ext hb b2).size (λo e=>by cases e;omega);clear gS UY Qi;go_upto_region 10 with fail;rw [<-Be];clear Be c9 f9;go_wp2;go_roundw;case rel=>exact ⟨vs++ [a],p,rfl,by rw [List.length_append,<-HJ.out];simp,by rw [List.length_append,<-HJ.out];simp;omega,jd,Vk,E7,Q13,ea⟩
    case measure=>simp [intOf];omega
  ·obtain ⟨a,b,d,u,Xd⟩:∃a b d u,vs=[a,b,d,u]:=by
    exact Tzd2
   subst Xd;have Od:jO L 0= .ok (⟨a,b,d,u⟩,q):=Oe.out;have Vk:=aA Od;have c0:=bn Q1.out;have c1:=fi Q1.out;have c2:=gn Q1.out;have c3:=lj Q1.out;obtain ⟨W3,ig,k3,S3,bx,ff,R3,tm,On,_⟩:=bE wr #[.int .i64 a,.int .i64 b,.int .i64 d,.int .i64 u] 90;have Nz:w.heap.size+1<wr.heap.size:=(Array.getElem?_eq_some_iff.1 Q1.out).1;have hwbx:w.heap.size<bx:=by omega
   have E7:=bT k3 Q0;have ea:=Below.ext hb k3;clear ff Oe Od qi af;go_upto_region 12 with (refine sN ?_)
   try dsimp only
   simp only [List.length_cons,List.length_nil,Nat.zero_add];rw [<-ig,<-tm.out];clear ig c0 c1 c2 c3;refine Tyal ?_;have HGD:=aA (λw' =>JB ⟨a,b,d,u⟩ w');by_cases N0:q=n
   ·have dq:((q:Int)==(n:Int))=true:=by simp [N0]
    go_wp2_with fail;refine aH ((λw' =>w'.heap[bx]? =some (.cells #[.int .i64 a,.int .i64 b,.int .i64 d,.int .i64 u] 90 (0,0)))) (by kernel_rfl) (by kernel_rfl) (R3.out) ?_;refine TkA ?_;refine lL (λw' ah =>lB (t:=90) ah) ?_;refine Tyac ?_;refine lL (λw' ah =>lB (t:=90) ah) ?_;refine Tyai ?_;go_wp2_with fail;refine (HGD.out _).mono ?_;rintro e w4 ⟨rfl,b4⟩;obtain ⟨g,hg⟩:=eX (decide (fD ⟨a,b,d,u⟩));rw [<-hg];have UI :Below W3.heap.size W3 w4:=Below.ext (Below.refl _ W3).drew b4;have Qe:=bT UI R3 On;have Qh:=bT UI E7
    have an:=aA (show fS L=if g then some ⟨a,b,d,u⟩ else none by
     unfold fS;rw [Vk.out];dsimp only;cases g with
     |true=>rw [if_pos ⟨by rw [Dm.out];exact N0,of_decide_eq_true hg.symm⟩];rfl
     |false=>rw [if_neg (λh=>of_decide_eq_false hg.symm h.2)];rfl)
    clear hg N0;go_wp2_with fail;refine aD (Qe.out) ?_;refine Tyah ?_;refine sR Qh ?_;refine aD ((setRow_other _ _ _ _ (by omega)).trans Qe.out) ?_;refine Tyac ?_;refine aP ?_;go_wp2;refine rT Qh ?_;refine ⟨⟨a,b,d,u⟩,g,rfl,an.out,(Below.ext ea UI).grown (aC _ _ _) (Below.ext ea UI).size (λo e=>by cases e;omega)⟩
   ·have dq:((q:Int)==(n:Int))=false:=by simpa using λh=>N0 (by omega)
    have an:=aA (show fS L=none by
     unfold fS;rw [Vk.out];dsimp only;rw [if_neg (λh=>N0 (by rw [<-Dm.out];exact h.1))])
    clear N0;go_wp2_with fail;refine aH ((λw' =>w'.heap[bx]? =some (.cells #[.int .i64 a,.int .i64 b,.int .i64 d,.int .i64 u] 90 (0,0)))) (by kernel_rfl) (by kernel_rfl) (R3.out) ?_;refine TkA ?_;refine lL (λw' ah =>lB (t:=90) ah) ?_;refine Tyac ?_;obtain ⟨w4,Il⟩:=eX W3.drew;have UI :Below W3.heap.size W3 w4:=by rw [Il];exact (Below.refl _ W3).drew
    rw [<-Il];clear Il;have Qe:=bT UI R3 On;have Qh:=bT UI E7;refine gU rfl rfl (Qe.out) ?_;refine Tyac ?_;refine Tyah ?_;refine sR Qh ?_;refine aD ((setRow_other _ _ _ _ (by omega)).trans Qe.out) ?_;refine Tyac ?_;refine aP ?_;go_wp2;refine rT Qh ?_;refine ⟨⟨a,b,d,u⟩,false,rfl,an.out,(Below.ext ea UI).grown (aC _ _ _) (Below.ext ea UI).size (λo e=>by cases e;omega)⟩
end Go.Proofs.YtiblijmngokcgaaGreatDoor
