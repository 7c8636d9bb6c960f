import Derived.Test.YtiblijmngokcgaaGreatDoorMacZs
import Derived.Test.YtiblijmngokcgaaGreatDoorG10Zs
import Derived.Test.YtiblijmngokcgaaGreatDoorCodecCZs
import Derived.Test.YtiblijmngokcgaaGreatDoorDiskBZs
import Derived.Test.YtiblijmngokcgaaGreatDoorKitZs
import Derived.Test.YtiblijmngokcgaaGreatDoorDrawBZs
namespace Go.Proofs.YtiblijmngokcgaaGreatDoor
open Go.RowKit
set_option maxRecDepth 100000
set_option linter.unusedVariables false
set_option linter.unusedSimpArgs false
theorem iV {p:Prop} [Decidable p] {B:Bool} (F:B=true↔p):decide p=B:=by
 cases B with
 |true=>exact decide_eq_true (F.1 rfl)
 |false=>exact decide_eq_false (fun h=>by have:=F.2 h;cases this)
theorem gL {P:Program} {fn:Func} {tmps:Array Value} {w:World} {a u v x:Nat} {t:TypeId} {A:Addr} {y:Value} (h:fn.results= #[.cell a t,.tmp u,.tmp v,.tmp x]) (ha:tmps.getD a undef= .pointer (some A)) (hl:(loadVar t A).run P w= .ok y w):(results fn tmps).run P w= .ok (.tuple #[y,tmps.getD u undef,tmps.getD v undef,tmps.getD x undef]) w:=by
 exact Tzci
set_option maxHeartbeats 2000000 in
theorem CB (h:Hd) (w:World):Calls Tryz.prog 159 #[.agg #[.int .i64 h.kind,.int .i64 h.stamp,.int .i64 h.base,.int .i64 h.under]] w fun e w' =>e= .returned (.bool (decide (eK h)))∧Below w.heap.size w w' :=by
 obtain ⟨g,hg⟩:∃g,g=decide (eK h):=⟨_,rfl⟩
 rw [←hg]
 obtain ⟨k,s,b,u⟩:=h
 obtain ⟨W,hW,bW,kW,SW,R0⟩:=bP w w #[.int .i64 k,.int .i64 s,.int .i64 b,.int .i64 u] 90 (Below.refl _ _)
 have c0:W.cell? ⟨w.heap.size,0,none⟩=some (.int .i64 k):=aA R0.out 0 _ rfl
 have c1:W.cell? ⟨w.heap.size,1,none⟩=some (.int .i64 s):=aA R0.out 1 _ rfl
 have c2:W.cell? ⟨w.heap.size,2,none⟩=some (.int .i64 b):=aA R0.out 2 _ rfl
 have c3:W.cell? ⟨w.heap.size,3,none⟩=some (.int .i64 u):=aA R0.out 3 _ rfl
 by_cases h1:s<1
 ·have d1:decide (s<1)=true:=by simpa using h1
  have F:=Lib.hid (show false=true↔eK ⟨k,s,b,u⟩ from ⟨fun h=>(by cases h),fun h=>by have:1≤s:=h.1;omega⟩)
  clear h1
  obtain rfl:g=false:=by rw [hg];exact iV F.out
  exact Tzax
 ·have d1:decide (s<1)=false:=by simpa using h1
  by_cases hk1:k=1
  ·have e1:(k==1)=true:=by simpa using hk1
   by_cases hb1:b= -1
   ·have e2:(b== -1)=true:=by simpa using hb1
    by_cases hu:u=0
    ·have e3:(u==0)=true:=by simpa using hu
     have F:=Lib.hid (show true=true↔eK ⟨k,s,b,u⟩ from ⟨fun _=>⟨by show 1≤s;omega,.inl ⟨hk1,hb1,hu⟩⟩,fun _=>rfl⟩)
     clear h1 hk1 hb1 hu
     obtain rfl:g=true:=by rw [hg];exact iV F.out
     exact Tzax
    ·have e3:(u==0)=false:=by simpa using hu
     have F:=Lib.hid (show false=true↔eK ⟨k,s,b,u⟩ from ⟨fun h=>(by cases h),fun h=>by
      rcases h.2 with g|g
      ·exact absurd g.2.2 hu
      ·have:k=2:=g.1
       omega⟩)
     clear h1 hk1 hb1 hu
     obtain rfl:g=false:=by rw [hg];exact iV F.out
     exact Tzax
   ·have e2:(b== -1)=false:=by simpa using hb1
    have F:=Lib.hid (show false=true↔eK ⟨k,s,b,u⟩ from ⟨fun h=>(by cases h),fun h=>by
     rcases h.2 with g|g
     ·exact absurd g.2.1 hb1
     ·have:k=2:=g.1
      omega⟩)
    clear h1 hk1 hb1
    obtain rfl:g=false:=by rw [hg];exact iV F.out
    exact Tzax
  ·have e1:(k==1)=false:=by simpa using hk1
   by_cases hk2:k=2
   ·have e2:(k==2)=true:=by simpa using hk2
    have hno:eK ⟨k,s,b,u⟩→0≤b∧1≤u∧u<s:=fun h=>by
     rcases h.2 with g|g
     ·exact absurd g.1 hk1
     ·exact g.2
    by_cases hb0:0≤b
    ·have e3:decide (0≤b)=true:=by simpa using hb0
     by_cases hu1:1≤u
     ·have e4:decide (1≤u)=true:=by simpa using hu1
      by_cases hus:u<s
      ·have e5:decide (u<s)=true:=by simpa using hus
       have F:=Lib.hid (show true=true↔eK ⟨k,s,b,u⟩ from ⟨fun _=>⟨by show 1≤s;omega,.inr ⟨hk2,hb0,hu1,hus⟩⟩,fun _=>rfl⟩)
       clear h1 hk1 hk2 hb0 hu1 hus hno
       obtain rfl:g=true:=by rw [hg];exact iV F.out
       exact Tzax
      ·have e5:decide (u<s)=false:=by simpa using hus
       have F:=Lib.hid (show false=true↔eK ⟨k,s,b,u⟩ from ⟨fun h=>(by cases h),fun h=>absurd (hno h).2.2 hus⟩)
       clear h1 hk1 hk2 hb0 hu1 hus hno
       obtain rfl:g=false:=by rw [hg];exact iV F.out
       exact Tzax
     ·have e4:decide (1≤u)=false:=by simpa using hu1
      have F:=Lib.hid (show false=true↔eK ⟨k,s,b,u⟩ from ⟨fun h=>(by cases h),fun h=>absurd (hno h).2.1 hu1⟩)
      clear h1 hk1 hk2 hb0 hu1 hno
      obtain rfl:g=false:=by rw [hg];exact iV F.out
      exact Tzax
    ·have e3:decide (0≤b)=false:=by simpa using hb0
     have F:=Lib.hid (show false=true↔eK ⟨k,s,b,u⟩ from ⟨fun h=>(by cases h),fun h=>absurd (hno h).1 hb0⟩)
     clear h1 hk1 hk2 hb0 hno
     obtain rfl:g=false:=by rw [hg];exact iV F.out
     exact Tzax
   ·have e2:(k==2)=false:=by simpa using hk2
    have F:=Lib.hid (show false=true↔eK ⟨k,s,b,u⟩ from ⟨fun h=>(by cases h),fun h=>by
     rcases h.2 with g|g
     ·exact absurd g.1 hk1
     ·exact absurd g.1 hk2⟩)
    clear h1 hk1 hk2
    obtain rfl:g=false:=by rw [hg];exact iV F.out
    exact Tzax
set_option maxHeartbeats 2000000 in
theorem zC (h:Hd) (hi:∀z∈h.l,InR z) (w:World):Calls Tryz.prog 117 #[.agg #[.int .i64 h.kind,.int .i64 h.stamp,.int .i64 h.base,.int .i64 h.under]] w fun e w' =>∃v,e= .returned v∧Bytes (fun _=>True) w' v (aK h.l)∧Below w.heap.size w w' :=by
 obtain ⟨k,s,b,u⟩:=h
 obtain ⟨W,hW,bW,kW,SW,R0⟩:=bP w w #[.int .i64 k,.int .i64 s,.int .i64 b,.int .i64 u] 90 (Below.refl _ _)
 have hlt:w.heap.size<W.heap.size:=by have:=SW.out;omega
 have c0:W.cell? ⟨w.heap.size,0,none⟩=some (.int .i64 k):=aA R0.out 0 _ rfl
 have hk:=hi k (by simp [Hd.l])
 have hs:=hi s (by simp [Hd.l])
 have hb:=hi b (by simp [Hd.l])
 have hu:=hi u (by simp [Hd.l])
 have HF:=Lib.hid (show aK (Hd.l ⟨k,s,b,u⟩)=((([]++cZ k)++cZ s)++cZ b)++cZ u by simp [Hd.l,aK])
 have n1:=lG hk.1 hk.2
 have n2:=lG hs.1 hs.2
 have n3:=lG hb.1 hb.2
 have H1:=Lib.hid (kD none 0 0 k [] (fun _=>True) W (Bytes.nil_ _ _) (by omega) hk.1 hk.2)
 go_enter Tryz.func117,Tryz.ntmps117
 go_upto_region 1 with fail
 rw [←hW]
 clear hW
 go_wp2_with fail
 refine H1.out.mono ?_
 rintro e w1 ⟨v1,rfl,y1,b1⟩
 obtain ⟨A1,q1,rfl⟩:=oN y1
 obtain ⟨m1,hm1⟩:∃m,m=([]++cZ k).length:=⟨_,rfl⟩
 rw [←hm1] at y1 ⊢
 have M1:m1≤10:=by rw [hm1];simp;omega
 clear hm1
 have r1:=Lib.hid ((b1.block w.heap.size hlt).trans R0.out)
 have c1:w1.cell? ⟨w.heap.size,1,none⟩=some (.int .i64 s):=aA r1.out 1 _ rfl
 have H2:=Lib.hid (kD A1 m1 q1 s _ (fun _=>True) w1 y1 (by omega) hs.1 hs.2)
 go_wp2_with fail
 refine H2.out.mono ?_
 rintro e w2 ⟨v2,rfl,y2,b2⟩
 obtain ⟨A2,q2,rfl⟩:=oN y2
 obtain ⟨m2,hm2⟩:∃m,m=(([]++cZ k)++cZ s).length:=⟨_,rfl⟩
 rw [←hm2] at y2 ⊢
 have M2:m2≤20:=by rw [hm2];simp;omega
 clear hm2
 have b12:=Below.ext b1 b2
 have r2:=Lib.hid ((b12.block w.heap.size hlt).trans R0.out)
 have c2:w2.cell? ⟨w.heap.size,2,none⟩=some (.int .i64 b):=aA r2.out 2 _ rfl
 have H3:=Lib.hid (kD A2 m2 q2 b _ (fun _=>True) w2 y2 (by omega) hb.1 hb.2)
 go_wp2_with fail
 refine H3.out.mono ?_
 rintro e w3 ⟨v3,rfl,y3,b3⟩
 obtain ⟨A3,q3,rfl⟩:=oN y3
 obtain ⟨m3,hm3⟩:∃m,m=((([]++cZ k)++cZ s)++cZ b).length:=⟨_,rfl⟩
 rw [←hm3] at y3 ⊢
 have M3:m3≤30:=by rw [hm3];simp;omega
 clear hm3
 have b123:=Below.ext b12 b3
 have r3:=Lib.hid ((b123.block w.heap.size hlt).trans R0.out)
 have c3:w3.cell? ⟨w.heap.size,3,none⟩=some (.int .i64 u):=aA r3.out 3 _ rfl
 have H4:=Lib.hid (kD A3 m3 q3 u _ (fun _=>True) w3 y3 (by omega) hu.1 hu.2)
 go_wp2_with fail
 refine H4.out.mono ?_
 rintro e w4 ⟨v4,rfl,y4,b4⟩
 go_wp2
 go_ret
 exact ⟨v4,rfl,by rw [HF.out];exact y4,Below.ext bW (Below.ext b123 b4)⟩
def oC (L:List UInt8):List Int→Nat→Except Nat (Hd×Nat)
 |[],q=>iP L q
 |[a],q=>bnd (bA L q) fun b p2=>bnd (bA L p2) fun c p3=>bnd (bA L p3) fun d p4=> .ok (⟨a,b,c,d⟩,p4)
 |[a,b],q=>bnd (bA L q) fun c p3=>bnd (bA L p3) fun d p4=> .ok (⟨a,b,c,d⟩,p4)
 |[a,b,c],q=>bnd (bA L q) fun d p4=> .ok (⟨a,b,c,d⟩,p4)
 |a::b::c::d::_,q=> .ok (⟨a,b,c,d⟩,q)
theorem CF {L:List UInt8} {vs:List Int} {q p:Nat} {a:Int} (hl:vs.length<4) (h:bA L q= .ok (a,p)):oC L vs q=oC L (vs++ [a]) p:=by
 match vs,hl with
 |[],_=>show iP L q=_;unfold iP;rw [aR h];rfl
 |[x],_=>show bnd _ _=_;rw [aR h];rfl
 |[x,y],_=>show bnd _ _=_;rw [aR h];rfl
 |[x,y,z],_=>show bnd _ _=_;rw [aR h];rfl
theorem CG {L:List UInt8} {vs:List Int} {q k:Nat} (hl:vs.length<4) (h:bA L q= .error k):oC L vs q= .error k:=by
 match vs,hl with
 |[],_=>show iP L q=_;unfold iP;rw [cL h]
 |[x],_=>show bnd _ _=_;rw [cL h]
 |[x,y],_=>show bnd _ _=_;rw [cL h]
 |[x,y,z],_=>show bnd _ _=_;rw [cL h]
def lP (vs:List Int):Array Value:= #[.int .i64 (vs.getD 0 0),.int .i64 (vs.getD 1 0),.int .i64 (vs.getD 2 0),.int .i64 (vs.getD 3 0)]
theorem CD {vs:List Int} (a:Int) (hl:vs.length<4):(lP vs).setIfInBounds vs.length (.int .i64 a)=lP (vs++ [a]):=by
 match vs,hl with
 |[],_=>rfl
 |[x],_=>rfl
 |[x,y],_=>rfl
 |[x,y,z],_=>rfl
theorem CE {vs:List Int} {j:Nat} (hj:j<4):(lP vs)[j]? =some (.int .i64 (vs.getD j 0)):=by
 have:j=0∨j=1∨j=2∨j=3:=by omega
 rcases this with rfl|rfl|rfl|rfl<;>rfl
set_option maxHeartbeats 4000000 in
theorem AX (A:Option Addr) (n c:Nat) (L:List UInt8) (S:Nat→Prop) (w:World) (hv:Bytes S w (.slice A n c) L) (hn:n≤100000000):
 Calls Tryz.prog 113 #[.slice A n c] w fun e w' =>∃(h:Hd) (b:Bool),e= .returned (.tuple #[.agg #[.int .i64 h.kind,.int .i64 h.stamp,.int .i64 h.base,.int .i64 h.under],.bool b])∧(fU L=if b then some h else none)∧Below w.heap.size w w' :=by
 have HLN:=Lib.hid hv.len.1
 obtain ⟨W,hW,hbW,SW,R0,R1⟩:∃W,W=(w.alloc (.cells #[.int .i64 0,.int .i64 0,.int .i64 0,.int .i64 0] 90)).alloc (.cells (lP []) 161)∧Below w.heap.size w W∧RowKit.Hid (W.heap.size=w.heap.size+2)∧
  RowKit.Hid (W.heap[w.heap.size]? =some (.cells #[.int .i64 0,.int .i64 0,.int .i64 0,.int .i64 0] 90 (0,0)))∧RowKit.Hid (W.heap[w.heap.size+1]? =some (.cells (lP []) 161 (0,0))):=by
  refine ⟨_,rfl,((Below.refl _ w).alloc (Nat.le_refl _) _).alloc (by simp) _,Lib.hid (by simp),Lib.hid ?_,Lib.hid ?_⟩
  ·exact Tzar
  ·have:=heap_alloc_new (w.alloc (.cells #[.int .i64 0,.int .i64 0,.int .i64 0,.int .i64 0] 90)) (.cells (lP []) 161)
   rw [World.size_alloc] at this
   exact this
 have HV_:=Lib.hid hv
 clear hv
 go_enter Tryz.func113,Tryz.ntmps113
 go_upto_region 2 with fail
 have e0:((w.alloc (.cells #[.int .i64 0,.int .i64 0,.int .i64 0,.int .i64 0] 90)).alloc (.cells #[.int .i64 0,.int .i64 0,.int .i64 0,.int .i64 0] 161))=W:=hW.symm
 rw [e0]
 clear hW e0
 have b0lt:w.heap.size+1<W.heap.size:=by have:=SW.out;omega
 go_wp2
 go_loopw [5,11] (fun p i wr=>∃(vs:List Int) (q:Nat),p= .int .i64 q∧i= .int .i64 vs.length∧vs.length≤4∧q≤L.length∧RowKit.Hid (iP L 0=oC L vs q)∧RowKit.Hid (wr.heap[w.heap.size]? =some (.cells #[.int .i64 0,.int .i64 0,.int .i64 0,.int .i64 0] 90 (0,0)))∧RowKit.Hid (wr.heap[w.heap.size+1]? =some (.cells (lP vs) 161 (0,0)))∧Below w.heap.size w wr) (fun _ i _=>4-(intOf i).toNat)
 case atStart=>exact ⟨[],0,rfl,rfl,by simp,by omega,Lib.hid rfl,R0,R1,hbW⟩
 case round=>
  obtain ⟨vs,q,rfl,rfl,hvl,hql,hfr,Q0,Q1,hb⟩:=hrel
  by_cases hlt:vs.length<4
  ·have hlt1:w.heap.size+1<wr.heap.size:=(Array.getElem?_eq_some_iff.1 Q1.out).1
   have hat:fM bA L (q:Int)=bA L q:=by unfold fM;rw [if_neg (by omega),Int.toNat_natCast]
   have hci:=vS A n c (q:Int) L S wr (HV_.out.ext hb) hn
   rw [hat] at hci
   obtain ⟨j,hj⟩:∃j,j=vs.length:=⟨_,rfl⟩
   have HJ:=Lib.hid hj
   rw [←hj] at hlt hvl ⊢
   clear hat hj
   cases hr:bA L q with
   |error k=>
    have FIN:=Lib.hid (show fU L=none by unfold fU;rw [hfr.out,CG (by rw [←HJ.out];exact hlt) hr])
    have hk0:((k:Int) != 0)=true:=by
     have:=dF L q k hr
     simpa using this
    rw [hr] at hci
    unfold qS iv at hci
    have HCI:=Lib.hid hci
    clear hci hr
    go_wp2_with fail
    refine HCI.out.mono ?_
    rintro e w2 ⟨rfl,b2⟩
    have Q02:=Lib.hid ((b2.block w.heap.size (by omega)).trans Q0.out)
    go_wp2_with (refine aC rfl 90 _ _ rfl (w.heap.size) 90 _ _ rfl rfl Q02.out (by kernel_rfl) rfl (by simp [Value.oneCell']) ?_)
    refine bodyPost_ret (bI rfl rfl (aB (setRow_heap _ _ _ _ _ _ Q02.out) Tryz.underlying90 rfl (by kernel_rfl))) rfl ?_
    refine ⟨⟨0,0,0,0⟩,false,rfl,FIN.out,(Below.ext hb b2).grown (aJ _ _ _) (Below.ext hb b2).size (fun o e=>by cases e;omega)⟩
   |ok vq=>
    obtain ⟨a,p⟩:=vq
    have hseg:=cI hr
    have hpl:=hseg.hi
    have HFR:=Lib.hid (show iP L 0=oC L (vs++ [a]) p by rw [hfr.out,CF (by rw [←HJ.out];exact hlt) hr])
    rw [hr] at hci
    unfold qS iv at hci
    have HCI:=Lib.hid hci
    clear hci hr hseg
    go_wp2_with fail
    refine HCI.out.mono ?_
    rintro e w2 ⟨rfl,b2⟩
    have Q02:=Lib.hid ((b2.block w.heap.size (by omega)).trans Q0.out)
    have Q12:=Lib.hid ((b2.block (w.heap.size+1) hlt1).trans Q1.out)
    have c9:w2.cell? ⟨w.heap.size+1,j,none⟩=some (.int .i64 (vs.getD j 0)):=aA Q12.out j _ (CE hlt)
    have f9:w2.frozen? ⟨w.heap.size+1,j,none⟩=false:=frozen_of_row _ _ _ _ _ Q12.out
    obtain ⟨w3,hw3⟩:∃w3,w3=w2.setCell ⟨w.heap.size+1,j,none⟩ (.int .i64 a):=⟨_,rfl⟩
    have gS:w2.grownBy w3 (some (w.heap.size+1)):=by rw [hw3];exact aO (bC _ _)
    have Q13:=Lib.hid (show w3.heap[w.heap.size+1]? =some (.cells (lP (vs++ [a])) 161 (0,0)) by rw [hw3,←CD a (by rw [←HJ.out];exact hlt),←HJ.out];exact heap_setCell_same _ _ _ _ _ _ Q12.out)
    have Q03:=Lib.hid ((gS.block w.heap.size (by have:=b2.size;omega) (by simp)).trans Q02.out)
    have hb3:Below w.heap.size w w3:=(Below.ext hb b2).grown gS (Below.ext hb b2).size (fun o e=>by cases e;omega)
    clear gS Q12 Q02
    go_upto_region 10 with fail
    rw [←hw3]
    clear hw3 c9 f9
    go_wp2
    go_roundw
    case rel=>exact ⟨vs++ [a],p,rfl,by rw [List.length_append,←HJ.out];simp,by rw [List.length_append,←HJ.out];simp;omega,hpl,HFR,Q03,Q13,hb3⟩
    case measure=>simp [intOf];omega
  ·obtain ⟨a,b,d,u,hvs⟩:∃a b d u,vs=[a,b,d,u]:=by
    match vs,hlt,hvl with
    |[a,b,d,u],_,_=>exact ⟨a,b,d,u,rfl⟩
    |[],h,_=>simp at h
    |[_],h,_=>simp at h
    |[_,_],h,_=>simp at h
    |[_,_,_],h,_=>simp at h
    |_::_::_::_::_::_,_,h=>simp at h
   subst hvs
   have hfr2:iP L 0= .ok (⟨a,b,d,u⟩,q):=hfr.out
   have HFR:=Lib.hid hfr2
   have c0:wr.cell? ⟨w.heap.size+1,0,none⟩=some (.int .i64 a):=aA Q1.out 0 _ rfl
   have c1:wr.cell? ⟨w.heap.size+1,1,none⟩=some (.int .i64 b):=aA Q1.out 1 _ rfl
   have c2:wr.cell? ⟨w.heap.size+1,2,none⟩=some (.int .i64 d):=aA Q1.out 2 _ rfl
   have c3:wr.cell? ⟨w.heap.size+1,3,none⟩=some (.int .i64 u):=aA Q1.out 3 _ rfl
   obtain ⟨W3,hW3,_,k3,S3,R3⟩:=bP wr wr #[.int .i64 a,.int .i64 b,.int .i64 d,.int .i64 u] 90 (Below.refl _ _)
   obtain ⟨bx,hbx⟩:∃x,x=wr.heap.size:=⟨_,rfl⟩
   rw [←hbx] at R3
   have HBX:=Lib.hid hbx
   have hbx3:bx<W3.heap.size:=by have:=S3.out;omega
   have hlt1:w.heap.size+1<wr.heap.size:=(Array.getElem?_eq_some_iff.1 Q1.out).1
   have hwbx:w.heap.size<bx:=by omega
   have Q03:=Lib.hid ((k3.block w.heap.size (by omega)).trans Q0.out)
   have hb3:=Below.ext hb k3
   clear hbx hfr hfr2 hvl hlt
   go_upto_region 12 with (refine aF rfl 90 _ _ rfl 90 _ #[.int .i64 a,.int .i64 b,.int .i64 d,.int .i64 u] rfl rfl (by kernel_rfl) rfl (by simp [Value.oneCell']) ?_)
   try dsimp only
   simp only [List.length_cons,List.length_nil,Nat.zero_add]
   rw [←hW3,←HBX.out]
   clear hW3 c0 c1 c2 c3
   try simp only [Act.put]
   have HGD:=Lib.hid (fun w' =>CB ⟨a,b,d,u⟩ w')
   by_cases hqn:q=n
   ·have dq:((q:Int)==(n:Int))=true:=by simp [hqn]
    go_wp2_with fail
    refine aM ((fun w' =>w'.heap[bx]? =some (.cells #[.int .i64 a,.int .i64 b,.int .i64 d,.int .i64 u] 90 (0,0)))) (by kernel_rfl) (by kernel_rfl) (R3.out) ?_
    refine TkA ?_
    refine aE (⟨bx,0,none⟩) (.agg #[.int .i64 a,.int .i64 b,.int .i64 d,.int .i64 u]) rfl rfl rfl (fun w' hw' =>aB hw' Tryz.underlying90 rfl (by kernel_rfl)) ?_
    refine TkI ?_
    refine TkA ?_
    refine aE (⟨bx,0,none⟩) (.agg #[.int .i64 a,.int .i64 b,.int .i64 d,.int .i64 u]) rfl rfl rfl (fun w' hw' =>aB hw' Tryz.underlying90 rfl (by kernel_rfl)) ?_
    refine TkI ?_
    refine TkA ?_
    refine aL rfl ?_
    go_wp2_with fail
    refine (HGD.out _).mono ?_
    rintro e w4 ⟨rfl,b4⟩
    obtain ⟨g,hg⟩:∃g,g=decide (eK ⟨a,b,d,u⟩):=⟨_,rfl⟩
    rw [←hg]
    have b4' :Below W3.heap.size W3 w4:=Below.ext (Below.refl _ W3).drew b4
    have R34:=Lib.hid ((b4'.block bx hbx3).trans R3.out)
    have Q04:=Lib.hid ((b4'.block w.heap.size (by omega)).trans Q03.out)
    have FIN:=Lib.hid (show fU L=if g then some ⟨a,b,d,u⟩ else none by
     unfold fU
     rw [HFR.out]
     dsimp only
     cases g with
     |true=>rw [if_pos ⟨by rw [HLN.out];exact hqn,of_decide_eq_true hg.symm⟩];rfl
     |false=>rw [if_neg (fun h=>of_decide_eq_false hg.symm h.2)];rfl)
    clear hg hqn
    go_wp2_with fail
    refine aI (R34.out) ?_
    refine TkA ?_
    refine aL rfl ?_
    refine aC rfl 90 _ _ rfl w.heap.size 90 _ _ rfl rfl Q04.out (by kernel_rfl) rfl (by simp [Value.oneCell']) ?_
    refine aI ((setRow_other _ _ _ _ (by omega)).trans R34.out) ?_
    refine TkI ?_
    refine TkA ?_
    refine aZ ?_
    go_wp2
    refine bodyPost_ret (bI rfl rfl (aB (setRow_heap _ _ _ _ _ _ Q04.out) Tryz.underlying90 rfl (by kernel_rfl))) rfl ?_
    refine ⟨⟨a,b,d,u⟩,g,rfl,FIN.out,(Below.ext hb3 b4').grown (aJ _ _ _) (Below.ext hb3 b4').size (fun o e=>by cases e;omega)⟩
   ·have dq:((q:Int)==(n:Int))=false:=by simpa using fun h=>hqn (by omega)
    have FIN:=Lib.hid (show fU L=none by
     unfold fU
     rw [HFR.out]
     dsimp only
     rw [if_neg (fun h=>hqn (by rw [←HLN.out];exact h.1))])
    clear hqn
    go_wp2_with fail
    refine aM ((fun w' =>w'.heap[bx]? =some (.cells #[.int .i64 a,.int .i64 b,.int .i64 d,.int .i64 u] 90 (0,0)))) (by kernel_rfl) (by kernel_rfl) (R3.out) ?_
    refine TkA ?_
    refine aE (⟨bx,0,none⟩) (.agg #[.int .i64 a,.int .i64 b,.int .i64 d,.int .i64 u]) rfl rfl rfl (fun w' hw' =>aB hw' Tryz.underlying90 rfl (by kernel_rfl)) ?_
    refine TkI ?_
    refine TkA ?_
    obtain ⟨w4,hw4⟩:∃w4,w4=W3.drew:=⟨_,rfl⟩
    have b4' :Below W3.heap.size W3 w4:=by rw [hw4];exact (Below.refl _ W3).drew
    rw [←hw4]
    clear hw4
    have R34:=Lib.hid ((b4'.block bx hbx3).trans R3.out)
    have Q04:=Lib.hid ((b4'.block w.heap.size (by omega)).trans Q03.out)
    refine iH rfl rfl (R34.out) ?_
    refine TkI ?_
    refine TkA ?_
    refine TkA ?_
    refine aL rfl ?_
    refine aC rfl 90 _ _ rfl w.heap.size 90 _ _ rfl rfl Q04.out (by kernel_rfl) rfl (by simp [Value.oneCell']) ?_
    refine aI ((setRow_other _ _ _ _ (by omega)).trans R34.out) ?_
    refine TkI ?_
    refine TkA ?_
    refine aZ ?_
    go_wp2
    refine bodyPost_ret (bI rfl rfl (aB (setRow_heap _ _ _ _ _ _ Q04.out) Tryz.underlying90 rfl (by kernel_rfl))) rfl ?_
    refine ⟨⟨a,b,d,u⟩,false,rfl,FIN.out,(Below.ext hb3 b4').grown (aJ _ _ _) (Below.ext hb3 b4').size (fun o e=>by cases e;omega)⟩
end Go.Proofs.YtiblijmngokcgaaGreatDoor
