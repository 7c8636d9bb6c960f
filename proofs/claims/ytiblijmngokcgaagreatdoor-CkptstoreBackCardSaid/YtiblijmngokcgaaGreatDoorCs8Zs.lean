import Derived.Test.YtiblijmngokcgaaGreatDoorMacZs
import Derived.Test.YtiblijmngokcgaaGreatDoorCs7Zs
import Derived.Test.YtiblijmngokcgaaGreatDoorG19Zs
import Derived.Test.YtiblijmngokcgaaGreatDoorG10Zs
import Derived.Test.YtiblijmngokcgaaGreatDoorG22Zs
namespace Go.Proofs.YtiblijmngokcgaaGreatDoor
open Go.RowKit
set_option maxRecDepth 100000
set_option linter.unusedVariables false
set_option linter.unusedSimpArgs false
set_option maxHeartbeats 1000000 in
theorem GL (A1 A2:Option Addr) (n1 c1 n2 c2:Nat) (l m:List Ev) (S1 S2:Nat→Prop) (w:World) (h1:Recs cQ S1 w (.slice A1 n1 c1) l) (h2:Recs cQ S2 w (.slice A2 n2 c2) m):
 Calls Tryz.prog 110 #[.slice A1 n1 c1,.slice A2 n2 c2] w fun e w' =>e= .returned (.bool (decide (l.take m.length=m)))∧Below w.heap.size w w' :=by
 have hl1:=h1.len
 have hl2:=h2.len
 by_cases hn:n2≤n1
 case neg=>
  have dn:decide (n2≤n1)=false:=by simpa using hn
  have FIN:=Lib.hid (show decide (l.take m.length=m)=false by
   simp only [decide_eq_false_iff_not]
   intro e
   have:=congrArg List.length e
   rw [List.length_take] at this
   omega)
  clear hl1 hl2 hn
  go_enter Tryz.func110,Tryz.ntmps110
  go_wp2
  go_ret
  rw [FIN.out]
  exact ⟨rfl,Below.refl _ _⟩
 have dn:decide (n2≤n1)=true:=by simpa using hn
 have hn1:n2≤c1:=by omega
 have HE:=xW A1 A2 n2 c1 n2 c2 (l.take n2) m S1 S2 w (h1.take_ dS hn) h2
 have HEE:=Lib.hid HE
 have HL2:=Lib.hid hl2.1
 clear hl1 hl2 hn HE
 go_enter Tryz.func110,Tryz.ntmps110
 exact Tzb1
set_option maxHeartbeats 1000000 in
theorem GJ (A1 A2:Option Addr) (n1 c1 n2 c2:Nat) (l m:List Snd) (S1 S2:Nat→Prop) (w:World) (h1:Recs dK S1 w (.slice A1 n1 c1) l) (h2:Recs dK S2 w (.slice A2 n2 c2) m):
 Calls Tryz.prog 111 #[.slice A1 n1 c1,.slice A2 n2 c2] w fun e w' =>e= .returned (.bool (decide (l.take m.length=m)))∧Below w.heap.size w w' :=by
 have hl1:=h1.len
 have hl2:=h2.len
 by_cases hn:n2≤n1
 case neg=>
  have dn:decide (n2≤n1)=false:=by simpa using hn
  have FIN:=Lib.hid (show decide (l.take m.length=m)=false by
   simp only [decide_eq_false_iff_not]
   intro e
   have:=congrArg List.length e
   rw [List.length_take] at this
   omega)
  clear hl1 hl2 hn
  go_enter Tryz.func111,Tryz.ntmps111
  go_wp2
  go_ret
  rw [FIN.out]
  exact ⟨rfl,Below.refl _ _⟩
 have dn:decide (n2≤n1)=true:=by simpa using hn
 have hn1:n2≤c1:=by omega
 have HE:=xT A1 A2 n2 c1 n2 c2 (l.take n2) m S1 S2 w (h1.take_ eF hn) h2
 have HEE:=Lib.hid HE
 have HL2:=Lib.hid hl2.1
 clear hl1 hl2 hn HE
 go_enter Tryz.func111,Tryz.ntmps111
 exact Tzb1
set_option maxHeartbeats 1000000 in
theorem GK (A1 A2:Option Addr) (n1 c1 n2 c2:Nat) (l m:List Ou) (S1 S2:Nat→Prop) (w:World) (h1:Recs dM S1 w (.slice A1 n1 c1) l) (h2:Recs dM S2 w (.slice A2 n2 c2) m):
 Calls Tryz.prog 112 #[.slice A1 n1 c1,.slice A2 n2 c2] w fun e w' =>e= .returned (.bool (decide (l.take m.length=m)))∧Below w.heap.size w w' :=by
 have hl1:=h1.len
 have hl2:=h2.len
 by_cases hn:n2≤n1
 case neg=>
  have dn:decide (n2≤n1)=false:=by simpa using hn
  have FIN:=Lib.hid (show decide (l.take m.length=m)=false by
   simp only [decide_eq_false_iff_not]
   intro e
   have:=congrArg List.length e
   rw [List.length_take] at this
   omega)
  clear hl1 hl2 hn
  go_enter Tryz.func112,Tryz.ntmps112
  go_wp2
  go_ret
  rw [FIN.out]
  exact ⟨rfl,Below.refl _ _⟩
 have dn:decide (n2≤n1)=true:=by simpa using hn
 have hn1:n2≤c1:=by omega
 have HE:=xU A1 A2 n2 c1 n2 c2 (l.take n2) m S1 S2 w (h1.take_ eG hn) h2
 have HEE:=Lib.hid HE
 have HL2:=Lib.hid hl2.1
 clear hl1 hl2 hn HE
 go_enter Tryz.func112,Tryz.ntmps112
 exact Tzb1
def sA (s u:Stt):Bool:=decide (s.cells.length=u.cells.length) && (decide (s.evs.take u.evs.length=u.evs) && (decide (s.sent.take u.sent.length=u.sent) && decide (s.outs.take u.outs.length=u.outs)))
theorem vM (s u:Stt):sA s u=true↔ExtM s u:=by
 have key:∀{α:Type} (a b:List α),a.take b.length=b↔b<+:a:=fun a b=>by rw [List.prefix_iff_eq_take];exact eq_comm
 unfold sA
 simp only [Bool.and_eq_true,decide_eq_true_eq,key]
 exact ⟨fun h=>⟨h.1,h.2.1,h.2.2.1,h.2.2.2⟩,fun h=>⟨h.c,h.e,h.sn,h.o⟩⟩
set_option maxHeartbeats 4000000 in
theorem pT (s u:Stt) (A1:Option Addr) (n1 c1:Nat) (A2:Option Addr) (n2 c2:Nat) (A3:Option Addr) (n3 c3:Nat) (A4:Option Addr) (n4 c4:Nat) (B1:Option Addr) (m1 d1:Nat) (B2:Option Addr) (m2 d2:Nat) (B3:Option Addr) (m3 d3:Nat) (B4:Option Addr) (m4 d4:Nat) (S1 S2:Nat→Prop) (w:World) (hM:StM S1 w s A1 n1 c1 A2 n2 c2 A3 n3 c3 A4 n4 c4) (hU:StM S2 w u B1 m1 d1 B2 m2 d2 B3 m3 d3 B4 m4 d4):
 Calls Tryz.prog 48 #[.agg #[.slice A1 n1 c1,.slice A2 n2 c2,.slice A3 n3 c3,.slice A4 n4 c4],.agg #[.slice B1 m1 d1,.slice B2 m2 d2,.slice B3 m3 d3,.slice B4 m4 d4]] w fun e w' =>e= .returned (.bool (sA s u))∧Below w.heap.size w w' :=by
 obtain ⟨W,hW,hbW,SW,R0,R1⟩:∃W,W=(w.alloc (.cells #[.slice A1 n1 c1,.slice A2 n2 c2,.slice A3 n3 c3,.slice A4 n4 c4] 51)).alloc (.cells #[.slice B1 m1 d1,.slice B2 m2 d2,.slice B3 m3 d3,.slice B4 m4 d4] 51)∧Below w.heap.size w W∧RowKit.Hid (W.heap.size=w.heap.size+2)∧
  RowKit.Hid (W.heap[w.heap.size]? =some (.cells #[.slice A1 n1 c1,.slice A2 n2 c2,.slice A3 n3 c3,.slice A4 n4 c4] 51 (0,0)))∧RowKit.Hid (W.heap[w.heap.size+1]? =some (.cells #[.slice B1 m1 d1,.slice B2 m2 d2,.slice B3 m3 d3,.slice B4 m4 d4] 51 (0,0))):=by
  refine ⟨_,rfl,((Below.refl _ w).alloc (Nat.le_refl _) _).alloc (by simp) _,Lib.hid (by simp),Lib.hid ?_,Lib.hid ?_⟩
  ·exact Tzar
  ·exact Tzb0
 have hlt:w.heap.size+1<W.heap.size:=by have:=SW.out;omega
 have hl1:=hM.1.len.1
 have hk1:=hU.1.len.1
 have E1:=Lib.hid (GL A2 B2 n2 c2 m2 d2 s.evs u.evs S1 S2 W (hM.2.ext hbW) (hU.2.ext hbW))
 have H3:=Lib.hid (fun (w' :World) (b:Below W.heap.size W w')=>GJ A3 B3 n3 c3 m3 d3 s.sent u.sent S1 S2 w' (hM.3.ext (Below.ext hbW b)) (hU.3.ext (Below.ext hbW b)))
 have H4:=Lib.hid (fun (w' :World) (b:Below W.heap.size W w')=>GK A4 B4 n4 c4 m4 d4 s.outs u.outs S1 S2 w' (hM.4.ext (Below.ext hbW b)) (hU.4.ext (Below.ext hbW b)))
 obtain ⟨g1,hg1⟩:∃g,g=decide (s.evs.take u.evs.length=u.evs):=⟨_,rfl⟩
 obtain ⟨g2,hg2⟩:∃g,g=decide (s.sent.take u.sent.length=u.sent):=⟨_,rfl⟩
 obtain ⟨g3,hg3⟩:∃g,g=decide (s.outs.take u.outs.length=u.outs):=⟨_,rfl⟩
 obtain ⟨g0,hg0⟩:∃g,g=decide (s.cells.length=u.cells.length):=⟨_,rfl⟩
 rw [←hg1] at E1
 rw [←hg2] at H3
 rw [←hg3] at H4
 have FIN:=Lib.hid (show sA s u=(g0 && (g1 && (g2 && g3))) by unfold sA;rw [hg0,hg1,hg2,hg3])
 have D0:((n1:Int)==(m1:Int))=g0:=by rw [hg0,hl1,hk1];exact Bool.eq_iff_iff.2 (by simp [Int.ofNat_inj])
 have p0:W.cell? ⟨w.heap.size,0,none⟩=some (.slice A1 n1 c1):=aA R0.out 0 _ rfl
 have q0:W.cell? ⟨w.heap.size+1,0,none⟩=some (.slice B1 m1 d1):=aA R1.out 0 _ rfl
 have p1:W.cell? ⟨w.heap.size,1,none⟩=some (.slice A2 n2 c2):=aA R0.out 1 _ rfl
 have q1:W.cell? ⟨w.heap.size+1,1,none⟩=some (.slice B2 m2 d2):=aA R1.out 1 _ rfl
 clear hl1 hk1 hg0 hg1 hg2 hg3
 go_enter Tryz.func48,Tryz.ntmps48
 go_upto_region 1 with fail
 rw [←hW]
 clear hW
 cases g0 with
 |false=>
  go_wp2
  go_ret
  rw [FIN.out]
  exact ⟨rfl,hbW⟩
 |true=>
 go_wp2_with fail
 refine E1.out.mono ?_
 rintro e w1 ⟨rfl,b1⟩
 clear p0 q0 p1 q1
 cases g1 with
 |false=>
  go_wp2
  go_ret
  rw [FIN.out]
  exact ⟨rfl,Below.ext hbW b1⟩
 |true=>
 have p2:w1.cell? ⟨w.heap.size,2,none⟩=some (.slice A3 n3 c3):=aA ((b1.block w.heap.size (by omega)).trans R0.out) 2 _ rfl
 have q2:w1.cell? ⟨w.heap.size+1,2,none⟩=some (.slice B3 m3 d3):=aA ((b1.block (w.heap.size+1) hlt).trans R1.out) 2 _ rfl
 have E3:=Lib.hid (H3.out w1 b1)
 go_wp2_with fail
 refine E3.out.mono ?_
 rintro e w2 ⟨rfl,b2⟩
 have b12:=Below.ext b1 b2
 clear p2 q2
 cases g2 with
 |false=>
  go_wp2
  go_ret
  rw [FIN.out]
  exact ⟨rfl,Below.ext hbW b12⟩
 |true=>
 have p3:w2.cell? ⟨w.heap.size,3,none⟩=some (.slice A4 n4 c4):=aA ((b12.block w.heap.size (by omega)).trans R0.out) 3 _ rfl
 have q3:w2.cell? ⟨w.heap.size+1,3,none⟩=some (.slice B4 m4 d4):=aA ((b12.block (w.heap.size+1) hlt).trans R1.out) 3 _ rfl
 have E4:=Lib.hid (H4.out w2 b12)
 go_wp2_with fail
 refine E4.out.mono ?_
 rintro e w3 ⟨rfl,b3⟩
 go_wp2
 go_ret
 rw [FIN.out]
 exact ⟨rfl,Below.ext hbW (Below.ext b12 b3)⟩
theorem sU {S:Nat→Prop} {w:World} {g o n c k:Nat} {b:List Int} (h:Recs bJ S w (.slice (some ⟨g,o,none⟩) n c) b) (hk:k*4<n):Recs bJ S w (.slice (some ⟨g,o+k*4,none⟩) (dI n k) (dI n k)) (cA b k):=by
 have hl:=h.len
 obtain ⟨A,c',e,h1,h2,h3⟩:=h
 simp only [Value.slice.injEq] at e
 obtain ⟨g',o',e2,hS,h4⟩:=h3 (by rw [eU,List.length_map];omega)
 have e3:=e.1.trans e2
 simp only [Option.some.injEq,Addr.mk.injEq,and_true] at e3
 obtain ⟨rfl,rfl⟩:=e3
 have hpl:(cA b k).length=dI n k:=by rw [gM,hl.1]
 refine ⟨_,dI n k,by rw [hpl],by omega,by unfold dI;omega,fun _=>⟨g,o+k*4,rfl,hS,fun j u hu=> ?_⟩⟩
 rw [eU] at hu h4
 have h5:=h4 (k*4+j) u (by
  rw [List.getElem?_map] at hu ⊢
  unfold cA at hu
  rw [List.getElem?_take] at hu
  split at hu
  ·rw [List.getElem?_drop] at hu
   exact hu
  ·cases hu)
 rw [Nat.add_assoc]
 exact h5
def PgL (w:World) (xs:List PgV) (ps:List Pg):Prop:=xs.length=ps.length∧∀(i:Nat) (x:PgV) (p:Pg),xs[i]? =some x→ps[i]? =some p→x.num=p.num∧Recs bJ (·<w.heap.size) w (.slice x.A x.n x.c) p.cells
theorem PgL.push {w:World} {xs:List PgV} {ps:List Pg} (h:PgL w xs ps) (x:PgV) (p:Pg) (h1:x.num=p.num) (h2:Recs bJ (·<w.heap.size) w (.slice x.A x.n x.c) p.cells):PgL w (xs++ [x]) (ps++ [p]):=by
 refine ⟨by simp [h.1],fun i y q hy hq=> ?_⟩
 rcases Nat.lt_trichotomy i xs.length with hi|hi|hi
 ·rw [List.getElem?_append_left hi] at hy
  rw [List.getElem?_append_left (by rw [←h.1];exact hi)] at hq
  exact h.2 i y q hy hq
 ·subst hi
  rw [List.getElem?_append_right (Nat.le_refl _)] at hy
  rw [List.getElem?_append_right (by rw [h.1];exact Nat.le_refl _),h.1] at hq
  simp at hy hq
  subst hy hq
  exact ⟨h1,h2⟩
 ·rw [List.getElem?_eq_none (by simp;omega)] at hy
  cases hy
theorem PgL.pgs {w w' :World} {xs:List PgV} {ps:List Pg} {base:Nat} {e:TypeId} {v:Value} (h:PgL w xs ps) (hO:OwnR gZ 2 w' base e v xs) (hb:Below w.heap.size w w'):Pgs (fun _=>True) w' v ps:=⟨xs,hO.recs.mono (fun _ _ _=>trivial),h.1,fun i x p hx hp=>⟨(h.2 i x p hx hp).1,((h.2 i x p hx hp).2.ext hb).mono (fun _ _ _=>trivial)⟩⟩
def iU (a b:List Int) (k:Nat):List Pg:=(List.range k).filterMap fun k=>if a.length=b.length∧cA a k=cA b k then none else some ⟨(k:Int),cA b k⟩
theorem GE {a b:List Int} {k:Nat} (h:a.length=b.length) (hp:cA a k=cA b k):iU a b (k+1)=iU a b k:=by unfold iU;rw [List.range_succ,List.filterMap_append];simp [h,hp]
theorem tJ {a b:List Int} {k:Nat} (h:¬(a.length=b.length∧cA a k=cA b k)):iU a b (k+1)=iU a b k++ [⟨(k:Int),cA b k⟩]:=by unfold iU;rw [List.range_succ,List.filterMap_append];simp [h]
set_option maxHeartbeats 4000000 in
theorem GD (A:Option Addr) (na ca:Nat) (a:List Int) (B:Option Addr) (nb cb:Nat) (b:List Int) (w:World) (h1:Recs bJ (·<w.heap.size) w (.slice A na ca) a) (h2:Recs bJ (·<w.heap.size) w (.slice B nb cb) b) (hnb:nb≤1000000):
 Calls Tryz.prog 115 #[.slice A na ca,.slice B nb cb] w fun e w' =>∃P m pc,e= .returned (.slice P m pc)∧Pgs (fun _=>True) w' (.slice P m pc) (cN a b)∧Below w.heap.size w w' :=by
 have HA:=Lib.hid h1.len
 have HB:=Lib.hid h2.len
 have hb2:=h2.len.2
 have hpc:cM nb≤250001:=by unfold cM;omega
 go_enter Tryz.func115,Tryz.ntmps115
 go_wp2_with fail
 refine (tK B nb cb w (by omega)).mono ?_
 rintro e w0 ⟨rfl,rfl⟩
 go_wp2
 go_loopw [5,10] (fun l i wr=>∃(k:Nat) (xs:List PgV) (P:Option Addr) (m pc:Nat),l= .slice P m pc∧i= .int .i64 k∧k≤cM nb∧m≤k∧OwnR gZ 2 wr w0.heap.size 163 (.slice P m pc) xs∧RowKit.Hid (PgL w0 xs (iU a b k))∧Below w0.heap.size w0 wr) (fun _ i _=>cM nb-(intOf i).toNat)
 case atStart=>exact ⟨0,[],none,0,0,rfl,rfl,by omega,by omega,OwnR.nil_ _ _ _,Lib.hid ⟨rfl,fun i x p hx _=>by simp at hx⟩,Below.refl _ _⟩
 case round=>
  obtain ⟨k,xs,P,m,pc,rfl,rfl,hk,hmk,hO,HPL,hbr⟩:=hrel
  have HXM:=Lib.hid hO.len.1
  by_cases hlt:k<cM nb
  ·have hk4:k*4<nb:=by unfold cM at hlt;omega
   obtain ⟨g,o,rfl⟩:∃g o,B=some ⟨g,o,none⟩:=by
    obtain ⟨_,_,e,_,_,h3⟩:=h2
    simp only [Value.slice.injEq] at e
    obtain ⟨g,o,e2,_⟩:=h3 (by rw [eU,List.length_map];have:=HB.out.1;omega)
    exact ⟨g,o,e.1.trans e2⟩
   have hpr:=sU h2 hk4
   obtain ⟨L,hL⟩:∃L,L=dI nb k:=⟨_,rfl⟩
   have HPG:=Lib.hid (qB g o nb cb k wr (by omega) (by omega) hk4)
   rw [←hL] at HPG hpr
   have hpl:=hpr.len
   have HPR:=Lib.hid hpr
   have hL4:L≤4:=by rw [hL];unfold dI;omega
   have hpm:pc≤9223372036854775807:=hO.len.2.2
   clear hL hpl hpr
   go_wp2_with fail
   refine HPG.out.mono ?_
   rintro e w2 ⟨rfl,rfl⟩
   by_cases hab:na=nb
   ·subst hab
    obtain ⟨ga,oa,rfl⟩:∃g o,A=some ⟨g,o,none⟩:=by
     obtain ⟨_,_,e,_,_,h3⟩:=h1
     simp only [Value.slice.injEq] at e
     obtain ⟨g,o,e2,_⟩:=h3 (by rw [eU,List.length_map];have:=HA.out.1;omega)
     exact ⟨g,o,e.1.trans e2⟩
    have hpa:=sU h1 hk4
    have HPA:=Lib.hid (qB ga oa na ca k w2 (by omega) (by have:=HA.out;omega) hk4)
    have HEQ:=Lib.hid (xV _ _ _ _ _ _ _ _ _ _ w2 (hpa.ext hbr) (HPR.out.ext hbr))
    obtain ⟨L2,hL2⟩:∃L2,L2=dI na k:=⟨_,rfl⟩
    rw [←hL2] at HPA HEQ
    have hab2:a.length=b.length:=by rw [HA.out.1,HB.out.1]
    have HAB:=Lib.hid hab2
    obtain ⟨ge,hge⟩:∃ge,ge=decide (cA a k=cA b k):=⟨_,rfl⟩
    rw [←hge] at HEQ
    have HGE:=Lib.hid hge
    clear hL2 hpa hab2 hge
    go_wp2_with fail
    refine HPA.out.mono ?_
    rintro e w3 ⟨rfl,rfl⟩
    go_wp2_with fail
    refine HEQ.out.mono ?_
    rintro e w4 ⟨rfl,b4⟩
    cases ge with
    |true=>
     have hd:=Lib.hid (GE HAB.out (by have:=HGE.out;simpa using this.symm))
     go_wp2
     go_roundw
     case rel=>exact ⟨k+1,xs,P,m,pc,rfl,rfl,by omega,by omega,hO.ext b4,Lib.hid (by rw [hd.out];exact HPL.out),Below.ext hbr b4⟩
     case measure=>simp [intOf];omega
    |false=>
     have HPUSH:=Lib.hid (show PgL w0 (xs++ [⟨(k:Int),some ⟨g,o+k*4,none⟩,L,L⟩]) (iU a b (k+1)) by rw [tJ (fun h=>by have:=HGE.out;simp at this;exact this h.2)];exact PgL.push HPL.out _ ⟨(k:Int),cA b k⟩ rfl HPR.out)
     have ha:Below w4.heap.size w4 (w4.alloc (.cells #[.int .i64 (k:Int),.slice (some ⟨g,o+k*4,none⟩) L L] 163)):=(Below.refl _ _).alloc (Nat.le_refl _) _
     have hone:Recs gZ (fun _=>True) (w4.alloc (.cells #[.int .i64 (k:Int),.slice (some ⟨g,o+k*4,none⟩) L L] 163)) (.slice (some ⟨w4.heap.size,0,none⟩) 1 1) [⟨(k:Int),some ⟨g,o+k*4,none⟩,L,L⟩]:=⟨_,1,rfl,by simp,by simp [maxLen],Cs.lit _ _ _ _ _ trivial rfl⟩
     have hO2:=hO.ext b4
     have hb2:=Below.ext hbr b4
     have hsz2:=hb2.size
     clear hO
     go_wp2_with (refine aV (o:=⟨some 34,_,_,_,_,_⟩) lU oK (.agg #[.int .i64 0,.slice none 0 0]) 32 _ _ 101 163 w0.heap.size xs [⟨(k:Int),some ⟨g,o+k*4,none⟩,L,L⟩] (some ⟨w4.heap.size,0,none⟩) 1 1 (.slice P m pc) (m+1) rfl rfl Tryz.underlying101 vC rfl (by omega) rfl rfl (hO2.ext ha) hone (by rw [HXM.out]) (by have:=HXM.out;omega) (by have:=HXM.out;omega) (by simp;omega) ?_;intro A9 c9 w9 hown9 hgr9 hat9 hc91 hc92)
     exact Tzcn
   ·have dn:((na:Int) != (nb:Int))=true:=by simp;omega
    have HPUSH:=Lib.hid (show PgL w0 (xs++ [⟨(k:Int),some ⟨g,o+k*4,none⟩,L,L⟩]) (iU a b (k+1)) by rw [tJ (fun h=>hab (by rw [←HA.out.1,←HB.out.1];exact h.1))];exact PgL.push HPL.out _ ⟨(k:Int),cA b k⟩ rfl HPR.out)
    clear hab
    have ha:Below w2.heap.size w2 (w2.alloc (.cells #[.int .i64 (k:Int),.slice (some ⟨g,o+k*4,none⟩) L L] 163)):=(Below.refl _ _).alloc (Nat.le_refl _) _
    have hone:Recs gZ (fun _=>True) (w2.alloc (.cells #[.int .i64 (k:Int),.slice (some ⟨g,o+k*4,none⟩) L L] 163)) (.slice (some ⟨w2.heap.size,0,none⟩) 1 1) [⟨(k:Int),some ⟨g,o+k*4,none⟩,L,L⟩]:=⟨_,1,rfl,by simp,by simp [maxLen],Cs.lit _ _ _ _ _ trivial rfl⟩
    have hO2:=hO.ext (Below.refl _ w2)
    have hb2:=Below.ext hbr (Below.refl _ w2)
    have hsz2:=hb2.size
    clear hO
    go_wp2_with (refine aV (o:=⟨some 34,_,_,_,_,_⟩) lU oK (.agg #[.int .i64 0,.slice none 0 0]) 32 _ _ 101 163 w0.heap.size xs [⟨(k:Int),some ⟨g,o+k*4,none⟩,L,L⟩] (some ⟨w2.heap.size,0,none⟩) 1 1 (.slice P m pc) (m+1) rfl rfl Tryz.underlying101 vC rfl (by omega) rfl rfl (hO2.ext ha) hone (by rw [HXM.out]) (by have:=HXM.out;omega) (by have:=HXM.out;omega) (by simp;omega) ?_;intro A9 c9 w9 hown9 hgr9 hat9 hc91 hc92)
    exact Tzcn
  ·obtain rfl:k=cM nb:=by omega
   have FIN:=Lib.hid (show Pgs (fun _=>True) wr (.slice P m pc) (cN a b) by have:=PgL.pgs HPL.out hO hbr;rw [show cN a b=iU a b (cM nb) by unfold cN iU;rw [HB.out.1]];exact this)
   go_wp2
   go_ret
   exact ⟨P,m,pc,rfl,FIN.out,hbr⟩
end Go.Proofs.YtiblijmngokcgaaGreatDoor
