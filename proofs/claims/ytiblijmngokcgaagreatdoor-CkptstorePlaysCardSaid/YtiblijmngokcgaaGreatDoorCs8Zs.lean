import Derived.Test.YtiblijmngokcgaaGreatDoorG34Zs
set_option linter.unusedVariables false
set_option linter.unusedSimpArgs false
set_option maxHeartbeats 4000000
set_option maxRecDepth 100000
namespace Go.Proofs.YtiblijmngokcgaaGreatDoor
open Go.Proofs.Tryz
open Go.RowKit
theorem NA (A1 A2:Option Addr) (n1 c1 n2 c2:Nat) (l m:List Ev) (S1 S2:Nat->Prop) (w:World) (h1:a7 cH S1 w (.slice A1 n1 c1) l) (h2:a7 cH S2 w (.slice A2 n2 c2) m):
 Calls Tryz.prog 110 #[.slice A1 n1 c1,.slice A2 n2 c2] w λe w' =>e= .returned (.bool (decide (l.take m.length=m)))/\Below w.heap.size w w' :=by
 have dv:=h1.len;have dd:=h2.len;by_cases hn:n2<=n1;case neg=>
  have dn:decide (n2<=n1)=false:=by simpa using hn
  have an:=aA (show decide (l.take m.length=m)=false by
   simp only [decide_eq_false_iff_not];intro e;have:=congrArg List.length e;rw [List.length_take] at this;omega)
  clear dv dd hn;go_enter func110,ntmps110;go_wp2;go_ret;rw [an.out];exact ⟨rfl,Below.refl _ _⟩
 have dn:decide (n2<=n1)=true:=by simpa using hn
 have Ct:n2<=c1:=by omega
 have HE:=PO A1 A2 n2 c1 n2 c2 (l.take n2) m S1 S2 w (h1.take_ cN hn) h2;have HEE:=aA HE;have oc:=aA dd.1;clear dv dd hn HE;go_enter func110,ntmps110;exact Tzcp
theorem MY (A1 A2:Option Addr) (n1 c1 n2 c2:Nat) (l m:List n7) (S1 S2:Nat->Prop) (w:World) (h1:a7 cW S1 w (.slice A1 n1 c1) l) (h2:a7 cW S2 w (.slice A2 n2 c2) m):
 Calls Tryz.prog 111 #[.slice A1 n1 c1,.slice A2 n2 c2] w λe w' =>e= .returned (.bool (decide (l.take m.length=m)))/\Below w.heap.size w w' :=by
 have dv:=h1.len;have dd:=h2.len;by_cases hn:n2<=n1;case neg=>
  have dn:decide (n2<=n1)=false:=by simpa using hn
  have an:=aA (show decide (l.take m.length=m)=false by
   simp only [decide_eq_false_iff_not];intro e;have:=congrArg List.length e;rw [List.length_take] at this;omega)
  clear dv dd hn;go_enter func111,ntmps111;go_wp2;go_ret;rw [an.out];exact ⟨rfl,Below.refl _ _⟩
 have dn:decide (n2<=n1)=true:=by simpa using hn
 have Ct:n2<=c1:=by omega
 have HE:=PL A1 A2 n2 c1 n2 c2 (l.take n2) m S1 S2 w (h1.take_ cZ hn) h2;have HEE:=aA HE;have oc:=aA dd.1;clear dv dd hn HE;go_enter func111,ntmps111;exact Tzcp
theorem MZ (A1 A2:Option Addr) (n1 c1 n2 c2:Nat) (l m:List Ou) (S1 S2:Nat->Prop) (w:World) (h1:a7 cX S1 w (.slice A1 n1 c1) l) (h2:a7 cX S2 w (.slice A2 n2 c2) m):
 Calls Tryz.prog 112 #[.slice A1 n1 c1,.slice A2 n2 c2] w λe w' =>e= .returned (.bool (decide (l.take m.length=m)))/\Below w.heap.size w w' :=by
 have dv:=h1.len;have dd:=h2.len;by_cases hn:n2<=n1;case neg=>
  have dn:decide (n2<=n1)=false:=by simpa using hn
  have an:=aA (show decide (l.take m.length=m)=false by
   simp only [decide_eq_false_iff_not];intro e;have:=congrArg List.length e;rw [List.length_take] at this;omega)
  clear dv dd hn;go_enter func112,ntmps112;go_wp2;go_ret;rw [an.out];exact ⟨rfl,Below.refl _ _⟩
 have dn:decide (n2<=n1)=true:=by simpa using hn
 have Ct:n2<=c1:=by omega
 have HE:=PM A1 A2 n2 c1 n2 c2 (l.take n2) m S1 S2 w (h1.take_ dA hn) h2;have HEE:=aA HE;have oc:=aA dd.1;clear dv dd hn HE;go_enter func112,ntmps112;exact Tzcp
def nE (s u:bj):Bool:=decide (s.cells.length=u.cells.length) && (decide (s.evs.take u.evs.length=u.evs) && (decide (s.sent.take u.sent.length=u.sent) && decide (s.outs.take u.outs.length=u.outs)))
theorem oM (s u:bj):nE s u=true↔tn s u:=by
 have key:∀{α:Type} (a b:List α),a.take b.length=b↔b<+:a:=λa b=>by rw [List.prefix_iff_eq_take];exact eq_comm
 unfold nE;simp only [Bool.and_eq_true,decide_eq_true_eq,key];exact ⟨λh=>⟨h.1,h.2.1,h.2.2.1,h.2.2.2⟩,λh=>⟨h.c,h.e,h.sn,h.o⟩⟩
theorem tN (s u:bj) (A1:Option Addr) (n1 c1:Nat) (A2:Option Addr) (n2 c2:Nat) (A3:Option Addr) (n3 c3:Nat) (A4:Option Addr) (n4 c4:Nat) (B1:Option Addr) (m1 d1:Nat) (B2:Option Addr) (m2 d2:Nat) (B3:Option Addr) (m3 d3:Nat) (B4:Option Addr) (m4 d4:Nat) (S1 S2:Nat->Prop) (w:World) (hM:j7 S1 w s A1 n1 c1 A2 n2 c2 A3 n3 c3 A4 n4 c4) (hU:j7 S2 w u B1 m1 d1 B2 m2 d2 B3 m3 d3 B4 m4 d4):
 Calls Tryz.prog 48 #[.agg #[.slice A1 n1 c1,.slice A2 n2 c2,.slice A3 n3 c3,.slice A4 n4 c4],.agg #[.slice B1 m1 d1,.slice B2 m2 d2,.slice B3 m3 d3,.slice B4 m4 d4]] w λe w' =>e= .returned (.bool (nE s u))/\Below w.heap.size w w' :=by
 obtain ⟨W,hW,aw,SW,R0,R1⟩:∃W,W=(w.alloc (.cells #[.slice A1 n1 c1,.slice A2 n2 c2,.slice A3 n3 c3,.slice A4 n4 c4] 51)).alloc (.cells #[.slice B1 m1 d1,.slice B2 m2 d2,.slice B3 m3 d3,.slice B4 m4 d4] 51)/\Below w.heap.size w W/\RowKit.Hid (W.heap.size=w.heap.size+2)/\
  RowKit.Hid (W.heap[w.heap.size]? =some (.cells #[.slice A1 n1 c1,.slice A2 n2 c2,.slice A3 n3 c3,.slice A4 n4 c4] 51 (0,0)))/\RowKit.Hid (W.heap[w.heap.size+1]? =some (.cells #[.slice B1 m1 d1,.slice B2 m2 d2,.slice B3 m3 d3,.slice B4 m4 d4] 51 (0,0))):=by
  refine ⟨_,rfl,((Below.refl _ w).alloc (Nat.le_refl _) _).alloc (by simp) _,aA (by simp),aA ?_,aA ?_⟩
  ·exact Tzap
  ·exact Tzch
 have af:w.heap.size+1<W.heap.size:=by have:=SW.out;omega
 have dv:=hM.1.len.1;have iq:=hU.1.len.1;have E1:=aA (NA A2 B2 n2 c2 m2 d2 s.evs u.evs S1 S2 W (hM.2.ext aw) (hU.2.ext aw));have H3:=aA (λ(w' :World) (b:Below W.heap.size W w')=>MY A3 B3 n3 c3 m3 d3 s.sent u.sent S1 S2 w' (hM.3.ext (Below.ext aw b)) (hU.3.ext (Below.ext aw b)));have H4:=aA (λ(w' :World) (b:Below W.heap.size W w')=>MZ A4 B4 n4 c4 m4 d4 s.outs u.outs S1 S2 w' (hM.4.ext (Below.ext aw b)) (hU.4.ext (Below.ext aw b)));obtain ⟨g1,fj⟩:=eX (decide (s.evs.take u.evs.length=u.evs));obtain ⟨g2,da⟩:=eX (decide (s.sent.take u.sent.length=u.sent));obtain ⟨g3,ee⟩:=eX (decide (s.outs.take u.outs.length=u.outs));obtain ⟨g0,El⟩:=eX (decide (s.cells.length=u.cells.length));rw [<-fj] at E1;rw [<-da] at H3;rw [<-ee] at H4;have an:=aA (show nE s u=(g0 && (g1 && (g2 && g3))) by unfold nE;rw [El,fj,da,ee]);have D0:((n1:Int)==(m1:Int))=g0:=by rw [El,dv,iq];exact Bool.eq_iff_iff.2 (by simp [Int.ofNat_inj])
 have p0:=bn R0.out;have q0:=bn R1.out;have p1:=fi R0.out;have q1:=fi R1.out;clear dv iq El fj da ee;go_enter func48,ntmps48;go_upto_region 1 with fail;rw [<-hW];clear hW;cases g0 with
 |false=>
  go_wp2;go_ret;rw [an.out];exact ⟨rfl,aw⟩
 |true=>
 go_wp2_with fail;refine E1.out.mono ?_;rintro e w1 ⟨rfl,b1⟩;clear p0 q0 p1 q1;cases g1 with
 |false=>
  go_wp2;go_ret;rw [an.out];exact ⟨rfl,Below.ext aw b1⟩
 |true=>
 have p2:=gn ((b1.block w.heap.size (by omega)).trans R0.out);have q2:=gn ((b1.block (w.heap.size+1) af).trans R1.out);have E3:=aA (H3.out w1 b1);go_wp2_with fail;refine E3.out.mono ?_;rintro e w2 ⟨rfl,b2⟩;have tj:=Below.ext b1 b2;clear p2 q2;cases g2 with
 |false=>
  go_wp2;go_ret;rw [an.out];exact ⟨rfl,Below.ext aw tj⟩
 |true=>
 have p3:=lj ((tj.block w.heap.size (by omega)).trans R0.out);have q3:=lj ((tj.block (w.heap.size+1) af).trans R1.out);have E4:=aA (H4.out w2 tj);go_wp2_with fail;refine E4.out.mono ?_;rintro e w3 ⟨rfl,b3⟩;go_wp2;go_ret;rw [an.out];exact ⟨rfl,Below.ext aw (Below.ext tj b3)⟩
theorem rM {S:Nat->Prop} {w:World} {g o n c k:Nat} {b:List Int} (h:a7 bB S w (.slice (some ⟨g,o,none⟩) n c) b) (hk:k*4<n):a7 bB S w (.slice (some ⟨g,o+k*4,none⟩) (dD n k) (dD n k)) (cR b k):=by
 have hl:=h.len;obtain ⟨A,c',e,h1,h2,h3⟩:=h;simp only [Value.slice.injEq] at e;obtain ⟨g',o',e2,hS,h4⟩:=h3 (by rw [eT,List.length_map];omega);have e3:=e.1.trans e2;simp only [Option.some.injEq,Addr.mk.injEq,and_true] at e3;obtain ⟨rfl,rfl⟩:=e3;have jd:(cR b k).length=dD n k:=by rw [oB,hl.1]
 refine ⟨_,dD n k,by rw [jd],by omega,by unfold dD;omega,λ_=>⟨g,o+k*4,rfl,hS,λj u hu=> ?_⟩⟩;rw [eT] at hu h4
 have h5:=h4 (k*4+j) u (by
  rw [List.getElem?_map] at hu ⊢;unfold cR at hu;rw [List.getElem?_take] at hu;split at hu
  ·rw [List.getElem?_drop] at hu;exact hu
  ·cases hu)
 rw [Nat.add_assoc];exact h5
def Qk (w:World) (xs:List Ix) (ps:List Pg):Prop:=xs.length=ps.length/\∀(i:Nat) (x:Ix) (p:Pg),xs[i]? =some x->ps[i]? =some p->x.num=p.num/\a7 bB (·<w.heap.size) w (.slice x.A x.n x.c) p.cells
theorem Qk.push {w:World} {xs:List Ix} {ps:List Pg} (h:Qk w xs ps) (x:Ix) (p:Pg) (h1:x.num=p.num) (h2:a7 bB (·<w.heap.size) w (.slice x.A x.n x.c) p.cells):Qk w (xs++ [x]) (ps++ [p]):=by
 refine ⟨by simp [h.1],λi y q hy hq=> ?_⟩;rcases Nat.lt_trichotomy i xs.length with hi|hi|hi
 ·rw [List.getElem?_append_left hi] at hy;rw [List.getElem?_append_left (by rw [<-h.1];exact hi)] at hq;exact h.2 i y q hy hq
 ·subst hi;rw [List.getElem?_append_right (Nat.le_refl _)] at hy;rw [List.getElem?_append_right (by rw [h.1];exact Nat.le_refl _),h.1] at hq;simp at hy hq;subst hy hq;exact ⟨h1,h2⟩
 ·rw [List.getElem?_eq_none (by simp;omega)] at hy;cases hy
theorem Qk.pgs {w w' :World} {xs:List Ix} {ps:List Pg} {base:Nat} {e:TypeId} {v:Value} (h:Qk w xs ps) (hO:a8 iJ 2 w' base e v xs) (hb:Below w.heap.size w w'):Dg (λ_=>True) w' v ps:=⟨xs,hO.recs.mono (λ_ _ _=>trivial),h.1,λi x p hx hp=>⟨(h.2 i x p hx hp).1,((h.2 i x p hx hp).2.ext hb).mono (λ_ _ _=>trivial)⟩⟩
def iB (a b:List Int) (k:Nat):List Pg:=(List.range k).filterMap λk=>if a.length=b.length/\cR a k=cR b k then none else some ⟨(k:Int),cR b k⟩
theorem AZ {a b:List Int} {k:Nat} (h:a.length=b.length) (hp:cR a k=cR b k):iB a b (k+1)=iB a b k:=by unfold iB;rw [List.range_succ,List.filterMap_append];simp [h,hp]
theorem pE {a b:List Int} {k:Nat} (h:¬(a.length=b.length/\cR a k=cR b k)):iB a b (k+1)=iB a b k++ [⟨(k:Int),cR b k⟩]:=by unfold iB;rw [List.range_succ,List.filterMap_append];simp [h]
theorem MQ (A:Option Addr) (na ca:Nat) (a:List Int) (B:Option Addr) (nb cb:Nat) (b:List Int) (w:World) (h1:a7 bB (·<w.heap.size) w (.slice A na ca) a) (h2:a7 bB (·<w.heap.size) w (.slice B nb cb) b) (hnb:nb<=1000000):
 Calls Tryz.prog 115 #[.slice A na ca,.slice B nb cb] w λe w' =>∃P m pc,e= .returned (.slice P m pc)/\Dg (λ_=>True) w' (.slice P m pc) (dJ a b)/\Below w.heap.size w w' :=by
 have HA:=aA h1.len;have HB:=aA h2.len;have ar:=h2.len.2;have hpc:bN nb<=250001:=by unfold bN;omega
 go_enter func115,ntmps115;go_wp2_with fail;refine (xZ B nb cb w (by omega)).mono ?_;rintro e w0 ⟨rfl,rfl⟩;go_wp2;go_loopw [5,10] (λl i wr=>∃(k:Nat) (xs:List Ix) (P:Option Addr) (m pc:Nat),l= .slice P m pc/\i= .int .i64 k/\k<=bN nb/\m<=k/\a8 iJ 2 wr w0.heap.size 163 (.slice P m pc) xs/\RowKit.Hid (Qk w0 xs (iB a b k))/\Below w0.heap.size w0 wr) (λ_ i _=>bN nb-(intOf i).toNat);case atStart=>exact ⟨0,[],none,0,0,rfl,rfl,by omega,by omega,a8.nil_ _ _ _,aA ⟨rfl,λi x p hx _=>by simp at hx⟩,Below.refl _ _⟩
 case round=>
  obtain ⟨k,xs,P,m,pc,rfl,rfl,hk,Kl,hO,Dl,ag⟩:=hrel;have HXM:=aA hO.len.1;by_cases af:k<bN nb
  ·have Gu:k*4<nb:=by unfold bN at af;omega
   obtain ⟨g,o,rfl⟩:∃g o,B=some ⟨g,o,none⟩:=by
    obtain ⟨_,_,e,_,_,h3⟩:=h2;simp only [Value.slice.injEq] at e;obtain ⟨g,o,e2,_⟩:=h3 (by rw [eT,List.length_map];have:=HB.out.1;omega);exact ⟨g,o,e.1.trans e2⟩
   have zh:=rM h2 Gu;obtain ⟨L,hL⟩:=eX (dD nb k);have Ia:=aA (tT g o nb cb k wr (by omega) (by omega) Gu);rw [<-hL] at Ia zh;have jd:=zh.len;have HPR:=aA zh;have Mb:L<=4:=by rw [hL];unfold dD;omega
   have U3:pc<=9223372036854775807:=hO.len.2.2;clear hL jd zh;go_wp2_with fail;refine Ia.out.mono ?_;rintro e w2 ⟨rfl,rfl⟩;by_cases Pd:na=nb
   ·subst Pd;obtain ⟨ga,oa,rfl⟩:∃g o,A=some ⟨g,o,none⟩:=by
     obtain ⟨_,_,e,_,_,h3⟩:=h1;simp only [Value.slice.injEq] at e;obtain ⟨g,o,e2,_⟩:=h3 (by rw [eT,List.length_map];have:=HA.out.1;omega);exact ⟨g,o,e.1.trans e2⟩
    have Gn:=rM h1 Gu;have HPA:=aA (tT ga oa na ca k w2 (by omega) (by have:=HA.out;omega) Gu);have yy:=aA (PN _ _ _ _ _ _ _ _ _ _ w2 (Gn.ext ag) (HPR.out.ext ag));obtain ⟨L2,hL2⟩:=eX (dD na k);rw [<-hL2] at HPA yy;have hab2:a.length=b.length:=by rw [HA.out.1,HB.out.1]
    have HAB:=aA hab2;obtain ⟨ge,Ci⟩:=eX (decide (cR a k=cR b k));rw [<-Ci] at yy;have HGE:=aA Ci;clear hL2 Gn hab2 Ci;go_wp2_with fail;refine HPA.out.mono ?_;rintro e w3 ⟨rfl,rfl⟩;go_wp2_with fail;refine yy.out.mono ?_;rintro e w4 ⟨rfl,b4⟩;cases ge with
    |true=>
     have hd:=aA (AZ HAB.out (by have:=HGE.out;simpa using this.symm));go_wp2;go_roundw;case rel=>exact ⟨k+1,xs,P,m,pc,rfl,rfl,by omega,by omega,hO.ext b4,aA (by rw [hd.out];exact Dl.out),Below.ext ag b4⟩
     case measure=>simp [intOf];omega
    |false=>
     have WA:=aA (show Qk w0 (xs++ [⟨(k:Int),some ⟨g,o+k*4,none⟩,L,L⟩]) (iB a b (k+1)) by rw [pE (λh=>by have:=HGE.out;simp at this;exact this h.2)];exact Qk.push Dl.out _ ⟨(k:Int),cR b k⟩ rfl HPR.out);have ha:Below w4.heap.size w4 (w4.alloc (.cells #[.int .i64 (k:Int),.slice (some ⟨g,o+k*4,none⟩) L L] 163)):=(Below.refl _ _).alloc (Nat.le_refl _) _;have ax:a7 iJ (λ_=>True) (w4.alloc (.cells #[.int .i64 (k:Int),.slice (some ⟨g,o+k*4,none⟩) L L] 163)) (.slice (some ⟨w4.heap.size,0,none⟩) 1 1) [⟨(k:Int),some ⟨g,o+k*4,none⟩,L,L⟩]:=⟨_,1,rfl,by simp,by simp [maxLen],Cs.lit _ _ _ _ _ trivial rfl⟩
     have dw:=hO.ext b4;have ar:=Below.ext ag b4;have hsz2:=ar.size;clear hO;go_wp2_with (refine aJ (o:=⟨some 34,_,_,_,_,_⟩) jT lE (.agg #[.int .i64 0,.slice none 0 0]) 32 _ _ 101 163 w0.heap.size xs [⟨(k:Int),some ⟨g,o+k*4,none⟩,L,L⟩] (some ⟨w4.heap.size,0,none⟩) 1 1 (.slice P m pc) (m+1) rfl rfl underlying101 pQ rfl (by omega) rfl rfl (dw.ext ha) ax (by rw [HXM.out]) (by have:=HXM.out;omega) (by have:=HXM.out;omega) (by simp;omega) ?_;intro A9 c9 w9 ao ai ck gq gp)
     exact Tzdl
   ·have dn:((na:Int) != (nb:Int))=true:=by simp;omega
    have WA:=aA (show Qk w0 (xs++ [⟨(k:Int),some ⟨g,o+k*4,none⟩,L,L⟩]) (iB a b (k+1)) by rw [pE (λh=>Pd (by rw [<-HA.out.1,<-HB.out.1];exact h.1))];exact Qk.push Dl.out _ ⟨(k:Int),cR b k⟩ rfl HPR.out);clear Pd;have ha:Below w2.heap.size w2 (w2.alloc (.cells #[.int .i64 (k:Int),.slice (some ⟨g,o+k*4,none⟩) L L] 163)):=(Below.refl _ _).alloc (Nat.le_refl _) _;have ax:a7 iJ (λ_=>True) (w2.alloc (.cells #[.int .i64 (k:Int),.slice (some ⟨g,o+k*4,none⟩) L L] 163)) (.slice (some ⟨w2.heap.size,0,none⟩) 1 1) [⟨(k:Int),some ⟨g,o+k*4,none⟩,L,L⟩]:=⟨_,1,rfl,by simp,by simp [maxLen],Cs.lit _ _ _ _ _ trivial rfl⟩
    have dw:=hO.ext (Below.refl _ w2);have ar:=Below.ext ag (Below.refl _ w2);have hsz2:=ar.size;clear hO;go_wp2_with (refine aJ (o:=⟨some 34,_,_,_,_,_⟩) jT lE (.agg #[.int .i64 0,.slice none 0 0]) 32 _ _ 101 163 w0.heap.size xs [⟨(k:Int),some ⟨g,o+k*4,none⟩,L,L⟩] (some ⟨w2.heap.size,0,none⟩) 1 1 (.slice P m pc) (m+1) rfl rfl underlying101 pQ rfl (by omega) rfl rfl (dw.ext ha) ax (by rw [HXM.out]) (by have:=HXM.out;omega) (by have:=HXM.out;omega) (by simp;omega) ?_;intro A9 c9 w9 ao ai ck gq gp)
    exact Tzdl
  ·obtain rfl:k=bN nb:=by omega
   have an:=aA (show Dg (λ_=>True) wr (.slice P m pc) (dJ a b) by have:=Qk.pgs Dl.out hO ag;rw [show dJ a b=iB a b (bN nb) by unfold dJ iB;rw [HB.out.1]];exact this);go_wp2;go_ret;exact ⟨P,m,pc,rfl,an.out,ag⟩
end Go.Proofs.YtiblijmngokcgaaGreatDoor
