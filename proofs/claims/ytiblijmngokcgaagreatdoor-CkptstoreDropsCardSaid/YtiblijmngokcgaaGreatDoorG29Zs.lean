import Derived.Test.YtiblijmngokcgaaGreatDoorMacZs
import Derived.Test.YtiblijmngokcgaaGreatDoorCodecCZs
import Derived.Lib.AppendZeros
import Derived.Test.YtiblijmngokcgaaGreatDoorG28Zs
import Derived.Test.YtiblijmngokcgaaGreatDoorG19Zs
import Derived.Test.YtiblijmngokcgaaGreatDoorRepZs
namespace Go.Proofs.YtiblijmngokcgaaGreatDoor
open Go.RowKit
set_option maxRecDepth 100000
set_option linter.unusedVariables false
theorem KC (n:Nat) (h0:0<n) (hb:n*16≤140737488355328) (w:World):∃cap W,(Builtin.append_ #[49,3] 49 #[.slice none 0 0,.int .i64 (n:Int)]).run Tryz.prog w= .ok (.slice (some ⟨w.heap.size,0,none⟩) n cap) W∧
 OwnR dM 2 W w.heap.size 129 (.slice (some ⟨w.heap.size,0,none⟩) 0 cap) []∧n≤cap∧cap≤9223372036854775807∧Below w.heap.size w W:=by
 obtain ⟨i,hi,hz,hs,hby⟩:=info_parts rF
 have hn:n≤140737488355328:=by omega
 have h:=Lib.run_append_nil_zeros (P:=Tryz.prog) w 49 3 49 129 i (.agg #[.int .i64 0,.int .i64 0]) .i64 .i64 Tryz.underlying49 Tryz.underlying3 hi hz n h0 (by rw [hs];omega) (by omega) (by rw [hby];omega)
 have hg:=grownCap_ge w n 0 129
 have hm:=grownCap_le_maxLen w n 0 129 (by unfold maxLen;omega)
 refine ⟨_,_,h,?_,hg,by unfold maxLen at hm;exact hm,((Below.refl _ w).drew).alloc (Nat.le_refl _) _⟩
 refine ⟨rfl,.inr ⟨w.heap.size,_,_,rfl,Nat.le_refl _,heap_alloc_new w.drew _,by simp,hm,?_,by simp⟩⟩
 rw [Array.size_append,size_zeroCells,size_zeroCells,show (Value.cells (.agg #[.int .i64 0,.int .i64 0])).size=2 from rfl,←Nat.add_mul]
 congr 1
 omega
set_option maxHeartbeats 1000000 in
theorem MM (n:Nat) (hb:n*16≤140737488355328) (w:World):
 Calls Tryz.prog 169 #[.slice none 0 0,.int .i64 (n:Int)] w fun e w' =>∃A c,e= .returned (.slice A 0 c)∧OwnR dM 2 w' w.heap.size 129 (.slice A 0 c) []∧Below w.heap.size w w' :=by
 have hn:n≤140737488355328:=by omega
 by_cases h0:0<n
 ·obtain ⟨cap,W,hrun,hown,h1,h2,hbw⟩:=KC n h0 hb w
  have Hrun:=Lib.hid hrun
  clear hrun
  have d1:decide (0<n)=true:=by simpa using h0
  go_enter Tryz.func169,Tryz.ntmps169
  exact Tzby
 ·obtain rfl:n=0:=by omega
  go_enter Tryz.func169,Tryz.ntmps169
  go_wp2
  go_ret
  exact ⟨none,0,rfl,OwnR.nil_ _ _ _,Below.refl _ _⟩
set_option maxHeartbeats 2000000 in
theorem JR (g:Nat) (A1 A2:Option Addr) (n1 c1 n2 c2:Nat) (l1 l2:List Ou) (S1 S2:Nat→Prop) (w:World) (h0:w.cell? ⟨g,0,none⟩=some (.slice A1 n1 c1)) (h1:w.cell? ⟨g,1,none⟩=some (.slice A2 n2 c2))
 (r1:Recs dM S1 w (.slice A1 n1 c1) l1) (r2:Recs dM S2 w (.slice A2 n2 c2) l2) (hb:(n1+n2)*16≤140737488355328):
 Calls Tryz.prog 136 #[.slice (some ⟨g,0,none⟩) 2 2] w fun e w' =>∃A c,e= .returned (.slice A (n1+n2) c)∧OwnR dM 2 w' w.heap.size 129 (.slice A (n1+n2) c) (l1++l2)∧Below w.heap.size w w' :=by
 have hn:n1+n2≤140737488355328:=by omega
 have hgl:g<w.heap.size:=block_lt_of_cell h0
 obtain ⟨hl1,hl2,hl3⟩:=r1.len
 obtain ⟨hm1,hm2,hm3⟩:=r2.len
 have Hl1:=Lib.hid hl1
 have Hm1:=Lib.hid hm1
 clear hl1 hm1
 go_enter Tryz.func136,Tryz.ntmps136
 go_wp2
 go_loop [3,11] (fun s i=>∃j:Nat,j≤2∧i= .int .i64 j∧s= .int .i64 ((if j=0 then 0 else if j=1 then n1 else n1+n2:Nat):Int)) (fun _ i=>2-(intOf i).toNat)
 case atStart=>exact ⟨0,by omega,rfl,rfl⟩
 case round=>
  obtain ⟨j,hj,rfl,rfl⟩:=hrel
  obtain rfl|rfl|rfl:j=0∨j=1∨j=2:=by omega
  ·exact Tzcf
  ·exact Tzb8
  ·simp only [show (2:Nat)=0↔False by decide,show (2:Nat)=1↔False by decide,if_false]
   go_wp2_with fail
   rw [←Int.natCast_add]
   refine (MM (n1+n2) hb w).mono ?_
   rintro e w1 ⟨A,c,rfl,hown,hb1⟩
   have h0' :=(hb1.cell (p:=⟨g,0,none⟩) hgl).trans h0
   have h1' :=(hb1.cell (p:=⟨g,1,none⟩) hgl).trans h1
   clear h0 h1
   have hsz1:=hb1.size
   go_wp2
   go_loopw [6,27] (fun v i wr=>∃(j n' :Nat) (A' :Option Addr) (c' :Nat),j≤2∧i= .int .i64 j∧v= .slice A' n' c'∧n'≤n1+n2∧OwnR dM 2 wr w.heap.size 129 (.slice A' n' c') (if j=0 then [] else if j=1 then l1 else l1++l2)∧Below w.heap.size w wr) (fun _ i _=>2-(intOf i).toNat)
   case atStart=>exact ⟨0,0,A,c,by omega,rfl,rfl,by omega,hown,hb1⟩
   case round=>
    obtain ⟨j,n',A',c',hj,rfl,rfl,hn',hown',hbr⟩:=hrel
    have q0:=(hbr.cell (p:=⟨g,0,none⟩) hgl).trans ((hb1.cell (p:=⟨g,0,none⟩) hgl).symm.trans h0')
    have q1:=(hbr.cell (p:=⟨g,1,none⟩) hgl).trans ((hb1.cell (p:=⟨g,1,none⟩) hgl).symm.trans h1')
    have hszr:=hbr.size
    clear h0' h1'
    obtain rfl|rfl|rfl:j=0∨j=1∨j=2:=by omega
    ·simp only [if_true] at hown'
     have hlen:=hown'.len.1
     simp at hlen
     subst hlen
     go_wp2_with (refine aV (o:=⟨some 33,_,_,_,_,_⟩) eG jX (.agg #[.int .i64 0,.int .i64 0]) 16 _ _ 49 129 w.heap.size [] l1 A1 n1 c1 (.slice A' 0 c') n1 rfl rfl Tryz.underlying49 rF rfl (by omega) rfl rfl hown' (r1.ext hbr) (by simp) (by simp;omega) (by simp;omega) hszr ?_;intro A9 c9 w9 hown9 hgr9 hat9 hc91 hc92)
     exact Tzbk
    ·simp only [if_true,Nat.one_ne_zero,if_false] at hown'
     have hlen:=hown'.len.1
     rw [Hl1.out] at hlen
     subst hlen
     go_wp2_with (refine aV (o:=⟨some 33,_,_,_,_,_⟩) eG jX (.agg #[.int .i64 0,.int .i64 0]) 16 _ _ 49 129 w.heap.size l1 l2 A2 n2 c2 (.slice A' n1 c') (n1+n2) rfl rfl Tryz.underlying49 rF rfl (by omega) rfl rfl hown' (r2.ext hbr) (by rw [Hl1.out]) (by rw [Hl1.out];exact hb) (by rw [Hl1.out];omega) hszr ?_;intro A9 c9 w9 hown9 hgr9 hat9 hc91 hc92)
     exact Tzbj
    ·exact Tzbd
end Go.Proofs.YtiblijmngokcgaaGreatDoor
namespace Go.Proofs.YtiblijmngokcgaaGreatDoor
open Go.RowKit
set_option maxRecDepth 100000
set_option linter.unusedVariables false
set_option linter.unusedSimpArgs false
theorem JK:(Tryz.prog.info? 30).map (fun i=>(i.zero,i.size,i.bytes))=some (some (.slice none 0 0),1,24):=by kernel_rfl
theorem JI:(Tryz.prog.info? 48).map (fun i=>(i.zero,i.size,i.bytes))=some (some (.slice none 0 0),1,24):=by kernel_rfl
theorem JJ:(Tryz.prog.info? 49).map (fun i=>(i.zero,i.size,i.bytes))=some (some (.slice none 0 0),1,24):=by kernel_rfl
theorem MU (A:Option Addr) (n c:Nat) (B:Option Addr) (m d:Nat) (w:World):(Instr.buildSlice 214 2 #[(0,.slice A n c),(1,.slice B m d)]).run Tryz.prog w= .ok (.slice (some ⟨w.heap.size,0,none⟩) 2 2) (w.alloc (.cells #[.slice A n c,.slice B m d] 30)):=by
 obtain ⟨i,hi,hz,hsz,hby⟩:=info_parts JK
 exact run_buildSlice w _ _ 2 _ _ i _ Tryz.underlying214 hi hz (by rw [hsz];omega) (by rw [hsz];omega) (by rw [hsz];kernel_rfl)
theorem MP (A:Option Addr) (n c:Nat) (B:Option Addr) (m d:Nat) (w:World):(Instr.buildSlice 216 2 #[(0,.slice A n c),(1,.slice B m d)]).run Tryz.prog w= .ok (.slice (some ⟨w.heap.size,0,none⟩) 2 2) (w.alloc (.cells #[.slice A n c,.slice B m d] 48)):=by
 obtain ⟨i,hi,hz,hsz,hby⟩:=info_parts JI
 exact run_buildSlice w _ _ 2 _ _ i _ Tryz.underlying216 hi hz (by rw [hsz];omega) (by rw [hsz];omega) (by rw [hsz];kernel_rfl)
theorem MQ (A:Option Addr) (n c:Nat) (B:Option Addr) (m d:Nat) (w:World):(Instr.buildSlice 218 2 #[(0,.slice A n c),(1,.slice B m d)]).run Tryz.prog w= .ok (.slice (some ⟨w.heap.size,0,none⟩) 2 2) (w.alloc (.cells #[.slice A n c,.slice B m d] 49)):=by
 obtain ⟨i,hi,hz,hsz,hby⟩:=info_parts JJ
 exact run_buildSlice w _ _ 2 _ _ i _ Tryz.underlying218 hi hz (by rw [hsz];omega) (by rw [hsz];omega) (by rw [hsz];kernel_rfl)
theorem IV {S:Nat→Prop} {w:World} {v:Value} {ps:List Pg} (h:Pgs S w v ps):Pgs (·<w.heap.size) w v ps:=by
 exact Tzc8
def okM (x:Except Nat Stt):Option Stt:=match x with| .ok s=>some s| .error _=>none
theorem fSq {s:Stt} {L:List UInt8} {k:Nat} (h:eJ L 0= .error k):okM (dX s L)=none:=by unfold dX;rw [h];rfl
theorem FR {s:Stt} {L:List UInt8} {ps:List Pg} {q:Nat} (h:eJ L 0= .ok (ps,q)) (h2:cR L q=none):okM (dX s L)=none:=by unfold dX;rw [h];dsimp only;rw [h2];rfl
theorem FY {s t:Stt} {L:List UInt8} {ps:List Pg} {q k:Nat} (h:eJ L 0= .ok (ps,q)) (h2:cR L q=some t) (h3:cJ s.cells ps= .error k):okM (dX s L)=none:=by unfold dX;rw [h];dsimp only;rw [h2];dsimp only;rw [h3];rfl
theorem FU {s t:Stt} {L:List UInt8} {ps:List Pg} {q:Nat} {b:List Int} (h:eJ L 0= .ok (ps,q)) (h2:cR L q=some t) (h3:cJ s.cells ps= .ok b) (h4:t.cells≠ []):okM (dX s L)=none:=by unfold dX;rw [h];dsimp only;rw [h2];dsimp only;rw [h3];dsimp only;rw [if_neg h4];rfl
theorem FW {s t:Stt} {L:List UInt8} {ps:List Pg} {q:Nat} {b:List Int} (h:eJ L 0= .ok (ps,q)) (h2:cR L q=some t) (h3:cJ s.cells ps= .ok b) (h4:t.cells=[]):okM (dX s L)=some ⟨b,s.evs++t.evs,s.sent++t.sent,s.outs++t.outs⟩:=by unfold dX;rw [h];dsimp only;rw [h2];dsimp only;rw [h3];dsimp only;rw [if_pos h4];rfl
set_option maxHeartbeats 8000000 in
theorem CI (s:Stt) (A1:Option Addr) (n1 c1:Nat) (A2:Option Addr) (n2 c2:Nat) (A3:Option Addr) (n3 c3:Nat) (A4:Option Addr) (n4 c4:Nat) (S:Nat→Prop) (w:World) (hM:StM S w s A1 n1 c1 A2 n2 c2 A3 n3 c3 A4 n4 c4) (hc:s.cells.length≤1000000000) (he:s.evs.length≤1000000000) (hs:s.sent.length≤1000000000) (ho:s.outs.length≤1000000000) (A:Option Addr) (n c:Nat) (L:List UInt8) (S' :Nat→Prop) (hv:Bytes S' w (.slice A n c) L) (hn:n≤4096):
 Calls Tryz.prog 76 #[.agg #[.slice A1 n1 c1,.slice A2 n2 c2,.slice A3 n3 c3,.slice A4 n4 c4],.slice A n c] w fun e w' =>kA w.heap.size w' (okM (dX s L)) e∧Below w.heap.size w w' :=by
 have hln:=hv.len.1
 have HM1:=Lib.hid hM.1.len.1
 have HM2:=Lib.hid hM.2.len.1
 have HM3:=Lib.hid hM.3.len.1
 have HM4:=Lib.hid hM.4.len.1
 have n1b:n1≤1000000000:=by rw [←HM1.out];exact hc
 have n2b:n2≤1000000000:=by rw [←HM2.out];exact he
 have n3b:n3≤1000000000:=by rw [←HM3.out];exact hs
 have n4b:n4≤1000000000:=by rw [←HM4.out];exact ho
 obtain ⟨W,hW,hbW,SW,R0,R1⟩:∃W,W=(w.alloc (.cells #[.slice A1 n1 c1,.slice A2 n2 c2,.slice A3 n3 c3,.slice A4 n4 c4] 51)).alloc (.cells #[.slice none 0 0,.slice none 0 0,.slice none 0 0,.slice none 0 0] 51)∧Below w.heap.size w W∧RowKit.Hid (W.heap.size=w.heap.size+2)∧
  RowKit.Hid (W.heap[w.heap.size]? =some (.cells #[.slice A1 n1 c1,.slice A2 n2 c2,.slice A3 n3 c3,.slice A4 n4 c4] 51 (0,0)))∧RowKit.Hid (W.heap[w.heap.size+1]? =some (.cells #[.slice none 0 0,.slice none 0 0,.slice none 0 0,.slice none 0 0] 51 (0,0))):=by
  refine ⟨_,rfl,((Below.refl _ w).alloc (Nat.le_refl _) _).alloc (by simp) _,Lib.hid (by simp),Lib.hid ?_,Lib.hid ?_⟩
  ·exact Tzar
  ·have:=heap_alloc_new (w.alloc (.cells #[.slice A1 n1 c1,.slice A2 n2 c2,.slice A3 n3 c3,.slice A4 n4 c4] 51)) (.cells #[.slice none 0 0,.slice none 0 0,.slice none 0 0,.slice none 0 0] 51)
   rw [World.size_alloc] at this
   exact this
 have hlt:w.heap.size+1<W.heap.size:=by have:=SW.out;omega
 have hMW:=hM.ext hbW
 have hvW:=hv.ext hbW
 have hpg:=sE A n c 0 L S' W hvW (by omega)
 rw [show fM eJ L 0=eJ L 0 from rfl] at hpg
 have HLN:=Lib.hid hln
 clear hln hv hM hc he hs ho
 go_enter Tryz.func76,Tryz.ntmps76
 go_upto_region 1 with fail
 rw [←hW]
 clear hW
 cases hr:eJ L 0 with
 |error x=>
  have hx0:((x:Int) != 0)=true:=by
   have:=EA L 0 x hr
   simpa using this
  have FIN:=Lib.hid (fSq (s:=s) hr)
  rw [hr] at hpg
  unfold jM at hpg
  dsimp only at hpg
  have HPG:=Lib.hid hpg
  clear hpg hr
  go_wp2_with fail
  refine HPG.out.mono ?_
  rintro e w1 ⟨rfl,b1⟩
  go_wp2
  refine ⟨rfl,?_,Below.ext hbW b1⟩
  rw [FIN.out]
  rfl
 |ok pq=>
  obtain ⟨ps,q⟩:=pq
  have hql:q≤n:=by rw [←HLN.out];exact (sR hr).hi
  rw [hr] at hpg
  unfold jM at hpg
  dsimp only at hpg
  have HPG:=Lib.hid hpg
  clear hpg
  have HR:=Lib.hid hr
  clear hr
  go_wp2_with fail
  refine HPG.out.mono ?_
  rintro e w1 ⟨⟨vp,rfl,P,pc,rfl,hPO⟩,b1⟩
  have hPG:=hPO.pgs
  obtain ⟨np,hnp⟩:∃m,m=ps.length:=⟨_,rfl⟩
  rw [←hnp] at hPG ⊢
  have hb1:=Below.ext hbW b1
  have HST:=Lib.hid (qP A n c L S' w1 (hvW.ext b1) (by omega) q hql)
  clear hPO hnp
  go_wp2_with fail
  refine HST.out.mono ?_
  rintro e w2 ⟨hg,b2⟩
  have hb2:=Below.ext hb1 b2
  cases hw:cR L q with
  |none=>
   rw [hw] at hg
   have FIN:=Lib.hid (FR (s:=s) HR.out hw)
   unfold kA at hg
   dsimp only at hg
   subst hg
   clear hw
   go_wp2
   refine ⟨rfl,?_,hb2⟩
   rw [FIN.out]
   rfl
  |some t=>
   rw [hw] at hg
   unfold kA at hg
   dsimp only at hg
   obtain ⟨E1,p1,q1,E2,p2,q2,E3,p3,q3,E4,p4,q4,rfl,hT⟩:=hg
   obtain ⟨W3,hW3,_,k3,S3,R3⟩:=bP w2 w2 #[.slice E1 p1 q1,.slice E2 p2 q2,.slice E3 p3 q3,.slice E4 p4 q4] 51 (Below.refl _ _)
   obtain ⟨bt,hbt⟩:∃b,b=w2.heap.size:=⟨_,rfl⟩
   rw [←hbt] at R3
   have HBT:=Lib.hid hbt
   have sb2:=hb2.size
   have sb1:=b1.size
   have sb2' :=b2.size
   have hbt3:bt<W3.heap.size:=by have:=S3.out;omega
   have hbtw:w.heap.size+1<bt:=by omega
   have b13:Below w1.heap.size w1 W3:=Below.ext b2 k3
   have hb3:=Below.ext hb2 k3
   have y3:=Below.ext b1 b13
   have R03:=Lib.hid ((y3.block w.heap.size (by omega)).trans R0.out)
   have R13:=Lib.hid ((y3.block (w.heap.size+1) hlt).trans R1.out)
   have hT3:StM (w1.heap.size≤·) W3 t E1 p1 q1 E2 p2 q2 E3 p3 q3 E4 p4 q4:=hT.ext k3
   have hM3:=hMW.ext y3
   have hP3:=hPG.ext b13
   have HT1:=Lib.hid hT.1.len
   have HT2:=Lib.hid hT.2.len
   have HT3:=Lib.hid hT.3.len
   have HT4:=Lib.hid hT.4.len
   have q00:W3.cell? ⟨w.heap.size,0,none⟩=some (.slice A1 n1 c1):=aA R03.out 0 _ rfl
   have HAP:=Lib.hid (vE A1 n1 c1 s.cells W3 (hM3.1.mono (fun b h _=>h)) n1b P np pc ps (IV hP3))
   have HW:=Lib.hid hw
   clear hbt hw hT hPG
   go_upto_region 5 with (refine aF rfl 51 _ _ rfl 51 _ #[.slice E1 p1 q1,.slice E2 p2 q2,.slice E3 p3 q3,.slice E4 p4 q4] rfl rfl (by kernel_rfl) rfl (by simp [Value.oneCell']) ?_)
   try dsimp only
   rw [←hW3,←HBT.out]
   clear hW3
   try simp only [Act.put]
   go_wp2_with fail
   refine HAP.out.mono ?_
   rintro e w4 ⟨hg,b4⟩
   have R04:=Lib.hid ((b4.block w.heap.size (by omega)).trans R03.out)
   have R14:=Lib.hid ((b4.block (w.heap.size+1) (by omega)).trans R13.out)
   have R34:=Lib.hid ((b4.block bt hbt3).trans R3.out)
   have hb4:=Below.ext hb3 b4
   have q40:w4.cell? ⟨bt,0,none⟩=some (.slice E1 p1 q1):=aA R34.out 0 _ rfl
   clear q00
   cases hap:cJ s.cells ps with
   |error k=>
    rw [hap] at hg
    unfold GR at hg
    dsimp only at hg
    obtain ⟨hk0,rfl⟩:=hg
    have dk:((k:Int) != 0)=true:=by simpa using hk0
    have FIN:=Lib.hid (FY (s:=s) HR.out HW.out hap)
    clear hap hk0
    go_wp2
    refine ⟨rfl,?_,hb4⟩
    rw [FIN.out]
    rfl
   |ok b=>
    rw [hap] at hg
    unfold GR at hg
    dsimp only at hg
    obtain ⟨D,dc,rfl,hD⟩:=hg
    by_cases ht0:t.cells=[]
    ·obtain rfl:p1=0:=by have:=HT1.out.1;rw [ht0] at this;simpa using this.symm
     have FIN:=Lib.hid (FW (s:=s) HR.out HW.out hap ht0)
     have p2b:p2≤4096:=by
      have:=(kR (by have:=HLN.out;omega) HW.out).e
      have:=HT2.out.1
      omega
     have p3b:p3≤4096:=by
      have:=(kR (by have:=HLN.out;omega) HW.out).sn
      have:=HT3.out.1
      omega
     have p4b:p4≤4096:=by
      have:=(kR (by have:=HLN.out;omega) HW.out).o
      have:=HT4.out.1
      omega
     clear hap ht0
     have hM4:=hM3.ext b4
     have hT4:=hT3.ext b4
     have hbt4:bt<w4.heap.size:=by have:=b4.size;omega
     have hw14:w.heap.size+1<w4.heap.size:=by omega
     have hW34:W3.heap.size≤w4.heap.size:=b4.size
     go_upto_region 8 with fail
     try (go_wp2_with fail)
     refine kQ false (fun w' =>w'.heap[w.heap.size]? =some (.cells #[.slice A1 n1 c1,.slice A2 n2 c2,.slice A3 n3 c3,.slice A4 n4 c4] 51 (0,0))∧w'.heap[bt]? =some (.cells #[.slice E1 0 q1,.slice E2 p2 q2,.slice E3 p3 q3,.slice E4 p4 q4] 51 (0,0))) [45,51,57] ((fun d=>bif d==45 then .cells #[.slice A2 n2 c2,.slice E2 p2 q2] 30 else bif d==51 then .cells #[.slice A3 n3 c3,.slice E3 p3 q3] 48 else .cells #[.slice A4 n4 c4,.slice E4 p4 q4] 49)) (fun _ X=> .slice (some ⟨X,0,none⟩) 2 2) (by kernel_rfl) (by kernel_rfl) (fun _ _ w' h=>⟨jR h.1 _,jR h.2 _⟩) (⟨R04.out,R34.out⟩) ?_
     refine TkD ?_
     have b0x:Below w4.heap.size w4 w4.drew:=(Below.refl _ w4).drew
     have x0x:=Bxs.none_ w4.heap.size (fun d=>bif d==45 then .cells #[.slice A2 n2 c2,.slice E2 p2 q2] 30 else bif d==51 then .cells #[.slice A3 n3 c3,.slice E3 p3 q3] 48 else .cells #[.slice A4 n4 c4,.slice E4 p4 q4] 49) w4.drew
     refine jT (⟨w.heap.size,1,none⟩) (.slice A2 n2 c2) rfl rfl rfl rfl (fun w' hw' =>aG (mO _) (aA hw'.1 1 _ rfl)) ?_
     refine TkI ?_
     refine TkD ?_
     refine jT (⟨bt,1,none⟩) (.slice E2 p2 q2) rfl rfl rfl rfl (fun w' hw' =>aG (mO _) (aA hw'.2 1 _ rfl)) ?_
     refine TkI ?_
     refine TkD ?_
     refine tX 45 rfl (⟨rfl,fun w' =>oU rfl (by rw [List.map_toArray];rfl) (MU _ _ _ _ _ _ w')⟩) (fun ma0 va0 X0 hA0 hX0=> ?_)
     refine TkI ?_
     refine TkD ?_
     refine oX rfl rfl (fun mb0 vb0 hB0=> ?_)
     go_wp2_with fail
     have hE0:=hA0.trans hB0
     have xb0:=hE0.bxs x0x b0x.size
     have yb0:Below w4.heap.size w4 vb0:=Below.ext b0x hE0.bel
     have hY0:=hB0.keeps hX0
     have rX0:=(xb0 45 X0 hY0).2
     refine (JS X0 A2 E2 n2 c2 p2 q2 s.evs t.evs _ _ vb0 (aA rX0 0 _ rfl) (aA rX0 1 _ rfl) (hM4.2.ext yb0) (hT4.2.ext yb0) (by omega)).mono ?_
     rintro e vc0 ⟨F2,r2,rfl,O2,bc0⟩
     have yc0:=Below.ext yb0 bc0
     have xc0:=xb0.ext bc0
     have PA0:=Lib.hid ((yc0.block w.heap.size (by omega)).trans R04.out)
     have PB0:=Lib.hid ((yc0.block bt hbt4).trans R34.out)
     go_wp2_with fail
     refine kV (⟨PA0.out,PB0.out⟩) ?_
     refine TkD ?_
     refine jT (⟨w.heap.size,2,none⟩) (.slice A3 n3 c3) rfl rfl rfl rfl (fun w' hw' =>aG (oO _) (aA hw'.1 2 _ rfl)) ?_
     refine TkI ?_
     refine TkD ?_
     refine jT (⟨bt,2,none⟩) (.slice E3 p3 q3) rfl rfl rfl rfl (fun w' hw' =>aG (oO _) (aA hw'.2 2 _ rfl)) ?_
     refine TkI ?_
     refine TkD ?_
     refine tX 51 rfl (⟨rfl,fun w' =>oU rfl (by rw [List.map_toArray];rfl) (MP _ _ _ _ _ _ w')⟩) (fun ma1 va1 X1 hA1 hX1=> ?_)
     refine TkI ?_
     refine TkD ?_
     refine oX rfl rfl (fun mb1 vb1 hB1=> ?_)
     go_wp2_with fail
     have hE1:=hA1.trans hB1
     have xb1:=hE1.bxs xc0 yc0.size
     have yb1:Below w4.heap.size w4 vb1:=Below.ext yc0 hE1.bel
     have hY1:=hB1.keeps hX1
     have rX1:=(xb1 51 X1 hY1).2
     refine (JQ X1 A3 E3 n3 c3 p3 q3 s.sent t.sent _ _ vb1 (aA rX1 0 _ rfl) (aA rX1 1 _ rfl) (hM4.3.ext yb1) (hT4.3.ext yb1) (by omega)).mono ?_
     rintro e vc1 ⟨F3,r3,rfl,O3,bc1⟩
     have yc1:=Below.ext yb1 bc1
     have xc1:=xb1.ext bc1
     have PA1:=Lib.hid ((yc1.block w.heap.size (by omega)).trans R04.out)
     have PB1:=Lib.hid ((yc1.block bt hbt4).trans R34.out)
     go_wp2_with fail
     refine kV (⟨PA1.out,PB1.out⟩) ?_
     refine TkD ?_
     refine jT (⟨w.heap.size,3,none⟩) (.slice A4 n4 c4) rfl rfl rfl rfl (fun w' hw' =>aG (oP _) (aA hw'.1 3 _ rfl)) ?_
     refine TkI ?_
     refine TkD ?_
     refine jT (⟨bt,3,none⟩) (.slice E4 p4 q4) rfl rfl rfl rfl (fun w' hw' =>aG (oP _) (aA hw'.2 3 _ rfl)) ?_
     refine TkI ?_
     refine TkD ?_
     refine tX 57 rfl (⟨rfl,fun w' =>oU rfl (by rw [List.map_toArray];rfl) (MQ _ _ _ _ _ _ w')⟩) (fun ma2 va2 X2 hA2 hX2=> ?_)
     refine TkI ?_
     refine TkD ?_
     refine oX rfl rfl (fun mb2 vb2 hB2=> ?_)
     go_wp2_with fail
     have hE2:=hA2.trans hB2
     have xb2:=hE2.bxs xc1 yc1.size
     have yb2:Below w4.heap.size w4 vb2:=Below.ext yc1 hE2.bel
     have hY2:=hB2.keeps hX2
     have rX2:=(xb2 57 X2 hY2).2
     refine (JR X2 A4 E4 n4 c4 p4 q4 s.outs t.outs _ _ vb2 (aA rX2 0 _ rfl) (aA rX2 1 _ rfl) (hM4.4.ext yb2) (hT4.4.ext yb2) (by omega)).mono ?_
     rintro e vc2 ⟨F4,r4,rfl,O4,bc2⟩
     have yc2:=Below.ext yb2 bc2
     have xc2:=xb2.ext bc2
     have PA2:=Lib.hid ((yc2.block w.heap.size (by omega)).trans R04.out)
     have PB2:=Lib.hid ((yc2.block bt hbt4).trans R34.out)
     go_wp2_with fail
     refine kV (⟨PA2.out,PB2.out⟩) ?_
     refine TkD ?_
     have kk0:=hE2.keeps (hE1.keeps hY0)
     have kk1:=hE2.keeps hY1
     refine yT rfl rfl (by simp [kk0,kk1,hY2]) ?_
     go_wp2_with fail
     refine kV (⟨PA2.out,PB2.out⟩) ?_
     refine TkD ?_
     have R1z:=Lib.hid ((yc2.block (w.heap.size+1) hw14).trans R14.out)
     refine yT rfl rfl (by simp [kk0,kk1,hY2]) ?_
     refine aC rfl 51 _ _ rfl (w.heap.size+1) 51 _ _ rfl rfl R1z.out (by kernel_rfl) rfl (by simp [Value.oneCell']) ?_
     go_wp2_with fail
     refine kV (⟨(setRow_other _ _ _ _ (by omega)).trans PA2.out,(setRow_other _ _ _ _ (by omega)).trans PB2.out⟩) ?_
     refine TkD ?_
     refine JB ?_
     go_wp2
     refine bodyPost_ret (bH rfl rfl (aB (setRow_heap _ _ _ _ _ _ R1z.out) Tryz.underlying51 rfl (by kernel_rfl))) rfl ?_
     rw [FIN.out]
     have gE:=aJ vc2 (w.heap.size+1) #[.slice D n1 dc,.slice F2 (n2+p2) r2,.slice F3 (n3+p3) r3,.slice F4 (n4+p4) r4]
     have kE:Keep (fun b=>w.heap.size+2≤b) vc2 (vc2.setRow (w.heap.size+1) #[.slice D n1 dc,.slice F2 (n2+p2) r2,.slice F3 (n3+p3) r3,.slice F4 (n4+p4) r4]):=fun b hb hs=>gE.block b hb (by simp;omega)
     have hs0:=yb0.size
     have hs1:=yb1.size
     have hs2:=yb2.size
     have O2z:Recs cQ (fun b=>w.heap.size+2≤b) vc2 (.slice F2 (n2+p2) r2) (s.evs++t.evs):=(((O2.recs.mono (S' :=fun b=>w.heap.size+2≤b) (fun b _ h=>by have:=h.1;omega)).ext hE1.bel).ext bc1 |>.ext hE2.bel).ext bc2
     have O3z:Recs dK (fun b=>w.heap.size+2≤b) vc2 (.slice F3 (n3+p3) r3) (s.sent++t.sent):=((O3.recs.mono (S' :=fun b=>w.heap.size+2≤b) (fun b _ h=>by have:=h.1;omega)).ext hE2.bel).ext bc2
     have O4z:Recs dM (fun b=>w.heap.size+2≤b) vc2 (.slice F4 (n4+p4) r4) (s.outs++t.outs):=O4.recs.mono (S' :=fun b=>w.heap.size+2≤b) (fun b _ h=>by have:=h.1;omega)
     have O1z:Recs bJ (fun b=>w.heap.size+2≤b) vc2 (.slice D n1 dc) b:=(hD.recs.mono (S' :=fun b=>w.heap.size+2≤b) (fun b _ h=>by have:=h.1;omega)).ext yc2
     refine ⟨⟨D,_,dc,F2,_,r2,F3,_,r3,F4,_,r4,rfl,⟨(O1z.keep kE).mono (fun b _ h=>by omega),(O2z.keep kE).mono (fun b _ h=>by omega),(O3z.keep kE).mono (fun b _ h=>by omega),(O4z.keep kE).mono (fun b _ h=>by omega)⟩⟩,(Below.ext hb4 yc2).grown gE (Below.ext hb4 yc2).size (fun o e=>by cases e;omega)⟩
    ·have hp1:0<p1:=by
      have:=HT1.out.1
      rcases t with ⟨_|⟨z,l⟩,_⟩
      ·exact absurd rfl ht0
      ·simp at this;omega
     have FIN:=Lib.hid (FU (s:=s) HR.out HW.out hap ht0)
     have dp:decide (0<p1)=true:=by simpa using hp1
     clear hap ht0
     go_wp2
     refine ⟨rfl,?_,hb4⟩
     rw [FIN.out]
     rfl
end Go.Proofs.YtiblijmngokcgaaGreatDoor
