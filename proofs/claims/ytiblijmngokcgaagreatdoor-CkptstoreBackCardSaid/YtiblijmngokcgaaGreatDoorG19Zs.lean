import Derived.Test.YtiblijmngokcgaaGreatDoorMacZs
import Derived.Test.YtiblijmngokcgaaGreatDoorG18Zs
import Derived.Laws.CopyOwn
import Derived.Deep.LoopGhost
namespace Go.Proofs.YtiblijmngokcgaaGreatDoor
open Go.RowKit
set_option maxRecDepth 100000
set_option linter.unusedVariables false
set_option linter.unusedSimpArgs false
set_option maxHeartbeats 1000000 in
theorem tK (A:Option Addr) (n c:Nat) (w:World) (hn:n≤1000000000):Calls Tryz.prog 160 #[.slice A n c] w fun e w' =>e= .returned (.int .i64 (cM n:Nat))∧w' =w:=by
 by_cases h:n%4=0
 ·have hp:(cM n:Int)=(n:Int) / 4:=by unfold cM;omega
  exact Tzdh
 ·have hp:(cM n:Int)=(n:Int) / 4+1:=by unfold cM;omega
  exact Tzdh
set_option maxHeartbeats 1000000 in
theorem qB (g o n c k:Nat) (w:World) (hn:n≤1000000000) (hnc:n≤c) (hk:k*4<n):Calls Tryz.prog 161 #[.slice (some ⟨g,o,none⟩) n c,.int .i64 (k:Int)] w fun e w' =>e= .returned (.slice (some ⟨g,o+k*4,none⟩) (dI n k) (dI n k))∧w' =w:=by
 obtain ⟨L,hL⟩:∃L,L=dI n k:=⟨_,rfl⟩
 rw [←hL]
 unfold dI at hL
 have HLL:=Lib.hid hL
 clear hL
 by_cases h:k*4+4<n
 ·go_enter Tryz.func161,Tryz.ntmps161
  go_wp2
  go_ret
  have hl:=HLL.out
  clear HLL
  refine ⟨?_,rfl⟩
  have e:k*4+4-k*4=L:=by omega
  rw [←e]
  rfl
 ·go_enter Tryz.func161,Tryz.ntmps161
  go_wp2
  go_ret
  have hl:=HLL.out
  clear HLL
  refine ⟨?_,rfl⟩
  have e:n-k*4=L:=by omega
  rw [←e]
  rfl
  ·go_ret
   have hl:=HLL.out
   clear HLL
   refine ⟨?_,rfl⟩
   have e:((k:Int)*4+4).toNat-k*4=L:=by omega
   rw [←e]
   rfl
theorem eU (l:List Int):l.flatMap bJ=l.map (fun z=>Value.int .i64 z):=by
 induction l with
 |nil=>rfl
 |cons z l ih=>rw [List.flatMap_cons,ih];rfl
theorem OwnR.splice_ {w w' :World} {base:Nat} {e:TypeId} {g n c o:Nat} {cur:Array Value} {l zs:List Int} (h:OwnR bJ 1 w base e (.slice (some ⟨g,0,none⟩) n c) l) (hr:w.heap[g]? =some (.cells cur e (0,0))) (ho:o+zs.length≤n) (h' :w'.heap[g]? =some (.cells (splice cur.toList o (zs.flatMap bJ)).toArray e (0,0))):OwnR bJ 1 w' base e (.slice (some ⟨g,0,none⟩) n c) (iS l o zs):=by
 have hl:=h.len
 have e1:(iS l o zs).length=n:=by rw [uZ _ _ _ (by omega)];exact hl.1
 have e0:=hl.1
 unfold OwnR at*
 rw [e1]
 refine ⟨by rw [eU,List.length_map,e1];omega,?_⟩
 rcases h.2 with ⟨e0,hn⟩|⟨g',cap,cur',e0,hb,hh,h1,h2,h3,h4⟩
 ·cases e0
 ·cases e0
  rw [hr] at hh
  cases hh
  have hzl:(zs.flatMap bJ).length=zs.length:=by rw [eU,List.length_map]
  refine .inr ⟨g,c,_,rfl,hb,h',by omega,h2,by simp [length_splice,hzl];rw [length_splice _ _ _ (by rw [hzl];simp;omega)];simpa using h3,?_⟩
  have hsz:cur.toList.length=c:=by simpa using h3
  have h4' :cur.toList.take l.length=l.map (fun z=>Value.int .i64 z):=by rw [←eU,←h4];simp
  show (splice cur.toList o (zs.flatMap bJ)).take (l.length*1)=_
  rw [Nat.mul_one,eU,eU]
  unfold splice iS
  apply List.ext_getElem?
  intro i
  have hlm:(zs.map (fun z=>Value.int .i64 z)).length=zs.length:=by simp
  rw [List.getElem?_take]
  split
  ·rename_i hi
   rw [List.map_append,List.map_append,List.append_assoc,List.getElem?_append]
   rw [List.getElem?_append (l₁:=(l.take o).map (fun z=>Value.int .i64 z))]
   have t1:(cur.toList.take o).length=o:=by rw [List.length_take];omega
   have t2:((l.take o).map (fun z=>Value.int .i64 z)).length=o:=by rw [List.length_map,List.length_take];omega
   rw [t1,t2]
   split
   ·rename_i ho2
    rw [List.map_take,←h4',List.take_take,List.getElem?_take,List.getElem?_take,if_pos ho2,if_pos (by omega)]
   ·rw [List.getElem?_append,List.getElem?_append,hlm]
    split
    ·rfl
    ·rw [List.map_drop,←h4',List.getElem?_drop,List.getElem?_drop,List.getElem?_take]
     rw [if_pos (by omega)]
  ·rename_i hi
   symm
   apply List.getElem?_eq_none
   rw [List.length_map]
   simp only [List.length_append,List.length_take,List.length_drop]
   omega
theorem OwnR.row_ {w:World} {base:Nat} {e:TypeId} {g n c:Nat} {l:List Int} (h:OwnR bJ 1 w base e (.slice (some ⟨g,0,none⟩) n c) l):∃cur:Array Value,w.heap[g]? =some (.cells cur e (0,0))∧cur.size=c∧base≤g:=by
 rcases h.2 with ⟨e0,hn⟩|⟨g',cap,cur',e0,hb,hh,h1,h2,h3,h4⟩
 ·cases e0
 ·cases e0
  exact ⟨_,hh,by omega,hb⟩
def GR (base:Nat) (w' :World) (n:Nat) (x:Except Nat (List Int)) (e:Ending):Prop:=
 match x with
 | .ok b=>∃A c,e= .returned (.tuple #[.slice A n c,.int .i64 0])∧OwnR bJ 1 w' base 3 (.slice A n c) b
 | .error k=>k≠0∧e= .returned (.tuple #[.slice none 0 0,.int .i64 (k:Int)])
set_option maxHeartbeats 4000000 in
theorem vE (A:Option Addr) (n c:Nat) (a:List Int) (w:World) (hr:Recs bJ (·<w.heap.size) w (.slice A n c) a) (hn:n≤1000000000) (Ap:Option Addr) (np cp:Nat) (ps:List Pg) (hP:Pgs (·<w.heap.size) w (.slice Ap np cp) ps):
 Calls Tryz.prog 133 #[.slice A n c,.slice Ap np cp] w fun e w' =>GR w.heap.size w' n (cJ a ps) e∧Below w.heap.size w w' :=by
 have HLA:=Lib.hid hr.len.1
 have HPL:=Lib.hid hP.len
 have hpl2:=hP.len.2
 have HC:=Lib.hid (LP A n c a _ w hr (by omega))
 clear hr
 go_enter Tryz.func133,Tryz.ntmps133
 go_wp2_with fail
 refine HC.out.mono ?_
 rintro e w1 ⟨B,cB,rfl,hO,b1⟩
 clear HC
 go_wp2
 go_loopw [14] (fun i wr=>∃(k:Nat) (cur:List Int),i= .int .i64 k∧k≤np∧OwnR bJ 1 wr w.heap.size 3 (.slice B n cB) cur∧RowKit.Hid (cJ a ps=cJ cur (ps.drop k))∧Below w.heap.size w wr) (fun i _=>np-(intOf i).toNat)
 case atStart=>exact ⟨0,a,rfl,by omega,hO,Lib.hid (by simp),b1⟩
 case round=>
  clear hO b1
  obtain ⟨k,cur,rfl,hk,hO,hap,hbr⟩:=hrel
  have HCL:=Lib.hid hO.len
  by_cases hlt:k<np
  ·obtain ⟨b,off,x,p,rfl,hbS,hbl,hpk,hnum,hcs,c0,c1⟩:=(hP.ext hbr).at_ hlt
   have hdr:ps.drop k=p::ps.drop (k+1):=by
    rw [List.drop_eq_getElem_cons (by have:=HPL.out.1;omega)]
    congr 1
    rw [List.getElem?_eq_getElem (by have:=HPL.out.1;omega)] at hpk
    exact Option.some.inj hpk
   have hap' :cJ a ps=(match jZ cur p with| .ok b=>cJ b (ps.drop (k+1))| .error e=> .error e):=by rw [hap.out,hdr];rfl
   have HAP:=Lib.hid hap'
   have hsz:=hbr.size
   have HNUM:=Lib.hid hnum
   have HXL:=Lib.hid hcs.len
   obtain ⟨z,hz⟩:∃z,z=x.num:=⟨_,rfl⟩
   rw [←hz] at c0
   obtain ⟨W3,hW3⟩:∃W3,W3=wr.alloc (.cells #[.int .i64 z,.slice x.A x.n x.c] 163):=⟨_,rfl⟩
   obtain ⟨bx,hbx⟩:∃b,b=wr.heap.size:=⟨_,rfl⟩
   have hb3:Below wr.heap.size wr W3:=by rw [hW3];exact (Below.refl _ _).alloc (Nat.le_refl _) _
   have r3:W3.heap[bx]? =some (.cells #[.int .i64 z,.slice x.A x.n x.c] 163 (0,0)):=by rw [hW3,hbx];exact heap_alloc_new _ _
   have hs3:bx<W3.heap.size:=by rw [hW3,hbx];simp
   have hbx2:wr.heap.size≤bx:=by omega
   have HBX:=Lib.hid hbx
   have R3:=Lib.hid r3
   have hO3:=hO.ext hb3
   have hc3:=hcs.ext hb3
   have hbw3:=Below.ext hbr hb3
   have HZ:=Lib.hid (hz.trans hnum)
   clear hap' hdr hpk hbx r3 hz hnum HNUM hO hcs
   go_upto_region 5 with fail
   rw [←hW3,←HBX.out]
   clear hW3
   obtain ⟨w4,hw4⟩:∃w4,w4=W3.drew:=⟨_,rfl⟩
   have b4:Below W3.heap.size W3 w4:=by rw [hw4];exact (Below.refl _ W3).drew
   have R4:=Lib.hid ((b4.block bx hs3).trans R3.out)
   have hO4:=hO3.ext b4
   have hc4:=hc3.ext b4
   have hbw4:=Below.ext hbw3 b4
   have q0:w4.cell? ⟨bx,0,none⟩=some (.int .i64 z):=aA R4.out 0 _ rfl
   have q1:w4.cell? ⟨bx,1,none⟩=some (.slice x.A x.n x.c):=aA R4.out 1 _ rfl
   by_cases hz0:z<0
   ·have dz:decide (z<0)=true:=by simpa using hz0
    have FIN:=Lib.hid (show cJ a ps= .error 3 by rw [HAP.out];unfold jZ;rw [if_pos (.inl (by rw [←HZ.out];exact hz0))])
    clear q0 q1
    go_wp2_with fail
    refine aM ((fun w' =>w'.heap[bx]? =some (.cells #[.int .i64 z,.slice x.A x.n x.c] 163 (0,0)))) (by kernel_rfl) (by kernel_rfl) (R3.out) ?_
    refine TkA ?_
    refine aE (⟨bx,0,none⟩) (.int .i64 z) rfl rfl rfl (fun w' hw' =>aG (aU _) (aA hw' 0 _ rfl)) ?_
    refine TkI ?_
    refine TkA ?_
    rw [←hw4]
    clear hw4
    refine iH rfl rfl (R4.out) ?_
    refine TkI ?_
    refine TkA ?_
    refine TkA ?_
    refine aZ ?_
    go_wp2
    go_ret2
    rw [FIN.out]
    exact ⟨⟨by omega,rfl⟩,hbw4⟩
   ·have dz:decide (z<0)=false:=by simpa using hz0
    obtain ⟨zn,rfl⟩:=Int.eq_ofNat_of_zero_le (show 0≤z by omega)
    have HCT:=Lib.hid (tK B n cB w4 hn)
    by_cases hz1:cM n≤zn
    ·have dz1:decide (cM n≤zn)=true:=by simpa using hz1
     have FIN:=Lib.hid (show cJ a ps= .error 3 by rw [HAP.out];unfold jZ;rw [if_pos (.inr (by rw [←HZ.out,HCL.out.1];omega))])
     clear q0 q1
     go_wp2_with fail
     refine aM ((fun w' =>w'.heap[bx]? =some (.cells #[.int .i64 (zn:Int),.slice x.A x.n x.c] 163 (0,0)))) (by kernel_rfl) (by kernel_rfl) (R3.out) ?_
     refine TkA ?_
     refine aE (⟨bx,0,none⟩) (.int .i64 (zn:Int)) rfl rfl rfl (fun w' hw' =>aG (aU _) (aA hw' 0 _ rfl)) ?_
     refine TkI ?_
     refine TkA ?_
     refine aE (⟨bx,0,none⟩) (.int .i64 (zn:Int)) rfl rfl rfl (fun w' hw' =>aG (aU _) (aA hw' 0 _ rfl)) ?_
     refine TkI ?_
     refine TkA ?_
     rw [←hw4]
     clear hw4
     refine aL rfl ?_
     go_wp2_with fail
     refine HCT.out.mono ?_
     rintro e w5 ⟨rfl,rfl⟩
     go_wp2_with fail
     refine aI (R4.out) ?_
     refine TkA ?_
     refine aZ ?_
     go_wp2
     go_ret2
     rw [FIN.out]
     exact ⟨⟨by omega,rfl⟩,hbw4⟩
    ·have dz1:decide (cM n≤zn)=false:=by simpa using hz1
     have hz4:zn*4<n:=by unfold cM at hz1;omega
     have hcl:=HCL.out
     obtain ⟨g,rfl,hbg,hgl⟩:=hO4.some_ (by omega)
     have HPG:=Lib.hid (qB g 0 n cB zn w4 hn hcl.2.1 hz4)
     obtain ⟨L,hL⟩:∃L,L=dI n zn:=⟨_,rfl⟩
     rw [←hL] at HPG
     have hLn:zn*4+L≤n:=by rw [hL];unfold dI;omega
     have HL:=Lib.hid hL
     clear hL hcl
     go_wp2_with fail
     refine aM ((fun w' =>w'.heap[bx]? =some (.cells #[.int .i64 (zn:Int),.slice x.A x.n x.c] 163 (0,0)))) (by kernel_rfl) (by kernel_rfl) (R3.out) ?_
     refine TkA ?_
     refine aE (⟨bx,0,none⟩) (.int .i64 (zn:Int)) rfl rfl rfl (fun w' hw' =>aG (aU _) (aA hw' 0 _ rfl)) ?_
     refine TkI ?_
     refine TkA ?_
     refine aE (⟨bx,0,none⟩) (.int .i64 (zn:Int)) rfl rfl rfl (fun w' hw' =>aG (aU _) (aA hw' 0 _ rfl)) ?_
     refine TkI ?_
     refine TkA ?_
     rw [←hw4]
     clear hw4
     refine aL rfl ?_
     go_wp2_with fail
     refine HCT.out.mono ?_
     rintro e w5 ⟨rfl,rfl⟩
     go_wp2_with fail
     refine aI (R4.out) ?_
     refine TkA ?_
     refine aZ ?_
     go_wp2_with fail
     refine HPG.out.mono ?_
     rintro e w5 ⟨rfl,rfl⟩
     by_cases hLx:L=x.n
     ·have dL:((L:Int) != (x.n:Int))=false:=by simp [hLx]
      have HLX:=Lib.hid hLx
      obtain ⟨cr,hcr,hcrs,_⟩:=hO4.row_
      have hlay:jZ cur p= .ok (iS cur (zn*4) p.cells):=by
       unfold jZ
       rw [if_neg (by rw [←HZ.out,HCL.out.1];omega),←HZ.out,if_pos (by rw [HCL.out.1,Int.toNat_natCast,←HL.out,hLx,HXL.out.1])]
       rfl
      have HLAY:=Lib.hid (show cJ a ps=cJ (iS cur (zn*4) p.cells) (ps.drop (k+1)) by rw [HAP.out,hlay])
      have hcl5:=HXL.out
      have hpos:0<(p.cells.flatMap bJ).length→∃ad,x.A=some ad∧∀j v,(p.cells.flatMap bJ)[j]? =some v→w5.cell? (ad.add j)=some v:=by
       intro h0
       obtain ⟨A',c',e,_,_,h3⟩:=hc4
       simp only [Value.slice.injEq] at e
       obtain ⟨b',o',e2,_,h4⟩:=h3 h0
       exact ⟨_,e.1.trans e2,fun j v hj=>by rw [show (⟨b',o',none⟩:Addr).add j=⟨b',o' +j,none⟩ by unfold Addr.add;cases j<;>rfl];exact h4 j v hj⟩
      have hfl:(p.cells.flatMap bJ).length=x.n:=by rw [eU,List.length_map];exact hcl5.1
      have hone:∀v∈p.cells.flatMap bJ,v.oneCell' =true:=by
       intro v hv
       rw [eU] at hv
       obtain ⟨z,_,rfl⟩:=List.mem_map.1 hv
       rfl
      have hn5:(p.cells.flatMap bJ).length=Nat.min x.n L:=by rw [hfl,hLx];simp
      have HPOS:=Lib.hid hpos
      have HFL:=Lib.hid hfl
      have HN5:=Lib.hid hn5
      have HCR:=Lib.hid hcr
      have hfit:zn*4+(p.cells.flatMap bJ).length≤cr.toList.length:=by
       have:=HCL.out
       rw [hfl,←hLx]
       simp
       omega
      have HFIT:=Lib.hid hfit
      have hfit2:zn*4+p.cells.length≤n:=by rw [hcl5.1,←hLx];exact hLn
      clear hlay hcl5 hpos hfl hn5 hcr hcrs hfit hLx
      go_wp2_with (refine wpList_copy_splice rfl (.tmp 38) (.tmp 40) 23 23 rfl 3 Tryz.underlying23 (by kernel_rfl) (some ⟨g,zn*4,none⟩) x.A L L x.n x.c rfl rfl g (zn*4) cr.toList 3 HCR.out (p.cells.flatMap bJ) HN5.out (fun h=>⟨rfl,HPOS.out h⟩) HFIT.out hone w.heap.size w hbw4 hbg ?_;intro w6 HG6 hB6)
      have hO6:=OwnR.splice_ hO4 HCR.out hfit2 HG6.out
      go_roundw
      case rel=>exact ⟨k+1,iS cur (zn*4) p.cells,rfl,by omega,hO6,HLAY,hB6⟩
      case measure=>simp [intOf];omega
     ·have dL:((L:Int) != (x.n:Int))=true:=by simp;omega
      have FIN:=Lib.hid (show cJ a ps= .error 7 by rw [HAP.out];unfold jZ;rw [if_neg (by rw [←HZ.out,HCL.out.1];omega),←HZ.out,if_neg (by rw [HCL.out.1,Int.toNat_natCast,←HL.out,HXL.out.1];exact hLx)])
      clear hLx
      go_wp2
      go_ret2
      rw [FIN.out]
      exact ⟨⟨by omega,rfl⟩,hbw4⟩
  ·obtain rfl:k=np:=by omega
   have FIN:=Lib.hid (show cJ a ps= .ok cur by rw [hap.out,List.drop_of_length_le (by rw [HPL.out.1];omega)];rfl)
   go_wp2
   go_ret2
   rw [FIN.out]
   exact ⟨⟨_,_,rfl,hO⟩,hbr⟩
end Go.Proofs.YtiblijmngokcgaaGreatDoor
namespace Go.Proofs.YtiblijmngokcgaaGreatDoor
open Go.RowKit
set_option maxRecDepth 100000
set_option linter.unusedVariables false
set_option linter.unusedSimpArgs false
def RsS:Nat→Sm→Prop
 |0,_=>False
 |n+1,.mk kind name slot size place value body els=>(1≤kind∧kind≤6)∧(0≤slot∧slot≤1000)∧(0≤size∧size≤1000)∧RsE 3 place∧RsE 3 value∧(∀s∈body,RsS n s)∧(∀s∈els,RsS n s)
def wD (n:Nat):Prop:=∀(w:World) (p base:Nat) (v:Env) (r:Rst) (F:Nat→Prop) (A:Option Addr) (m c:Nat) (ts:List Sm),RunOk w p base v r F→EnvIn v→LsOk bM (SmOk n (·<base) w) (·<base) w (.slice A m c) ts→(∀s∈ts,RsS n s)→
 Calls Tryz.prog 198 #[.pointer (some ⟨p,0,none⟩),.slice A m c] w fun e w' =>∃r' ok,e= .returned (.bool ok)∧RunL v ts r r' ok∧RunOk w' p base v r' F∧Below base w w'∧Keep F w w'
theorem nC {base:Nat} {w w' :World} (h:Below base w w'):Keep (·<base) w w' :=fun b _ hs=>h.block b hs
theorem RunOk.weak {w:World} {p base:Nat} {v:Env} {r:Rst} {F G:Nat→Prop} (h:RunOk w p base v r F) (hG:∀b,G b→F b):RunOk w p base v r G:=by
 obtain ⟨a1,a2,a3,a4,a5,a6,hM,hF⟩:=h
 exact ⟨_,_,_,_,_,_,hM,fun q hq=>hF q (hG q hq)⟩
theorem RunOk.add {w W:World} {p base:Nat} {v:Env} {r:Rst} {F:Nat→Prop} (h:RunOk w p base v r F) (hb:Below w.heap.size w W) (hs:w.heap.size<W.heap.size):RunOk W p base v r (fun b=>b=w.heap.size∨F b):=by
 obtain ⟨a1,a2,a3,a4,a5,a6,hM,hF⟩:=h
 refine ⟨_,_,_,_,_,_,hM.ext hb,fun q hq=> ?_⟩
 rcases hq with rfl|hq
 ·exact ⟨hs,fun e=>by have:=hM.lt;omega,fun e=>Nat.lt_irrefl _ (World.ownsRow.lt hM.cel _ e).2,fun e=>Nat.lt_irrefl _ (World.ownsRow.lt hM.eff _ e).2⟩
 ·exact hF.size hb.size q hq
theorem RunOk.bw {w:World} {p base:Nat} {v:Env} {r:Rst} {F:Nat→Prop} (h:RunOk w p base v r F):base≤w.heap.size:=by
 obtain ⟨a1,a2,a3,a4,a5,a6,hM,hF⟩:=h
 exact hM.bw
theorem Keep.tr {F:Nat→Prop} {a b c:World} (h:Keep F a b) (k:Keep F b c) (hs:a.heap.size≤b.heap.size):Keep F a c:=fun q hq hf=>(k q (Nat.lt_of_lt_of_le hq hs) hf).trans (h q hq hf)
theorem jI {w:World} {b o:Nat} {y:SmV} (hc:∀i u,(bM y)[i]? =some u→w.cell? ⟨b,o+i,none⟩=some u):(loadVar 246 ⟨b,o,none⟩).run Tryz.prog w= .ok (.agg #[.int .i64 y.kind,.string y.name,.int .i64 y.slot,.int .i64 y.size,.int .i64 y.p.op,.int .i64 y.p.val,.string y.p.name,.int .i64 y.p.slot,.int .i64 y.p.size,.slice y.p.A y.p.n y.p.c,.int .i64 y.v.op,.int .i64 y.v.val,.string y.v.name,.int .i64 y.v.slot,.int .i64 y.v.size,.slice y.v.A y.v.n y.v.c,.slice y.A y.n y.c,.slice y.B y.m y.d]) w:=by
 have:=run_loadVar_mid (P:=Tryz.prog) w b o 246 (bM y) _ (fun j v hv=>hc j v hv) Tryz.underlying246 rfl (by kernel_rfl)
 exact this
set_option maxHeartbeats 8000000 in
theorem BR (n:Nat) (ih:∀k,k<n→wD k):wD n:=by
 intro w p base v r F A m c ts hR hv hL hrs
 have HL:=Lib.hid hL.len.1
 have hlc:=hL.len.2
 have HRS:=Lib.hid hrs
 have HIH:=Lib.hid ih
 clear hrs ih
 go_enter Tryz.func198,Tryz.ntmps198
 go_wp2
 go_loopg [5] (m+1) (fun gk i wr=>∃(k:Nat) (r1:Rst),i= .int .i64 (k:Int)∧k≤m∧m+1≤k+gk∧RowKit.Hid (∀r' ok,RunL v (ts.drop k) r1 r' ok→RunL v ts r r' ok)∧RunOk wr p base v r1 F∧Below base w wr∧Keep F w wr)
 case atStart=>exact ⟨0,r,rfl,by omega,by omega,Lib.hid (fun r' ok h=>by simpa using h),hR,Below.refl _ _,fun _ _ _=>rfl⟩
 case round=>
  obtain ⟨k,r1,rfl,hk,hgk,hup,hR1,hb,hkp⟩:=hrel
  by_cases hlt:k<m
  ·obtain ⟨ba,oa,x,t,rfl,hSb,hba,ht,hok,hcx⟩:=hL.at_ cS (j:=k) hlt (by omega)
   have hSb' :ba<base:=hSb
   cases n with
   |zero=>exact hok.elim
   |succ n=>
    have hrt:=HRS.out t (List.mem_of_getElem? ht)
    obtain ⟨kind,name,slot,size,place,value,body,els⟩:=t
    obtain ⟨rfl,rfl,rfl,rfl,hpl,hvl,hbd,hel⟩:=hok
    obtain ⟨hkd,hsl,hsz,rpl,rvl,rbd,rel_⟩:=hrt
    have hdr:ts.drop k= .mk x.kind x.name x.slot x.size place value body els::ts.drop (k+1):=by
     obtain ⟨h1,h2⟩:=List.getElem?_eq_some_iff.1 ht
     rw [List.drop_eq_getElem_cons h1,h2]
    have HUP:=Lib.hid (fun r' ok h=>hup.out r' ok (by rw [hdr];exact h))
    have HC:=Lib.hid (fun i u h=>(hb.cell (p:=⟨ba,oa+k*18+i,none⟩) hSb').trans (hcx i u h))
    obtain ⟨W,hW,bW,kW,SW,R0⟩:=bP wr wr #[.int .i64 x.kind,.string x.name,.int .i64 x.slot,.int .i64 x.size,.int .i64 x.p.op,.int .i64 x.p.val,.string x.p.name,.int .i64 x.p.slot,.int .i64 x.p.size,.slice x.p.A x.p.n x.p.c,.int .i64 x.v.op,.int .i64 x.v.val,.string x.v.name,.int .i64 x.v.slot,.int .i64 x.v.size,.slice x.v.A x.v.n x.v.c,.slice x.A x.n x.c,.slice x.B x.m x.d] 246 (Below.refl _ _)
    obtain ⟨bx,hbx⟩:∃b,b=wr.heap.size:=⟨_,rfl⟩
    rw [←hbx] at R0
    have HBX:=Lib.hid hbx
    have hbxW:bx<W.heap.size:=by have:=SW.out;omega
    have hsw:=hb.size
    have hbase:=hR1.bw
    have hR1W:RunOk W p base v r1 (fun b=>b=bx∨F b):=by rw [HBX.out];exact hR1.add bW (by have:=SW.out;omega)
    have hbW:Below base w W:=hb.trans (bW.mono hbase)
    have hkW:Keep F w W:=hkp.tr (Keep.of_below bW) hsw
    have hWs:w.heap.size≤W.heap.size:=hbW.size
    have cfin:∀(w' :World) (r' :Rst),RunOk w' p base v r' (fun b=>b=bx∨F b)→Below base W w'→Keep (fun b=>b=bx∨F b) W w'→RunOk w' p base v r' F∧Below base w w'∧Keep F w w' :=fun w' r' h1 h2 h3=>⟨h1.weak (fun b hb=>Or.inr hb),hbW.trans h2,hkW.tr (fun q hq hf=>h3 q hq (Or.inr hf)) hWs⟩
    have HFIN:=Lib.hid cfin
    have RROW:=Lib.hid (fun (w' :World) (h3:Keep (fun b=>b=bx∨F b) W w')=>(h3 bx hbxW (Or.inl rfl)).trans R0.out)
    clear cfin
    have q0:W.cell? ⟨bx,0,none⟩=some (.int .i64 x.kind):=aA R0.out 0 _ rfl
    have KB:=Lib.hid (fun w' (h:Below base w w')=>nC h)
    have HPL:=Lib.hid hpl
    have HVL:=Lib.hid hvl
    have HBD:=Lib.hid hbd
    have HEL:=Lib.hid hel
    have hklt:k+1≤m:=by omega
    clear hbx hup hdr hcx hpl hvl hbd hel ht hR1 hL
    go_upto_region 5 with (first|(refine aD (t:=246) (A:=⟨ba,oa+k*18,none⟩) rfl rfl rfl (jI HC.out) ?_)|(refine aF rfl 246 _ _ rfl 246 _ #[.int .i64 x.kind,.string x.name,.int .i64 x.slot,.int .i64 x.size,.int .i64 x.p.op,.int .i64 x.p.val,.string x.p.name,.int .i64 x.p.slot,.int .i64 x.p.size,.slice x.p.A x.p.n x.p.c,.int .i64 x.v.op,.int .i64 x.v.val,.string x.v.name,.int .i64 x.v.slot,.int .i64 x.v.size,.slice x.v.A x.v.n x.v.c,.slice x.A x.n x.c,.slice x.B x.m x.d] rfl rfl (by kernel_rfl) rfl (by simp [Value.oneCell']) ?_))
    rw [←hW,←HBX.out]
    clear hW
    try simp only [Act.put]
    by_cases k4:x.kind=4
    ·have d4:(x.kind==4)=true:=by simpa using k4
     rw [k4] at HUP
     clear k4
     obtain ⟨g0,hg0⟩:∃g0,g0=gk:=⟨_,rfl⟩
     rw [←hg0] at hgk
     have HG0:=Lib.hid hg0
     clear hg0
     have hWW:=Below.refl base W
     go_wp2_with fail
     go_loopg [] 401 (fun gk wr2=>∃(r2:Rst),RowKit.Hid (∀r' ok,RunL v (.mk 4 x.name x.slot x.size place value body els::ts.drop (k+1)) r2 r' ok→RunL v ts r r' ok)∧RunOk wr2 p base v r2 (fun b=>b=bx∨F b)∧Below base W wr2∧Keep (fun b=>b=bx∨F b) W wr2∧401≤r2.used+gk)
     case atStart=>exact ⟨r1,HUP,hR1W,hWW,fun _ _ _=>rfl,by omega⟩
     case round=>
      obtain ⟨r2,hup2,hR2,hb2,hk2,hgk2⟩:=hrel
      have hsW:=hb2.size
      by_cases hu:r2.used<400
      ·go_wp2_with fail
       refine (xJ wr p base v r2 _ hR2 hu).mono ?_
       rintro e w3 ⟨rfl,hR3,hb3,hk3⟩
       have hk3' :=hk2.tr hk3 hsW
       have hb3' :=hb2.trans hb3
       have R3:=Lib.hid (RROW.out w3 hk3')
       have hvl3:=ExOk.keep (KB.out w3 (hbW.trans hb3')) _ _ _ HVL.out
       have Hval:=Lib.hid (kC w3 p base v r2.pay _ hR3 x.v value _ hvl3 rvl hv)
       have hs3:=hb3.size
       have hbw3:=hR3.bw
       go_wp2_with (refine aD (t:=244) (A:=⟨bx,10,none⟩) rfl rfl rfl (cK (y:=x.v) R3.out rfl) ?_)
       refine Hval.out.mono ?_
       rintro e w4 ⟨rfl,hb4⟩
       obtain ⟨z,hz⟩:∃z,z=ev3 r2.pay v value:=⟨_,rfl⟩
       rw [←hz]
       have HZ:=Lib.hid hz
       clear hz
       have hR4:=hR3.ext hb4
       have hb4' :Below base W w4:=hb3'.trans (hb4.mono hbw3)
       have hk4:Keep (fun b=>b=bx∨F b) W w4:=hk3'.tr (Keep.of_below hb4) (Nat.le_trans hsW hs3)
       have hs4:=hb4.size
       by_cases hz0:z=0
       ·have dz:(z==0)=true:=by simpa using hz0
        have HU5:=Lib.hid (fun r' ok h=>hup2.out r' ok (.stop hu (by rw [←HZ.out];exact hz0) h))
        obtain ⟨f1,f2,f3⟩:=HFIN.out w4 _ hR4 hb4' hk4
        clear hz0
        go_wp2
        go_roundg (g0-1)
        case rel=>exact ⟨k+1,_,by go_num,by omega,by omega,HU5,f1,f2,f3⟩
        case measure=>have:=HG0.out;omega
       ·have dz:(z==0)=false:=by simpa using hz0
        have R4:=Lib.hid (RROW.out w4 hk4)
        have q16:w4.cell? ⟨bx,16,none⟩=some (.slice x.A x.n x.c):=aA R4.out 16 _ rfl
        have hlb4:=HBD.out.keep (KB.out w4 (hbW.trans hb4')) (fun y u h=>SmOk.keep (KB.out w4 (hbW.trans hb4')) n y u h)
        have HL4:=Lib.hid (HIH.out n (by omega) w4 p base v r2.pay _ x.A x.n x.c body hR4 hv hlb4 rbd)
        have HUg:=Lib.hid (fun (q:Rst) (hq:RunL v body r2.pay q true) (r' :Rst) (ok:Bool) (h:RunL v (.mk 4 x.name x.slot x.size place value body els::ts.drop (k+1)) q r' ok)=>hup2.out r' ok (.go hu (by rw [←HZ.out];exact hz0) hq h))
        have HUf:=Lib.hid (fun (q:Rst) (hq:RunL v body r2.pay q false)=>hup2.out q false (.goF hu (by rw [←HZ.out];exact hz0) hq))
        clear hz0 hlb4
        go_wp2_with fail
        refine HL4.out.mono ?_
        rintro e w5 ⟨r5,ok,rfl,hrun,hR5,hb5,hk5⟩
        have hus:=hrun.keeps.used
        have hus2:r2.pay.used=r2.used+1:=rfl
        have hus3:r2.used+1≤r5.used:=by omega
        cases ok with
        |true=>
         have HU5:=Lib.hid (HUg.out r5 hrun)
         clear hus hus2
         go_wp2
         go_roundg (gk-1)
         case rel=>exact ⟨r5,HU5,hR5,hb4'.trans hb5,hk4.tr hk5 (by omega),by omega⟩
         case measure=>omega
        |false=>
         have HU5:=Lib.hid (HUf.out r5 hrun)
         obtain ⟨f1,f2,f3⟩:=HFIN.out w5 _ hR5 (hb4'.trans hb5) (hk4.tr hk5 (by omega))
         go_wp2
         go_ret
         exact ⟨r5,false,rfl,HU5.out,f1,f2,f3⟩
      ·have hrun:=Lib.hid (hup2.out r2 false (.out (by omega)))
       obtain ⟨f1,f2,f3⟩:=HFIN.out wr _ hR2 hb2 hk2
       go_wp2_with fail
       refine (AW wr p base v r2 _ hR2 (by omega)).mono ?_
       rintro e w3 ⟨rfl,rfl⟩
       go_wp2
       go_ret
       exact ⟨r2,false,rfl,hrun.out,f1,f2,f3⟩
    ·have d4:(x.kind==4)=false:=by simpa using k4
     by_cases hu:r1.used<400
     ·go_upto_region 11 with fail
      go_wp2_with fail
      refine (xJ W p base v r1 _ hR1W hu).mono ?_
      rintro e w2 ⟨rfl,hR2,hb2,hk2⟩
      have R2:=Lib.hid (RROW.out w2 hk2)
      have q2:w2.cell? ⟨bx,0,none⟩=some (.int .i64 x.kind):=aA R2.out 0 _ rfl
      have hpl2:=ExOk.keep (KB.out w2 (hbW.trans hb2)) _ _ _ HPL.out
      have hvl2:=ExOk.keep (KB.out w2 (hbW.trans hb2)) _ _ _ HVL.out
      have hs2:=hb2.size
      clear q0
      by_cases k3:x.kind=3
      ·have d3:(x.kind != 3)=false:=by simpa using k3
       rw [k3] at HUP
       clear k3 k4
       have hlb:=HBD.out.keep (KB.out w2 (hbW.trans hb2)) (fun y u h=>SmOk.keep (KB.out w2 (hbW.trans hb2)) n y u h)
       have hle:=HEL.out.keep (KB.out w2 (hbW.trans hb2)) (fun y u h=>SmOk.keep (KB.out w2 (hbW.trans hb2)) n y u h)
       have HLB:=Lib.hid hlb
       have HLE:=Lib.hid hle
       clear hlb hle
       have q16:w2.cell? ⟨bx,16,none⟩=some (.slice x.A x.n x.c):=aA R2.out 16 _ rfl
       have q17:w2.cell? ⟨bx,17,none⟩=some (.slice x.B x.m x.d):=aA R2.out 17 _ rfl
       have Hval:=Lib.hid (kC w2 p base v r1.pay _ hR2 x.v value _ hvl2 rvl hv)
       have hbw2:=hR2.bw
       go_upto_region 16 with fail
       go_wp2_with (refine aD (t:=244) (A:=⟨bx,10,none⟩) rfl rfl rfl (cK (y:=x.v) R2.out rfl) ?_)
       refine Hval.out.mono ?_
       rintro e w3 ⟨rfl,hb3⟩
       obtain ⟨z,hz⟩:∃z,z=ev3 r1.pay v value:=⟨_,rfl⟩
       rw [←hz]
       have HZ:=Lib.hid hz
       clear hz
       have hR3:=hR2.ext hb3
       have hb3' :Below base w2 w3:=hb3.mono hbw2
       have hk3:Keep (fun b=>b=bx∨F b) W w3:=hk2.tr (Keep.of_below hb3) hs2
       have R3:=Lib.hid (RROW.out w3 hk3)
       have q16' :w3.cell? ⟨bx,16,none⟩=some (.slice x.A x.n x.c):=aA R3.out 16 _ rfl
       have hs3:=hb3.size
       by_cases hz0:z=0
       ·have dz:(z != 0)=false:=by simpa using hz0
        have HL3:=Lib.hid (HIH.out n (by omega) w3 p base v r1.pay _ x.B x.m x.d els hR3 hv (HLE.out.keep (nC hb3') (fun y u h=>SmOk.keep (nC hb3') n y u h)) rel_)
        have HUPc:=Lib.hid (fun (q:Rst) (hq:RunL v els r1.pay q true) (r' :Rst) (ok:Bool) (h:RunL v (ts.drop (k+1)) q r' ok)=>HUP.out r' ok (.cond hu (by rw [←HZ.out,if_neg (by simp [hz0])];exact hq) h))
        have HUPf:=Lib.hid (fun (q:Rst) (hq:RunL v els r1.pay q false)=>HUP.out q false (.condF hu (by rw [←HZ.out,if_neg (by simp [hz0])];exact hq)))
        exact Tzbc
       ·have dz:(z != 0)=true:=by simpa using hz0
        have HL3:=Lib.hid (HIH.out n (by omega) w3 p base v r1.pay _ x.A x.n x.c body hR3 hv (HLB.out.keep (nC hb3') (fun y u h=>SmOk.keep (nC hb3') n y u h)) rbd)
        have HUPc:=Lib.hid (fun (q:Rst) (hq:RunL v body r1.pay q true) (r' :Rst) (ok:Bool) (h:RunL v (ts.drop (k+1)) q r' ok)=>HUP.out r' ok (.cond hu (by rw [←HZ.out,if_pos hz0];exact hq) h))
        have HUPf:=Lib.hid (fun (q:Rst) (hq:RunL v body r1.pay q false)=>HUP.out q false (.condF hu (by rw [←HZ.out,if_pos hz0];exact hq)))
        exact Tzbc
      ·have d3:(x.kind != 3)=true:=by simpa using k3
       have hsim:=yF w2 p base v r1.pay _ hR2 hv x place value body els (by omega) hsl hsz _ hpl2 hvl2 rpl rvl
       have Hsim:=Lib.hid hsim
       have HUP2:=Lib.hid (fun r' ok h=>HUP.out r' ok (.sim k4 k3 hu h))
       clear hsim k3 k4
       go_upto_region 14 with fail
       go_wp2_with (refine aD (t:=246) (A:=⟨bx,0,none⟩) rfl rfl rfl (aB R2.out Tryz.underlying246 rfl (by kernel_rfl)) ?_)
       refine Hsim.out.mono ?_
       rintro e w3 ⟨rfl,hR3,hb3,hk3⟩
       obtain ⟨f1,f2,f3⟩:=HFIN.out w3 _ hR3 (hb2.trans hb3) (hk2.tr hk3 hs2)
       go_wp2
       go_roundg (gk-1)
       case rel=>exact ⟨k+1,_,by go_num,by omega,by omega,HUP2,f1,f2,f3⟩
       case measure=>omega
     ·have hrun:=Lib.hid (HUP.out r1 false (.out (by omega)))
      obtain ⟨f1,f2,f3⟩:=HFIN.out W _ hR1W (Below.refl _ _) (fun _ _ _=>rfl)
      go_upto_region 11 with fail
      go_wp2_with fail
      refine (AW W p base v r1 _ hR1W (by omega)).mono ?_
      rintro e w2 ⟨rfl,rfl⟩
      go_wp2
      go_ret
      exact ⟨r1,false,rfl,hrun.out,f1,f2,f3⟩
  ·obtain rfl:k=m:=by omega
   have hdr:ts.drop k=[]:=List.drop_eq_nil_of_le (by have:=HL.out;omega)
   have hrun:=Lib.hid (hup.out r1 true (by rw [hdr];exact RunL.nil r1))
   clear hdr
   go_wp2
   go_ret
   exact ⟨r1,true,rfl,hrun.out,hR1,hb,hkp⟩
theorem FH (n:Nat):wD n:=by
 induction n using Nat.strongRecOn with
 |_ n ih=>exact BR n ih
end Go.Proofs.YtiblijmngokcgaaGreatDoor
