import Derived.Test.YtiblijmngokcgaaGreatDoorMacZs
import Derived.Test.YtiblijmngokcgaaGreatDoorCs16Zs
import Derived.Test.YtiblijmngokcgaaGreatDoorCs13Zs
import Derived.Test.YtiblijmngokcgaaGreatDoorCs7Zs
namespace Go.Proofs.YtiblijmngokcgaaGreatDoor
open Go.RowKit
set_option maxRecDepth 100000
set_option linter.unusedVariables false
set_option linter.unusedSimpArgs false
def lT (x:Nat×Nat):List Value:=[.int .i64 (x.1:Int),.int .i64 (x.2:Int)]
theorem tI (x:Nat×Nat):(lT x).length=2:=rfl
theorem CT (x:Nat×Nat):∀u∈lT x,u.oneCell' =true:=by
 intro u hu
 simp only [lT,List.mem_cons,List.not_mem_nil,or_false] at hu
 rcases hu with rfl|rfl<;>rfl
theorem LG:(Tryz.prog.info? 118).map (fun i=>(i.zero,i.size,i.bytes))=some (some (.agg #[.int .i64 0,.int .i64 0]),2,16):=by kernel_rfl
theorem EK {fs:List Fil} {i e:Nat} (h:ldC fs (i:Int)= .error e):fD fs (i+1)=fD fs i:=by simp [fD,EL,h]
theorem IT {fs:List Fil} {i:Nat} {s:Stt} (h:ldC fs (i:Int)= .ok s):fD fs (i+1)=fD fs i++ [(i,s.evs.length)]:=by simp [fD,EL,h]
set_option maxHeartbeats 4000000 in
theorem DC (A:Option Addr) (n c:Nat) (fs:List Fil) (S:Nat→Prop) (w:World) (hD:Dsk S w (.slice A n c) fs) (hn:n≤1000) (hf:iY fs):
 Calls Tryz.prog 38 #[.agg #[.slice A n c]] w fun e w' =>∃A' k c',e= .returned (.slice A' k c')∧k≤n∧OwnR lT 2 w' w.heap.size 118 (.slice A' k c') (fD fs n)∧Below w.heap.size w w' :=by
 have HF:=Lib.hid hf
 have HLEN:=Lib.hid hD.len.1
 obtain ⟨W,hW,bW,kW,SW,R0⟩:=bP w w #[.slice A n c] 36 (Below.refl _ _)
 have sW:w.heap.size<W.heap.size:=by have:=SW.out;omega
 have q0:W.cell? ⟨w.heap.size,0,none⟩=some (.slice A n c):=aA R0.out 0 _ rfl
 have hDW:=hD.ext kW
 clear hD hf
 go_enter Tryz.func38,Tryz.ntmps38
 go_upto_region 1 with fail
 rw [←hW]
 clear hW
 go_wp2
 go_loopw [3,10] (fun v i wr=>∃(iv k:Nat) (B:Option Addr) (d:Nat),i= .int .i64 iv∧iv≤n∧v= .slice B k d∧k≤iv∧OwnR lT 2 wr W.heap.size 118 (.slice B k d) (fD fs iv)∧Below W.heap.size W wr) (fun _ i _=>n-(intOf i).toNat)
 case atStart=>exact ⟨0,0,none,0,rfl,by omega,rfl,by omega,OwnR.nil_ _ _ _,Below.refl _ _⟩
 case round=>
  obtain ⟨iv,k,B,d,rfl,hiv,rfl,hk,hO,hbr⟩:=hrel
  have szr:=hbr.size
  by_cases hlt:iv<n
  ·have HLD:=Lib.hid ((kY fs HF.out _ _ _ (uY fs (iv:Int)) (by have:=HLEN.out;omega)).2 A n c _ wr (hDW.ext hbr) hn)
   have RDr:=Lib.hid ((hbr.block w.heap.size (by omega)).trans R0.out)
   go_wp2_with (refine aD (t:=36) (A:=⟨w.heap.size,0,none⟩) rfl rfl rfl (aB RDr.out Tryz.underlying36 rfl (by kernel_rfl)) ?_)
   refine HLD.out.mono ?_
   rintro e wa ⟨hld,ba⟩
   have sza:=ba.size
   cases hr:ldC fs (iv:Int) with
   |error e0=>
    rw [hr] at hld
    unfold LdO at hld
    dsimp only at hld
    obtain ⟨he0,rfl⟩:=hld
    have dx:((e0:Int)==0)=false:=by simpa using he0
    have HP:=Lib.hid (EK hr)
    clear hr he0
    obtain ⟨Wb,hWb,_,kg,Sg,Rg⟩:=bP wa wa #[.slice none 0 0,.slice none 0 0,.slice none 0 0,.slice none 0 0] 51 (Below.refl _ _)
    obtain ⟨bg,hbg⟩:∃b,b=wa.heap.size:=⟨_,rfl⟩
    rw [←hbg] at Rg
    have HBg:=Lib.hid hbg
    have lg:bg<Wb.heap.size:=by have:=Sg.out;omega
    go_upto_region 6 with (refine aF rfl 51 _ _ rfl 51 _ _ rfl rfl (by kernel_rfl) rfl (by simp [Value.oneCell']) ?_)
    try dsimp only
    rw [←hWb,←HBg.out]
    clear hWb
    try simp only [Act.put]
    have y:=Below.ext ba kg
    go_wp2
    go_roundw
    case rel=>exact ⟨iv+1,k,B,d,by go_num,by omega,rfl,by omega,by rw [HP.out];exact hO.ext y,Below.ext hbr y⟩
    case measure=>simp [intOf];omega
   |ok s=>
    rw [hr] at hld
    unfold LdO at hld
    dsimp only at hld
    obtain ⟨E1,p1,q1,E2,p2,q2,E3,p3,q3,E4,p4,q4,rfl,hU⟩:=hld
    have hl2:=hU.2.len.1
    have hlb:=((kY fs HF.out _ _ _ (uY fs (iv:Int)) (by have:=HLEN.out;omega)).1 s hr).2.1
    have HP:=Lib.hid (show fD fs (iv+1)=fD fs iv++ [(iv,p2)] by rw [IT hr,hl2])
    rw [hl2] at hlb
    clear hr hU hl2
    obtain ⟨Wb,hWb,_,kg,Sg,Rg⟩:=bP wa wa #[.slice E1 p1 q1,.slice E2 p2 q2,.slice E3 p3 q3,.slice E4 p4 q4] 51 (Below.refl _ _)
    obtain ⟨bg,hbg⟩:∃b,b=wa.heap.size:=⟨_,rfl⟩
    rw [←hbg] at Rg
    have HBg:=Lib.hid hbg
    have lg:bg<Wb.heap.size:=by have:=Sg.out;omega
    have qg:Wb.cell? ⟨bg,1,none⟩=some (.slice E2 p2 q2):=aA Rg.out 1 _ rfl
    have y:=Below.ext ba kg
    have sy:=y.size
    have hl:=hO.len.1
    have hO2:=(hO.ext y).ext ((Below.refl _ Wb).alloc (Nat.le_refl _) (.cells #[.int .i64 (iv:Int),.int .i64 (p2:Int)] 118))
    have hone:Recs lT (fun _=>True) (Wb.alloc (.cells #[.int .i64 (iv:Int),.int .i64 (p2:Int)] 118)) (.slice (some ⟨Wb.heap.size,0,none⟩) 1 1) [(iv,p2)]:=⟨_,1,rfl,by simp,by simp [maxLen],Cs.lit _ _ _ _ _ trivial rfl⟩
    clear hbg
    go_upto_region 6 with (refine aF rfl 51 _ _ rfl 51 _ _ rfl rfl (by kernel_rfl) rfl (by simp [Value.oneCell']) ?_)
    try dsimp only
    rw [←hWb,←HBg.out]
    clear hWb
    try simp only [Act.put]
    go_wp2_with (refine aV (o:=⟨some 28,_,_,_,_,_⟩) tI CT (.agg #[.int .i64 0,.int .i64 0]) 16 _ _ 73 118 W.heap.size (fD fs iv) [(iv,p2)] (some ⟨Wb.heap.size,0,none⟩) 1 1 (.slice B k d) (k+1) rfl rfl Tryz.underlying73 LG rfl (by omega) rfl rfl hO2 hone (by rw [hl]) (by omega) (by omega) (by simp;omega) ?_;intro A5 c5 w5 hown5 hgr5 hat5 hc51 hc52)
    have b5:Below W.heap.size W w5:=((Below.ext hbr y).alloc (by omega) _).grown hgr5 (by simp;omega) (fun o e=>(World.ownsRow.lt hO2 o e).1)
    go_roundw
    case rel=>exact ⟨iv+1,k+1,A5,c5,by go_num,by omega,rfl,by omega,by rw [HP.out];exact hown5,b5⟩
    case measure=>simp [intOf];omega
  ·obtain rfl:iv=n:=by omega
   go_wp2
   go_ret
   exact ⟨_,_,_,rfl,hk,hO.weak (by omega),Below.ext kW hbr⟩
theorem DE (most:Int) (l:List (Nat×Nat)) (j:Nat) (p:Nat×Nat) (h:l[j]? =some p):(l.take (j+1)).foldl (dT most) none=dT most ((l.take j).foldl (dT most) none) p:=by
 rw [List.take_add_one,h,List.foldl_append]
 rfl
set_option maxHeartbeats 4000000 in
theorem NC (A:Option Addr) (n c:Nat) (fs:List Fil) (S:Nat→Prop) (w:World) (hD:Dsk S w (.slice A n c) fs) (hn:n≤1000) (hf:iY fs) (most:Int):
 Calls Tryz.prog 31 #[.agg #[.slice A n c],.int .i64 most] w fun e w' =>e= .returned (.tuple #[.int .i64 (((vZ most (fD fs n)).getD (0,0)).1:Int),.bool (vZ most (fD fs n)).isSome])∧Below w.heap.size w w' :=by
 obtain ⟨W,hW,hbW,SW,R0,R1⟩:∃W,W=(w.alloc (.cells #[.slice A n c] 36)).alloc (.cells #[.int .i64 0,.int .i64 0] 118)∧Below w.heap.size w W∧RowKit.Hid (W.heap.size=w.heap.size+2)∧
  RowKit.Hid (W.heap[w.heap.size]? =some (.cells #[.slice A n c] 36 (0,0)))∧RowKit.Hid (W.heap[w.heap.size+1]? =some (.cells #[.int .i64 0,.int .i64 0] 118 (0,0))):=by
  refine ⟨_,rfl,((Below.refl _ w).alloc (Nat.le_refl _) _).alloc (by simp) _,Lib.hid (by simp),Lib.hid ?_,Lib.hid ?_⟩
  ·exact Tzar
  ·have:=heap_alloc_new (w.alloc (.cells #[.slice A n c] 36)) (.cells #[.int .i64 0,.int .i64 0] 118)
   rw [World.size_alloc] at this
   exact this
 have sW:w.heap.size+1<W.heap.size:=by have:=SW.out;omega
 have HL:=Lib.hid (DC A n c fs _ W (hD.ext hbW) hn hf)
 clear hD hf
 go_enter Tryz.func31,Tryz.ntmps31
 go_upto_region 2 with (refine aF rfl 118 _ _ rfl 118 _ _ rfl rfl (by kernel_rfl) rfl (by simp [Value.oneCell']) ?_)
 try dsimp only
 rw [←hW]
 clear hW
 go_wp2_with (refine aD (t:=36) (A:=⟨w.heap.size,0,none⟩) rfl rfl rfl (aB R0.out Tryz.underlying36 rfl (by kernel_rfl)) ?_)
 refine HL.out.mono ?_
 rintro e w1 ⟨B,k,d,rfl,hk,hO,hb1⟩
 have s1:=hb1.size
 have hRec:=hO.recs.mono (S' :=fun b=>b≠w.heap.size+1) (fun b _ h=>by have h2:W.heap.size≤b:=h.1;omega)
 have HK:=Lib.hid hO.len.1
 have R11:=Lib.hid ((hb1.block (w.heap.size+1) sW).trans R1.out)
 clear hO
 go_wp2
 go_loopw [7,14] (fun v i wr=>∃(j:Nat) (o:Option (Nat×Nat)),i= .int .i64 j∧j≤k∧v= .bool o.isSome∧RowKit.Hid (o=((fD fs n).take j).foldl (dT most) none)∧RowKit.Hid (wr.heap[w.heap.size+1]? =some (.cells #[.int .i64 ((o.getD (0,0)).1:Int),.int .i64 ((o.getD (0,0)).2:Int)] 118 (0,0)))∧w1.grownBy wr (some (w.heap.size+1))) (fun _ i _=>k-(intOf i).toNat)
 case atStart=>exact ⟨0,none,rfl,by omega,rfl,Lib.hid rfl,R11,pQ _ _⟩
 case round=>
  obtain ⟨j,o,rfl,hj,rfl,HO,RB0,hgr⟩:=hrel
  have szr:w1.heap.size≤wr.heap.size:=hgr.size
  by_cases hlt:j<k
  ·obtain ⟨b,off,⟨a,x⟩,rfl,_,hb,hx,hc⟩:=(hRec.keep (Keep.of_grown hgr)).at_ tI (j:=j) (by have:=HK.out;omega) (by omega)
   have hld:(loadVar 118 ⟨b,off+j*2,none⟩).run Tryz.prog wr= .ok (.agg #[.int .i64 (a:Int),.int .i64 (x:Int)]) wr:=by
    have:=run_loadVar_mid (P:=Tryz.prog) wr b (off+j*2) 118 (lT (a,x)) _ (fun i u hu=>hc i u hu) Tryz.underlying118 rfl (by kernel_rfl)
    simpa [lT] using this
   have HLD:=Lib.hid hld
   have hstep:=DE most _ j _ hx
   rw [←HO.out] at hstep
   clear hx hc hld
   obtain ⟨Wb,hWb,_,kg,Sg,Rg⟩:=bP wr wr #[.int .i64 (a:Int),.int .i64 (x:Int)] 118 (Below.refl _ _)
   obtain ⟨bg,hbg⟩:∃b,b=wr.heap.size:=⟨_,rfl⟩
   rw [←hbg] at Rg
   have HBg:=Lib.hid hbg
   have lg:bg<Wb.heap.size:=by have:=Sg.out;omega
   have RB:=Lib.hid ((kg.block (w.heap.size+1) (by omega)).trans RB0.out)
   have qa:Wb.cell? ⟨bg,1,none⟩=some (.int .i64 (x:Int)):=aA Rg.out 1 _ rfl
   have qb:Wb.cell? ⟨w.heap.size+1,1,none⟩=some (.int .i64 ((o.getD (0,0)).2:Int)):=aA RB.out 1 _ rfl
   have gb:w1.grownBy Wb (some (w.heap.size+1)):=aH hgr (aQ kg _)
   clear hbg hgr
   have stay:RowKit.Hid (dT most o (a,x)=o)→RowKit.Hid (o=((fD fs n).take (j+1)).foldl (dT most) none):=fun h=>Lib.hid (by rw [hstep,h.out])
   have take_:RowKit.Hid (dT most o (a,x)=some (a,x))→RowKit.Hid (some (a,x)=((fD fs n).take (j+1)).foldl (dT most) none):=fun h=>Lib.hid (by rw [hstep,h.out])
   have STAY:=Lib.hid stay
   have TAKE:=Lib.hid take_
   have RT:=Lib.hid (show (Wb.setRow (w.heap.size+1) #[.int .i64 (a:Int),.int .i64 (x:Int)]).heap[w.heap.size+1]? =some (.cells #[.int .i64 (a:Int),.int .i64 (x:Int)] 118 (0,0)) from setRow_heap _ _ _ _ _ _ RB.out)
   have GT:w1.grownBy (Wb.setRow (w.heap.size+1) #[.int .i64 (a:Int),.int .i64 (x:Int)]) (some (w.heap.size+1)):=aH gb (aJ _ _ _)
   clear hstep stay take_
   by_cases h1:(x:Int)≤most
   ·have d1:decide ((x:Int)≤most)=true:=by simpa using h1
    cases o with
    |none=>
     have HN:=Lib.hid (show dT most none (a,x)=some (a,x) by simp [dT,h1])
     dsimp only [Option.isSome_none,Option.getD_none] at qb RB RB0 ⊢
     clear h1
     exact Tzbf
    |some q=>
     obtain ⟨q1,q2⟩:=q
     dsimp only [Option.isSome_some,Option.getD_some] at qb RB RB0 ⊢
     by_cases h2:q2<x
     ·have d2:decide (q2<x)=true:=by simpa using h2
      have HN:=Lib.hid (show dT most (some (q1,q2)) (a,x)=some (a,x) by simp [dT,h1,h2])
      clear h1 h2
      exact Tzbf
     ·have d2:decide (q2<x)=false:=by simpa using h2
      have HN:=Lib.hid (show dT most (some (q1,q2)) (a,x)=some (q1,q2) by simp [dT,h1,h2])
      clear h1 h2
      go_upto_region 5 with (first|(refine aD (t:=118) (A:=⟨b,off+j*2,none⟩) rfl rfl rfl HLD.out ?_)|(refine aF rfl 118 _ _ rfl 118 _ _ rfl rfl (by kernel_rfl) rfl (by simp [Value.oneCell']) ?_))
      try dsimp only
      rw [←hWb,←HBg.out]
      clear hWb
      try simp only [Act.put]
      go_wp2
      go_roundw
      case rel=>exact ⟨j+1,some (q1,q2),by go_num,by omega,rfl,STAY.out HN,RB,gb⟩
      case measure=>simp [intOf];omega
   ·have d1:decide ((x:Int)≤most)=false:=by simpa using h1
    have HN:=Lib.hid (show dT most o (a,x)=o by simp [dT,h1])
    clear h1
    go_upto_region 5 with (first|(refine aD (t:=118) (A:=⟨b,off+j*2,none⟩) rfl rfl rfl HLD.out ?_)|(refine aF rfl 118 _ _ rfl 118 _ _ rfl rfl (by kernel_rfl) rfl (by simp [Value.oneCell']) ?_))
    try dsimp only
    rw [←hWb,←HBg.out]
    clear hWb
    try simp only [Act.put]
    go_wp2
    go_roundw
    case rel=>exact ⟨j+1,o,by go_num,by omega,rfl,STAY.out HN,RB,gb⟩
    case measure=>simp [intOf];omega
  ·obtain rfl:j=k:=by omega
   have q0:wr.cell? ⟨w.heap.size+1,0,none⟩=some (.int .i64 ((o.getD (0,0)).1:Int)):=aA RB0.out 0 _ rfl
   have FIN:=Lib.hid (show vZ most (fD fs n)=o by
    have h:=HO.out
    rw [List.take_of_length_le (by have:=HK.out;omega)] at h
    exact h.symm)
   go_wp2
   rw [FIN.out]
   go_ret2
   exact ⟨rfl,hbW.grown (aH (aQ hb1 _) hgr) hbW.size (fun o e=>by cases e;omega)⟩
set_option maxHeartbeats 4000000 in
theorem ND (s:Stt) (A1:Option Addr) (n1 c1:Nat) (A2:Option Addr) (n2 c2:Nat) (A3:Option Addr) (n3 c3:Nat) (A4:Option Addr) (n4 c4:Nat) (B1:Option Addr) (m1 d1:Nat) (B2:Option Addr) (m2 d2:Nat) (B3:Option Addr) (m3 d3:Nat) (B4:Option Addr) (m4 d4:Nat) (S1 S2:Nat→Prop) (w:World) (h1:StM S1 w s A1 n1 c1 A2 n2 c2 A3 n3 c3 A4 n4 c4) (h2:StM S2 w s B1 m1 d1 B2 m2 d2 B3 m3 d3 B4 m4 d4):
 Calls Tryz.prog 37 #[.agg #[.slice A1 n1 c1,.slice A2 n2 c2,.slice A3 n3 c3,.slice A4 n4 c4],.agg #[.slice B1 m1 d1,.slice B2 m2 d2,.slice B3 m3 d3,.slice B4 m4 d4]] w fun e w' =>e= .returned (.bool true)∧Below w.heap.size w w' :=by
 obtain ⟨W,hW,hbW,SW,R0,R1⟩:∃W,W=(w.alloc (.cells #[.slice A1 n1 c1,.slice A2 n2 c2,.slice A3 n3 c3,.slice A4 n4 c4] 51)).alloc (.cells #[.slice B1 m1 d1,.slice B2 m2 d2,.slice B3 m3 d3,.slice B4 m4 d4] 51)∧Below w.heap.size w W∧RowKit.Hid (W.heap.size=w.heap.size+2)∧
  RowKit.Hid (W.heap[w.heap.size]? =some (.cells #[.slice A1 n1 c1,.slice A2 n2 c2,.slice A3 n3 c3,.slice A4 n4 c4] 51 (0,0)))∧RowKit.Hid (W.heap[w.heap.size+1]? =some (.cells #[.slice B1 m1 d1,.slice B2 m2 d2,.slice B3 m3 d3,.slice B4 m4 d4] 51 (0,0))):=by
  refine ⟨_,rfl,((Below.refl _ w).alloc (Nat.le_refl _) _).alloc (by simp) _,Lib.hid (by simp),Lib.hid ?_,Lib.hid ?_⟩
  ·exact Tzar
  ·exact Tzb0
 have sW:w.heap.size+1<W.heap.size:=by have:=SW.out;omega
 have k1:=h1.ext hbW
 have k2:=h2.ext hbW
 have H1:=Lib.hid (fun (w' :World) (hb:Below W.heap.size W w')=>(xV A1 B1 n1 c1 m1 d1 s.cells s.cells _ _ w' (k1.1.ext hb) (k2.1.ext hb)).mono (fun e w' h=>(⟨by rw [h.1];simp,h.2⟩:e= .returned (.bool true)∧Below _ _ _)))
 have H2:=Lib.hid (fun (w' :World) (hb:Below W.heap.size W w')=>(xW A2 B2 n2 c2 m2 d2 s.evs s.evs _ _ w' (k1.2.ext hb) (k2.2.ext hb)).mono (fun e w' h=>(⟨by rw [h.1];simp,h.2⟩:e= .returned (.bool true)∧Below _ _ _)))
 have H3:=Lib.hid (fun (w' :World) (hb:Below W.heap.size W w')=>(xT A3 B3 n3 c3 m3 d3 s.sent s.sent _ _ w' (k1.3.ext hb) (k2.3.ext hb)).mono (fun e w' h=>(⟨by rw [h.1];simp,h.2⟩:e= .returned (.bool true)∧Below _ _ _)))
 have H4:=Lib.hid (fun (w' :World) (hb:Below W.heap.size W w')=>(xU A4 B4 n4 c4 m4 d4 s.outs s.outs _ _ w' (k1.4.ext hb) (k2.4.ext hb)).mono (fun e w' h=>(⟨by rw [h.1];simp,h.2⟩:e= .returned (.bool true)∧Below _ _ _)))
 have x0:W.cell? ⟨w.heap.size,0,none⟩=some (.slice A1 n1 c1):=aA R0.out 0 _ rfl
 have y0:W.cell? ⟨w.heap.size+1,0,none⟩=some (.slice B1 m1 d1):=aA R1.out 0 _ rfl
 have x1:W.cell? ⟨w.heap.size,1,none⟩=some (.slice A2 n2 c2):=aA R0.out 1 _ rfl
 have y1:W.cell? ⟨w.heap.size+1,1,none⟩=some (.slice B2 m2 d2):=aA R1.out 1 _ rfl
 have x2:W.cell? ⟨w.heap.size,2,none⟩=some (.slice A3 n3 c3):=aA R0.out 2 _ rfl
 have y2:W.cell? ⟨w.heap.size+1,2,none⟩=some (.slice B3 m3 d3):=aA R1.out 2 _ rfl
 have x3:W.cell? ⟨w.heap.size,3,none⟩=some (.slice A4 n4 c4):=aA R0.out 3 _ rfl
 have y3:W.cell? ⟨w.heap.size+1,3,none⟩=some (.slice B4 m4 d4):=aA R1.out 3 _ rfl
 clear h1 h2 k1 k2
 go_enter Tryz.func37,Tryz.ntmps37
 go_upto_region 1 with fail
 rw [←hW]
 clear hW
 go_wp2_with fail
 refine (H1.out _ (Below.refl _ _)).mono ?_
 rintro e w1 ⟨rfl,g1⟩
 clear x0 y0 x1 y1 x2 y2 x3 y3
 have x0:w1.cell? ⟨w.heap.size,0,none⟩=some (.slice A1 n1 c1):=aA ((g1.block (w.heap.size) (by omega)).trans R0.out) 0 _ rfl
 have y0:w1.cell? ⟨w.heap.size+1,0,none⟩=some (.slice B1 m1 d1):=aA ((g1.block (w.heap.size+1) (by omega)).trans R1.out) 0 _ rfl
 have x1:w1.cell? ⟨w.heap.size,1,none⟩=some (.slice A2 n2 c2):=aA ((g1.block (w.heap.size) (by omega)).trans R0.out) 1 _ rfl
 have y1:w1.cell? ⟨w.heap.size+1,1,none⟩=some (.slice B2 m2 d2):=aA ((g1.block (w.heap.size+1) (by omega)).trans R1.out) 1 _ rfl
 have x2:w1.cell? ⟨w.heap.size,2,none⟩=some (.slice A3 n3 c3):=aA ((g1.block (w.heap.size) (by omega)).trans R0.out) 2 _ rfl
 have y2:w1.cell? ⟨w.heap.size+1,2,none⟩=some (.slice B3 m3 d3):=aA ((g1.block (w.heap.size+1) (by omega)).trans R1.out) 2 _ rfl
 have x3:w1.cell? ⟨w.heap.size,3,none⟩=some (.slice A4 n4 c4):=aA ((g1.block (w.heap.size) (by omega)).trans R0.out) 3 _ rfl
 have y3:w1.cell? ⟨w.heap.size+1,3,none⟩=some (.slice B4 m4 d4):=aA ((g1.block (w.heap.size+1) (by omega)).trans R1.out) 3 _ rfl
 go_wp2_with fail
 refine (H2.out _ g1).mono ?_
 rintro e w2 ⟨rfl,g2⟩
 have g2' :=Below.ext g1 g2
 clear x0 y0 x1 y1 x2 y2 x3 y3
 have x0:w2.cell? ⟨w.heap.size,0,none⟩=some (.slice A1 n1 c1):=aA ((g2'.block (w.heap.size) (by omega)).trans R0.out) 0 _ rfl
 have y0:w2.cell? ⟨w.heap.size+1,0,none⟩=some (.slice B1 m1 d1):=aA ((g2'.block (w.heap.size+1) (by omega)).trans R1.out) 0 _ rfl
 have x1:w2.cell? ⟨w.heap.size,1,none⟩=some (.slice A2 n2 c2):=aA ((g2'.block (w.heap.size) (by omega)).trans R0.out) 1 _ rfl
 have y1:w2.cell? ⟨w.heap.size+1,1,none⟩=some (.slice B2 m2 d2):=aA ((g2'.block (w.heap.size+1) (by omega)).trans R1.out) 1 _ rfl
 have x2:w2.cell? ⟨w.heap.size,2,none⟩=some (.slice A3 n3 c3):=aA ((g2'.block (w.heap.size) (by omega)).trans R0.out) 2 _ rfl
 have y2:w2.cell? ⟨w.heap.size+1,2,none⟩=some (.slice B3 m3 d3):=aA ((g2'.block (w.heap.size+1) (by omega)).trans R1.out) 2 _ rfl
 have x3:w2.cell? ⟨w.heap.size,3,none⟩=some (.slice A4 n4 c4):=aA ((g2'.block (w.heap.size) (by omega)).trans R0.out) 3 _ rfl
 have y3:w2.cell? ⟨w.heap.size+1,3,none⟩=some (.slice B4 m4 d4):=aA ((g2'.block (w.heap.size+1) (by omega)).trans R1.out) 3 _ rfl
 go_wp2_with fail
 refine (H3.out _ g2').mono ?_
 rintro e w3 ⟨rfl,g3⟩
 have g3' :=Below.ext g2' g3
 clear x0 y0 x1 y1 x2 y2 x3 y3
 have x0:w3.cell? ⟨w.heap.size,0,none⟩=some (.slice A1 n1 c1):=aA ((g3'.block (w.heap.size) (by omega)).trans R0.out) 0 _ rfl
 have y0:w3.cell? ⟨w.heap.size+1,0,none⟩=some (.slice B1 m1 d1):=aA ((g3'.block (w.heap.size+1) (by omega)).trans R1.out) 0 _ rfl
 have x1:w3.cell? ⟨w.heap.size,1,none⟩=some (.slice A2 n2 c2):=aA ((g3'.block (w.heap.size) (by omega)).trans R0.out) 1 _ rfl
 have y1:w3.cell? ⟨w.heap.size+1,1,none⟩=some (.slice B2 m2 d2):=aA ((g3'.block (w.heap.size+1) (by omega)).trans R1.out) 1 _ rfl
 have x2:w3.cell? ⟨w.heap.size,2,none⟩=some (.slice A3 n3 c3):=aA ((g3'.block (w.heap.size) (by omega)).trans R0.out) 2 _ rfl
 have y2:w3.cell? ⟨w.heap.size+1,2,none⟩=some (.slice B3 m3 d3):=aA ((g3'.block (w.heap.size+1) (by omega)).trans R1.out) 2 _ rfl
 have x3:w3.cell? ⟨w.heap.size,3,none⟩=some (.slice A4 n4 c4):=aA ((g3'.block (w.heap.size) (by omega)).trans R0.out) 3 _ rfl
 have y3:w3.cell? ⟨w.heap.size+1,3,none⟩=some (.slice B4 m4 d4):=aA ((g3'.block (w.heap.size+1) (by omega)).trans R1.out) 3 _ rfl
 go_wp2_with fail
 refine (H4.out _ g3').mono ?_
 rintro e w4 ⟨rfl,g4⟩
 have g4' :=Below.ext g3' g4
 go_wp2
 go_ret
 exact ⟨rfl,Below.ext hbW g4'⟩
end Go.Proofs.YtiblijmngokcgaaGreatDoor
