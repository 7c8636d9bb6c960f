import Derived.Test.YtiblijmngokcgaaGreatDoorMacZs
import Derived.Test.YtiblijmngokcgaaGreatDoorG15Zs
namespace Go.Proofs.YtiblijmngokcgaaGreatDoor
open Go.RowKit
set_option maxRecDepth 100000
set_option linter.unusedVariables false
set_option linter.unusedSimpArgs false
theorem DrE.up:∀(n:Nat) (t:Ex),DrE n t→DrE (n+1) t
 |0,_,h=>h.elim
 |n+1,.mk ..,⟨h1,h2,h3,h4⟩=>⟨h1,h2,fun e he=>DrE.up n e (h3 e he),h4⟩
theorem DrE.to3 {n:Nat} {t:Ex} (hn:n≤3) (h:DrE n t):DrE 3 t:=by
 match n,hn with
 |0,_=>exact h.elim
 |1,_=>exact DrE.up _ _ (DrE.up _ _ h)
 |2,_=>exact DrE.up _ _ h
 |3,_=>exact h
theorem ExOk.to3 {n:Nat} {S:Nat→Prop} {w:World} {x:ExV} {t:Ex} (hn:n≤3) (h:ExOk n S w x t):ExOk 3 S w x t:=by
 match n,hn with
 |0,_=>exact h.elim
 |1,_=>exact ExOk.up _ _ _ (ExOk.up _ _ _ h)
 |2,_=>exact ExOk.up _ _ _ h
 |3,_=>exact h
def DrS:Nat→Sm→Prop
 |0,_=>False
 |n+1,.mk kind name slot size place value body els=>slot=0∧size=0∧DrE 3 value∧(∀s∈body,DrS n s)∧(∀s∈els,DrS n s)∧
  ((kind=1∧gW name∧place=zEx∧body=[]∧els=[])∨(kind=2∧jJ name∧DrE 3 place∧body=[]∧els=[])∨(kind=5∧name=ByteArray.mk #[]∧DrE 3 place∧body=[]∧els=[])∨
   (kind=6∧name=ByteArray.mk #[]∧place=zEx∧body=[]∧els=[])∨(kind=3∧name=ByteArray.mk #[]∧place=zEx∧body.length≤10∧els.length≤10)∨(kind=4∧name=ByteArray.mk #[]∧place=zEx∧els=[]∧body.length≤10))
theorem oG {V T:Type} {P:(Nat→Prop)→World→V→T→Prop} (hF:Fram P) {g b0:Nat} {w w' :World} {x:V} {t:T} (hg:w.grownBy w' (some g)) (hl:g<b0) (h:P (b0≤·) w x t):P (b0≤·) w' x t:=
 hF.keep _ _ _ _ _ (fun b hb h=>hg.block b hb (by simp;omega)) h
theorem jV {V T:Type} {enc:V→List Value} {P:(Nat→Prop)→World→V→T→Prop} (hF:Fram P):Fram (fun S w (v:Value) (ts:List T)=>LsOk enc (P S w) S w v ts):=
 ⟨fun S w w' v ts hk h=>h.keep hk (fun x t=>hF.keep _ _ _ x t hk),fun S S' w v ts hs h=>h.mono hs (fun x t=>hF.mono _ _ _ x t hs)⟩
theorem fI {S:Nat→Prop} {w:World} {X:Nat} {x:SmV} (hr:w.heap[X]? =some (.cells (bM x).toArray 246 (0,0))) (hS:S X):Recs bM S w (.slice (some ⟨X,0,none⟩) 1 1) [x]:=
 ⟨_,1,rfl,by simp,by simp [maxLen],fun _=>⟨X,0,rfl,hS,fun k u hu=>by
  rw [cell_of_row _ _ _ _ _ _ hr,Nat.zero_add]
  simpa using hu⟩⟩
set_option maxHeartbeats 16000000 in
theorem tU (n:Nat) (hn2:n≤2) (ih:0<n→∀(most:Nat) (B g:Nat) (w:World),most≤10→Cod B w g→Glb B w→Calls Tryz.prog 156 #[.pointer (some ⟨g,0,none⟩),.int .i64 (most:Int),.int .i64 (n:Int)] w fun e w' =>∃A c m ts,e= .returned (.slice A m c)∧m≤most∧(∀s∈ts,DrS n s)∧OwLs bM 18 (fun S w=>SmOk n S w) w' w.heap.size 246 (.slice A m c) ts∧Cod B w' g∧w.grownBy w' (some g)) (most:Nat) (hm:most≤10) (B g:Nat) (w:World) (h:Cod B w g) (hG:Glb B w):
 Calls Tryz.prog 156 #[.pointer (some ⟨g,0,none⟩),.int .i64 (most:Int),.int .i64 ((n:Int)+1)] w fun e w' =>∃A c m ts,e= .returned (.slice A m c)∧m≤most∧(∀s∈ts,DrS (n+1) s)∧OwLs bM 18 (fun S w=>SmOk (n+1) S w) w' w.heap.size 246 (.slice A m c) ts∧Cod B w' g∧w.grownBy w' (some g):=by
 have hglt:=h.lt
 have hBg:=h.1
 go_enter Tryz.func156,Tryz.ntmps156
 go_wp2_with fail
 refine (bE B g (most+1) w h (by omega) (by omega)).mono ?_
 rintro e w1 ⟨N,rfl,hN,hC1,hg1⟩
 clear h
 go_wp2
 go_loopw [7,8] (fun v i wr=>∃(j:Nat) (A:Option Addr) (c m:Nat) (ts:List Sm),i= .int .i64 (j:Int)∧v= .slice A m c∧m+j=N∧(∀s∈ts,DrS (n+1) s)∧OwLs bM 18 (fun S w=>SmOk (n+1) S w) wr w.heap.size 246 (.slice A m c) ts∧Cod B wr g∧w.grownBy wr (some g)) (fun _ i _=>(intOf i).toNat)
 case atStart=>exact ⟨N,none,0,0,[],rfl,rfl,by omega,by simp,OwLs.nil_ _ _ _ _ _ _,hC1,hg1⟩
 case round=>
  obtain ⟨j,A,c,m,ts,rfl,rfl,hmj,hdr,hO,hC,hgr⟩:=hrel
  have HDR:=Lib.hid hdr
  have hlen:=hO.len
  clear hdr
  by_cases hlt:0<j
  ·have hcx:=bE B g 10 wr hC (by omega) (by omega)
   rw [show ((10:Nat):Int)=10 from rfl] at hcx
   have Hcx:=Lib.hid hcx
   clear hcx
   have dj:decide ((0:Int)<(j:Int))=true:=by simp;omega
   go_wp2_with fail
   refine Hcx.out.mono ?_
   rintro e w2 ⟨x,rfl,hx,hC2,hg2⟩
   have hgr2:=aH hgr hg2
   have G2:=hG.grown hgr2 hBg
   have hs1:=hgr.size
   have hs2:=hg2.size
   have hOwn:∀o,(Value.slice A m c).ownBlock=some o→w.heap.size≤o∧o<wr.heap.size:=fun o e=>by
    obtain ⟨xs,ho,_,_⟩:=hO
    exact World.ownsRow.lt ho o e
   have hO2:OwLs bM 18 (fun S w=>SmOk (n+1) S w) w2 w.heap.size 246 (.slice A m c) ts:=hO.keepR (bF (n+1)) (fun b hb hbb=>aN hg2 hb (by omega))
   obtain ⟨hl1,hl2,hl3⟩:=hlen
   have HL1:=Lib.hid hl1
   clear hg2 hO hC Hcx hl1
   by_cases hc:n=0∧7≤x
   ·obtain ⟨hn0',hx7⟩:=hc
    have e1:decide ((n:Int)+1≤1)=true:=by simp;omega
    have e2:decide ((7:Int)≤(x:Int))=true:=by simp;omega
    obtain ⟨y,rfl⟩:∃y,x=y+7:=⟨x-7,by omega⟩
    have e3:(((y+7:Nat):Int)-7)=(y:Int):=by omega
    have hy:y<3:=by omega
    clear hn0'
    ·exact Tzaa
   ·by_cases hn0' :n=0
    ·have hx7:x<7:=by omega
     have e1:decide ((n:Int)+1≤1)=true:=by simp;omega
     have e2:decide ((7:Int)≤(x:Int))=false:=by simp;omega
     clear hc hn0'
     by_cases h3:x<3
     ·exact Tzaa
     by_cases h4:x=3
     ·exact Tzab
     by_cases h6:x<6
     ·exact Tzac
     ·obtain rfl:x=6:=by omega
      exact Tzad
    ·have hn0:0<n:=by omega
     have e1:decide ((n:Int)+1≤1)=false:=by simp;omega
     clear hc hn0'
     by_cases h3:x<3
     ·exact Tzaa
     by_cases h4:x=3
     ·exact Tzab
     by_cases h6:x<6
     ·exact Tzac
     by_cases h7:x=6
     ·subst h7
      exact Tzad
     by_cases h9:x<9
     ·skip
      have Hcx3:=Lib.hid (cP 2 (by omega) B g w2 (by omega) (hC2) (G2))
      go_upto_region 18 with fail
      go_wp2_with fail
      refine Hcx3.out.mono ?_
      rintro e w3 ⟨x3,t3,rfl,hdr3,hok3,hC3,hq3⟩
      have hg3:w2.grownBy w3 (some g):=hq3
      have hs3:=hg3.size
      have G3:=G2.grown hg3 hBg
      unfold exV
      have Hcx4:=Lib.hid (ih hn0 2 B g w3 (by omega) (hC3) (G3))
      go_wp2_with fail
      refine Hcx4.out.mono ?_
      rintro e w4 ⟨A4,c4,m4,ts4,rfl,hm4,hdr4,hok4,hC4,hq4⟩
      have hg4:w3.grownBy w4 (some g):=hq4
      have hs4:=hg4.size
      have G4:=G3.grown hg4 hBg
      have Hcx5:=Lib.hid (ih hn0 1 B g w4 (by omega) (hC4) (G4))
      go_wp2_with fail
      refine Hcx5.out.mono ?_
      rintro e w5 ⟨A5,c5,m5,ts5,rfl,hm5,hdr5,hok5,hC5,hq5⟩
      have hg5:w4.grownBy w5 (some g):=hq5
      have hs5:=hg5.size
      have G5:=G4.grown hg5 hBg
      have ha:Below w5.heap.size w5 (w5.alloc (.cells #[.int .i64 3,.string (ByteArray.mk #[]),.int .i64 0,.int .i64 0,.int .i64 0,.int .i64 0,.string (ByteArray.mk #[]),.int .i64 0,.int .i64 0,.slice none 0 0,.int .i64 x3.op,.int .i64 x3.val,.string x3.name,.int .i64 x3.slot,.int .i64 x3.size,.slice x3.A x3.n x3.c,.slice A4 m4 c4,.slice A5 m5 c5] 246)):=(Below.refl _ _).alloc (Nat.le_refl _) _
      have hgre:w.grownBy w5 (some g):=aH (aH (aH (hgr2) hg3) hg4) hg5
      have hOe:OwLs bM 18 (fun S w=>SmOk (n+1) S w) w5 w.heap.size 246 (.slice A m c) ts:=hO2.keepR (bF (n+1)) (fun b hb hbb=>(aN hg5 (by omega) (by omega)).trans ((aN hg4 (by omega) (by omega)).trans (aN hg3 (by omega) (by omega))))
      obtain ⟨xs,ho,hxl,hxs⟩:=hOe.ext (bF (n+1)) ha
      have hlx:=Lib.hid ho.len.1
      have hCe:=hC5.ext ha
      have hgra:w.grownBy (w5.alloc (.cells #[.int .i64 3,.string (ByteArray.mk #[]),.int .i64 0,.int .i64 0,.int .i64 0,.int .i64 0,.string (ByteArray.mk #[]),.int .i64 0,.int .i64 0,.slice none 0 0,.int .i64 x3.op,.int .i64 x3.val,.string x3.name,.int .i64 x3.slot,.int .i64 x3.size,.slice x3.A x3.n x3.c,.slice A4 m4 c4,.slice A5 m5 c5] 246)) (some g):=aH hgre (aQ ha _)
      have hasz:=ha.size
      have CLS:∀b,w2.heap.size≤b→w.heap.size≤b∧(Value.slice A m c).ownBlock≠some b:=fun b hb=>⟨by omega,fun e=>by have:=hOwn b e;omega⟩
      have hok:SmOk (n+1) (fun b=>w.heap.size≤b∧(Value.slice A m c).ownBlock≠some b) (w5.alloc (.cells #[.int .i64 3,.string (ByteArray.mk #[]),.int .i64 0,.int .i64 0,.int .i64 0,.int .i64 0,.string (ByteArray.mk #[]),.int .i64 0,.int .i64 0,.slice none 0 0,.int .i64 x3.op,.int .i64 x3.val,.string x3.name,.int .i64 x3.slot,.int .i64 x3.size,.slice x3.A x3.n x3.c,.slice A4 m4 c4,.slice A5 m5 c5] 246)) ⟨3,(ByteArray.mk #[]),0,0,fF,x3,A4,m4,c4,A5,m5,c5⟩ (.mk 3 (ByteArray.mk #[]) 0 0 zEx t3 ts4 ts5):=⟨rfl,rfl,rfl,rfl,kP 2 _ _,ExOk.mono (w:=(w5.alloc (.cells #[.int .i64 3,.string (ByteArray.mk #[]),.int .i64 0,.int .i64 0,.int .i64 0,.int .i64 0,.string (ByteArray.mk #[]),.int .i64 0,.int .i64 0,.slice none 0 0,.int .i64 x3.op,.int .i64 x3.val,.string x3.name,.int .i64 x3.slot,.int .i64 x3.size,.slice x3.A x3.n x3.c,.slice A4 m4 c4,.slice A5 m5 c5] 246))) (fun b _ h=>CLS b (Nat.le_trans (by omega) h)) _ _ _ (ExOk.keep (Keep.of_below ha) _ _ _ (ExOk.to3 (by omega) (oG (bU _) hg5 (by omega) (oG (bU _) hg4 (by omega) (hok3))))),(jV (bF n)).mono _ _ (w5.alloc (.cells #[.int .i64 3,.string (ByteArray.mk #[]),.int .i64 0,.int .i64 0,.int .i64 0,.int .i64 0,.string (ByteArray.mk #[]),.int .i64 0,.int .i64 0,.slice none 0 0,.int .i64 x3.op,.int .i64 x3.val,.string x3.name,.int .i64 x3.slot,.int .i64 x3.size,.slice x3.A x3.n x3.c,.slice A4 m4 c4,.slice A5 m5 c5] 246)) _ _ (fun b _ h=>CLS b (Nat.le_trans (by omega) h)) ((jV (bF n)).keep _ _ _ _ _ (Keep.of_below ha) (oG (jV (bF n)) hg5 (by omega) (hok4.ls (bF n)))),(jV (bF n)).mono _ _ (w5.alloc (.cells #[.int .i64 3,.string (ByteArray.mk #[]),.int .i64 0,.int .i64 0,.int .i64 0,.int .i64 0,.string (ByteArray.mk #[]),.int .i64 0,.int .i64 0,.slice none 0 0,.int .i64 x3.op,.int .i64 x3.val,.string x3.name,.int .i64 x3.slot,.int .i64 x3.size,.slice x3.A x3.n x3.c,.slice A4 m4 c4,.slice A5 m5 c5] 246)) _ _ (fun b _ h=>CLS b (Nat.le_trans (by omega) h)) ((jV (bF n)).keep _ _ _ _ _ (Keep.of_below ha) (hok5.ls (bF n)))⟩
      have hone:Recs bM (fun _=>True) (w5.alloc (.cells #[.int .i64 3,.string (ByteArray.mk #[]),.int .i64 0,.int .i64 0,.int .i64 0,.int .i64 0,.string (ByteArray.mk #[]),.int .i64 0,.int .i64 0,.slice none 0 0,.int .i64 x3.op,.int .i64 x3.val,.string x3.name,.int .i64 x3.slot,.int .i64 x3.size,.slice x3.A x3.n x3.c,.slice A4 m4 c4,.slice A5 m5 c5] 246)) (.slice (some ⟨w5.heap.size,0,none⟩) 1 1) [⟨3,(ByteArray.mk #[]),0,0,fF,x3,A4,m4,c4,A5,m5,c5⟩]:=fI (heap_alloc_new _ _) trivial
      have hblk:∀o,(Value.slice A m c).ownBlock=some o→w.heap.size≤o:=fun o e=>(World.ownsRow.lt ho o e).1
      have hd:DrS (n+1) (.mk 3 (ByteArray.mk #[]) 0 0 zEx t3 ts4 ts5):=⟨rfl,rfl,DrE.to3 (by omega) hdr3,hdr4,hdr5,.inr (.inr (.inr (.inr (.inl ⟨rfl,rfl,rfl,by have:=hok4.len.1;omega,by have:=hok5.len.1;omega⟩))))⟩
      go_wp2_with (refine aV (o:=⟨some 102,_,_,_,_,_⟩) cS dY (.agg #[.int .i64 0,.string (ByteArray.mk #[]),.int .i64 0,.int .i64 0,.int .i64 0,.int .i64 0,.string (ByteArray.mk #[]),.int .i64 0,.int .i64 0,.slice none 0 0,.int .i64 0,.int .i64 0,.string (ByteArray.mk #[]),.int .i64 0,.int .i64 0,.slice none 0 0,.slice none 0 0,.slice none 0 0]) 232 _ _ 27 246 w.heap.size xs [⟨3,(ByteArray.mk #[]),0,0,fF,x3,A4,m4,c4,A5,m5,c5⟩] (some ⟨w5.heap.size,0,none⟩) 1 1 (.slice A m c) (m+1) rfl rfl Tryz.underlying27 fJ rfl (by omega) rfl rfl ho hone (by rw [hlx.out]) (by rw [hlx.out];omega) (by rw [hlx.out];omega) (by omega) ?_;intro Az cz wz hownz hgrz hatz hcz1 hcz2)
      have hgf:w.grownBy wz (some g):=cD hgra hgrz (fun q hq=> .inl (hblk q hq))
      have hCf:=hCe.grown hgrz (fun q hq=>by have:=hblk q hq;constructor<;>omega)
      go_roundw
      case rel=>exact ⟨j-1,Az,cz,m+1,ts++ [.mk 3 (ByteArray.mk #[]) 0 0 zEx t3 ts4 ts5],by congr 1;omega,rfl,by omega,fun s hs=>by
       rcases List.mem_append.1 hs with hs|hs
       ·exact HDR.out s hs
       ·rw [List.mem_singleton] at hs;subst hs;exact hd,OwLs.push (bF (n+1)) ⟨hxl,hxs⟩ _ _ hok hownz hgrz hatz,hCf,hgf⟩
      case measure=>simp [intOf];omega
     ·obtain rfl:x=9:=by omega
      have Hcx3:=Lib.hid (cP 2 (by omega) B g w2 (by omega) (hC2) (G2))
      go_upto_region 8 with fail
      go_wp2_with fail
      refine Hcx3.out.mono ?_
      rintro e w3 ⟨x3,t3,rfl,hdr3,hok3,hC3,hq3⟩
      have hg3:w2.grownBy w3 (some g):=hq3
      have hs3:=hg3.size
      have G3:=G2.grown hg3 hBg
      unfold exV
      have Hcx4:=Lib.hid (ih hn0 2 B g w3 (by omega) (hC3) (G3))
      go_wp2_with fail
      refine Hcx4.out.mono ?_
      rintro e w4 ⟨A4,c4,m4,ts4,rfl,hm4,hdr4,hok4,hC4,hq4⟩
      have hg4:w3.grownBy w4 (some g):=hq4
      have hs4:=hg4.size
      have G4:=G3.grown hg4 hBg
      have ha:Below w4.heap.size w4 (w4.alloc (.cells #[.int .i64 4,.string (ByteArray.mk #[]),.int .i64 0,.int .i64 0,.int .i64 0,.int .i64 0,.string (ByteArray.mk #[]),.int .i64 0,.int .i64 0,.slice none 0 0,.int .i64 x3.op,.int .i64 x3.val,.string x3.name,.int .i64 x3.slot,.int .i64 x3.size,.slice x3.A x3.n x3.c,.slice A4 m4 c4,.slice none 0 0] 246)):=(Below.refl _ _).alloc (Nat.le_refl _) _
      have hgre:w.grownBy w4 (some g):=aH (aH (hgr2) hg3) hg4
      have hOe:OwLs bM 18 (fun S w=>SmOk (n+1) S w) w4 w.heap.size 246 (.slice A m c) ts:=hO2.keepR (bF (n+1)) (fun b hb hbb=>(aN hg4 (by omega) (by omega)).trans (aN hg3 (by omega) (by omega)))
      obtain ⟨xs,ho,hxl,hxs⟩:=hOe.ext (bF (n+1)) ha
      have hlx:=Lib.hid ho.len.1
      have hCe:=hC4.ext ha
      have hgra:w.grownBy (w4.alloc (.cells #[.int .i64 4,.string (ByteArray.mk #[]),.int .i64 0,.int .i64 0,.int .i64 0,.int .i64 0,.string (ByteArray.mk #[]),.int .i64 0,.int .i64 0,.slice none 0 0,.int .i64 x3.op,.int .i64 x3.val,.string x3.name,.int .i64 x3.slot,.int .i64 x3.size,.slice x3.A x3.n x3.c,.slice A4 m4 c4,.slice none 0 0] 246)) (some g):=aH hgre (aQ ha _)
      have hasz:=ha.size
      have CLS:∀b,w2.heap.size≤b→w.heap.size≤b∧(Value.slice A m c).ownBlock≠some b:=fun b hb=>⟨by omega,fun e=>by have:=hOwn b e;omega⟩
      have hok:SmOk (n+1) (fun b=>w.heap.size≤b∧(Value.slice A m c).ownBlock≠some b) (w4.alloc (.cells #[.int .i64 4,.string (ByteArray.mk #[]),.int .i64 0,.int .i64 0,.int .i64 0,.int .i64 0,.string (ByteArray.mk #[]),.int .i64 0,.int .i64 0,.slice none 0 0,.int .i64 x3.op,.int .i64 x3.val,.string x3.name,.int .i64 x3.slot,.int .i64 x3.size,.slice x3.A x3.n x3.c,.slice A4 m4 c4,.slice none 0 0] 246)) ⟨4,(ByteArray.mk #[]),0,0,fF,x3,A4,m4,c4,none,0,0⟩ (.mk 4 (ByteArray.mk #[]) 0 0 zEx t3 ts4 []):=⟨rfl,rfl,rfl,rfl,kP 2 _ _,ExOk.mono (w:=(w4.alloc (.cells #[.int .i64 4,.string (ByteArray.mk #[]),.int .i64 0,.int .i64 0,.int .i64 0,.int .i64 0,.string (ByteArray.mk #[]),.int .i64 0,.int .i64 0,.slice none 0 0,.int .i64 x3.op,.int .i64 x3.val,.string x3.name,.int .i64 x3.slot,.int .i64 x3.size,.slice x3.A x3.n x3.c,.slice A4 m4 c4,.slice none 0 0] 246))) (fun b _ h=>CLS b (Nat.le_trans (by omega) h)) _ _ _ (ExOk.keep (Keep.of_below ha) _ _ _ (ExOk.to3 (by omega) (oG (bU _) hg4 (by omega) (hok3)))),(jV (bF n)).mono _ _ (w4.alloc (.cells #[.int .i64 4,.string (ByteArray.mk #[]),.int .i64 0,.int .i64 0,.int .i64 0,.int .i64 0,.string (ByteArray.mk #[]),.int .i64 0,.int .i64 0,.slice none 0 0,.int .i64 x3.op,.int .i64 x3.val,.string x3.name,.int .i64 x3.slot,.int .i64 x3.size,.slice x3.A x3.n x3.c,.slice A4 m4 c4,.slice none 0 0] 246)) _ _ (fun b _ h=>CLS b (Nat.le_trans (by omega) h)) ((jV (bF n)).keep _ _ _ _ _ (Keep.of_below ha) (hok4.ls (bF n))),LsOk.nil_ _ _ _ _⟩
      have hone:Recs bM (fun _=>True) (w4.alloc (.cells #[.int .i64 4,.string (ByteArray.mk #[]),.int .i64 0,.int .i64 0,.int .i64 0,.int .i64 0,.string (ByteArray.mk #[]),.int .i64 0,.int .i64 0,.slice none 0 0,.int .i64 x3.op,.int .i64 x3.val,.string x3.name,.int .i64 x3.slot,.int .i64 x3.size,.slice x3.A x3.n x3.c,.slice A4 m4 c4,.slice none 0 0] 246)) (.slice (some ⟨w4.heap.size,0,none⟩) 1 1) [⟨4,(ByteArray.mk #[]),0,0,fF,x3,A4,m4,c4,none,0,0⟩]:=fI (heap_alloc_new _ _) trivial
      have hblk:∀o,(Value.slice A m c).ownBlock=some o→w.heap.size≤o:=fun o e=>(World.ownsRow.lt ho o e).1
      have hd:DrS (n+1) (.mk 4 (ByteArray.mk #[]) 0 0 zEx t3 ts4 []):=⟨rfl,rfl,DrE.to3 (by omega) hdr3,hdr4,(by simp),.inr (.inr (.inr (.inr (.inr ⟨rfl,rfl,rfl,rfl,by have:=hok4.len.1;omega⟩))))⟩
      go_wp2_with (refine aV (o:=⟨some 37,_,_,_,_,_⟩) cS dY (.agg #[.int .i64 0,.string (ByteArray.mk #[]),.int .i64 0,.int .i64 0,.int .i64 0,.int .i64 0,.string (ByteArray.mk #[]),.int .i64 0,.int .i64 0,.slice none 0 0,.int .i64 0,.int .i64 0,.string (ByteArray.mk #[]),.int .i64 0,.int .i64 0,.slice none 0 0,.slice none 0 0,.slice none 0 0]) 232 _ _ 27 246 w.heap.size xs [⟨4,(ByteArray.mk #[]),0,0,fF,x3,A4,m4,c4,none,0,0⟩] (some ⟨w4.heap.size,0,none⟩) 1 1 (.slice A m c) (m+1) rfl rfl Tryz.underlying27 fJ rfl (by omega) rfl rfl ho hone (by rw [hlx.out]) (by rw [hlx.out];omega) (by rw [hlx.out];omega) (by omega) ?_;intro Az cz wz hownz hgrz hatz hcz1 hcz2)
      have hgf:w.grownBy wz (some g):=cD hgra hgrz (fun q hq=> .inl (hblk q hq))
      have hCf:=hCe.grown hgrz (fun q hq=>by have:=hblk q hq;constructor<;>omega)
      go_roundw
      case rel=>exact ⟨j-1,Az,cz,m+1,ts++ [.mk 4 (ByteArray.mk #[]) 0 0 zEx t3 ts4 []],by congr 1;omega,rfl,by omega,fun s hs=>by
       rcases List.mem_append.1 hs with hs|hs
       ·exact HDR.out s hs
       ·rw [List.mem_singleton] at hs;subst hs;exact hd,OwLs.push (bF (n+1)) ⟨hxl,hxs⟩ _ _ hok hownz hgrz hatz,hCf,hgf⟩
      case measure=>simp [intOf];omega
  ·obtain rfl:j=0:=by omega
   go_wp2
   go_ret
   exact ⟨A,c,m,ts,rfl,by omega,HDR.out,hO,hC,hgr⟩
theorem gP:∀(n:Nat),n≤3→∀(most:Nat) (B g:Nat) (w:World),0<n→most≤10→Cod B w g→Glb B w→Calls Tryz.prog 156 #[.pointer (some ⟨g,0,none⟩),.int .i64 (most:Int),.int .i64 (n:Int)] w fun e w' =>∃A c m ts,e= .returned (.slice A m c)∧m≤most∧(∀s∈ts,DrS n s)∧OwLs bM 18 (fun S w=>SmOk n S w) w' w.heap.size 246 (.slice A m c) ts∧Cod B w' g∧w.grownBy w' (some g)
 |0,_,_,_,_,_,h0,_,_,_=>by omega
 |n+1,hn,most,B,g,w,_,hm,h,hG=>by
  have:=tU n (by omega) (fun h0 most B g w hm h hG=>gP n (by omega) most B g w h0 hm h hG) most hm B g w h hG
  rw [show ((n+1:Nat):Int)=(n:Int)+1 by omega]
  exact this
end Go.Proofs.YtiblijmngokcgaaGreatDoor
