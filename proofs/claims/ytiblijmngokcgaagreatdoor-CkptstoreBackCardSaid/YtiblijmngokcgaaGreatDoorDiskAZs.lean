import Derived.Test.YtiblijmngokcgaaGreatDoorMacZs
import Derived.Test.YtiblijmngokcgaaGreatDoorCodecAZs
import Derived.Lib.AppendZeros
import Derived.Test.YtiblijmngokcgaaGreatDoorKitZs
import Derived.Laws.IdiomCopy
import Derived.Lib.SliceRun
namespace Go.Proofs.YtiblijmngokcgaaGreatDoor
open Go.RowKit
set_option maxRecDepth 100000
set_option linter.unusedVariables false
theorem KF (n:Nat) (h0:0<n) (hb:n*1≤140737488355328) (w:World):∃cap W,(Builtin.append_ #[22,3] 22 #[.slice none 0 0,.int .i64 (n:Int)]).run Tryz.prog w= .ok (.slice (some ⟨w.heap.size,0,none⟩) n cap) W∧
 OwnR eV 1 W w.heap.size 5 (.slice (some ⟨w.heap.size,0,none⟩) 0 cap) []∧n≤cap∧cap≤9223372036854775807∧Below w.heap.size w W:=by
 obtain ⟨i,hi,hz,hs,hby⟩:=info_parts rH
 have hn:n≤140737488355328:=by omega
 have h:=Lib.run_append_nil_zeros (P:=Tryz.prog) w 22 3 22 5 i (.int .u8 0) .i64 .i64 Tryz.underlying22 Tryz.underlying3 hi hz n h0 (by rw [hs];omega) (by omega) (by rw [hby];omega)
 have hg:=grownCap_ge w n 0 5
 have hm:=grownCap_le_maxLen w n 0 5 (by unfold maxLen;omega)
 refine ⟨_,_,h,?_,hg,by unfold maxLen at hm;exact hm,((Below.refl _ w).drew).alloc (Nat.le_refl _) _⟩
 refine ⟨rfl,.inr ⟨w.heap.size,_,_,rfl,Nat.le_refl _,heap_alloc_new w.drew _,by simp,hm,?_,by simp⟩⟩
 rw [Array.size_append,size_zeroCells,size_zeroCells,show (Value.cells (.int .u8 0)).size=1 from rfl,←Nat.add_mul]
 congr 1
 omega
set_option maxHeartbeats 1000000 in
theorem MO (n:Nat) (hb:n*1≤140737488355328) (w:World):
 Calls Tryz.prog 128 #[.slice none 0 0,.int .i64 (n:Int)] w fun e w' =>∃A c,e= .returned (.slice A 0 c)∧OwnR eV 1 w' w.heap.size 5 (.slice A 0 c) []∧Below w.heap.size w w' :=by
 have hn:n≤140737488355328:=by omega
 by_cases h0:0<n
 ·obtain ⟨cap,W,hrun,hown,h1,h2,hbw⟩:=KF n h0 hb w
  have Hrun:=Lib.hid hrun
  clear hrun
  have d1:decide (0<n)=true:=by simpa using h0
  go_enter Tryz.func128,Tryz.ntmps128
  exact Tzby
 ·obtain rfl:n=0:=by omega
  go_enter Tryz.func128,Tryz.ntmps128
  go_wp2
  go_ret
  exact ⟨none,0,rfl,OwnR.nil_ _ _ _,Below.refl _ _⟩
set_option maxHeartbeats 2000000 in
theorem kN (g:Nat) (A1 A2:Option Addr) (n1 c1 n2 c2:Nat) (l1 l2:List UInt8) (S1 S2:Nat→Prop) (w:World) (h0:w.cell? ⟨g,0,none⟩=some (.slice A1 n1 c1)) (h1:w.cell? ⟨g,1,none⟩=some (.slice A2 n2 c2))
 (r1:Recs eV S1 w (.slice A1 n1 c1) l1) (r2:Recs eV S2 w (.slice A2 n2 c2) l2) (hb:(n1+n2)*1≤140737488355328):
 Calls Tryz.prog 69 #[.slice (some ⟨g,0,none⟩) 2 2] w fun e w' =>∃A c,e= .returned (.slice A (n1+n2) c)∧OwnR eV 1 w' w.heap.size 5 (.slice A (n1+n2) c) (l1++l2)∧Below w.heap.size w w' :=by
 have hn:n1+n2≤140737488355328:=by omega
 have hgl:g<w.heap.size:=block_lt_of_cell h0
 obtain ⟨hl1,hl2,hl3⟩:=r1.len
 obtain ⟨hm1,hm2,hm3⟩:=r2.len
 have Hl1:=Lib.hid hl1
 have Hm1:=Lib.hid hm1
 clear hl1 hm1
 go_enter Tryz.func69,Tryz.ntmps69
 go_wp2
 go_loop [3,11] (fun s i=>∃j:Nat,j≤2∧i= .int .i64 j∧s= .int .i64 ((if j=0 then 0 else if j=1 then n1 else n1+n2:Nat):Int)) (fun _ i=>2-(intOf i).toNat)
 case atStart=>exact ⟨0,by omega,rfl,rfl⟩
 case round=>
  obtain ⟨j,hj,rfl,rfl⟩:=hrel
  obtain rfl|rfl|rfl:j=0∨j=1∨j=2:=by omega
  ·exact Tzcf
  ·exact Tzb8
  ·simp only [show (2:Nat)=0↔False by decide,show (2:Nat)=1↔False by decide,if_false]
   go_wp2_with fail
   rw [←Int.natCast_add]
   refine (MO (n1+n2) hb w).mono ?_
   rintro e w1 ⟨A,c,rfl,hown,hb1⟩
   have h0' :=(hb1.cell (p:=⟨g,0,none⟩) hgl).trans h0
   have h1' :=(hb1.cell (p:=⟨g,1,none⟩) hgl).trans h1
   clear h0 h1
   have hsz1:=hb1.size
   go_wp2
   go_loopw [6,27] (fun v i wr=>∃(j n' :Nat) (A' :Option Addr) (c' :Nat),j≤2∧i= .int .i64 j∧v= .slice A' n' c'∧n'≤n1+n2∧OwnR eV 1 wr w.heap.size 5 (.slice A' n' c') (if j=0 then [] else if j=1 then l1 else l1++l2)∧Below w.heap.size w wr) (fun _ i _=>2-(intOf i).toNat)
   case atStart=>exact ⟨0,0,A,c,by omega,rfl,rfl,by omega,hown,hb1⟩
   case round=>
    obtain ⟨j,n',A',c',hj,rfl,rfl,hn',hown',hbr⟩:=hrel
    have q0:=(hbr.cell (p:=⟨g,0,none⟩) hgl).trans ((hb1.cell (p:=⟨g,0,none⟩) hgl).symm.trans h0')
    have q1:=(hbr.cell (p:=⟨g,1,none⟩) hgl).trans ((hb1.cell (p:=⟨g,1,none⟩) hgl).symm.trans h1')
    have hszr:=hbr.size
    clear h0' h1'
    obtain rfl|rfl|rfl:j=0∨j=1∨j=2:=by omega
    ·simp only [if_true] at hown'
     have hlen:=hown'.len.1
     simp at hlen
     subst hlen
     go_wp2_with (refine aV (o:=⟨some 33,_,_,_,_,_⟩) lH qG (.int .u8 0) 1 _ _ 22 5 w.heap.size [] l1 A1 n1 c1 (.slice A' 0 c') n1 rfl rfl Tryz.underlying22 rH rfl (by omega) rfl rfl hown' (r1.ext hbr) (by simp) (by simp;omega) (by simp;omega) hszr ?_;intro A9 c9 w9 hown9 hgr9 hat9 hc91 hc92)
     exact Tzbk
    ·simp only [if_true,Nat.one_ne_zero,if_false] at hown'
     have hlen:=hown'.len.1
     rw [Hl1.out] at hlen
     subst hlen
     go_wp2_with (refine aV (o:=⟨some 33,_,_,_,_,_⟩) lH qG (.int .u8 0) 1 _ _ 22 5 w.heap.size l1 l2 A2 n2 c2 (.slice A' n1 c') (n1+n2) rfl rfl Tryz.underlying22 rH rfl (by omega) rfl rfl hown' (r2.ext hbr) (by rw [Hl1.out]) (by rw [Hl1.out];exact hb) (by rw [Hl1.out];omega) hszr ?_;intro A9 c9 w9 hown9 hgr9 hat9 hc91 hc92)
     exact Tzbj
    ·exact Tzbd
end Go.Proofs.YtiblijmngokcgaaGreatDoor
namespace Go.Proofs.YtiblijmngokcgaaGreatDoor
open Go.RowKit
set_option maxRecDepth 100000
set_option linter.unusedVariables false
set_option maxHeartbeats 1000000 in
theorem DB (A:Option Addr) (n c:Nat) (l:List UInt8) (S:Nat→Prop) (w:World) (r:Recs eV S w (.slice A n c) l) (hb:n*1≤140737488355328):
 Calls Tryz.prog 100 #[.slice A n c] w fun e w' =>∃A' c',e= .returned (.slice A' n c')∧OwnR eV 1 w' w.heap.size 5 (.slice A' n c') l∧Below w.heap.size w w' :=by
 have hn:n≤140737488355328:=by omega
 obtain ⟨hl1,hl2,hl3⟩:=r.len
 have Hl1:=Lib.hid hl1
 clear hl1
 have qn:∀(w:World) (a:Option Addr) (n c n' c' :Nat),(binOp .eql 22 (.slice a n c) (.slice none n' c')).run Tryz.prog w= .ok (.bool a.isNone) w:=fun w a n c n' c' =>Lib.run_eql_slice_nil w _ _ a n c n' c' Tryz.underlying22
 cases A with
 |none=>
  have hl0:l=[]:=by
   obtain ⟨A',c',e,_,_,h3⟩:=r
   cases e
   cases l with
   |nil=>rfl
   |cons x l=>
    obtain ⟨_,_,q,_⟩:=h3 (by rw [List.flatMap_cons,List.length_append,lH];omega)
    cases q
  subst hl0
  obtain rfl:n=0:=by have:=Hl1.out;simpa using this.symm
  go_enter Tryz.func100,Tryz.ntmps100
  go_wp2
  go_ret
  exact ⟨none,0,rfl,OwnR.nil_ _ _ _,Below.refl _ _⟩
 |some ad=>
  have ha:Below w.heap.size w (w.alloc (.cells #[] 5)):=(Below.refl _ _).alloc (Nat.le_refl _) _
  have how:=OwnR.empty_ (enc:=eV) (k:=1) w w.heap.size 5 (Nat.le_refl _)
  go_enter Tryz.func100,Tryz.ntmps100
  go_wp2_with (refine aV (o:=⟨some 7,_,_,_,_,_⟩) lH qG (.int .u8 0) 1 _ _ 22 5 w.heap.size [] l (some ad) n c (.slice (some ⟨w.heap.size,0,none⟩) 0 0) n rfl rfl Tryz.underlying22 rH rfl (by omega) rfl rfl how (r.ext ha) (by simp) (by simp;omega) (by simp;omega) (by simp) ?_;intro A9 c9 w9 hown9 hgr9 hat9 hc91 hc92)
  exact Tzcj
end Go.Proofs.YtiblijmngokcgaaGreatDoor
namespace Go.Proofs.YtiblijmngokcgaaGreatDoor
open Go.RowKit
set_option maxRecDepth 100000
set_option linter.unusedVariables false
structure FV where
 A1:Option Addr
 n1:Nat
 c1:Nat
 A2:Option Addr
 n2:Nat
 c2:Nat
def FV.s (x:FV):Value:= .slice x.A1 x.n1 x.c1
def FV.p (x:FV):Value:= .slice x.A2 x.n2 x.c2
def eI (x:FV):List Value:=[.slice x.A1 x.n1 x.c1,.slice x.A2 x.n2 x.c2]
theorem gO (x:FV):(eI x).length=2:=rfl
theorem GB (x:FV):∀u∈eI x,u.oneCell' =true:=by
 intro u hu
 simp [eI] at hu
 rcases hu with rfl|rfl<;>rfl
def yA:Value:= .agg #[.slice none 0 0,.slice none 0 0]
theorem HD:(Tryz.prog.info? 86).map (fun i=>(i.zero,i.size,i.bytes))=some (some yA,2,48):=by kernel_rfl
structure Fil where
 s:List UInt8
 p:List UInt8
deriving DecidableEq,Inhabited
structure FOk (S:Nat→Prop) (w:World) (x:FV) (f:Fil):Prop where
 s:By S w (.slice x.A1 x.n1 x.c1) f.s
 p:By S w (.slice x.A2 x.n2 x.c2) f.p
theorem FOk.ext {S:Nat→Prop} {w w' :World} {x:FV} {f:Fil} (h:FOk S w x f) (hb:Below w.heap.size w w'):FOk S w' x f:=⟨h.s.ext hb,h.p.ext hb⟩
theorem FOk.mono {S S' :Nat→Prop} {w:World} {x:FV} {f:Fil} (h:FOk S w x f) (hs:∀b,b<w.heap.size→S b→S' b):FOk S' w x f:=⟨h.s.mono hs,h.p.mono hs⟩
theorem FOk.keep {S:Nat→Prop} {w w' :World} {x:FV} {f:Fil} (h:FOk S w x f) (hk:Keep S w w'):FOk S w' x f:=⟨Recs.keep h.s hk,Recs.keep h.p hk⟩
def Dsk (S:Nat→Prop) (w:World) (v:Value) (fs:List Fil):Prop:=∃xs,Recs eI S w v xs∧xs.length=fs.length∧∀(i:Nat) (x:FV) (f:Fil),xs[i]? =some x→fs[i]? =some f→FOk S w x f
theorem Dsk.ext {S:Nat→Prop} {w w' :World} {v:Value} {fs:List Fil} (h:Dsk S w v fs) (hb:Below w.heap.size w w'):Dsk S w' v fs:=by
 obtain ⟨xs,h1,h2,h3⟩:=h
 exact ⟨xs,h1.ext hb,h2,fun i x f hx hf=>(h3 i x f hx hf).ext hb⟩
theorem Dsk.keep {S:Nat→Prop} {w w' :World} {v:Value} {fs:List Fil} (h:Dsk S w v fs) (hk:Keep S w w'):Dsk S w' v fs:=by
 obtain ⟨xs,h1,h2,h3⟩:=h
 exact ⟨xs,h1.keep hk,h2,fun i x f hx hf=>(h3 i x f hx hf).keep hk⟩
theorem Dsk.mono {S S' :Nat→Prop} {w:World} {v:Value} {fs:List Fil} (h:Dsk S w v fs) (hs:∀b,b<w.heap.size→S b→S' b):Dsk S' w v fs:=by
 obtain ⟨xs,h1,h2,h3⟩:=h
 exact ⟨xs,h1.mono hs,h2,fun i x f hx hf=>(h3 i x f hx hf).mono hs⟩
theorem Dsk.lo {S:Nat→Prop} {w:World} {v:Value} {fs:List Fil} (h:Dsk S w v fs):Dsk (·<w.heap.size) w v fs:=h.mono (fun _ hb _=>hb)
theorem Dsk.len {S:Nat→Prop} {w:World} {A:Option Addr} {n c:Nat} {fs:List Fil} (h:Dsk S w (.slice A n c) fs):fs.length=n∧n≤c∧c≤9223372036854775807:=by
 obtain ⟨xs,h1,h2,h3⟩:=h
 have:=h1.len
 omega
theorem Dsk.nil_ (S:Nat→Prop) (w:World):Dsk S w (.slice none 0 0) []:=⟨[],Recs.nil_ _ _,rfl,fun i x f hx=>by simp at hx⟩
theorem Dsk.at_ {S:Nat→Prop} {w:World} {A:Option Addr} {n c k:Nat} {fs:List Fil} (h:Dsk S w (.slice A n c) fs) (hk:k<n):
 ∃b off x f,A=some ⟨b,off,none⟩∧b<w.heap.size∧fs[k]? =some f∧FOk S w x f∧w.cell? ⟨b,off+k*2,none⟩=some (.slice x.A1 x.n1 x.c1)∧w.cell? ⟨b,off+k*2+1,none⟩=some (.slice x.A2 x.n2 x.c2):=by
 have hl:=h.len
 obtain ⟨xs,h1,h2,h3⟩:=h
 obtain ⟨b,off,x,rfl,_,hb,hx,hc⟩:=h1.at_ gO (j:=k) (by omega) (by omega)
 have hf:fs[k]? =some fs[k]:=List.getElem?_eq_getElem (by omega)
 exact ⟨b,off,x,_,rfl,hb,hf,h3 k x _ hx hf,hc 0 _ rfl,hc 1 _ rfl⟩
theorem vL (xs:List FV) (k:Nat) (x:FV) (hk:k<xs.length):(xs.set k x).flatMap eI=((xs.flatMap eI).set (k*2) (.slice x.A1 x.n1 x.c1)).set (k*2+1) (.slice x.A2 x.n2 x.c2):=by
 induction xs generalizing k with
 |nil=>simp at hk
 |cons y xs ih=>
  cases k with
  |zero=>rfl
  |succ k=>
   rw [List.set_cons_succ,List.flatMap_cons,ih k (by simpa using hk),List.flatMap_cons,show (k+1)*2=(k*2)+1+1 by omega]
   rfl
theorem OwnR.setF {w:World} {base:Nat} {e:TypeId} {g n c k:Nat} {xs:List FV} (h:OwnR eI 2 w base e (.slice (some ⟨g,0,none⟩) n c) xs) (x:FV) (hk:k<n):
 OwnR eI 2 ((w.setCell ⟨g,k*2,none⟩ (.slice x.A1 x.n1 x.c1)).setCell ⟨g,k*2+1,none⟩ (.slice x.A2 x.n2 x.c2)) base e (.slice (some ⟨g,0,none⟩) n c) (xs.set k x):=by
 have hl:=h.len.1
 unfold OwnR at*
 rw [List.length_set,vL xs k x (by omega)]
 subst hl
 exact (World.ownsRow.stored (World.ownsRow.stored h _ _).1 _ _).1
theorem OwnR.cellF {w:World} {base:Nat} {e:TypeId} {g n c k:Nat} {xs:List FV} (h:OwnR eI 2 w base e (.slice (some ⟨g,0,none⟩) n c) xs) (hk:k<n) (i:Nat) (hi:i<2):(∃v,w.cell? ⟨g,k*2+i,none⟩=some v)∧w.frozen? ⟨g,k*2+i,none⟩=false:=by
 have hl:=h.len.1
 obtain ⟨b,off,x,e1,_,hb,hx,hc⟩:=h.recs.at_ gO (j:=k) (by omega) (by omega)
 refine ⟨?_,?_⟩
 ·rcases h.2 with ⟨e0,_⟩|⟨g',cap,cur,e0,_,hh,_,_,h3,_⟩
  ·cases e0
  ·cases e0
   have h9:xs.length≤c:=by assumption
   have hlt:k*2+i<cur.size:=by rw [h3];omega
   exact ⟨cur[k*2+i],by rw [cell_of_row _ _ _ _ _ _ hh];exact Array.getElem?_eq_getElem hlt⟩
 ·subst hl
  exact World.ownsRow.frozenAt h _
end Go.Proofs.YtiblijmngokcgaaGreatDoor
namespace Go.Proofs.YtiblijmngokcgaaGreatDoor
open Go.RowKit
set_option maxRecDepth 100000
set_option linter.unusedVariables false
set_option maxHeartbeats 1000000 in
theorem LQ (A:Option Addr) (n c:Nat) (l:List FV) (S:Nat→Prop) (w:World) (r:Recs eI S w (.slice A n c) l) (hb:n*48≤140737488355328):
 Calls Tryz.prog 127 #[.slice A n c] w fun e w' =>∃A' c',e= .returned (.slice A' n c')∧OwnR eI 2 w' w.heap.size 86 (.slice A' n c') l∧Below w.heap.size w w' :=by
 have hn:n≤140737488355328:=by omega
 obtain ⟨hl1,hl2,hl3⟩:=r.len
 have Hl1:=Lib.hid hl1
 clear hl1
 have qn:∀(w:World) (a:Option Addr) (n c n' c' :Nat),(binOp .eql 34 (.slice a n c) (.slice none n' c')).run Tryz.prog w= .ok (.bool a.isNone) w:=fun w a n c n' c' =>Lib.run_eql_slice_nil w _ _ a n c n' c' Tryz.underlying34
 cases A with
 |none=>
  have hl0:l=[]:=by
   obtain ⟨A',c',e,_,_,h3⟩:=r
   cases e
   cases l with
   |nil=>rfl
   |cons x l=>
    obtain ⟨_,_,q,_⟩:=h3 (by rw [List.flatMap_cons,List.length_append,gO];omega)
    cases q
  subst hl0
  obtain rfl:n=0:=by have:=Hl1.out;simpa using this.symm
  go_enter Tryz.func127,Tryz.ntmps127
  go_wp2
  go_ret
  exact ⟨none,0,rfl,OwnR.nil_ _ _ _,Below.refl _ _⟩
 |some ad=>
  have ha:Below w.heap.size w (w.alloc (.cells #[] 86)):=(Below.refl _ _).alloc (Nat.le_refl _) _
  have how:=OwnR.empty_ (enc:=eI) (k:=2) w w.heap.size 86 (Nat.le_refl _)
  go_enter Tryz.func127,Tryz.ntmps127
  go_wp2_with (refine aV (o:=⟨some 7,_,_,_,_,_⟩) gO GB yA 48 _ _ 34 86 w.heap.size [] l (some ad) n c (.slice (some ⟨w.heap.size,0,none⟩) 0 0) n rfl rfl Tryz.underlying34 HD rfl (by omega) rfl rfl how (r.ext ha) (by simp) (by simp;omega) (by simp;omega) (by simp) ?_;intro A9 c9 w9 hown9 hgr9 hat9 hc91 hc92)
  exact Tzcj
end Go.Proofs.YtiblijmngokcgaaGreatDoor
namespace Go.Proofs.YtiblijmngokcgaaGreatDoor
open Go.RowKit
set_option maxRecDepth 100000
set_option linter.unusedVariables false
def zFV:FV:=⟨none,0,0,none,0,0⟩
def dP:Fil:=⟨[],[]⟩
theorem xK (n:Nat) (hn:n≤1000000) (w:World):(Instr.makeSlice 34 (.int .i64 (n:Int)) (.int .i64 (n:Int))).run Tryz.prog w= .ok (.slice (some ⟨w.heap.size,0,none⟩) n n) (w.alloc (.cells (madeCells (eI zFV).toArray (n*2)) 86)):=by
 obtain ⟨i,hi,hz,hs,hb⟩:=info_parts HD
 have h:=run_make (P:=Tryz.prog) w 34 86 i yA Tryz.underlying34 hi hz .i64 .i64 n n (by omega) (by omega) (by rw [hb];omega) (by omega)
 rw [h,hs]
 simp only [Int.toNat_natCast]
 rfl
theorem GX (n:Nat) (hn:n≤1000000) (w:World):OwnR eI 2 (w.alloc (.cells (madeCells (eI zFV).toArray (n*2)) 86)) w.heap.size 86 (.slice (some ⟨w.heap.size,0,none⟩) n n) (List.replicate n zFV):=by
 unfold OwnR
 rw [List.length_replicate]
 refine ⟨by rw [fN gO];simp,.inr ⟨w.heap.size,n,_,rfl,Nat.le_refl _,heap_alloc_new w _,Nat.le_refl _,by unfold maxLen;omega,by simp [madeCells],?_⟩⟩
 rw [CO gO zFV (by omega) n]
 exact List.take_of_length_le (by rw [fN gO];simp)
theorem DK {S:Nat→Prop} {w:World} {v:Value} {n:Nat} (h:Recs eI S w v (List.replicate n zFV)):Dsk S w v (List.replicate n dP):=
 ⟨_,h,by simp,fun i x f hx hf=>by
  rw [List.getElem?_replicate] at hx hf
  split at hx
  ·cases hx
   rw [if_pos (by assumption)] at hf
   cases hf
   exact ⟨Recs.nil_ _ _,Recs.nil_ _ _⟩
  ·cases hx⟩
set_option maxHeartbeats 1000000 in
theorem BC (n:Nat) (hn:n≤16) (w:World):
 Calls Tryz.prog 25 #[.int .i64 (n:Int)] w fun e w' =>∃A c,e= .returned (.tuple #[.agg #[.slice A n c],.int .i64 0])∧Dsk (fun b=>w.heap.size<b) w' (.slice A n c) (List.replicate n dP)∧Below w.heap.size w w' :=by
 have d0:decide ((n:Int)<0)=false:=by simp
 have d1:decide (16<n)=false:=by simp;omega
 have d2:decide ((16:Int)<(n:Int))=false:=by simp;omega
 have hmk:=xK n (by omega)
 have hz0:(w.alloc (.cells #[.slice none 0 0] 36)).heap[w.heap.size]? =some (.cells #[.slice none 0 0] 36 (0,0)):=heap_alloc_new w _
 have hown:=GX n (by omega) (w.alloc (.cells #[.slice none 0 0] 36))
 rw [World.size_alloc] at hown
 have ha:∀o,Below (w.alloc (.cells #[.slice none 0 0] 36)).heap.size (w.alloc (.cells #[.slice none 0 0] 36)) ((w.alloc (.cells #[.slice none 0 0] 36)).alloc o):=fun o=>(Below.refl _ _).alloc (Nat.le_refl _) o
 have hz1:=fun o=>((ha o).block w.heap.size (by simp)).trans hz0
 have hb1:∀o,Below w.heap.size w ((w.alloc (.cells #[.slice none 0 0] 36)).alloc o):=fun o=>Below.ext ((Below.refl _ w).alloc (Nat.le_refl _) _) (ha o)
 have Hz1:=Lib.hid hz1
 have Hown:=Lib.hid hown
 clear hz0 hz1 hown
 go_enter Tryz.func25,Tryz.ntmps25
 go_wp2_with (refine aC rfl 36 _ _ rfl w.heap.size 36 _ _ rfl rfl (Hz1.out _) (by kernel_rfl) rfl (by simp [Value.oneCell']) ?_)
 refine bodyPost_ret (bI rfl rfl (aB (setRow_heap _ _ _ _ _ _ (Hz1.out _)) Tryz.underlying36 rfl (by kernel_rfl))) rfl ?_
 refine ⟨_,_,rfl,DK (Recs.mono (OwnR.recs (OwnR.kept Hown.out (aJ _ w.heap.size _) (.inr (fun e=> ?_)))) (fun _ _ h=>h.1)),Below.setRow (hb1 _) (Nat.le_refl _) _⟩
 have:=(World.ownsRow.lt Hown.out _ e).1
 omega
set_option maxHeartbeats 1000000 in
theorem kH (A:Option Addr) (n c k:Nat) (w:World) (hk:k<n) (hn:n≤1000):
 Calls Tryz.prog 67 #[.agg #[.slice A n c],.int .i64 (k:Int)] w fun e w' =>e= .returned (.bool false)∧Below w.heap.size w w' :=by
 have d0:decide ((k:Int)<0)=false:=by simp
 have d1:decide (n≤k)=false:=by simpa using hk
 exact Tzcx
set_option maxHeartbeats 1000000 in
theorem wQ (A:Option Addr) (n c:Nat) (k:Int) (w:World) (hk:k<0∨(n:Int)≤k) (hn:n≤1000):
 Calls Tryz.prog 67 #[.agg #[.slice A n c],.int .i64 k] w fun e w' =>e= .returned (.bool true)∧Below w.heap.size w w' :=by
 by_cases h0:k<0
 ·have d0:decide (k<0)=true:=by simpa using h0
  exact Tzcx
 ·have d0:decide (k<0)=false:=by simpa using h0
  have d1:decide ((n:Int)≤k)=true:=by simp;omega
  exact Tzcx
set_option maxHeartbeats 2000000 in
theorem pY (A:Option Addr) (n c:Nat) (fs:List Fil) (S:Nat→Prop) (w:World) (hD:Dsk S w (.slice A n c) fs) (hn:n≤1000) (k:Nat) (hk:k<n) (x:FV) (f:Fil) (hf:FOk S w x f):
 Calls Tryz.prog 68 #[.agg #[.slice A n c],.int .i64 (k:Int),.agg #[.slice x.A1 x.n1 x.c1,.slice x.A2 x.n2 x.c2]] w fun e w' =>∃A' c',e= .returned (.agg #[.slice A' n c'])∧Dsk (fun b=>S b∨w.heap.size≤b) w' (.slice A' n c') (fs.set k f)∧Below w.heap.size w w' :=by
 obtain ⟨xs,hR,hxl,hok⟩:=hD
 have hxn:=hR.len
 go_enter Tryz.func68,Tryz.ntmps68
 go_wp2_with fail
 obtain ⟨W,hW⟩:∃W,W=((w.alloc (.cells #[.slice A n c] 36)).alloc (.cells #[.slice x.A1 x.n1 x.c1,.slice x.A2 x.n2 x.c2] 86)).alloc (.cells #[.slice none 0 0] 36):=⟨_,rfl⟩
 have hbW:Below w.heap.size w W:=by rw [hW];exact (((Below.refl _ w).alloc (Nat.le_refl _) _).alloc (by simp) _).alloc (by simp;omega) _
 have hsW:W.heap.size=w.heap.size+3:=by rw [hW];simp
 have q0:W.cell? ⟨w.heap.size+1,0,none⟩=some (.slice x.A1 x.n1 x.c1):=by rw [hW];go_simp
 have q1:W.cell? ⟨w.heap.size+1,1,none⟩=some (.slice x.A2 x.n2 x.c2):=by rw [hW];go_simp
 have hz:W.heap[w.heap.size+1+1]? =some (.cells #[.slice none 0 0] 36 (0,0)):=by
  rw [hW]
  have:=heap_alloc_new ((w.alloc (.cells #[.slice A n c] 36)).alloc (.cells #[.slice x.A1 x.n1 x.c1,.slice x.A2 x.n2 x.c2] 86)) (.cells #[.slice none 0 0] 36)
  rw [World.size_alloc,World.size_alloc] at this
  exact this
 rw [←hW]
 clear hW
 have HsW:=Lib.hid hsW
 clear hsW
 refine (LQ A n c xs _ W (hR.ext hbW) (by omega)).mono ?_
 rintro e w1 ⟨A1,c1,rfl,hown1,hb1⟩
 obtain ⟨g,rfl,hg1,hg2⟩:=hown1.some_ (by omega)
 obtain ⟨⟨u0,hu0⟩,hf0⟩:=hown1.cellF hk 0 (by omega)
 obtain ⟨⟨u1,hu1⟩,hf1⟩:=hown1.cellF hk 1 (by omega)
 rw [Nat.add_zero] at hu0 hf0
 have q0' :=(hb1.cell (p:=⟨w.heap.size+1,0,none⟩) (by have:=HsW.out;simp;omega)).trans q0
 have q1' :=(hb1.cell (p:=⟨w.heap.size+1,1,none⟩) (by have:=HsW.out;simp;omega)).trans q1
 have hz1:=(hb1.block _ (by have:=HsW.out;omega)).trans hz
 clear q0 q1 hz
 have hown2:=hown1.setF x hk
 have hgr2:w1.grownBy ((w1.setCell ⟨g,k*2,none⟩ (.slice x.A1 x.n1 x.c1)).setCell ⟨g,k*2+1,none⟩ (.slice x.A2 x.n2 x.c2)) (some g):=rI (rI ⟨rfl,rfl,rfl,Nat.le_refl _,fun _ _ _=>rfl⟩)
 have hz2:=(hgr2.block (w.heap.size+1+1) (by have:=HsW.out;omega) (by have:=HsW.out;simp;omega)).trans hz1
 have Hz2:=Lib.hid hz2
 have Hown2:=Lib.hid hown2
 have Hgr2:=Lib.hid hgr2
 clear hz1 hz2 hown2 hgr2
 go_wp2_with (refine aC rfl 36 _ _ rfl (w.heap.size+1+1) 36 _ _ rfl rfl Hz2.out (by kernel_rfl) rfl (by simp [Value.oneCell']) ?_)
 refine bodyPost_ret (bH rfl rfl (aB (setRow_heap _ _ _ _ _ _ Hz2.out) Tryz.underlying36 rfl (by kernel_rfl))) rfl ?_
 have hbf:Below w.heap.size w (((w1.setCell ⟨g,k*2,none⟩ (.slice x.A1 x.n1 x.c1)).setCell ⟨g,k*2+1,none⟩ (.slice x.A2 x.n2 x.c2)).setRow (w.heap.size+1+1) #[.slice (some ⟨g,0,none⟩) n c1]):=
  Below.setRow (Below.grow (Below.ext hbW hb1) Hgr2.out (by have:=HsW.out;omega)) (by omega) _
 refine ⟨_,_,rfl,⟨xs.set k x,Recs.mono (OwnR.recs (OwnR.kept (row:=some (w.heap.size+1+1)) Hown2.out ⟨rfl,rfl,rfl,by simp,fun j hj hne=>setRow_other _ _ _ _ (by simpa using hne)⟩ (.inr (fun e=> ?_)))) (fun _ _ h=> .inr (by have:=h.1;have:=HsW.out;omega)),by simp [hxl],fun i y h hy hh=> ?_⟩,hbf⟩
 ·have:=(World.ownsRow.lt Hown2.out _ e).1
  have:=HsW.out
  omega
 ·by_cases hik:k=i
  ·subst hik
   rw [List.getElem?_set_self (by omega)] at hy hh
   cases hy
   cases hh
   exact (hf.ext hbf).mono (fun _ _ h=> .inl h)
  ·rw [List.getElem?_set_ne hik] at hy hh
   exact ((hok i y h hy hh).ext hbf).mono (fun _ _ h=> .inl h)
set_option maxHeartbeats 2000000 in
theorem xF (A:Option Addr) (n c:Nat) (fs:List Fil) (S:Nat→Prop) (w:World) (hD:Dsk S w (.slice A n c) fs) (hn:n≤1000) (k:Nat) (f:Fil) (hf:fs[k]? =some f) (hlen:f.s.length+f.p.length≤10000000):
 Calls Tryz.prog 27 #[.agg #[.slice A n c],.int .i64 (k:Int)] w fun e w' =>∃A' c',e= .returned (.tuple #[.slice A' (f.s.length+f.p.length) c',.int .i64 0])∧OwnR eV 1 w' w.heap.size 5 (.slice A' (f.s.length+f.p.length) c') (f.s++f.p)∧Below w.heap.size w w' :=by
 have hk:k<n:=by have:=(List.getElem?_eq_some_iff.1 hf).1;have:=hD.len;omega
 obtain ⟨b,off,x,f',rfl,hb,hf',hx,c0,c1⟩:=hD.at_ hk
 obtain rfl:f' =f:=by rw [hf] at hf';cases hf';rfl
 have hs1:=hx.s.len
 have hp1:=hx.p.len
 have e1:=Lib.hid hs1.1
 have e2:=Lib.hid hp1.1
 have hxs:x.n1+x.n2≤10000000:=by have:=e1.out;have:=e2.out;omega
 clear hf hf' hs1 hp1
 have ha:Below w.heap.size w (w.alloc (.cells #[.slice (some ⟨b,off,none⟩) n c] 36)):=(Below.refl _ w).alloc (Nat.le_refl _) _
 go_enter Tryz.func27,Tryz.ntmps27
 go_wp2_with fail
 obtain ⟨W,hW⟩:∃W,W=w.alloc (.cells #[.slice (some ⟨b,off,none⟩) n c] 36):=⟨_,rfl⟩
 have q0:W.cell? ⟨w.heap.size,0,none⟩=some (.slice (some ⟨b,off,none⟩) n c):=by rw [hW];go_simp
 rw [←hW] at ha
 rw [←hW]
 clear hW
 refine (kH _ n c k W hk hn).mono ?_
 rintro e w1 ⟨rfl,hb1⟩
 have q0' :=(hb1.cell (p:=⟨w.heap.size,0,none⟩) (block_lt_of_cell q0)).trans q0
 have hlt1:=block_lt_of_cell q0'
 have hbb:=Below.ext ha hb1
 have c0' :=(hbb.cell (p:=⟨b,off+k*2,none⟩) hb).trans c0
 have c1' :=(hbb.cell (p:=⟨b,off+k*2+1,none⟩) hb).trans c1
 have hb' :=block_lt_of_cell c0'
 clear q0 c0 c1
 have ag22:∀w:World,(isAgg 34).run Tryz.prog w= .ok false w:=fun w=>by simp [isAgg,run_underlying Tryz.underlying34]
 have ag30:∀w:World,(isAgg 22).run Tryz.prog w= .ok false w:=fun w=>by simp [isAgg,run_underlying Tryz.underlying22]
 have A22:=Lib.hid ag22
 have A30:=Lib.hid ag30
 clear ag22 ag30
 go_wp2_with fail
 refine aM (Below w1.heap.size w1) (by kernel_rfl) (by kernel_rfl) ((Below.refl _ _).drew) ?_
 refine TkA ?_
 refine aE (⟨w.heap.size,0,none⟩) (.slice (some ⟨b,off,none⟩) n c) rfl rfl rfl (fun w' hS=>aG (A22.out _) ((hS.cell (p:=⟨w.heap.size,0,none⟩) hlt1).trans q0')) ?_
 refine TkI ?_
 refine TkA ?_
 refine aE (⟨b,off+k*2,none⟩) (.slice x.A1 x.n1 x.c1) rfl rfl rfl (fun w' hS=>aG (A30.out _) ((hS.cell (p:=⟨b,off+k*2,none⟩) hb').trans c0')) ?_
 refine TkI ?_
 refine TkA ?_
 refine aE (⟨w.heap.size,0,none⟩) (.slice (some ⟨b,off,none⟩) n c) rfl rfl rfl (fun w' hS=>aG (A22.out _) ((hS.cell (p:=⟨w.heap.size,0,none⟩) hlt1).trans q0')) ?_
 refine TkI ?_
 refine TkA ?_
 refine aE (⟨b,off+k*2+1,none⟩) (.slice x.A2 x.n2 x.c2) rfl rfl rfl (fun w' hS=>aG (A30.out _) ((hS.cell (p:=⟨b,off+k*2+1,none⟩) hb').trans c1')) ?_
 refine TkI ?_
 refine TkA ?_
 have hW1:Below w1.heap.size w1 (w1.alloc (.cells #[.slice x.A1 x.n1 x.c1,.slice x.A2 x.n2 x.c2] 22)).drew:=((Below.refl _ _).alloc (Nat.le_refl _) _).drew
 refine aL rfl ?_
 go_wp2_with fail
 refine aI hW1 ?_
 refine TkA ?_
 refine aL rfl ?_
 go_wp2_with fail
 refine (kN w1.heap.size x.A1 x.A2 x.n1 x.c1 x.n2 x.c2 f'.s f'.p _ _ _ (by go_simp) (by go_simp) ((hx.s.ext hbb).ext hW1) ((hx.p.ext hbb).ext hW1) (by omega)).mono ?_
 rintro e w2 ⟨A',c',rfl,hown,hb2⟩
 have hb2' :=Below.ext hW1 hb2
 go_wp2_with fail
 refine aI (hb2') ?_
 refine TkA ?_
 refine aZ ?_
 go_wp2_with fail
 go_wp2
 go_ret2
 have hsz:=hbb.size
 refine ⟨A',c',by rw [e1.out,e2.out];rfl,?_,Below.ext hbb hb2'⟩
 rw [e1.out,e2.out]
 exact hown.weak (by show w.heap.size≤(w1.alloc _).heap.size;rw [World.size_alloc];omega)
end Go.Proofs.YtiblijmngokcgaaGreatDoor
namespace Go.Proofs.YtiblijmngokcgaaGreatDoor
open Go.RowKit
set_option maxRecDepth 100000
set_option linter.unusedVariables false
theorem jQ (w:World) (v:Value):∃W,W=(w.alloc (.cells #[v] 36)).alloc (.cells #[.slice none 0 0] 36)∧Below w.heap.size w W∧W.heap.size=w.heap.size+2∧
 W.heap[w.heap.size]? =some (.cells #[v] 36 (0,0))∧W.heap[w.heap.size+1]? =some (.cells #[.slice none 0 0] 36 (0,0)):=by
 refine ⟨_,rfl,((Below.refl _ w).alloc (Nat.le_refl _) _).alloc (by simp) _,by simp,?_,?_⟩
 ·exact Tzar
 ·have:=heap_alloc_new (w.alloc (.cells #[v] 36)) (.cells #[.slice none 0 0] 36)
  rw [World.size_alloc] at this
  exact this
set_option maxHeartbeats 2000000 in
theorem DH (A:Option Addr) (n c:Nat) (fs:List Fil) (S:Nat→Prop) (w:World) (hD:Dsk S w (.slice A n c) fs) (hn:n≤1000) (k:Nat) (f:Fil) (hf:fs[k]? =some f) (Ab:Option Addr) (nb cb:Nat) (lb:List UInt8) (hb:By S w (.slice Ab nb cb) lb) (hlen:f.s.length+f.p.length+nb≤65536):
 Calls Tryz.prog 118 #[.agg #[.slice A n c],.int .i64 (k:Int),.slice Ab nb cb] w fun e w' =>∃A' c',e= .returned (.tuple #[.agg #[.slice A' n c'],.int .i64 0])∧Dsk (fun b=>S b∨w.heap.size≤b) w' (.slice A' n c') (fs.set k ⟨f.s,f.p++lb⟩)∧Below w.heap.size w w' :=by
 have hk:k<n:=by have:=(List.getElem?_eq_some_iff.1 hf).1;have:=hD.len;omega
 have hD0:=hD.mono (S' :=fun b=>S b∧b<w.heap.size) (fun b hb hs=>⟨hs,hb⟩)
 obtain ⟨b,off,x,f',rfl,hbl,hf',hx,c0,c1⟩:=hD0.at_ hk
 obtain rfl:f' =f:=by rw [hf] at hf';cases hf';rfl
 have e1:=Lib.hid hx.s.len.1
 have e2:=Lib.hid hx.p.len.1
 have hxs:x.n1+x.n2+nb≤65536:=by have:=e1.out;have:=e2.out;omega
 clear hf hf'
 obtain ⟨W,hW,hbW,hsW,hw0,hw1⟩:=jQ w (.slice (some ⟨b,off,none⟩) n c)
 have HsW:=Lib.hid hsW
 have d1:decide (65536<x.n1+x.n2+nb)=false:=by simp;omega
 go_enter Tryz.func118,Tryz.ntmps118
 go_wp2_with fail
 rw [←hW]
 clear hW hsW
 refine (kH _ n c k W hk hn).mono ?_
 rintro e w1 ⟨rfl,hb1⟩
 have hbb:=Below.ext hbW hb1
 have hsz1:=hb1.size
 have z0:=(hb1.block _ (by have:=HsW.out;omega)).trans hw0
 have z1:=(hb1.block _ (by have:=HsW.out;omega)).trans hw1
 have q0:w1.cell? ⟨w.heap.size,0,none⟩=some (.slice (some ⟨b,off,none⟩) n c):=by rw [cell_of_row _ _ _ _ _ _ z0];rfl
 have c0' :=(hbb.cell (p:=⟨b,off+k*2,none⟩) hbl).trans c0
 have c1' :=(hbb.cell (p:=⟨b,off+k*2+1,none⟩) hbl).trans c1
 have H0:=Lib.hid z0
 have H1:=Lib.hid z1
 clear hw0 hw1 z0 z1 c0 c1
 go_wp2_with fail
 obtain ⟨W1,hW1⟩:∃W1,W1=w1.alloc (.cells #[.slice x.A1 x.n1 x.c1,.slice x.A2 x.n2 x.c2] 86):=⟨_,rfl⟩
 obtain ⟨W2,hW2⟩:∃W2,W2=W1.alloc (.cells #[.slice x.A2 x.n2 x.c2,.slice Ab nb cb] 22):=⟨_,rfl⟩
 have hbW1:Below w1.heap.size w1 W1:=by rw [hW1];exact (Below.refl _ _).alloc (Nat.le_refl _) _
 have hbW2:Below W1.heap.size W1 W2:=by rw [hW2];exact (Below.refl _ _).alloc (Nat.le_refl _) _
 have hrow1:W1.heap[w1.heap.size]? =some (.cells #[.slice x.A1 x.n1 x.c1,.slice x.A2 x.n2 x.c2] 86 (0,0)):=by rw [hW1];exact heap_alloc_new _ _
 have hs1:W1.heap.size=w1.heap.size+1:=by rw [hW1];simp
 have hs2:W2.heap.size=w1.heap.size+2:=by rw [hW2];simp [hs1]
 have g0:W2.cell? ⟨w1.heap.size+1,0,none⟩=some (.slice x.A2 x.n2 x.c2):=by rw [hW2,←hs1];go_simp
 have g1:W2.cell? ⟨w1.heap.size+1,1,none⟩=some (.slice Ab nb cb):=by rw [hW2,←hs1];go_simp
 rw [←hW1,←hW2]
 clear hW1 hW2
 have b2:=Below.ext hbb (Below.ext hbW1 hbW2)
 have Hs2:=Lib.hid hs2
 have Hs1:=Lib.hid hs1
 have hrow2:=(hbW2.block _ (by omega)).trans hrow1
 clear hs1 hs2
 refine (kN (w1.heap.size+1) x.A2 Ab x.n2 x.c2 nb cb f'.p lb _ _ W2 g0 g1 (hx.p.ext b2) (hb.ext b2) (by omega)).mono ?_
 rintro e w3 ⟨A3,c3,rfl,hown3,hb3⟩
 have hrow3:=(hb3.block _ (by have:=Hs2.out;omega)).trans hrow2
 have f0:w3.cell? ⟨w1.heap.size,0,none⟩=some (.slice x.A1 x.n1 x.c1):=by rw [cell_of_row _ _ _ _ _ _ hrow3];rfl
 have f1:w3.cell? ⟨w1.heap.size,1,none⟩=some (.slice x.A2 x.n2 x.c2):=by rw [cell_of_row _ _ _ _ _ _ hrow3];rfl
 have fz:w3.frozen? ⟨w1.heap.size,1,none⟩=false:=frozen_of_row _ _ _ _ _ hrow3
 have b13:Below w1.heap.size w1 w3:=Below.ext (Below.ext hbW1 hbW2) hb3
 have q3:=(b13.cell (p:=⟨w.heap.size,0,none⟩) (by have:=HsW.out;show w.heap.size<_;omega)).trans q0
 have hsz3:=b13.size
 clear q0 c0' c1' g0 g1 hrow1 hrow2
 go_wp2_with fail
 have hg4:w3.grownBy (w3.setCell ⟨w1.heap.size,1,none⟩ (.slice A3 (x.n2+nb) c3)) (some w1.heap.size):=aO ⟨rfl,rfl,rfl,Nat.le_refl _,fun _ _ _=>rfl⟩
 have B4:Below w.heap.size w (w3.setCell ⟨w1.heap.size,1,none⟩ (.slice A3 (x.n2+nb) c3)):=Below.grow (Below.ext hbb b13) hg4 hbb.size
 have hown4:=hown3.kept hg4 (.inr (fun e=>by have:=(World.ownsRow.lt hown3 _ e).1;have:=Hs2.out;omega))
 have z4:=((hg4.block (w.heap.size+1) (by have:=HsW.out;omega) (by have:=HsW.out;simp;omega)).trans (b13.block _ (by have:=HsW.out;omega))).trans H1.out
 have hR4:w.heap.size+1<(w3.setCell ⟨w1.heap.size,1,none⟩ (.slice A3 (x.n2+nb) c3)).heap.size:=(Array.getElem?_eq_some_iff.1 z4).1
 generalize w3.setCell ⟨w1.heap.size,1,none⟩ (.slice A3 (x.n2+nb) c3)=w4 at*
 have hD4:Dsk (fun b=>(S b∨w.heap.size≤b)∧b≠w.heap.size+1) w4 (.slice (some ⟨b,off,none⟩) n c) fs:=(hD0.ext B4).mono (fun _ _ h=>⟨.inl h.1,by have:=h.2;omega⟩)
 have hf4:FOk (fun b=>(S b∨w.heap.size≤b)∧b≠w.heap.size+1) w4 ⟨x.A1,x.n1,x.c1,A3,x.n2+nb,c3⟩ ⟨f'.s,f'.p++lb⟩:=⟨(hx.s.ext B4).mono (fun _ _ h=>⟨.inl h.1,by have:=h.2;omega⟩),hown4.recs.mono (fun _ _ h=>⟨.inr (by have:=h.1;have:=Hs2.out;have:=HsW.out;omega),by have:=h.1;have:=Hs2.out;have:=HsW.out;omega⟩)⟩
 refine (pY _ n c fs _ _ hD4 hn k hk ⟨x.A1,x.n1,x.c1,A3,x.n2+nb,c3⟩ ⟨f'.s,f'.p++lb⟩ hf4).mono ?_
 rintro e w5 ⟨A5,c5,rfl,hD5,hb5⟩
 have z5:=(hb5.block _ hR4).trans z4
 have Z5:=Lib.hid z5
 clear z5 z4
 go_wp2_with (refine aC rfl 36 _ _ rfl (w.heap.size+1) 36 _ _ rfl rfl Z5.out (by kernel_rfl) rfl (by simp [Value.oneCell']) ?_)
 refine bodyPost_ret (bI rfl rfl (aB (setRow_heap _ _ _ _ _ _ Z5.out) Tryz.underlying36 rfl (by kernel_rfl))) rfl ?_
 have hD6:=((hD5.mono (S' :=fun b=>(S b∨w.heap.size≤b)∧b≠w.heap.size+1) (fun b _ h=>by rcases h with h|h;exact h;exact ⟨.inr (by omega),by omega⟩)).keep (fun b hb hs=>setRow_other w5 (w.heap.size+1) b #[.slice A5 n c5] hs.2)).mono (S' :=fun b=>S b∨w.heap.size≤b) (fun _ _ h=>h.1)
 exact ⟨A5,c5,rfl,hD6,Below.setRow (Below.ext B4 hb5) (by omega) _⟩
set_option maxHeartbeats 2000000 in
theorem NJ (A:Option Addr) (n c:Nat) (fs:List Fil) (S:Nat→Prop) (w:World) (hD:Dsk S w (.slice A n c) fs) (hn:n≤1000) (k:Nat) (f:Fil) (hf:fs[k]? =some f) (hlen:f.s.length+f.p.length≤10000000):
 Calls Tryz.prog 26 #[.agg #[.slice A n c],.int .i64 (k:Int)] w fun e w' =>∃A' c',e= .returned (.tuple #[.agg #[.slice A' n c'],.int .i64 0])∧Dsk (fun b=>S b∨w.heap.size≤b) w' (.slice A' n c') (fs.set k ⟨f.s++f.p,[]⟩)∧Below w.heap.size w w' :=by
 have hk:k<n:=by have:=(List.getElem?_eq_some_iff.1 hf).1;have:=hD.len;omega
 have hD0:=hD.mono (S' :=fun b=>S b∧b<w.heap.size) (fun b hb hs=>⟨hs,hb⟩)
 obtain ⟨b,off,x,f',rfl,hbl,hf',hx,c0,c1⟩:=hD0.at_ hk
 obtain rfl:f' =f:=by rw [hf] at hf';cases hf';rfl
 have e1:=Lib.hid hx.s.len.1
 have e2:=Lib.hid hx.p.len.1
 have hxs:x.n1+x.n2≤10000000:=by have:=e1.out;have:=e2.out;omega
 clear hf hf'
 obtain ⟨W,hW,hbW,hsW,hw0,hw1⟩:=jQ w (.slice (some ⟨b,off,none⟩) n c)
 have HsW:=Lib.hid hsW
 go_enter Tryz.func26,Tryz.ntmps26
 go_wp2_with fail
 rw [←hW]
 clear hW hsW
 refine (kH _ n c k W hk hn).mono ?_
 rintro e w1 ⟨rfl,hb1⟩
 have hbb:=Below.ext hbW hb1
 have hsz1:=hb1.size
 have z0:=(hb1.block _ (by have:=HsW.out;omega)).trans hw0
 have z1:=(hb1.block _ (by have:=HsW.out;omega)).trans hw1
 have q0:w1.cell? ⟨w.heap.size,0,none⟩=some (.slice (some ⟨b,off,none⟩) n c):=by rw [cell_of_row _ _ _ _ _ _ z0];rfl
 have c0' :=(hbb.cell (p:=⟨b,off+k*2,none⟩) hbl).trans c0
 have c1' :=(hbb.cell (p:=⟨b,off+k*2+1,none⟩) hbl).trans c1
 have H0:=Lib.hid z0
 have H1:=Lib.hid z1
 clear hw0 hw1 z0 z1 c0 c1
 obtain ⟨W1,hW1⟩:∃W1,W1=w1.alloc (.cells #[.slice x.A1 x.n1 x.c1,.slice x.A2 x.n2 x.c2] 86):=⟨_,rfl⟩
 have hbW1:Below w1.heap.size w1 W1:=by rw [hW1];exact (Below.refl _ _).alloc (Nat.le_refl _) _
 have hrow1:W1.heap[w1.heap.size]? =some (.cells #[.slice x.A1 x.n1 x.c1,.slice x.A2 x.n2 x.c2] 86 (0,0)):=by rw [hW1];exact heap_alloc_new _ _
 have hs1:W1.heap.size=w1.heap.size+1:=by rw [hW1];simp
 have Hs1:=Lib.hid hs1
 have z0' :=(hbW1.block _ (by have:=HsW.out;omega)).trans H0.out
 have f0:W1.cell? ⟨w1.heap.size,0,none⟩=some (.slice x.A1 x.n1 x.c1):=by rw [cell_of_row _ _ _ _ _ _ hrow1];rfl
 have f1:W1.cell? ⟨w1.heap.size,1,none⟩=some (.slice x.A2 x.n2 x.c2):=by rw [cell_of_row _ _ _ _ _ _ hrow1];rfl
 have F0:=Lib.hid f0
 have F1:=Lib.hid f1
 have Z0:=Lib.hid z0'
 have ag30:∀w:World,(isAgg 22).run Tryz.prog w= .ok false w:=fun w=>by simp [isAgg,run_underlying Tryz.underlying22]
 have A30:=Lib.hid ag30
 have bw1:=Below.ext hbb hbW1
 clear hs1 f0 f1 z0' ag30 hrow1
 go_wp2_with fail
 rw [←hW1]
 clear hW1
 -- a class that keeps what W1 holds,but for the result
 have hcl:∀(w' :World) (p:Addr),Keep (·≠w.heap.size+1) W1 w'→p.block<W1.heap.size→p.block≠w.heap.size+1→p.spot=none→w'.cell? p=W1.cell? p:=fun w' p hS h1 h2 h3=>World.cell?_of_block (hS p.block h1 h2)
 have HC:=Lib.hid hcl
 clear hcl
 refine aM (fun w' =>Below w.heap.size w w'∧Keep (·≠w.heap.size+1) W1 w') (by kernel_rfl) (by kernel_rfl) (⟨bw1.drew,fun _ _ _=>rfl⟩) ?_
 refine TkA ?_
 refine aE (⟨w.heap.size,0,none⟩) (.agg #[.slice (some ⟨b,off,none⟩) n c]) rfl rfl rfl (fun w' hS=>aB ((hS.2 _ (by have:=Hs1.out;have:=HsW.out;omega) (by omega)).trans Z0.out) Tryz.underlying36 rfl (by kernel_rfl)) ?_
 refine TkI ?_
 refine TkA ?_
 refine aE (⟨w1.heap.size,0,none⟩) (.slice x.A1 x.n1 x.c1) rfl rfl rfl (fun w' hS=>aG (A30.out _) ((HC.out w' ⟨w1.heap.size,0,none⟩ hS.2 (by have:=Hs1.out;show w1.heap.size<_;omega) (by have:=HsW.out;show w1.heap.size≠_;omega) rfl).trans F0.out)) ?_
 refine TkI ?_
 refine TkA ?_
 refine aE (⟨w1.heap.size,1,none⟩) (.slice x.A2 x.n2 x.c2) rfl rfl rfl (fun w' hS=>aG (A30.out _) ((HC.out w' ⟨w1.heap.size,1,none⟩ hS.2 (by have:=Hs1.out;show w1.heap.size<_;omega) (by have:=HsW.out;show w1.heap.size≠_;omega) rfl).trans F1.out)) ?_
 refine TkI ?_
 refine TkA ?_
 have hW2:Below W1.heap.size W1 (W1.alloc (.cells #[.slice x.A1 x.n1 x.c1,.slice x.A2 x.n2 x.c2] 22)).drew:=((Below.refl _ _).alloc (Nat.le_refl _) _).drew
 refine aL rfl ?_
 go_wp2_with fail
 refine aI ⟨Below.ext bw1 hW2,fun j hj _=>hW2.block j hj⟩ ?_
 refine TkA ?_
 refine aL rfl ?_
 go_wp2_with fail
 refine (kN W1.heap.size x.A1 x.A2 x.n1 x.c1 x.n2 x.c2 f'.s f'.p _ _ _ (by go_simp) (by go_simp) ((hx.s.ext bw1).ext hW2) ((hx.p.ext bw1).ext hW2) (by omega)).mono ?_
 rintro e w3 ⟨A3,c3,rfl,hown3,hb3⟩
 have b13:=Below.ext hW2 hb3
 go_wp2_with fail
 refine aI ⟨Below.ext bw1 b13,fun j hj _=>b13.block j hj⟩ ?_
 refine TkA ?_
 refine aL rfl ?_
 go_wp2_with fail
 refine aI ⟨Below.ext bw1 b13,fun j hj _=>b13.block j hj⟩ ?_
 refine TkA ?_
 refine aL rfl ?_
 go_wp2_with fail
 have B4:=Below.ext bw1 b13
 have z4:=(b13.block _ (by have:=Hs1.out;have:=HsW.out;omega)).trans ((hbW1.block _ (by have:=HsW.out;omega)).trans H1.out)
 have hR4:w.heap.size+1<w3.heap.size:=(Array.getElem?_eq_some_iff.1 z4).1
 have hD4:Dsk (fun b=>(S b∧b<w.heap.size)∨w.heap.size+2≤b) w3 (.slice (some ⟨b,off,none⟩) n c) fs:=(hD0.ext B4).mono (fun _ _ h=> .inl h)
 have hbase:w.heap.size+2≤(W1.alloc (.cells #[.slice x.A1 x.n1 x.c1,.slice x.A2 x.n2 x.c2] 22)).drew.heap.size:=by show _≤(W1.alloc _).heap.size;rw [World.size_alloc];have:=Hs1.out;have:=HsW.out;omega
 have hf4:FOk (fun b=>(S b∧b<w.heap.size)∨w.heap.size+2≤b) w3 ⟨A3,x.n1+x.n2,c3,none,0,0⟩ ⟨f'.s++f'.p,[]⟩:=⟨hown3.recs.mono (fun _ _ h=> .inr (by have:=h.1;omega)),Recs.nil_ _ _⟩
 refine (pY _ n c fs _ _ hD4 hn k hk ⟨A3,x.n1+x.n2,c3,none,0,0⟩ ⟨f'.s++f'.p,[]⟩ hf4).mono ?_
 exact Tza1
set_option maxHeartbeats 2000000 in
theorem qR (A:Option Addr) (n c:Nat) (fs:List Fil) (S:Nat→Prop) (w:World) (hD:Dsk S w (.slice A n c) fs) (hn:n≤1000) (k:Nat) (hk:k<n) (Ab:Option Addr) (nb cb:Nat) (lb:List UInt8) (Sb:Nat→Prop) (hb:By Sb w (.slice Ab nb cb) lb) (hlen:nb≤65536):
 Calls Tryz.prog 41 #[.agg #[.slice A n c],.int .i64 (k:Int),.slice Ab nb cb] w fun e w' =>∃A' c',e= .returned (.tuple #[.agg #[.slice A' n c'],.int .i64 0])∧Dsk (fun b=>S b∨w.heap.size≤b) w' (.slice A' n c') (fs.set k ⟨lb,[]⟩)∧Below w.heap.size w w' :=by
 have hD0:=hD.mono (S' :=fun b=>S b∧b<w.heap.size) (fun b hb hs=>⟨hs,hb⟩)
 obtain ⟨W,hW,hbW,hsW,hw0,hw1⟩:=jQ w (.slice A n c)
 have HsW:=Lib.hid hsW
 have d1:decide (65536<nb)=false:=by simpa using hlen
 have d2:decide ((65536:Int)<(nb:Int))=false:=by simp;omega
 go_enter Tryz.func41,Tryz.ntmps41
 go_wp2_with fail
 rw [←hW]
 clear hW hsW
 refine (kH _ n c k W hk hn).mono ?_
 rintro e w1 ⟨rfl,hb1⟩
 have hbb:=Below.ext hbW hb1
 have hsz1:=hb1.size
 have z0:=(hb1.block _ (by have:=HsW.out;omega)).trans hw0
 have z1:=(hb1.block _ (by have:=HsW.out;omega)).trans hw1
 have H0:=Lib.hid z0
 have H1:=Lib.hid z1
 clear hw0 hw1 z0 z1
 go_wp2_with fail
 refine aM (fun w' =>Below w.heap.size w w'∧Keep (·≠w.heap.size+1) w1 w') (by kernel_rfl) (by kernel_rfl) (⟨hbb.drew,fun _ _ _=>rfl⟩) ?_
 refine TkA ?_
 refine aE (⟨w.heap.size,0,none⟩) (.agg #[.slice A n c]) rfl rfl rfl (fun w' hS=>aB ((hS.2 _ (by have:=HsW.out;omega) (by omega)).trans H0.out) Tryz.underlying36 rfl (by kernel_rfl)) ?_
 refine TkI ?_
 refine TkA ?_
 refine aL rfl ?_
 go_wp2_with fail
 refine (DB Ab nb cb lb _ _ ((hb.ext hbb).ext (Below.refl _ _).drew) (by omega)).mono ?_
 rintro e w3 ⟨A3,c3,rfl,hown3,hb3⟩
 have b13:Below w1.heap.size w1 w3:=Below.ext (Below.refl _ _).drew hb3
 go_wp2_with fail
 refine aI ⟨Below.ext hbb b13,fun j hj _=>b13.block j hj⟩ ?_
 refine TkA ?_
 refine aL rfl ?_
 go_wp2_with fail
 refine aI ⟨Below.ext hbb b13,fun j hj _=>b13.block j hj⟩ ?_
 refine TkA ?_
 refine aL rfl ?_
 go_wp2_with fail
 have B4:=Below.ext hbb b13
 have z4:=(b13.block _ (by have:=HsW.out;omega)).trans H1.out
 have hR4:w.heap.size+1<w3.heap.size:=(Array.getElem?_eq_some_iff.1 z4).1
 have hD4:Dsk (fun b=>(S b∧b<w.heap.size)∨w.heap.size+2≤b) w3 (.slice A n c) fs:=(hD0.ext B4).mono (fun _ _ h=> .inl h)
 have hf4:FOk (fun b=>(S b∧b<w.heap.size)∨w.heap.size+2≤b) w3 ⟨A3,nb,c3,none,0,0⟩ ⟨lb,[]⟩:=⟨hown3.recs.mono (fun _ _ h=> .inr (by have h1:w1.heap.size≤_:=h.1;have:=HsW.out;omega)),Recs.nil_ _ _⟩
 refine (pY _ n c fs _ _ hD4 hn k hk ⟨A3,nb,c3,none,0,0⟩ ⟨lb,[]⟩ hf4).mono ?_
 exact Tza1
end Go.Proofs.YtiblijmngokcgaaGreatDoor
namespace Go.Proofs.YtiblijmngokcgaaGreatDoor
open Go.RowKit
set_option linter.unusedVariables false
def fR (q:List UInt8) (L:List Int):List UInt8:=q.mapIdx (fun i c=>if ((i / 16:Nat):Int)∈L then 0 else c)
theorem BM (q:List UInt8):fR q []=q:=by
 unfold fR
 apply List.ext_getElem?
 intro i
 simp
theorem BN (q:List UInt8) (L:List Int):(fR q L).length=q.length:=by simp [fR]
theorem jU (q:List UInt8) (L:List Int) (i:Nat):(fR q L)[i]? =q[i]?.map (fun c=>if ((i / 16:Nat):Int)∈L then 0 else c):=by simp [fR]
def zr (l:List UInt8):Nat→Nat→List UInt8
 |_,0=>l
 |o,m+1=>zr (l.set o 0) (o+1) m
theorem zR:∀(m:Nat) (l:List UInt8) (o i:Nat),(zr l o m)[i]? =if o≤i∧i<o+m then l[i]?.map (fun _=>0) else l[i]?
 |0,l,o,i=>by rw [zr,if_neg (by omega)]
 |m+1,l,o,i=>by
  rw [zr,zR m,List.getElem?_set]
  by_cases h:o=i
  ·subst h
   rw [if_neg (by omega),if_pos rfl,if_pos (⟨Nat.le_refl _,by omega⟩:o≤o∧o<o+(m+1))]
   by_cases h2:o<l.length
   ·rw [if_pos h2,List.getElem?_eq_getElem h2]
    rfl
   ·rw [if_neg h2,List.getElem?_eq_none (by omega)]
    rfl
  ·by_cases h2:o+1≤i∧i<o+1+m
   ·rw [if_pos h2,if_neg h,if_pos (by omega)]
   ·rw [if_neg h2,if_neg h,if_neg (by omega)]
theorem BL (q:List UInt8) (L:List Int) (n e:Nat) (he:e=min ((n+1)*16) q.length) (hn:n*16≤q.length):zr (fR q L) (n*16) (e-n*16)=fR q (L++ [(n:Int)]):=by
 apply List.ext_getElem?
 intro i
 rw [zR,jU,jU]
 by_cases hi:i<q.length
 ·rw [List.getElem?_eq_getElem hi]
  by_cases h:n*16≤i∧i<n*16+(e-n*16)
  ·rw [if_pos h]
   have:i / 16=n:=by omega
   simp [this]
  ·rw [if_neg h]
   have:¬((i / 16:Nat):Int)=(n:Int):=by omega
   simp only [List.mem_append,List.mem_singleton,this,or_false]
 ·rw [List.getElem?_eq_none (by omega)]
  simp
theorem sY (q:List UInt8) (L:List Int) (n:Int) (h:n<0∨((q.length+15) / 16:Nat)≤n):fR q (L++ [n])=fR q L:=by
 apply List.ext_getElem?
 intro i
 rw [jU,jU]
 by_cases hi:i<q.length
 ·have:¬((i / 16:Nat):Int)=n:=by omega
  simp only [List.mem_append,List.mem_singleton,this,or_false]
 ·rw [List.getElem?_eq_none (by omega)]
  rfl
def dW (p:List UInt8) (keep:Int):Nat:=(min (max keep 0) (p.length:Int)).toNat
theorem qE (p:List UInt8) (keep:Int):dW p keep≤p.length:=by unfold dW;omega
def kB (p:List UInt8) (keep:Int) (lost:List Int):List UInt8:=fR (p.take (dW p keep)) lost
theorem OwnR.setB {w:World} {base:Nat} {e:TypeId} {g n c:Nat} {l:List UInt8} (h:OwnR eV 1 w base e (.slice (some ⟨g,0,none⟩) n c) l) (j:Nat) (x:UInt8):
 OwnR eV 1 (w.setCell ⟨g,j,none⟩ (.int .u8 (x.toNat:Int))) base e (.slice (some ⟨g,0,none⟩) n c) (l.set j x):=by
 have hl:=h.len.1
 unfold OwnR at*
 rw [List.length_set,tZ,List.map_set,←tZ]
 subst hl
 exact (World.ownsRow.stored h _ _).1
theorem OwnR.zr_ {base:Nat} {e:TypeId} {g n c:Nat}:∀(m:Nat) (w:World) (l:List UInt8) (o:Nat),OwnR eV 1 w base e (.slice (some ⟨g,0,none⟩) n c) l→OwnR eV 1 (w.setCells g o (List.replicate m (.int .u8 0))) base e (.slice (some ⟨g,0,none⟩) n c) (zr l o m)
 |0,w,l,o,h=>h
 |m+1,w,l,o,h=>by
  rw [List.replicate_succ]
  show OwnR eV 1 ((w.setCell ⟨g,o,none⟩ (.int .u8 0)).setCells g (o+1) (List.replicate m (.int .u8 0))) _ _ _ _
  exact OwnR.zr_ m _ _ (o+1) (h.setB o 0)
theorem pR (g:Nat):∀(vs:List Value) (o:Nat) (w:World),w.grownBy (w.setCells g o vs) (some g)
 |[],_,w=>⟨rfl,rfl,rfl,Nat.le_refl _,fun _ _ _=>rfl⟩
 |v::vs,o,w=>by
  have h1:w.grownBy (w.setCell ⟨g,o,none⟩ v) (some g):=aO ⟨rfl,rfl,rfl,Nat.le_refl _,fun _ _ _=>rfl⟩
  have h2:=pR g vs (o+1) (w.setCell ⟨g,o,none⟩ v)
  exact ⟨h2.os.trans h1.os,h2.tape.trans h1.tape,h2.output.trans h1.output,Nat.le_trans h1.size h2.size,fun k hk hne=>(h2.block k (Nat.lt_of_lt_of_le hk h1.size) hne).trans (h1.block k hk hne)⟩
theorem yH {w:World} {base:Nat} {e:TypeId} {g n c:Nat} {l:List UInt8} (h:OwnR eV 1 w base e (.slice (some ⟨g,0,none⟩) n c) l) (o m cc:Nat) (hom:o+m≤n) (hm:0<m) (ty:TypeId):
 (Builtin.clear_ #[22] ty #[.slice (some ⟨g,o,none⟩) m cc]).run Tryz.prog w= .ok (.tuple #[]) (w.setCells g o (List.replicate m (.int .u8 0))):=by
 have hl:=h.len.1
 refine Lib.run_clear_slice w 22 5 ty (.int .u8 0) Tryz.underlying22 (fun w=> ?_) rfl rfl g o m cc hm (fun j hj=> ?_) (fun j hj=> ?_)
 ·obtain ⟨i,hi,hz,_⟩:=info_parts rH
  simp [zeroValue,typeInfo,hi,hz]
 ·obtain ⟨b,off,x,e1,_,_,hc⟩:=h.recs.byte (k:=o+j) (by omega)
  cases e1
  rw [Nat.zero_add] at hc
  rw [hc]
  rfl
 ·subst hl
  exact World.ownsRow.frozenAt h _
end Go.Proofs.YtiblijmngokcgaaGreatDoor
namespace Go.Proofs.YtiblijmngokcgaaGreatDoor
open Go.RowKit
set_option maxRecDepth 100000
set_option linter.unusedVariables false
set_option maxHeartbeats 4000000 in
theorem nL (Ap:Option Addr) (np cp:Nat) (p:List UInt8) (Sp:Nat→Prop) (keep:Int) (Al:Option Addr) (nl cl:Nat) (lost:List Int) (Sl:Nat→Prop) (w:World) (hp:By Sp w (.slice Ap np cp) p) (hl:Recs bJ Sl w (.slice Al nl cl) lost) (hn:np≤10000000):
 Calls Tryz.prog 70 #[.slice Ap np cp,.agg #[.int .i64 keep,.slice Al nl cl]] w fun e w' =>∃A' c',e= .returned (.slice A' (dW p keep) c')∧OwnR eV 1 w' w.heap.size 5 (.slice A' (dW p keep) c') (kB p keep lost)∧Below w.heap.size w w' :=by
 obtain ⟨hp1,hp2,hp3⟩:=hp.len
 obtain ⟨hl1,hl2,hl3⟩:=hl.len
 have hN:=qE p keep
 obtain ⟨N,hNe⟩:∃N,dW p keep=N:=⟨_,rfl⟩
 have hNN:(min (max keep 0) (np:Int))=(N:Int):=by rw [←hNe,←hp1];unfold dW;omega
 unfold kB
 rw [hNe] at hN ⊢
 have htl:(p.take N).length=N:=by rw [List.length_take];omega
 have hNp:N≤np:=by omega
 have HL:=Lib.hid hl1
 have HTL:=Lib.hid htl
 clear hp1 hl1 hNe htl hN
 have hmax:=fun w=>DS (P:=Tryz.prog) w #[3,3] 3 keep 0
 have hmin:=fun w=>uI (P:=Tryz.prog) w #[3,3] 3 (max keep 0) (np:Int)
 rw [hNN] at hmin
 clear hNN
 have hba:Below w.heap.size w (w.alloc (.cells #[.int .i64 keep,.slice Al nl cl] 45)):=(Below.refl _ w).alloc (Nat.le_refl _) _
 go_enter Tryz.func70,Tryz.ntmps70
 go_wp2_with fail
 clear hmax hmin
 obtain ⟨W,hW⟩:∃W,W=w.alloc (.cells #[.int .i64 keep,.slice Al nl cl] 45):=⟨_,rfl⟩
 have q1:W.cell? ⟨w.heap.size,1,none⟩=some (.slice Al nl cl):=by rw [hW];go_simp
 rw [←hW] at hba
 rw [←hW]
 clear hW
 refine (DB Ap N cp (p.take N) _ W ((hp.ext hba).take_ lH hNp) (by omega)).mono ?_
 rintro e w1 ⟨A1,c1,rfl,hown1,hb1⟩
 have q1' :=(hb1.cell (p:=⟨w.heap.size,1,none⟩) (block_lt_of_cell q1)).trans q1
 clear q1
 have hbb:=Below.ext hba hb1
 have hlo:=hown1.len
 have hszb:=hba.size
 have hown1' :=hown1.weak hszb
 have hsz1:=hbb.size
 obtain ⟨lo2,lo3⟩:=hlo.2
 clear hlo hown1
 go_wp2
 go_loopw [26] (fun v wr=>∃j:Nat,v= .int .i64 j∧j≤nl∧OwnR eV 1 wr w.heap.size 5 (.slice A1 N c1) (fR (p.take N) (lost.take j))∧Below w.heap.size w wr) (fun v _=>nl-(intOf v).toNat)
 case atStart=>exact ⟨0,rfl,by omega,by rw [List.take_zero,BM];exact hown1',hbb⟩
 case round=>
  obtain ⟨j,rfl,hj,hown,hbr⟩:=hrel
  clear q1' hown1'
  by_cases hlt:j<nl
  ·obtain ⟨b,off,z,rfl,_,hb,hz,hc⟩:=(hl.ext hbr).at_ dH (j:=j) (by have:=HL.out;omega) (by omega)
   have q0:=hc 0 _ rfl
   rw [Nat.mul_one,Nat.add_zero] at q0
   have htk:lost.take (j+1)=lost.take j++ [z]:=by rw [List.take_add_one,hz];rfl
   have Htk:=Lib.hid htk
   clear hc hz htk
   by_cases hz0:0≤z
   ·have d0:decide (0≤z)=true:=by simpa using hz0
    by_cases hz1:z<((N:Int)+16-1) / 16
    ·have d1:decide (z<((N:Int)+16-1) / 16)=true:=by simpa using hz1
     obtain ⟨n,rfl⟩:=Int.eq_ofNat_of_zero_le hz0
     have hnN:n*16<N:=by omega
     obtain ⟨g,rfl,hg1,hg2⟩:=hown.some_ (by rw [BN,HTL.out];omega)
     obtain ⟨e,he⟩:∃e,e=min ((n+1)*16) N:=⟨_,rfl⟩
     have he1:n*16<e:=by omega
     have he2:e≤N:=by omega
     have hmin:=fun w=>uI (P:=Tryz.prog) w #[3,3] 3 (((n:Int)+1)*16) (N:Int)
     rw [show min (((n:Int)+1)*16) (N:Int)=(e:Int) by omega] at hmin
     have hcl:=yH hown (n*16) (e-n*16) (c1-n*16) (by omega) (by omega)
     have hown2:=OwnR.zr_ (e-n*16) wr _ (n*16) hown
     rw [BL (p.take N) (lost.take j) n e (by rw [HTL.out];exact he) (by rw [HTL.out];omega)] at hown2
     have hb2:Below w.heap.size w (wr.setCells g (n*16) (List.replicate (e-n*16) (.int .u8 0))):=Below.grow hbr (pR g _ _ _) hg1
     have Hown2:=Lib.hid hown2
     have hcn:¬c1=n*16:=by omega
     clear he hown2 hz1
     go_wp2
     go_roundw
     case rel=>exact ⟨j+1,by go_num,by omega,by rw [Htk.out];exact Hown2.out,hb2⟩
     case measure=>simp [intOf];omega
    ·have d1:decide (z<((N:Int)+16-1) / 16)=false:=by simpa using hz1
     have hsm:fR (p.take N) (lost.take j++ [z])=fR (p.take N) (lost.take j):=sY _ _ _ (.inr (by rw [HTL.out];omega))
     have Hsm:=Lib.hid hsm
     clear hsm hz1
     exact Tzc7
   ·have d0:decide (0≤z)=false:=by simpa using hz0
    have hsm:fR (p.take N) (lost.take j++ [z])=fR (p.take N) (lost.take j):=sY _ _ _ (.inl (by omega))
    have Hsm:=Lib.hid hsm
    clear hsm
    exact Tzc7
  ·obtain rfl:j=nl:=by omega
   go_wp2
   go_ret
   rw [←HL.out,List.take_length] at hown
   exact ⟨_,_,rfl,hown,hbr⟩
end Go.Proofs.YtiblijmngokcgaaGreatDoor
namespace Go.Proofs.YtiblijmngokcgaaGreatDoor
open Go.RowKit
set_option maxRecDepth 100000
set_option linter.unusedVariables false
structure TV where
 keep:Int
 A:Option Addr
 n:Nat
 c:Nat
def LO (x:TV):List Value:=[.int .i64 x.keep,.slice x.A x.n x.c]
theorem GA (x:TV):(LO x).length=2:=rfl
structure Tear where
 keep:Int
 lost:List Int
def Trs (S:Nat→Prop) (w:World) (v:Value) (ts:List Tear):Prop:=∃xs,Recs LO S w v xs∧xs.length=ts.length∧∀(i:Nat) (x:TV) (t:Tear),xs[i]? =some x→ts[i]? =some t→x.keep=t.keep∧Recs bJ S w (.slice x.A x.n x.c) t.lost
theorem Trs.ext {S:Nat→Prop} {w w' :World} {v:Value} {ts:List Tear} (h:Trs S w v ts) (hb:Below w.heap.size w w'):Trs S w' v ts:=by
 obtain ⟨xs,h1,h2,h3⟩:=h
 exact ⟨xs,h1.ext hb,h2,fun i x t hx ht=>⟨(h3 i x t hx ht).1,(h3 i x t hx ht).2.ext hb⟩⟩
theorem Trs.keep {S:Nat→Prop} {w w' :World} {v:Value} {ts:List Tear} (h:Trs S w v ts) (hk:Keep S w w'):Trs S w' v ts:=by
 obtain ⟨xs,h1,h2,h3⟩:=h
 exact ⟨xs,h1.keep hk,h2,fun i x t hx ht=>⟨(h3 i x t hx ht).1,(h3 i x t hx ht).2.keep hk⟩⟩
theorem Trs.mono {S S' :Nat→Prop} {w:World} {v:Value} {ts:List Tear} (h:Trs S w v ts) (hs:∀b,b<w.heap.size→S b→S' b):Trs S' w v ts:=by
 obtain ⟨xs,h1,h2,h3⟩:=h
 exact ⟨xs,h1.mono hs,h2,fun i x t hx ht=>⟨(h3 i x t hx ht).1,(h3 i x t hx ht).2.mono hs⟩⟩
theorem Trs.len {S:Nat→Prop} {w:World} {A:Option Addr} {n c:Nat} {ts:List Tear} (h:Trs S w (.slice A n c) ts):ts.length=n∧n≤c∧c≤9223372036854775807:=by
 obtain ⟨xs,h1,h2,h3⟩:=h
 have:=h1.len
 omega
theorem Trs.at_ {S:Nat→Prop} {w:World} {A:Option Addr} {n c k:Nat} {ts:List Tear} (h:Trs S w (.slice A n c) ts) (hk:k<n):
 ∃(b off:Nat) (x:TV) (t:Tear),A=some ⟨b,off,none⟩∧b<w.heap.size∧ts[k]? =some t∧x.keep=t.keep∧Recs bJ S w (.slice x.A x.n x.c) t.lost∧w.cell? ⟨b,off+k*2,none⟩=some (.int .i64 x.keep)∧w.cell? ⟨b,off+k*2+1,none⟩=some (.slice x.A x.n x.c):=by
 have hl:=h.len
 obtain ⟨xs,h1,h2,h3⟩:=h
 obtain ⟨b,off,x,rfl,_,hb,hx,hc⟩:=h1.at_ GA (j:=k) (by omega) (by omega)
 have hf:ts[k]? =some ts[k]:=List.getElem?_eq_getElem (by omega)
 exact ⟨b,off,x,_,rfl,hb,hf,(h3 k x _ hx hf).1,(h3 k x _ hx hf).2,hc 0 _ rfl,hc 1 _ rfl⟩
def gJ (ts:List Tear) (i:Nat):Tear:=ts[i]?.getD ⟨0,[]⟩
def jY (ts:List Tear) (i:Nat) (f:Fil):Fil:=⟨f.s++kB f.p (gJ ts i).keep (gJ ts i).lost,[]⟩
def mN (fs:List Fil) (ts:List Tear):List Fil:=fs.mapIdx (jY ts)
def gD (fs:List Fil) (ts:List Tear) (k:Nat):List Fil:=fs.mapIdx (fun i f=>if i<k then jY ts i f else dP)
theorem wT (fs:List Fil) (ts:List Tear):gD fs ts 0=List.replicate fs.length dP:=by
 apply List.ext_getElem?
 intro i
 simp only [gD,List.getElem?_mapIdx,List.getElem?_replicate]
 by_cases h:i<fs.length
 ·simp [h]
 ·simp [h]
theorem zG (fs:List Fil) (ts:List Tear):gD fs ts fs.length=mN fs ts:=by
 apply List.ext_getElem?
 intro i
 simp only [gD,mN,List.getElem?_mapIdx]
 by_cases h:i<fs.length
 ·simp [h]
 ·simp [h]
theorem rO (fs:List Fil) (ts:List Tear) (k:Nat):(gD fs ts k).length=fs.length:=by simp [gD]
theorem pU (fs:List Fil) (ts:List Tear) (k:Nat) (f:Fil) (hf:fs[k]? =some f):gD fs ts (k+1)=(gD fs ts k).set k (jY ts k f):=by
 apply List.ext_getElem?
 intro i
 simp only [gD,List.getElem?_set,List.getElem?_mapIdx,List.length_mapIdx]
 by_cases h:k=i
 ·subst h
  obtain ⟨this,rfl⟩:=List.getElem?_eq_some_iff.1 hf
  simp [this]
 ·by_cases hi:i<fs.length
  ·rw [if_neg h]
   have:(i<k+1)=(i<k):=by simp;omega
   simp [this]
  ·simp [hi,h]
theorem pQ (a:World) (row:Option Nat):a.grownBy a row:=⟨rfl,rfl,rfl,Nat.le_refl _,fun _ _ _=>rfl⟩
theorem iT {a b c:World} {row:Option Nat} (h:a.grownBy b row) (k:b.grownBy c row):a.grownBy c row:=
 ⟨k.os.trans h.os,k.tape.trans h.tape,k.output.trans h.output,Nat.le_trans h.size k.size,fun i hi hne=>(k.block i (Nat.lt_of_lt_of_le hi h.size) hne).trans (h.block i hi hne)⟩
theorem lQ {a b:World} {row:Option Nat} (h:Below a.heap.size a b):a.grownBy b row:=⟨h.os,h.tape,h.output,h.size,fun i hi _=>h.block i hi⟩
theorem tF (xs:List FV) (k:Nat) (x y:FV) (hk:xs[k]? =some y) (h2:x.A2=y.A2∧x.n2=y.n2∧x.c2=y.c2):(xs.set k x).flatMap eI=(xs.flatMap eI).set (k*2) (.slice x.A1 x.n1 x.c1):=by
 have hlt:=(List.getElem?_eq_some_iff.1 hk).1
 rw [vL xs k x hlt,List.set_comm _ _ (by omega)]
 congr 1
 have h3:=pE gO xs k 1 y hk (by omega)
 have h4:(xs.flatMap eI)[k*2+1]? =some (.slice x.A2 x.n2 x.c2):=by rw [h3,h2.1,h2.2.1,h2.2.2];rfl
 obtain ⟨h5,h6⟩:=List.getElem?_eq_some_iff.1 h4
 rw [←h6]
 exact List.set_getElem_self h5
set_option maxHeartbeats 4000000 in
theorem NB (A:Option Addr) (n c:Nat) (fs:List Fil) (S:Nat→Prop) (w:World) (hD:Dsk S w (.slice A n c) fs) (hn:n≤1000) (At:Option Addr) (nt ct:Nat) (ts:List Tear) (St:Nat→Prop) (hT:Trs St w (.slice At nt ct) ts) (hlen:∀f∈fs,f.s.length+f.p.length≤3000000):
 Calls Tryz.prog 29 #[.agg #[.slice A n c],.slice At nt ct] w fun e w' =>∃A' c',e= .returned (.agg #[.slice A' n c'])∧Dsk (w.heap.size≤·) w' (.slice A' n c') (mN fs ts)∧Below w.heap.size w w' :=by
 have hD0:=hD.lo
 obtain ⟨hd1,hd2,hd3⟩:=hD.len
 obtain ⟨ht1,ht2,ht3⟩:=hT.len
 have HD1:=Lib.hid hd1
 have HT0:=Lib.hid ht1
 have HLen:=Lib.hid hlen
 clear hd1 ht1 hlen
 obtain ⟨W,hW,hbW,hsW,hw0,hw1⟩:=jQ w (.slice A n c)
 have hmk:=xK n (by omega)
 have hownW:=GX n (by omega) W
 have haW:Below W.heap.size W (W.alloc (.cells (madeCells (eI zFV).toArray (n*2)) 86)):=(Below.refl _ _).alloc (Nat.le_refl _) _
 have q0:W.cell? ⟨w.heap.size,0,none⟩=some (.slice A n c):=by rw [cell_of_row _ _ _ _ _ _ hw0];rfl
 go_enter Tryz.func29,Tryz.ntmps29
 go_wp2_with fail
 clear hmk
 have hWeq:(w.alloc (.cells #[.slice A n c] 36)).alloc (.cells #[.slice none 0 0] 36)=W:=hW.symm
 obtain ⟨g,hg⟩:∃g,g=w.heap.size+1+1:=⟨_,rfl⟩
 have hgW:W.heap.size=g:=by omega
 rw [hgW] at hownW haW
 rw [hWeq,←hg]
 clear hW hWeq
 have hgg:w.heap.size+1<g:=by omega
 clear hg
 have hw1' :=(haW.block _ (by omega)).trans hw1
 have q0W:=(haW.cell (p:=⟨w.heap.size,0,none⟩) (by show w.heap.size<g;omega)).trans q0
 have hb0:Below w.heap.size w (W.alloc (.cells (madeCells (eI zFV).toArray (n*2)) 86)):=hbW.trans (haW.mono (by omega))
 have hszW:(W.alloc (.cells (madeCells (eI zFV).toArray (n*2)) 86)).heap.size=g+1:=by rw [World.size_alloc];omega
 generalize W.alloc (.cells (madeCells (eI zFV).toArray (n*2)) 86)=W1 at*
 have ag30:∀w:World,(isAgg 22).run Tryz.prog w= .ok false w:=fun w=>by simp [isAgg,run_underlying Tryz.underlying22]
 have A30:=Lib.hid ag30
 have HQ:=Lib.hid q0W
 have HszW:=Lib.hid hszW
 clear ag30 hw0 hw1 q0 q0W hsW hgW haW hbW hszW
 go_loopw [15] (fun v wr=>∃(j:Nat),v= .int .i64 j∧j≤n∧∃xs:List FV,OwnR eI 2 wr g 86 (.slice (some ⟨g,0,none⟩) n n) xs∧(∀i:Nat,j≤i→i<n→xs[i]? =some zFV)∧(∀(i:Nat) (y:FV) (h:Fil),xs[i]? =some y→(gD fs ts j)[i]? =some h→FOk (fun b=>b≠g∧b≠w.heap.size+1∧w.heap.size≤b) wr y h)∧(Below w.heap.size w wr∧W1.grownBy wr (some g))∧wr.heap[w.heap.size+1]? =some (.cells #[.slice none 0 0] 36 (0,0))) (fun v _=>n-(intOf v).toNat)
 case atStart=>
  refine ⟨0,rfl,by omega,List.replicate n zFV,hownW,?_,?_,⟨hb0,pQ _ _⟩,hw1'⟩
  ·intro i _ hi
   rw [List.getElem?_replicate,if_pos hi]
  ·intro i y h hy hh
   rw [wT,List.getElem?_replicate] at hh
   rw [List.getElem?_replicate] at hy
   split at hy
   ·cases hy
    split at hh
    ·cases hh
     exact ⟨Recs.nil_ _ _,Recs.nil_ _ _⟩
    ·cases hh
   ·cases hy
 case round=>
  obtain ⟨j,rfl,hj,xs,hown,hzs,hxs,⟨hbr,hgr⟩,hR⟩:=hrel
  have Hz:=Lib.hid hzs
  have HXS:=Lib.hid hxs
  have HR:=Lib.hid hR
  clear hzs hxs hR hownW
  have q0' :wr.cell? ⟨w.heap.size,0,none⟩=some (.slice A n c):=(World.cell?_of_block (hgr.block w.heap.size (by have:=HszW.out;omega) (by simp;omega))).trans HQ.out
  have hglt:g<wr.heap.size:=Nat.lt_of_lt_of_le (by have:=HszW.out;omega) hgr.size
  by_cases hlt:j<n
  ·obtain ⟨b,off,x,f,rfl,hbl,hff,hx,c0,c1⟩:=hD0.at_ hlt
   have HF:=Lib.hid hff
   have Hp:=Lib.hid hx.p.len.1
   have hpn:x.n1+x.n2≤3000000:=by have h1:=HLen.out f (List.mem_of_getElem? hff);have:=hx.s.len.1;have:=hx.p.len.1;omega
   have c0' :=(hbr.cell (p:=⟨b,off+j*2,none⟩) hbl).trans c0
   have c1' :=(hbr.cell (p:=⟨b,off+j*2+1,none⟩) hbl).trans c1
   have hbl' :=block_lt_of_cell c0'
   have hwlt:w.heap.size<wr.heap.size:=by omega
   clear hff c0 c1
   by_cases hjt:j<nt
   ·have dt:decide (j<nt)=true:=by simpa using hjt
    obtain ⟨bt,ot,yt,tt,rfl,hbt,htt,hky,hlo,e0,e1⟩:=hT.at_ hjt
    have e0' :=(hbr.cell (p:=⟨bt,ot+j*2,none⟩) hbt).trans e0
    have e1' :=(hbr.cell (p:=⟨bt,ot+j*2+1,none⟩) hbt).trans e1
    have hbt' :=block_lt_of_cell e0'
    have hto:gJ ts j=tt:=by unfold gJ;rw [htt];rfl
    have HT1:(gJ ts j).keep=yt.keep:=by rw [hto,hky]
    have HT2:(gJ ts j).lost=tt.lost:=by rw [hto]
    have HHT1:=Lib.hid HT1
    have HHT2:=Lib.hid HT2
    clear htt hky hto e0 e1 HT1 HT2
    go_wp2_with fail
    obtain ⟨W3,hW3⟩:∃W3,W3=(wr.alloc (.cells #[.int .i64 yt.keep,.slice yt.A yt.n yt.c] 45)).alloc (.cells #[.slice x.A1 x.n1 x.c1,.slice x.A2 x.n2 x.c2] 86):=⟨_,rfl⟩
    have hbW3:Below wr.heap.size wr W3:=by rw [hW3];exact ((Below.refl _ _).alloc (Nat.le_refl _) _).alloc (by simp) _
    have hsW3:W3.heap.size=wr.heap.size+2:=by rw [hW3];simp
    have hrT:W3.heap[wr.heap.size]? =some (.cells #[.int .i64 yt.keep,.slice yt.A yt.n yt.c] 45 (0,0)):=by rw [hW3];exact (((Below.refl _ _).alloc (Nat.le_refl _) _).block wr.heap.size (by simp)).trans (heap_alloc_new wr _)
    have hrF:W3.heap[wr.heap.size+1]? =some (.cells #[.slice x.A1 x.n1 x.c1,.slice x.A2 x.n2 x.c2] 86 (0,0)):=by
     rw [hW3]
     have:=heap_alloc_new (wr.alloc (.cells #[.int .i64 yt.keep,.slice yt.A yt.n yt.c] 45)) (.cells #[.slice x.A1 x.n1 x.c1,.slice x.A2 x.n2 x.c2] 86)
     rw [World.size_alloc] at this
     exact this
    have f0:W3.cell? ⟨wr.heap.size+1,0,none⟩=some (.slice x.A1 x.n1 x.c1):=by rw [cell_of_row _ _ _ _ _ _ hrF];rfl
    have f1:W3.cell? ⟨wr.heap.size+1,1,none⟩=some (.slice x.A2 x.n2 x.c2):=by rw [cell_of_row _ _ _ _ _ _ hrF];rfl
    rw [←hW3]
    have HsW3:=Lib.hid hsW3
    have HrT:=Lib.hid hrT
    have F0:=Lib.hid f0
    have F1:=Lib.hid f1
    clear hW3 hsW3 hrT hrF f0 f1 q0' c0' c1'
    have bw3:=Below.ext hbr hbW3
    have hcl:∀(w' :World) (o:Nat),Keep (·≠g) W3 w'→w'.cell? ⟨wr.heap.size+1,o,none⟩=W3.cell? ⟨wr.heap.size+1,o,none⟩:=fun w' o hS=>World.cell?_of_block (hS (wr.heap.size+1) (by have:=HsW3.out;omega) (by omega))
    have HC:=Lib.hid hcl
    clear hcl
    refine aM (fun w' =>Below w.heap.size w w'∧Keep (·≠g) W3 w') (by kernel_rfl) (by kernel_rfl) (⟨bw3.drew,fun _ _ _=>rfl⟩) ?_
    refine TkA ?_
    refine aE (⟨wr.heap.size+1,0,none⟩) (.slice x.A1 x.n1 x.c1) rfl rfl rfl (fun w' hS=>aG (A30.out _) ((HC.out w' 0 hS.2).trans F0.out)) ?_
    refine TkI ?_
    refine TkA ?_
    refine aE (⟨wr.heap.size+1,1,none⟩) (.slice x.A2 x.n2 x.c2) rfl rfl rfl (fun w' hS=>aG (A30.out _) ((HC.out w' 1 hS.2).trans F1.out)) ?_
    refine TkI ?_
    refine TkA ?_
    refine aE (⟨wr.heap.size,0,none⟩) (.agg #[.int .i64 yt.keep,.slice yt.A yt.n yt.c]) rfl rfl rfl (fun w' hS=>aB ((hS.2 _ (by have:=HsW3.out;omega) (by omega)).trans HrT.out) Tryz.underlying45 rfl (by kernel_rfl)) ?_
    refine TkI ?_
    refine TkA ?_
    refine aL rfl ?_
    go_wp2_with fail
    refine (nL x.A2 x.n2 x.c2 f.p _ yt.keep yt.A yt.n yt.c tt.lost _ _ ((hx.p.ext bw3).ext (Below.refl _ _).drew) ((hlo.ext bw3).ext (Below.refl _ _).drew) (by omega)).mono ?_
    rintro e w4 ⟨A4,c4,rfl,hown4,hb4⟩
    have b4:Below W3.heap.size W3 w4:=Below.ext (Below.refl _ _).drew hb4
    go_wp2_with fail
    refine aI (⟨Below.ext bw3 b4,fun j hj _=>b4.block j hj⟩) ?_
    refine TkA ?_
    have hkp:=qE f.p yt.keep
    have hpl:=Hp.out
    have hW5:Below w4.heap.size w4 (w4.alloc (.cells #[.slice x.A1 x.n1 x.c1,.slice A4 (dW f.p yt.keep) c4] 22)):=(Below.refl _ _).alloc (Nat.le_refl _) _
    have b5:=Below.ext b4 hW5
    refine aL rfl ?_
    go_wp2_with fail
    refine aI ⟨Below.ext bw3 b5,fun j hj _=>b5.block j hj⟩ ?_
    refine TkA ?_
    refine aL rfl ?_
    go_wp2_with fail
    refine (kN w4.heap.size x.A1 A4 x.n1 x.c1 (dW f.p yt.keep) c4 f.s (kB f.p yt.keep tt.lost) _ _ _ (by go_simp) (by go_simp) ((hx.s.ext bw3).ext b5) (hown4.ext hW5).recs (by omega)).mono ?_
    rintro e w6 ⟨A6,c6,rfl,hown6,hb6⟩
    have b6:=Below.ext b5 hb6
    go_wp2_with fail
    refine aI (⟨Below.ext bw3 b6,fun j hj _=>b6.block j hj⟩) ?_
    refine TkA ?_
    have b6r:=Below.ext hbW3 b6
    have hog:=hown.ext b6r
    obtain ⟨⟨u0,hu0⟩,hf0⟩:=hog.cellF hlt 0 (by omega)
    rw [Nat.add_zero] at hu0 hf0
    have hgs:w6.grownBy (w6.setCell ⟨g,j*2,none⟩ (.slice A6 (x.n1+dW f.p yt.keep) c6)) (some g):=aO ⟨rfl,rfl,rfl,Nat.le_refl _,fun _ _ _=>rfl⟩
    refine aL rfl ?_
    go_wp2_with fail
    refine aI ⟨Below.grow (Below.ext bw3 b6) hgs (by omega),fun i hi hne=>(hgs.block i (Nat.lt_of_lt_of_le hi b6.size) (by simpa using hne)).trans (b6.block i hi)⟩ ?_
    refine TkA ?_
    refine aZ ?_
    go_wp2_with fail
    have hoz:OwnR eI 2 (w6.setCell ⟨g,j*2,none⟩ (.slice A6 (x.n1+dW f.p yt.keep) c6)) g 86 (.slice (some ⟨g,0,none⟩) n n) (xs.set j ⟨A6,x.n1+dW f.p yt.keep,c6,none,0,0⟩):=by
     have h1:=hog.len.1
     unfold OwnR at hog ⊢
     rw [List.length_set,tF xs j ⟨A6,x.n1+dW f.p yt.keep,c6,none,0,0⟩ zFV (Hz.out j (Nat.le_refl _) hlt) ⟨rfl,rfl,rfl⟩]
     rw [h1] at hog ⊢
     exact (World.ownsRow.stored hog _ _).1
    have hsz6:=b6r.size
    have hfin:∀(i:Nat) (y:FV) (h:Fil),(xs.set j ⟨A6,x.n1+dW f.p yt.keep,c6,none,0,0⟩)[i]? =some y→(gD fs ts (j+1))[i]? =some h→FOk (fun b=>b≠g∧b≠w.heap.size+1∧w.heap.size≤b) (w6.setCell ⟨g,j*2,none⟩ (.slice A6 (x.n1+dW f.p yt.keep) c6)) y h:=by
     intro i y h hy hh
     have hkg:Keep (fun b=>b≠g∧b≠w.heap.size+1∧w.heap.size≤b) w6 (w6.setCell ⟨g,j*2,none⟩ (.slice A6 (x.n1+dW f.p yt.keep) c6)):=fun b hb hs=>hgs.block b hb (by simpa using hs.1)
     rw [pU fs ts j f HF.out] at hh
     by_cases hij:j=i
     ·subst hij
      have hxl:=hog.len
      rw [List.getElem?_set_self (by omega)] at hy
      rw [List.getElem?_set_self (by rw [rO];have:=(List.getElem?_eq_some_iff.1 HF.out).1;omega)] at hh
      cases hy
      cases hh
      refine ⟨Recs.keep ?_ hkg,Recs.nil_ _ _⟩
      rw [show (jY ts j f).s=f.s++kB f.p yt.keep tt.lost by unfold jY;rw [HHT1.out,HHT2.out]]
      exact Tzcz
     ·rw [List.getElem?_set_ne hij] at hy hh
      exact ((HXS.out i y h hy hh).ext b6r).keep hkg
    exact Tzbx
   ·have dt:decide (j<nt)=false:=by simpa using hjt
    have hto:gJ ts j=⟨0,[]⟩:=by unfold gJ;rw [List.getElem?_eq_none (by have:=HT0.out;omega)];rfl
    have HT1:(gJ ts j).keep=0:=by rw [hto]
    have HT2:(gJ ts j).lost=[]:=by rw [hto]
    have HHT1:=Lib.hid HT1
    have HHT2:=Lib.hid HT2
    clear hto HT1 HT2
    go_wp2_with fail
    obtain ⟨W3,hW3⟩:∃W3,W3=(wr.alloc (.cells #[.int .i64 0,.slice none 0 0] 45)).alloc (.cells #[.slice x.A1 x.n1 x.c1,.slice x.A2 x.n2 x.c2] 86):=⟨_,rfl⟩
    have hbW3:Below wr.heap.size wr W3:=by rw [hW3];exact ((Below.refl _ _).alloc (Nat.le_refl _) _).alloc (by simp) _
    have hsW3:W3.heap.size=wr.heap.size+2:=by rw [hW3];simp
    have hrT:W3.heap[wr.heap.size]? =some (.cells #[.int .i64 0,.slice none 0 0] 45 (0,0)):=by rw [hW3];exact (((Below.refl _ _).alloc (Nat.le_refl _) _).block wr.heap.size (by simp)).trans (heap_alloc_new wr _)
    have hrF:W3.heap[wr.heap.size+1]? =some (.cells #[.slice x.A1 x.n1 x.c1,.slice x.A2 x.n2 x.c2] 86 (0,0)):=by
     rw [hW3]
     have:=heap_alloc_new (wr.alloc (.cells #[.int .i64 0,.slice none 0 0] 45)) (.cells #[.slice x.A1 x.n1 x.c1,.slice x.A2 x.n2 x.c2] 86)
     rw [World.size_alloc] at this
     exact this
    have f0:W3.cell? ⟨wr.heap.size+1,0,none⟩=some (.slice x.A1 x.n1 x.c1):=by rw [cell_of_row _ _ _ _ _ _ hrF];rfl
    have f1:W3.cell? ⟨wr.heap.size+1,1,none⟩=some (.slice x.A2 x.n2 x.c2):=by rw [cell_of_row _ _ _ _ _ _ hrF];rfl
    rw [←hW3]
    have HsW3:=Lib.hid hsW3
    have HrT:=Lib.hid hrT
    have F0:=Lib.hid f0
    have F1:=Lib.hid f1
    clear hW3 hsW3 hrT hrF f0 f1 q0' c0' c1'
    have bw3:=Below.ext hbr hbW3
    have hcl:∀(w' :World) (o:Nat),Keep (·≠g) W3 w'→w'.cell? ⟨wr.heap.size+1,o,none⟩=W3.cell? ⟨wr.heap.size+1,o,none⟩:=fun w' o hS=>World.cell?_of_block (hS (wr.heap.size+1) (by have:=HsW3.out;omega) (by omega))
    have HC:=Lib.hid hcl
    clear hcl
    refine aM (fun w' =>Below w.heap.size w w'∧Keep (·≠g) W3 w') (by kernel_rfl) (by kernel_rfl) (⟨bw3.drew,fun _ _ _=>rfl⟩) ?_
    refine TkA ?_
    refine aE (⟨wr.heap.size+1,0,none⟩) (.slice x.A1 x.n1 x.c1) rfl rfl rfl (fun w' hS=>aG (A30.out _) ((HC.out w' 0 hS.2).trans F0.out)) ?_
    refine TkI ?_
    refine TkA ?_
    refine aE (⟨wr.heap.size+1,1,none⟩) (.slice x.A2 x.n2 x.c2) rfl rfl rfl (fun w' hS=>aG (A30.out _) ((HC.out w' 1 hS.2).trans F1.out)) ?_
    refine TkI ?_
    refine TkA ?_
    refine aE (⟨wr.heap.size,0,none⟩) (.agg #[.int .i64 0,.slice none 0 0]) rfl rfl rfl (fun w' hS=>aB ((hS.2 _ (by have:=HsW3.out;omega) (by omega)).trans HrT.out) Tryz.underlying45 rfl (by kernel_rfl)) ?_
    refine TkI ?_
    refine TkA ?_
    refine aL rfl ?_
    go_wp2_with fail
    refine (nL x.A2 x.n2 x.c2 f.p _ 0 none 0 0 [] _ _ ((hx.p.ext bw3).ext (Below.refl _ _).drew) (Recs.nil_ (fun _=>True) _) (by omega)).mono ?_
    rintro e w4 ⟨A4,c4,rfl,hown4,hb4⟩
    have b4:Below W3.heap.size W3 w4:=Below.ext (Below.refl _ _).drew hb4
    go_wp2_with fail
    refine aI (⟨Below.ext bw3 b4,fun j hj _=>b4.block j hj⟩) ?_
    refine TkA ?_
    have hkp:=qE f.p 0
    have hpl:=Hp.out
    have hW5:Below w4.heap.size w4 (w4.alloc (.cells #[.slice x.A1 x.n1 x.c1,.slice A4 (dW f.p 0) c4] 22)):=(Below.refl _ _).alloc (Nat.le_refl _) _
    have b5:=Below.ext b4 hW5
    refine aL rfl ?_
    go_wp2_with fail
    refine aI ⟨Below.ext bw3 b5,fun j hj _=>b5.block j hj⟩ ?_
    refine TkA ?_
    refine aL rfl ?_
    go_wp2_with fail
    refine (kN w4.heap.size x.A1 A4 x.n1 x.c1 (dW f.p 0) c4 f.s (kB f.p 0 []) _ _ _ (by go_simp) (by go_simp) ((hx.s.ext bw3).ext b5) (hown4.ext hW5).recs (by omega)).mono ?_
    rintro e w6 ⟨A6,c6,rfl,hown6,hb6⟩
    have b6:=Below.ext b5 hb6
    go_wp2_with fail
    refine aI (⟨Below.ext bw3 b6,fun j hj _=>b6.block j hj⟩) ?_
    refine TkA ?_
    have b6r:=Below.ext hbW3 b6
    have hog:=hown.ext b6r
    obtain ⟨⟨u0,hu0⟩,hf0⟩:=hog.cellF hlt 0 (by omega)
    rw [Nat.add_zero] at hu0 hf0
    have hgs:w6.grownBy (w6.setCell ⟨g,j*2,none⟩ (.slice A6 (x.n1+dW f.p 0) c6)) (some g):=aO ⟨rfl,rfl,rfl,Nat.le_refl _,fun _ _ _=>rfl⟩
    refine aL rfl ?_
    go_wp2_with fail
    refine aI ⟨Below.grow (Below.ext bw3 b6) hgs (by omega),fun i hi hne=>(hgs.block i (Nat.lt_of_lt_of_le hi b6.size) (by simpa using hne)).trans (b6.block i hi)⟩ ?_
    refine TkA ?_
    refine aZ ?_
    go_wp2_with fail
    have hoz:OwnR eI 2 (w6.setCell ⟨g,j*2,none⟩ (.slice A6 (x.n1+dW f.p 0) c6)) g 86 (.slice (some ⟨g,0,none⟩) n n) (xs.set j ⟨A6,x.n1+dW f.p 0,c6,none,0,0⟩):=by
     have h1:=hog.len.1
     unfold OwnR at hog ⊢
     rw [List.length_set,tF xs j ⟨A6,x.n1+dW f.p 0,c6,none,0,0⟩ zFV (Hz.out j (Nat.le_refl _) hlt) ⟨rfl,rfl,rfl⟩]
     rw [h1] at hog ⊢
     exact (World.ownsRow.stored hog _ _).1
    have hsz6:=b6r.size
    have hfin:∀(i:Nat) (y:FV) (h:Fil),(xs.set j ⟨A6,x.n1+dW f.p 0,c6,none,0,0⟩)[i]? =some y→(gD fs ts (j+1))[i]? =some h→FOk (fun b=>b≠g∧b≠w.heap.size+1∧w.heap.size≤b) (w6.setCell ⟨g,j*2,none⟩ (.slice A6 (x.n1+dW f.p 0) c6)) y h:=by
     intro i y h hy hh
     have hkg:Keep (fun b=>b≠g∧b≠w.heap.size+1∧w.heap.size≤b) w6 (w6.setCell ⟨g,j*2,none⟩ (.slice A6 (x.n1+dW f.p 0) c6)):=fun b hb hs=>hgs.block b hb (by simpa using hs.1)
     rw [pU fs ts j f HF.out] at hh
     by_cases hij:j=i
     ·subst hij
      have hxl:=hog.len
      rw [List.getElem?_set_self (by omega)] at hy
      rw [List.getElem?_set_self (by rw [rO];have:=(List.getElem?_eq_some_iff.1 HF.out).1;omega)] at hh
      cases hy
      cases hh
      refine ⟨Recs.keep ?_ hkg,Recs.nil_ _ _⟩
      rw [show (jY ts j f).s=f.s++kB f.p 0 [] by unfold jY;rw [HHT1.out,HHT2.out]]
      exact Tzcz
     ·rw [List.getElem?_set_ne hij] at hy hh
      exact ((HXS.out i y h hy hh).ext b6r).keep hkg
    exact Tzbx
  ·obtain rfl:j=n:=by omega
   have Z5:=HR
   clear q0'
   go_wp2_with (refine aC rfl 36 _ _ rfl (w.heap.size+1) 36 _ _ rfl rfl Z5.out (by kernel_rfl) rfl (by simp [Value.oneCell']) ?_)
   refine bodyPost_ret (bH rfl rfl (aB (setRow_heap _ _ _ _ _ _ Z5.out) Tryz.underlying36 rfl (by kernel_rfl))) rfl ?_
   have hks:Keep (·≠w.heap.size+1) wr (wr.setRow (w.heap.size+1) #[.slice (some ⟨g,0,none⟩) j j]):=Keep.of_grown (aJ _ _ _)
   have hlo:=hown.len.1
   refine ⟨_,_,rfl,⟨xs,(Recs.keep (hown.recs.mono (S' :=fun b=>b≠w.heap.size+1∧w.heap.size≤b) (fun b _ h=>by have:=h.1;omega)) (fun b hb hs=>hks b hb hs.1)).mono (fun _ _ h=>h.2),by rw [hlo];unfold mN;simp [HD1.out],fun i y h hy hh=> ?_⟩,Below.setRow hbr (by omega) _⟩
   rw [←zG,HD1.out] at hh
   exact (((HXS.out i y h hy hh).mono (S' :=fun b=>b≠w.heap.size+1∧w.heap.size≤b) (fun _ _ h=>h.2)).keep (fun b hb hs=>hks b hb hs.1)).mono (fun _ _ h=>h.2)
end Go.Proofs.YtiblijmngokcgaaGreatDoor
namespace Go.Proofs.YtiblijmngokcgaaGreatDoor
open Go.RowKit
set_option maxRecDepth 100000
set_option linter.unusedVariables false
end Go.Proofs.YtiblijmngokcgaaGreatDoor
namespace Go.Proofs.YtiblijmngokcgaaGreatDoor
open Go.RowKit
set_option linter.unusedVariables false
end Go.Proofs.YtiblijmngokcgaaGreatDoor
