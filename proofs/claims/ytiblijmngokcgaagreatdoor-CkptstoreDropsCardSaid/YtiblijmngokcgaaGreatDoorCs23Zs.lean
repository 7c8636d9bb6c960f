import Derived.Test.YtiblijmngokcgaaGreatDoorExtLCkptstoreDropsZs
import Derived.Test.YtiblijmngokcgaaGreatDoorCs22Zs
namespace Go.Proofs.YtiblijmngokcgaaGreatDoor
open Go.RowKit
set_option linter.unusedVariables false
set_option linter.unusedSimpArgs false
def ckC (s:Stt):List UInt8:=ckF ⟨1,3,-1,0⟩ (aK s.l)
def ckE (s t:Stt):List UInt8:=ckF ⟨2,4,2,3⟩ (dN t s)
theorem c_h1:HdIn ⟨1,3,-1,0⟩:=JL (z:=2) (by omega) (by omega)
theorem c_h2:HdIn ⟨2,4,2,3⟩:=LJ (z:=3) (by omega) (by omega) (by omega) (by omega)
theorem c_h5:HdIn ⟨1,5,-1,0⟩:=JL (z:=4) (by omega) (by omega)
theorem file3 (f g h k:Fil) (l:List Fil):cH (f::g::h::k::l) 3=k.s++k.p:=by
 have:=lS (fs:=f::g::h::k::l) (k:=3) rfl
 exact this
def fD9_ (st:Nat→Stt):Nat→List Fil
 |0=> [dP,dP,dP,dP]
 |1=> [⟨[],ckA (st 0)⟩,dP,dP,dP]
 |2=> [⟨[],ckA (st 0)⟩,⟨[],ckB (st 0) (st 1)⟩,dP,dP]
 |3=> [⟨[],ckA (st 0)⟩,⟨[],ckB (st 0) (st 1)⟩,⟨[],ckC (st 2)⟩,dP]
 |_=> [⟨[],ckA (st 0)⟩,⟨[],ckB (st 0) (st 1)⟩,⟨[],ckC (st 2)⟩,⟨[],ckE (st 2) (st 3)⟩]
theorem fD_up {st st' :Nat→Stt} {i:Nat} (h:∀j,j<i→st' j=st j) (hi:i≤4):fD9_ st' i=fD9_ st i:=by
 have:i=0∨i=1∨i=2∨i=3∨i=4:=by omega
 rcases this with rfl|rfl|rfl|rfl|rfl
 ·rfl
 ·simp [fD9_,h]
 ·simp [fD9_,h]
 ·simp [fD9_,h]
 ·simp [fD9_,h]
def bsD:Nat→Int
 |0=> -1
 |1=>0
 |2=> -1
 |_=>2
theorem fD_st (st:Nat→Stt):bV (fD9_ st 2)=2∧bV (fD9_ st 3)=3:=by
 have h1:stv ⟨[],ckA (st 0)⟩=1:=KL wA
 have h2:stv ⟨[],ckB (st 0) (st 1)⟩=2:=KL GP
 have h3:stv ⟨[],ckC (st 2)⟩=3:=KL c_h1
 constructor
 ·simp only [fD9_,gK,h1,h2,LY];rfl
 ·simp only [fD9_,gK,h1,h2,h3,LY];rfl
structure Lng (st:Nat→Stt):Prop where
 b:∀j,j<4→StB (st j)
 x1:ExtM (st 1) (st 0)
 x3:ExtM (st 3) (st 2)
theorem lC9_ {fs:List Fil} {s:Stt} (h:StB s) (hf:cH fs 2=ckC s):LoadR fs 0 2 (.ok s):=BO (h:=⟨1,3,-1,0⟩) hf c_h1 rfl h.sv h.len
theorem lA9_ {fs:List Fil} {s:Stt} (h:StB s) (hf:cH fs 0=ckA s):LoadR fs 0 0 (.ok s):=BO (h:=⟨1,1,-1,0⟩) hf wA rfl h.sv h.len
theorem lB9_ {fs:List Fil} {s t:Stt} (h:StB s) (ht:StB t) (hx:ExtM t s) (hf:cH fs 0=ckA s) (hg:cH fs 1=ckB s t):LoadR fs 1 1 (.ok t):=FG (h:=⟨2,2,0,1⟩) (g:=⟨1,1,-1,0⟩) (gb:=aK s.l) hg GP rfl hf wA rfl (lA9_ h hf) ht.sv hx ht.dlen
theorem lE9_ {fs:List Fil} {s t:Stt} (h:StB s) (ht:StB t) (hx:ExtM t s) (hf:cH fs 2=ckC s) (hg:cH fs 3=ckE s t):LoadR fs 1 3 (.ok t):=FG (h:=⟨2,4,2,3⟩) (g:=⟨1,3,-1,0⟩) (gb:=aK s.l) hg c_h2 rfl hf c_h1 rfl (lC9_ h hf) ht.sv hx ht.dlen
theorem saveD {st:Nat→Stt} {i:Nat} (hi:i<4) (hb:∀j,j≤i→StB (st j)) (hx:(i=1→ExtM (st 1) (st 0))∧(i=3→ExtM (st 3) (st 2))):SaveR (fD9_ st i) (st i) (i:Int) (bsD i) (.ok (fD9_ st (i+1))):=by
 have:i=0∨i=1∨i=2∨i=3:=by omega
 rcases this with rfl|rfl|rfl|rfl
 ·exact GV (hb 0 (by omega)).len 3
 ·exact GU (hb 0 (by omega)).len (hb 0 (by omega)).sv (hb 1 (by omega)).dlen (hx.1 rfl) (f:=⟨[],ckA (st 0)⟩) rfl 2
 ·have h:=AH (fs:=fD9_ st 2) (k:=2) (z:=2) (by simp [fD9_]) (hb 2 (by omega)).len (fD_st st).1 (by omega)
  rw [show (2:Int)+1=3 from rfl] at h
  exact h
 ·have h:=DQ (fs:=fD9_ st 3) (k:=3) (b:=2) (n:=0) (z:=3) (g:=⟨1,3,-1,0⟩) (gb:=aK (st 2).l) (by simp [fD9_]) (hb 3 (by omega)).dlen (fD_st st).2 (by omega) (by omega) (lC9_ (hb 2 (by omega)) (file2 _ _ _ _)) (file2 _ _ _ _) c_h1 (hx.2 rfl)
  rw [show (3:Int)+1=4 from rfl] at h
  exact h
theorem lenC {s:Stt} (h:(aK s.l).length≤4096):(ckC s).length≤5000:=vU c_h1.inr h
theorem lenE {s t:Stt} (h:(dN t s).length≤4096):(ckE s t).length≤5000:=vU c_h2.inr h
theorem ok4 {a b c d:Fil} (ha:a.s.length+a.p.length≤5000) (hb:b.s.length+b.p.length≤5000) (hc:c.s.length+c.p.length≤5000) (hd:d.s.length+d.p.length≤5000):iY [a,b,c,d]:=by
 intro f hf
 simp only [List.mem_cons,List.not_mem_nil,or_false] at hf
 rcases hf with rfl|rfl|rfl|rfl<;>omega
theorem fD_ok {st:Nat→Stt} {i:Nat} (hi:i≤4) (hb:∀j,j<i→StB (st j)):iY (fD9_ st i):=by
 have:i=0∨i=1∨i=2∨i=3∨i=4:=by omega
 have z0:dP.s.length+dP.p.length≤5000:=by decide
 rcases this with rfl|rfl|rfl|rfl|rfl
 ·exact ok4 z0 z0 z0 z0
 ·exact ok4 (by have:=FJ (hb 0 (by omega)).len;simpa using this) z0 z0 z0
 ·exact ok4 (by have:=FJ (hb 0 (by omega)).len;simpa using this) (by have:=FI (hb 1 (by omega)).dlen (s:=st 0) (t:=st 1);simpa using this) z0 z0
 ·exact ok4 (by have:=FJ (hb 0 (by omega)).len;simpa using this) (by have:=FI (hb 1 (by omega)).dlen (s:=st 0) (t:=st 1);simpa using this) (by have:=lenC (hb 2 (by omega)).len;simpa using this) z0
 ·exact ok4 (by have:=FJ (hb 0 (by omega)).len;simpa using this) (by have:=FI (hb 1 (by omega)).dlen (s:=st 0) (t:=st 1);simpa using this) (by have:=lenC (hb 2 (by omega)).len;simpa using this) (by have:=lenE (hb 3 (by omega)).dlen (s:=st 2) (t:=st 3);simpa using this)
def mkD:Nat→List Bool
 |0=> [true,false,false,false]
 |1=> [true,true,false,false]
 |2=> [false,false,true,false]
 |_=> [false,false,true,true]
theorem base_ck {fs:List Fil} {z:Int} {h:Hd} {b:List UInt8} (hf:cH fs z=ckF h b) (hi:HdIn h):hdBase fs z=h.base:=by
 unfold hdBase
 have:cF (cH fs z)= .ok (h,8+(aK h.l).length):=by rw [hf];exact jD (body:=b) hi
 rw [this]
theorem marks4 {st:Nat→Stt} (h:Lng st) {k:Nat} (hk:k<4):marksM (fD9_ st 4) 4 [(k:Int)]=mkD k:=by
 have b0:hdBase (fD9_ st 4) 0= -1:=base_ck (h:=⟨1,1,-1,0⟩) (uA _ _) wA
 have b1:hdBase (fD9_ st 4) 1=0:=base_ck (h:=⟨2,2,0,1⟩) (HY _ _ _) GP
 have b2:hdBase (fD9_ st 4) 2= -1:=base_ck (h:=⟨1,3,-1,0⟩) (file2 _ _ _ _) c_h1
 have b3:hdBase (fD9_ st 4) 3=2:=base_ck (h:=⟨2,4,2,3⟩) (file3 _ _ _ _ _) c_h2
 have l0:ldC (fD9_ st 4) 0= .ok (st 0):=NL (lA9_ (h.b 0 (by omega)) (uA _ _))
 have l1:ldC (fD9_ st 4) 1= .ok (st 1):=NL (lB9_ (h.b 0 (by omega)) (h.b 1 (by omega)) h.x1 (uA _ _) (HY _ _ _))
 have l2:ldC (fD9_ st 4) 2= .ok (st 2):=NL (lC9_ (h.b 2 (by omega)) (file2 _ _ _ _))
 have l3:ldC (fD9_ st 4) 3= .ok (st 3):=NL (lE9_ (h.b 2 (by omega)) (h.b 3 (by omega)) h.x3 (file2 _ _ _ _) (file3 _ _ _ _ _))
 have hc:(List.replicate 4 false).count false=4:=by decide
 have:k=0∨k=1∨k=2∨k=3:=by omega
 rcases this with rfl|rfl|rfl|rfl
 ·simp [marksM,chainM,l0,b0,mkD,List.replicate]
 ·simp [marksM,chainM,l0,b0,l1,b1,mkD,List.replicate]
 ·simp [marksM,chainM,l2,b2,mkD,List.replicate]
 ·simp [marksM,chainM,l2,b2,l3,b3,mkD,List.replicate]
def fA9_ (st:Nat→Stt) (k i:Nat):List Fil:=(fD9_ st 4).mapIdx fun j f=>if j<i∧(mkD k)[j]? =some false then ⟨[],[]⟩ else f
theorem fA_zero (st:Nat→Stt) (k:Nat):fA9_ st k 0=fD9_ st 4:=by simp [fA9_,fD9_]
theorem fA_drop (st:Nat→Stt) {k i:Nat} (h:(mkD k)[i]? =some false):fA9_ st k (i+1)=(fA9_ st k i).set i ⟨[],[]⟩:=by
 apply List.ext_getElem?
 intro j
 unfold fA9_
 rw [List.getElem?_set,List.getElem?_mapIdx,List.getElem?_mapIdx]
 by_cases hj:i=j
 ·subst hj
  rw [if_pos rfl]
  by_cases hl:i<(fD9_ st 4).length
  ·simp [hl,h]
  ·simp [hl]
 ·rw [if_neg hj]
  congr 1
  funext f
  by_cases h1:j<i
  ·simp [h1,show j<i+1 by omega]
  ·simp [h1,show¬j<i+1 by omega]
theorem fA_keep (st:Nat→Stt) {k i:Nat} (h:(mkD k)[i]? =some true):fA9_ st k (i+1)=fA9_ st k i:=by
 unfold fA9_
 congr 1
 funext j f
 by_cases hj:j=i
 ·subst hj;simp [h]
 ·by_cases h1:j<i
  ·simp [h1,show j<i+1 by omega]
  ·simp [h1,show¬j<i+1 by omega]
theorem fA_load {st:Nat→Stt} (h:Lng st) {k:Nat} (hk:k<4):LoadR (fA9_ st k 4) 1 (k:Int) (.ok (st k)):=by
 have:k=0∨k=1∨k=2∨k=3:=by omega
 rcases this with rfl|rfl|rfl|rfl
 ·exact (lA9_ (h.b 0 (by omega)) (uA _ _)).up
 ·exact lB9_ (h.b 0 (by omega)) (h.b 1 (by omega)) h.x1 (uA _ _) (HY _ _ _)
 ·exact (lC9_ (h.b 2 (by omega)) (file2 _ _ _ _)).up
 ·exact lE9_ (h.b 2 (by omega)) (h.b 3 (by omega)) h.x3 (file2 _ _ _ _) (file3 _ _ _ _ _)
theorem fD_load {st:Nat→Stt} (h:Lng st) {k:Nat} (hk:k<4):LoadR (fD9_ st 4) 1 (k:Int) (.ok (st k)):=by
 have:k=0∨k=1∨k=2∨k=3:=by omega
 rcases this with rfl|rfl|rfl|rfl
 ·exact (lA9_ (h.b 0 (by omega)) (uA _ _)).up
 ·exact lB9_ (h.b 0 (by omega)) (h.b 1 (by omega)) h.x1 (uA _ _) (HY _ _ _)
 ·exact (lC9_ (h.b 2 (by omega)) (file2 _ _ _ _)).up
 ·exact lE9_ (h.b 2 (by omega)) (h.b 3 (by omega)) h.x3 (file2 _ _ _ _) (file3 _ _ _ _ _)
theorem fA_ok {st:Nat→Stt} (h:Lng st) (k i:Nat):iY (fA9_ st k i):=by
 have h0:=fD_ok (st:=st) (i:=4) (by omega) (fun j hj=>h.b j hj)
 intro f hf
 unfold fA9_ at hf
 obtain ⟨j,hj,rfl⟩:=List.mem_mapIdx.1 hf
 split
 ·simp
 ·exact h0 _ (List.getElem_mem _)
def fU9_ (st:Nat→Stt) (s:Stt):List Fil:=[⟨[],ckA (st 0)⟩,⟨[],ckB (st 0) (st 1)⟩,⟨[],ckF ⟨1,5,-1,0⟩ (aK s.l)⟩,⟨[],ckE (st 2) (st 3)⟩]
theorem saveU {st:Nat→Stt} {s:Stt} (hs:StB s):SaveR ((fD9_ st 4).set 2 ⟨[],[]⟩) s 2 (-1) (.ok (fU9_ st s)):=by
 have h1:stv ⟨[],ckA (st 0)⟩=1:=KL wA
 have h2:stv ⟨[],ckB (st 0) (st 1)⟩=2:=KL GP
 have h3:stv ⟨[],ckE (st 2) (st 3)⟩=4:=KL c_h2
 have h4:stv ⟨[],[]⟩=0:=LY
 have hst:bV ((fD9_ st 4).set 2 ⟨[],[]⟩)=4:=by
  show bV [⟨[],ckA (st 0)⟩,⟨[],ckB (st 0) (st 1)⟩,⟨[],[]⟩,⟨[],ckE (st 2) (st 3)⟩]=4
  simp only [gK,h1,h2,h3,h4];rfl
 have h:=AH (fs:=(fD9_ st 4).set 2 ⟨[],[]⟩) (k:=2) (z:=4) (by simp [fD9_]) hs.len hst (by omega)
 rw [show (4:Int)+1=5 from rfl] at h
 exact h
theorem lostU {st:Nat→Stt} {s:Stt} (hl:Lng st):LoadR (fU9_ st s) 0 3 (.error 11):=by
 refine .lost (h:=⟨2,4,2,3⟩) (body:=dN (st 3) (st 2)) ?_ (fun g q hg=> ?_)
 ·rw [show cH (fU9_ st s) 3=ckE (st 2) (st 3) from file3 _ _ _ _ _]
  exact uN c_h2 (hl.b 3 (by omega)).dlen (by decide)
 ·have h0:cF (cH (fU9_ st s) 2)= .ok (⟨1,5,-1,0⟩,8+(aK (Hd.l ⟨1,5,-1,0⟩)).length):=by
   rw [show cH (fU9_ st s) 2=ckF ⟨1,5,-1,0⟩ (aK s.l) from file2 _ _ _ _]
   exact jD (body:=aK s.l) c_h5
  rw [show (Hd.base ⟨2,4,2,3⟩)=2 from rfl,h0] at hg
  cases hg
  decide
theorem fU_ok {st:Nat→Stt} {s:Stt} (hl:Lng st) (hs:StB s):iY (fU9_ st s):=
 ok4 (by have:=FJ (hl.b 0 (by omega)).len;simpa using this) (by have:=FI (hl.b 1 (by omega)).dlen (s:=st 0) (t:=st 1);simpa using this) (by have:=vU (b:=aK s.l) c_h5.inr hs.len;simpa using this) (by have:=lenE (hl.b 3 (by omega)).dlen (s:=st 2) (t:=st 3);simpa using this)
theorem fY_ok {st:Nat→Stt} (hl:Lng st):iY ((fD9_ st 4).set 2 ⟨[],[]⟩):=
 ok4 (by have:=FJ (hl.b 0 (by omega)).len;simpa using this) (by have:=FI (hl.b 1 (by omega)).dlen (s:=st 0) (t:=st 1);simpa using this) (by decide) (by have:=lenE (hl.b 3 (by omega)).dlen (s:=st 2) (t:=st 3);simpa using this)
end Go.Proofs.YtiblijmngokcgaaGreatDoor
