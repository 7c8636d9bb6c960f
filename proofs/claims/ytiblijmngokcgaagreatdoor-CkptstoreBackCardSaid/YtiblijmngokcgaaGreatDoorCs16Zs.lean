import Derived.Test.YtiblijmngokcgaaGreatDoorG32Zs
namespace Go.Proofs.YtiblijmngokcgaaGreatDoor
open Go.RowKit
set_option linter.unusedVariables false
set_option linter.unusedSimpArgs false
theorem wP (b:List UInt8) (k:Nat):(bO b k).2.2≠0∨∃n,n=num ((b.drop k).take 4)∧k+8+n≤b.length∧bO b k=((b.drop (k+8)).take n,k+8+n,0):=by
 by_cases h1:b.length<k
 ·left;rw [mC (.inr (by omega))];decide
 by_cases h2:k=b.length
 ·left;rw [sX h2];decide
 by_cases h3:b.length-k<8
 ·left;rw [nY (by omega) h3];decide
 by_cases h4:4096<num ((b.drop k).take 4)
 ·left;rw [qX (by omega) h4];decide
 by_cases h5:b.length-k-8<num ((b.drop k).take 4)
 ·left;rw [nX (by omega) (by omega) h5];decide
 by_cases h6:num ((b.drop (k+4)).take 4)=gT ((b.drop (k+8)).take (num ((b.drop k).take 4)))
 ·right;exact ⟨_,rfl,by omega,qD (by omega) (by omega) (by omega) h6⟩
 ·left;rw [sV (by omega) (by omega) (by omega) h6];decide
theorem qW {pre li:List UInt8} {m:Nat} (hl:li.length≤4096) (hm:m<8+li.length):(bO (pre++(cX li).take m) pre.length).2.2≠0:=by
 rcases wP (pre++(cX li).take m) pre.length with h|⟨n,hn,h1,_⟩
 ·exact h
 ·exfalso
  have hlen:((cX li).take m).length=m:=by rw [List.length_take,eD];omega
  rw [List.length_append,hlen] at h1
  rw [List.drop_left,List.take_take,show min 4 m=4 by omega] at hn
  have e1:(cX li).take 4=le4 li.length:=by simp [cX,gR,le4]
  rw [e1,rY _ (by omega)] at hn
  omega
theorem ME {h:Hd} {body:List UInt8} {k:Nat} (hi:HdIn h) (hb:body.length≤4096) (hk:k<(ckF h body).length):∃e,dJ ((ckF h body).take k)= .err e:=by
 have hl:=vI hi.inr
 have hs:(cX (aK h.l)).length=8+(aK h.l).length:=eD _
 by_cases hk1:k<8+(aK h.l).length
 ·have e1:(ckF h body).take k=[]++(cX (aK h.l)).take k:=by
   unfold ckF
   rw [List.take_append_of_le_length (by omega)]
   rfl
  have h0:=qW (pre:=[]) (li:=aK h.l) (m:=k) (by omega) hk1
  rw [←e1] at h0
  have h1:cF ((ckF h body).take k)= .error (bO ((ckF h body).take k) 0).2.2:=by unfold cF;rw [if_neg (by simpa using h0)]
  unfold dJ
  rw [h1]
  exact ⟨_,rfl⟩
 ·rw [vV] at hk
  have e1:(ckF h body).take k=cX (aK h.l)++(cX body).take (k-(8+(aK h.l).length)):=by
   unfold ckF
   rw [List.take_append,hs,List.take_of_length_le (by omega)]
  have h0:=qW (pre:=cX (aK h.l)) (li:=body) (m:=k-(8+(aK h.l).length)) hb (by omega)
  rw [←e1,hs] at h0
  have h1:cF ((ckF h body).take k)= .ok (h,8+(aK h.l).length):=by rw [e1];exact jD (body:=body) hi
  unfold dJ
  rw [h1]
  simp only []
  rw [if_neg h0]
  exact ⟨_,rfl⟩
theorem sN (p:List UInt8) (k:Nat):kB p (k:Int) []=p.take k:=by
 unfold kB dW
 apply List.ext_getElem?
 intro i
 rw [jU,List.getElem?_take,List.getElem?_take]
 by_cases h1:i<p.length
 ·by_cases h2:i<k
  ·rw [if_pos h2,if_pos (by omega),List.getElem?_eq_getElem h1]
   simp
  ·rw [if_neg h2,if_neg (by omega)]
   rfl
 ·rw [List.getElem?_eq_none (by omega)]
  simp
theorem NM (a b:List UInt8) (k:Nat):mN [⟨a,[]⟩,⟨[],b⟩,dP] [⟨0,[]⟩,⟨(k:Int),[]⟩]=[⟨a,[]⟩,⟨b.take k,[]⟩,dP]:=by
 have h1:=sN b k
 have h2:=sN [] 0
 simp only [List.take_nil] at h2
 rw [show ((0:Nat):Int)=0 from rfl] at h2
 simp [mN,jY,gJ,dP,h1,h2,List.mapIdx_cons]
noncomputable def ldC (fs:List Fil) (k:Int):Except Nat Stt:=Classical.choose (LoadR.ex fs k)
theorem uY (fs:List Fil) (k:Int):LoadR fs fs.length k (ldC fs k):=Classical.choose_spec (LoadR.ex fs k)
theorem NL {fs:List Fil} {n:Nat} {k:Int} {r:Except Nat Stt} (h:LoadR fs n k r):ldC fs k=r:=(LoadR.uniq (uY fs k) h)
noncomputable def EL (fs:List Fil) (i:Nat):List (Nat×Nat):=match ldC fs (i:Int) with| .ok s=> [(i,s.evs.length)]| .error _=> []
noncomputable def fD (fs:List Fil):Nat→List (Nat×Nat)
 |0=> []
 |n+1=>fD fs n++EL fs n
def dT (most:Int) (b:Option (Nat×Nat)) (p:Nat×Nat):Option (Nat×Nat):=if (p.2:Int)≤most then (match b with|none=>some p|some q=>if q.2<p.2 then some p else b) else b
def vZ (most:Int) (l:List (Nat×Nat)):Option (Nat×Nat):=l.foldl (dT most) none
end Go.Proofs.YtiblijmngokcgaaGreatDoor
