import Derived.Test.YtiblijmngokcgaaGreatDoorExtLCkptstoreTornZs
import Derived.Test.YtiblijmngokcgaaGreatDoorCs16Zs
import Derived.Test.YtiblijmngokcgaaGreatDoorG42Zs
namespace Go.Proofs.YtiblijmngokcgaaGreatDoor
open Go.RowKit
set_option linter.unusedVariables false
set_option linter.unusedSimpArgs false
theorem file2 (f g h:Fil) (l:List Fil):cH (f::g::h::l) 2=h.s++h.p:=by
 have:=lS (fs:=f::g::h::l) (k:=2) rfl
 exact this
theorem loadZ {fs:List Fil} {k:Int} (h:cH fs k=[]) (n:Nat):LoadR fs n k (.error 11):=by
 refine .err ?_
 rw [h]
 rfl
theorem tornB {s t:Stt} (h2:(dN t s).length≤4096) {k:Nat} (hk:k<(ckB s t).length) (f:Fil) (l:List Fil):∃e,LoadR (f::⟨(ckB s t).take k,[]⟩::l) 0 1 (.error e):=by
 obtain ⟨e,he⟩:=ME (h:=⟨2,2,0,1⟩) (body:=dN t s) GP h2 hk
 refine ⟨e,.err ?_⟩
 rw [HY,List.append_nil]
 exact he
def evO (i:Nat) (r:Except Nat Stt):List (Nat×Nat):=match r with| .ok s=> [(i,s.evs.length)]| .error _=> []
theorem pts3 {f g h:Fil} {a b c:Except Nat Stt} {n0 n1 n2:Nat} (h0:LoadR [f,g,h] n0 0 a) (h1:LoadR [f,g,h] n1 1 b) (h2:LoadR [f,g,h] n2 2 c):fD [f,g,h] 3=evO 0 a++evO 1 b++evO 2 c:=by
 have e0:ldC [f,g,h] ((0:Nat):Int)=a:=NL h0
 have e1:ldC [f,g,h] ((1:Nat):Int)=b:=NL h1
 have e2:ldC [f,g,h] ((2:Nat):Int)=c:=NL h2
 show (([]++EL _ 0)++EL _ 1)++EL _ 2=_
 unfold EL
 rw [e0,e1,e2,List.nil_append]
 rfl
theorem torn_lost {s t:Stt} (h:(aK s.l).length≤4096) (hs:SvIn s) (h2:(dN t s).length≤4096) {k:Nat} (hk:k<(ckB s t).length):fD [⟨ckA s,[]⟩,⟨(ckB s t).take k,[]⟩,dP] 3=[(0,s.evs.length)]:=by
 obtain ⟨e,he⟩:=tornB h2 hk ⟨ckA s,[]⟩ [dP]
 rw [pts3 (GZ h hs (f:=⟨ckA s,[]⟩) (by simp) _) he (loadZ (by rw [file2];rfl) 0)]
 rfl
theorem torn_kept {s t:Stt} (h:(aK s.l).length≤4096) (hs:SvIn s) (h2:(dN t s).length≤4096) (hx:ExtM t s) (ht:SvIn t) {k:Nat} (hk:(ckB s t).length≤k):fD [⟨ckA s,[]⟩,⟨(ckB s t).take k,[]⟩,dP] 3=[(0,s.evs.length),(1,t.evs.length)]:=by
 rw [pts3 (GZ h hs (f:=⟨ckA s,[]⟩) (by simp) _) (MI h hs h2 hx ht (f:=⟨ckA s,[]⟩) (g:=⟨(ckB s t).take k,[]⟩) (by simp) (by simp [List.take_of_length_le hk]) [dP]) (loadZ (by rw [file2];rfl) 0)]
 rfl
theorem best_one {m a:Nat} (h:a≤m):vZ (m:Int) [(0,a)]=some (0,a):=by
 simp [vZ,dT]
 omega
theorem best_two {m a b:Nat} (h:a≤m) (hb:b≤m):vZ (m:Int) [(0,a),(1,b)]=if a<b then some (1,b) else some (0,a):=by
 have h1:(a:Int)≤m:=by omega
 have h2:(b:Int)≤m:=by omega
 simp [vZ,dT,h,hb]
end Go.Proofs.YtiblijmngokcgaaGreatDoor
