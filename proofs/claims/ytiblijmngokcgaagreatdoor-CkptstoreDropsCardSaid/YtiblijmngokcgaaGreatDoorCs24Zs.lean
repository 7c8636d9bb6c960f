import Derived.Test.YtiblijmngokcgaaGreatDoorExtLCkptstoreDropsZs
import Derived.Test.YtiblijmngokcgaaGreatDoorCs23Zs
namespace Go.Proofs.YtiblijmngokcgaaGreatDoor
open Go.RowKit
set_option linter.unusedVariables false
def setTo (zs:List Int):List Bool:=zs.foldl (fun bs z=>bs.set z.toNat true) (List.replicate 4 false)
theorem setTo_step {zs:List Int} {j:Nat} {z:Int} (h:zs[j]? =some z):setTo (zs.take (j+1))=(setTo (zs.take j)).set z.toNat true:=by
 unfold setTo
 rw [List.take_add_one,h,List.foldl_append]
 rfl
theorem setTo_all {k:Nat} (hk:k<4):setTo (idxTo (mkD k) 4)=mkD k:=by
 have:k=0∨k=1∨k=2∨k=3:=by omega
 rcases this with rfl|rfl|rfl|rfl<;>decide
theorem idx_in {k:Nat} (hk:k<4):∀z∈idxTo (mkD k) 4,0≤z∧z≤3:=by
 have:k=0∨k=1∨k=2∨k=3:=by omega
 rcases this with rfl|rfl|rfl|rfl<;>decide
theorem mk_k {k:Nat} (hk:k<4):(mkD k)[k]? =some true:=by
 have:k=0∨k=1∨k=2∨k=3:=by omega
 rcases this with rfl|rfl|rfl|rfl<;>rfl
theorem mk_lo {k:Nat} (hk:k<2):(mkD k)[0]? =some true∧(mkD k)[2]? =some false:=by
 have:k=0∨k=1:=by omega
 rcases this with rfl|rfl<;>exact ⟨rfl,rfl⟩
theorem mk_hi {k:Nat} (hk:k<4) (h2:¬k<2):(mkD k)[0]? =some false∧(mkD k)[2]? =some true:=by
 have:k=2∨k=3:=by omega
 rcases this with rfl|rfl<;>exact ⟨rfl,rfl⟩
theorem own_at {w:World} {base:Nat} {e:TypeId} {g n c:Nat} {l:List Bool} (h:OwnR encBl 1 w base e (.slice (some ⟨g,0,none⟩) n c) l) {j:Nat} {b:Bool} (hj:j<n) (hb:l[j]? =some b):w.cell? ⟨g,j,none⟩=some (.bool b):=by
 obtain ⟨b',h1,h2,_⟩:=h.cellBl hj
 rw [hb] at h1
 cases h1
 exact h2
end Go.Proofs.YtiblijmngokcgaaGreatDoor
