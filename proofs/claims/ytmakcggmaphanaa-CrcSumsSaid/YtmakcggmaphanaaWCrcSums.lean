/-
  The walk of the law CrcSums: it returns true and writes nothing that was there. Conditions: what the row says of its arguments.
-/
import Derived.Test.YtmakcggmaphanaaCrcWalk
import Derived.Test.YtmakcggmaphanaaCrcLaw
import Derived.WalkKit
import Derived.ProofKit
import Derived.OpenShut
import Derived.ShutString
import Derived.Below
namespace Go.Proofs.Ytmakcggmaphanaa.crcSums
open Go.ChangeShapes Go.WideShapes Go.ChangeAt Go.RowKit
open Go.ChangeMaps (open_string shut_string)
set_option linter.unusedVariables false
set_option maxRecDepth 100000

theorem walk (a0 : Int) (a1 : Option Addr) (len1 cap1 : Nat) (z1 : List Int) (w : World) (w0 : (Lit.int .u32 a0).wf = true) (w1 : IsRow .u8 w a1 len1 cap1 z1) :
    Calls Try.prog 3 #[.int .u32 a0, .slice a1 len1 cap1] w fun e w' => e = .returned (.bool true) ∧ Below w.heap.size w w' := by
  obtain ⟨l, hl, hcap, hmax, hb⟩ := IsRow.bytes w1
  have ha := wf_u32 w0
  obtain ⟨s, rfl⟩ := Int.eq_ofNat_of_zero_le ha.1
  have hs : s < 4294967296 := by omega
  clear w0 w1 ha
  go_enter Try.func3, Try.ntmps3
  go_wp2_with fail
  refine (awake09_any _).mono ?_
  rintro e w1 ⟨rfl, hb1⟩
  by_cases hlen : len1 ≤ 2000
  · go_wp2_with fail
    refine (of_any _ l _ _ (hb.ext hb1)).mono ?_
    rintro e w2 ⟨rfl, hb2⟩
    go_wp2_with fail
    have hbl := (hb.ext hb1).ext hb2
    refine (refof_any _ l _ _ hbl).mono ?_
    rintro e w3 ⟨rfl, rfl⟩
    rw [← upd_eq]
    go_wp2_with fail
    refine (update_any s _ l _ _ hs hbl).mono ?_
    rintro e w4 ⟨rfl, hb4⟩
    go_wp2_with fail
    refine (refupdate_any s _ l _ _ hs (hbl.ext hb4)).mono ?_
    rintro e w5 ⟨rfl, rfl⟩
    rw [← upd_eq]
    go_wp2_with fail
    go_ret
    exact ⟨by simp, (hb1.trans (hb2.mono hb1.size)).trans (hb4.mono (Nat.le_trans hb1.size hb2.size))⟩
  · go_wp2_with fail
    go_ret
    exact ⟨rfl, hb1⟩
end Go.Proofs.Ytmakcggmaphanaa.crcSums
