/-
  The walk of the law CodecReads: it returns true and writes nothing that was there. Conditions: what the row says of its arguments.
-/
import Derived.Test.YtgjjfjibfleonaaCodecLaw
import Derived.Test.YtgjjfjibfleonaaLawSame
import Derived.WalkKit
import Derived.ProofKit
import Derived.OpenShut
import Derived.ShutString
import Derived.Below
namespace Go.Proofs.Ytgjjfjibfleonaa.codecReads
open Go.ChangeShapes Go.WideShapes Go.ChangeAt Go.RowKit
open Go.ChangeMaps (open_string shut_string)
set_option linter.unusedVariables false
set_option maxRecDepth 100000

set_option maxHeartbeats 4000000 in
theorem walk (a0 : Option Addr) (len0 cap0 : Nat) (z0 : List Int) (a1 : Int) (w : World) (w0 : IsRow .u8 w a0 len0 cap0 z0) (w1 : (Lit.int .i64 a1).wf = true) :
    Calls Try.prog 5 #[.slice a0 len0 cap0, .int .i64 a1] w fun e w' => e = .returned (.bool true) ∧ Below w.heap.size w w' := by
  have hat := wf_i64 w1
  obtain ⟨L, hk1, hk2, hk3, hkB⟩ := IsRow.bytes w0
  clear w0 w1
  have HL := Lib.hid hk1
  clear hk1
  go_enter Try.func5, Try.ntmps5
  go_wp2_with fail
  refine (awakeC_any _).mono ?_
  rintro e w1 ⟨rfl, hb1⟩
  by_cases hlen : len0 ≤ 400
  · have dl : decide (400 < len0) = false := by simpa using hlen
    have dl' : decide ((400 : Int) < (len0 : Int)) = false := by simp; omega
    go_wp2_with fail
    refine (same_any _ _ _ _ L _ w1 (hkB.ext hb1) (by omega)).mono ?_
    rintro e w2 ⟨rfl, hb2⟩
    go_wp2_with fail
    refine (modC_any a1 ((len0 : Int) + 1) w2 (by omega) (by omega) hat.1 hat.2).mono ?_
    rintro e w3 ⟨rfl, rfl⟩
    go_wp2_with fail
    refine (same_any _ _ _ _ L _ w3 (hkB.ext (Below.ext hb1 hb2)) (by omega)).mono ?_
    rintro e w4 ⟨rfl, hb4⟩
    go_wp2
    go_ret
    exact ⟨rfl, Below.ext hb1 (Below.ext hb2 hb4)⟩
  · have dl : decide (400 < len0) = true := by simp; omega
    have dl' : decide ((400 : Int) < (len0 : Int)) = true := by simp; omega
    go_wp2
    go_ret
    exact ⟨rfl, hb1⟩
end Go.Proofs.Ytgjjfjibfleonaa.codecReads
