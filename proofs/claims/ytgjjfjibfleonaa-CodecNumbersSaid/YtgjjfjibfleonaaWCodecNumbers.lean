/-
  The walk of the law CodecNumbers: it returns true and writes nothing that was there. Conditions: what the row says of its arguments.
-/
import Derived.Test.YtgjjfjibfleonaaCodecLaw
import Derived.WalkKit
import Derived.ProofKit
import Derived.OpenShut
import Derived.ShutString
import Derived.Below
namespace Go.Proofs.Ytgjjfjibfleonaa.codecNumbers
open Go.ChangeShapes Go.WideShapes Go.ChangeAt Go.RowKit
open Go.ChangeMaps (open_string shut_string)
set_option linter.unusedVariables false
set_option maxRecDepth 100000

set_option maxHeartbeats 4000000 in
theorem walk (a0 : Int) (a1 : Option Addr) (len1 cap1 : Nat) (z1 : List Int) (a2 : Int) (w : World) (w0 : (Lit.int .i64 a0).wf = true) (w1 : IsRow .u8 w a1 len1 cap1 z1) (w2 : (Lit.int .i64 a2).wf = true) :
    Calls Try.prog 3 #[.int .i64 a0, .slice a1 len1 cap1, .int .i64 a2] w fun e w' => e = .returned (.bool true) ∧ Below w.heap.size w w' := by
  have hv := wf_i64 w0
  have hat := wf_i64 w2
  obtain ⟨L, hk1, hk2, hk3, hkB⟩ := IsRow.bytes w1
  clear w0 w1 w2
  have HL := Lib.hid hk1
  clear hk1
  go_enter Try.func3, Try.ntmps3
  go_wp2_with fail
  refine (awakeC_any _).mono ?_
  rintro e w1 ⟨rfl, hb1⟩
  by_cases hlen : len1 ≤ 400
  · have dl : decide (400 < len1) = false := by simpa using hlen
    have dl' : decide ((400 : Int) < (len1 : Int)) = false := by simp; omega
    go_wp2_with fail
    refine (modC_any a2 ((len1 : Int) + 1) w1 (by omega) (by omega) hat.1 hat.2).mono ?_
    rintro e w2 ⟨rfl, rfl⟩
    obtain ⟨M, hM⟩ : ∃ M, M = a2 % ((len1 : Int) + 1) := ⟨_, rfl⟩
    rw [← hM]
    obtain ⟨W, hW⟩ : ∃ W, W = w2.alloc (.cells #[.int .i64 a2, .int .i64 M] 3) := ⟨_, rfl⟩
    have ha : Below w2.heap.size w2 W := by rw [hW]; exact (Below.refl _ _).alloc (Nat.le_refl _) _
    have hrow : W.heap[w2.heap.size]? = some (.cells #[.int .i64 a2, .int .i64 M] 3 (0, 0)) := by rw [hW]; exact heap_alloc_new _ _
    have bW := Below.ext hb1 ha
    have hlt : w2.heap.size < W.heap.size := (Array.getElem?_eq_some_iff.1 hrow).1
    have HR := Lib.hid hrow
    clear hM hrow
    go_wp2
    rw [← hW]
    clear hW
    go_loopw [28] (fun i wr => ∃ j : Nat, i = .int .i64 j ∧ j ≤ 2 ∧ Below W.heap.size W wr) (fun i _ => 2 - (intOf i).toNat)
    case atStart => exact ⟨0, rfl, by omega, Below.refl _ _⟩
    case round =>
      obtain ⟨j, rfl, hj, hbr⟩ := hrel
      have hr := (hbr.block _ hlt).trans HR.out
      have q0 : wr.cell? ⟨w2.heap.size, 0, none⟩ = some (.int .i64 a2) := by rw [cell_of_row _ _ _ _ _ _ hr]; rfl
      have q1 : wr.cell? ⟨w2.heap.size, 1, none⟩ = some (.int .i64 M) := by rw [cell_of_row _ _ _ _ _ _ hr]; rfl
      have hbB := (hkB.ext bW).ext hbr
      have hsz := bW.size
      have hszr := hbr.size
      clear hr
      by_cases h2 : j = 2
      · subst h2
        clear q0 q1
        go_wp2_with fail
        refine (putint_any a1 len1 cap1 a0 L _ wr hbB (by omega) hv.1 hv.2).mono ?_
        rintro e w3 ⟨v3, rfl, hv3, hb3⟩
        go_wp2_with fail
        refine (refputint_any a1 len1 cap1 a0 L _ w3 (hbB.ext hb3) (by omega) hv.1 hv.2).mono ?_
        rintro e w4 ⟨A4, c4, rfl, ho4, hb4⟩
        go_wp2_with fail
        refine (samebytes_eq _ _ (L ++ encI a0) _ _ w4 (hv3.ext hb4).by_ ho4.bytes.by_).mono ?_
        rintro e w5 ⟨rfl, hb5⟩
        go_wp2
        go_ret
        exact ⟨rfl, Below.ext (Below.ext bW hbr) (Below.ext hb3 (Below.ext hb4 hb5))⟩
      · obtain ⟨K, hK⟩ : ∃ K : Int, wr.cell? ⟨w2.heap.size, j, none⟩ = some (.int .i64 K) := by
          match j, hj, h2 with
          | 0, _, _ => exact ⟨_, q0⟩
          | 1, _, _ => exact ⟨_, q1⟩
          | 2, _, h => exact absurd rfl h
        clear q0 q1
        have dj : decide ((j : Int) < 2) = true := by simp; omega
        obtain ⟨v, q, x, hvv⟩ : ∃ v q x, rdOut iv (iv 0) (rdAt rdInt L K) = .tuple #[.int .i64 v, .int .i64 q, .int .i64 x] := by
          cases rdAt rdInt L K with
          | ok p => exact ⟨p.1, p.2, 0, rfl⟩
          | error x => exact ⟨0, 0, x, rfl⟩
        have h3 := codecInt_any a1 len1 cap1 K L _ wr hbB (by omega)
        have h4 := fun w3 (hb3 : Below wr.heap.size wr w3) => refInt_any a1 len1 cap1 K L _ w3 (hbB.ext hb3) (by omega)
        rw [hvv] at h3
        simp only [hvv] at h4
        have H3 := Lib.hid h3
        have H4 := Lib.hid h4
        clear h3 h4 hvv
        go_wp2_with fail
        refine (H3.out).mono ?_
        rintro e w3 ⟨rfl, hb3⟩
        go_wp2_with fail
        refine (H4.out w3 hb3).mono ?_
        rintro e w4 ⟨rfl, hb4⟩
        go_wp2
        go_roundw
        case rel => exact ⟨j + 1, by go_num, by omega, Below.ext hbr (Below.ext hb3 hb4)⟩
        case measure => simp [intOf]; omega
  · have dl : decide (400 < len1) = true := by simp; omega
    have dl' : decide ((400 : Int) < (len1 : Int)) = true := by simp; omega
    go_wp2
    go_ret
    exact ⟨rfl, hb1⟩
end Go.Proofs.Ytgjjfjibfleonaa.codecNumbers
