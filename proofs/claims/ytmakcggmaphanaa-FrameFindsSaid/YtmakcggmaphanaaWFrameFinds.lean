/-
  The walk of the law FrameFinds: it returns true and writes nothing that was there. Conditions: what the row says of its arguments.
-/
import Derived.Test.YtmakcggmaphanaaFrameLaw
import Derived.Test.YtmakcggmaphanaaFrameMore
import Derived.WalkKit
import Derived.ProofKit
import Derived.OpenShut
import Derived.ShutString
import Derived.Below
namespace Go.Proofs.Ytmakcggmaphanaa.frameFinds
open Go.ChangeShapes Go.WideShapes Go.ChangeAt Go.RowKit
open Go.ChangeMaps (open_string shut_string)
set_option linter.unusedVariables false
set_option maxRecDepth 100000

theorem walk (a0 : Option Addr) (len0 cap0 : Nat) (z0 : List Int) (a1 : Int) (a2 : Int) (w : World) (w0 : IsRow .u8 w a0 len0 cap0 z0) (w1 : (Lit.int .i64 a1).wf = true) (w2 : (Lit.int .u32 a2).wf = true) :
    Calls Try.prog 9 #[.slice a0 len0 cap0, .int .i64 a1, .int .u32 a2] w fun e w' => e = .returned (.bool true) ∧ Below w.heap.size w w' := by
  obtain ⟨l, hl, hcap, hmax, hba⟩ := IsRow.bytes w0
  have hat := wf_i64 w1
  have hm0 := wf_u32 w2
  obtain ⟨mask, rfl⟩ := Int.eq_ofNat_of_zero_le hm0.1
  have hm1 : mask < 4294967296 := by omega
  clear w0 w1 w2 hm0
  by_cases h4 : len0 < 4
  · have hz2 : decide ((len0 : Int) < 4) = true := by simp; omega
    go_enter Try.func9, Try.ntmps9
    go_wp2_with fail
    refine (awake11_any _).mono ?_
    rintro e w1 ⟨rfl, hb1⟩
    go_wp2_with fail
    go_ret
    exact ⟨rfl, hb1⟩
  · by_cases h1000 : 1000 < len0
    · have hz2 : decide ((len0 : Int) < 4) = false := by simp; omega
      have hz3 : decide ((1000 : Int) < (len0 : Int)) = true := by simp; omega
      go_enter Try.func9, Try.ntmps9
      go_wp2_with fail
      refine (awake11_any _).mono ?_
      rintro e w1 ⟨rfl, hb1⟩
      go_wp2_with fail
      go_ret
      exact ⟨rfl, hb1⟩
    · by_cases hz : mask = 0
      · have hz1 : ((mask : Int) == 0) = true := by simp; omega
        have hz2 : decide ((len0 : Int) < 4) = false := by simp; omega
        have hz3 : decide ((1000 : Int) < (len0 : Int)) = false := by simp; omega
        clear hz
        go_enter Try.func9, Try.ntmps9
        go_wp2_with fail
        refine (awake11_any _).mono ?_
        rintro e w1 ⟨rfl, hb1⟩
        go_wp2_with fail
        go_ret
        exact ⟨rfl, hb1⟩
      · have hz1 : ((mask : Int) == 0) = false := by simp; omega
        have hz2 : decide ((len0 : Int) < 4) = false := by simp; omega
        have hz3 : decide ((1000 : Int) < (len0 : Int)) = false := by simp; omega
        go_enter Try.func9, Try.ntmps9
        go_wp2_with fail
        refine (awake11_any _).mono ?_
        rintro e w1 ⟨rfl, hb1⟩
        go_wp2_with fail
        refine (seal_any _ l _ _ (hba.ext hb1) (by omega)).mono ?_
        rintro e w2 ⟨v2, rfl, hown2, hb2⟩
        obtain ⟨A2, c2, rfl, hc21, hc22, _⟩ := hown2.bytes
        obtain ⟨g, rfl, hg1, hg2⟩ := hown2.some_ (by rw [sealL_length]; omega)
        rw [sealL_length, hl] at hown2 ⊢
        have dl : (((8 + len0 : Nat) : Int) != (len0 : Int) + 8) = false := by simp; omega
        go_wp2_with fail
        refine (mod_any _ _ _ (by omega) (by omega) hat.1 hat.2).mono ?_
        rintro e w3 ⟨rfl, rfl⟩
        have hk0 := Int.emod_nonneg a1 (b := 8 * (len0 : Int) - 31) (by omega)
        have hk1 := Int.emod_lt_of_pos a1 (b := 8 * (len0 : Int) - 31) (by omega)
        obtain ⟨k, hk⟩ := Int.eq_ofNat_of_zero_le hk0
        rw [hk] at hk1 ⊢
        clear hk hk0 hat dl hz1 hz2 hz3
        go_wp2
        go_loopw [10] (fun i wr => ∃ (j : Nat) (m : List UInt8), j ≤ 32 ∧ i = .int .i64 j ∧ m.length = 8 + len0 ∧ OwnB wr w1.heap.size 5 (.slice (some ⟨g, 0, none⟩) (8 + len0) c2) m ∧ Below w1.heap.size w1 wr ∧ num m = num (sealL l) ^^^ (2 ^ (64 + k) * (mask % 2 ^ j))) (fun i _ => 32 - (intOf i).toNat)
        case atStart => exact ⟨0, sealL l, by omega, rfl, by rw [sealL_length, hl], hown2, hb2, by simp [Nat.mod_one]⟩
        case round =>
          obtain ⟨j, m, hj, rfl, hml, hown, hbw, hnum⟩ := hrel
          by_cases hlt : j < 32
          · obtain ⟨x, hx, hcx⟩ := hown.at_ (j := (64 + k + j) / 8) (by omega)
            have hfx := hown.frozen ((64 + k + j) / 8)
            have Hown := Lib.hid hown
            have Hnum := Lib.hid hnum
            have Hml := Lib.hid hml
            have Hx := Lib.hid hx
            have h8 := u8_lt x
            clear hown hnum hml hx
            go_wp2
            · have ht : (bits BinOp.and IntKind.u32 ((mask : Int) / 2 ^ j) 1 == 1) = true := by assumption
              go_roundw
              case rel =>
                rw [bit8 x (Nat.mod_lt _ (by omega))]
                exact ⟨j + 1, m.set ((64 + k + j) / 8) (x ^^^ UInt8.ofNat (2 ^ ((64 + k + j) % 8))), by omega, by go_num, by rw [List.length_set]; exact Hml.out, Hown.out.set_ _ _, hbw.setCell hg1 _, burst_yes (sealL l) m (64 + k) j mask x Hnum.out (bit_yes hm1 ht) Hx.out⟩
              case measure => simp [intOf]; omega
            · have ht : (bits BinOp.and IntKind.u32 ((mask : Int) / 2 ^ j) 1 == 1) = false := by assumption
              go_roundw
              case rel => exact ⟨j + 1, m, by omega, by go_num, Hml.out, Hown.out, hbw, burst_no (sealL l) m (64 + k) j mask Hnum.out (bit_no hm1 ht)⟩
              case measure => simp [intOf]; omega
          · obtain rfl : j = 32 := by omega
            have hfin := Lib.hid (finds_law l m k mask (by omega) (by omega) (by omega) (by omega) hz hm1 (by rw [hnum]; congr 2; exact Nat.mod_eq_of_lt (by omega)))
            have hBm := hown.bytes
            clear hown hnum
            go_wp2_with fail
            refine (next_any _ m _ _ 0 hBm (by omega)).mono ?_
            rintro e w5 ⟨v5, rfl, hB5, hb5⟩
            rw [hfin.out]
            go_wp2_with fail
            go_ret
            exact ⟨rfl, Below.ext (Below.ext hb1 hbw) hb5⟩
end Go.Proofs.Ytmakcggmaphanaa.frameFinds
