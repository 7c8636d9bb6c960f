/-
  The walk of the law CrcBursts: it returns true and writes nothing that was there. Conditions: what the row says of its arguments.
-/
import Derived.Test.YtmakcggmaphanaaCrcWalk
import Derived.Test.YtmakcggmaphanaaCrcLaw
import Derived.Test.YtmakcggmaphanaaLex
import Derived.Test.YtmakcggmaphanaaOwn
import Derived.WalkKit
import Derived.ProofKit
import Derived.OpenShut
import Derived.ShutString
import Derived.Below
namespace Go.Proofs.Ytmakcggmaphanaa.crcBursts
open Go.ChangeShapes Go.WideShapes Go.ChangeAt Go.RowKit
open Go.ChangeMaps (open_string shut_string)
set_option linter.unusedVariables false
set_option maxRecDepth 100000

theorem walk (a0 : Option Addr) (len0 cap0 : Nat) (z0 : List Int) (a1 : Int) (a2 : Int) (w : World) (w0 : IsRow .u8 w a0 len0 cap0 z0) (w1 : (Lit.int .i64 a1).wf = true) (w2 : (Lit.int .u32 a2).wf = true) :
    Calls Try.prog 6 #[.slice a0 len0 cap0, .int .i64 a1, .int .u32 a2] w fun e w' => e = .returned (.bool true) ∧ Below w.heap.size w w' := by
  obtain ⟨l, hl, hcap, hmax, hba⟩ := IsRow.bytes w0
  have hat := wf_i64 w1
  have hm0 := wf_u32 w2
  obtain ⟨mask, rfl⟩ := Int.eq_ofNat_of_zero_le hm0.1
  have hm1 : mask < 4294967296 := by omega
  clear w0 w1 w2 hm0
  by_cases h4 : len0 < 4
  · have hz2 : decide ((len0 : Int) < 4) = true := by simp; omega
    go_enter Try.func6, Try.ntmps6
    go_wp2_with fail
    refine (awake09_any _).mono ?_
    rintro e w1 ⟨rfl, hb1⟩
    go_wp2_with fail
    go_ret
    exact ⟨rfl, hb1⟩
  · by_cases h1000 : 1000 < len0
    · have hz2 : decide ((len0 : Int) < 4) = false := by simp; omega
      have hz3 : decide ((1000 : Int) < (len0 : Int)) = true := by simp; omega
      go_enter Try.func6, Try.ntmps6
      go_wp2_with fail
      refine (awake09_any _).mono ?_
      rintro e w1 ⟨rfl, hb1⟩
      go_wp2_with fail
      go_ret
      exact ⟨rfl, hb1⟩
    · by_cases hz : mask = 0
      · have hz1 : ((mask : Int) == 0) = true := by simp; omega
        have hz2 : decide ((len0 : Int) < 4) = false := by simp; omega
        have hz3 : decide ((1000 : Int) < (len0 : Int)) = false := by simp; omega
        clear hz
        go_enter Try.func6, Try.ntmps6
        go_wp2_with fail
        refine (awake09_any _).mono ?_
        rintro e w1 ⟨rfl, hb1⟩
        go_wp2_with fail
        go_ret
        exact ⟨rfl, hb1⟩
      · have hz1 : ((mask : Int) == 0) = false := by simp; omega
        have hz2 : decide ((len0 : Int) < 4) = false := by simp; omega
        have hz3 : decide ((1000 : Int) < (len0 : Int)) = false := by simp; omega
        go_enter Try.func6, Try.ntmps6
        go_wp2_with fail
        refine (awake09_any _).mono ?_
        rintro e w1 ⟨rfl, hb1⟩
        go_wp2_with fail
        refine (mod_any _ _ _ (by omega) (by omega) hat.1 hat.2).mono ?_
        rintro e w2 ⟨rfl, rfl⟩
        have hk0 := Int.emod_nonneg a1 (b := 8 * (len0 : Int) - 31) (by omega)
        have hk1 := Int.emod_lt_of_pos a1 (b := 8 * (len0 : Int) - 31) (by omega)
        obtain ⟨k, hk⟩ := Int.eq_ofNat_of_zero_le hk0
        rw [hk] at hk1 ⊢
        clear hk hk0 hat
        go_wp2_with (refine wpList_appB (o := ⟨some 31, _, _, _, _, _⟩) _ _ 23 5 w1.heap.size [] l a0 len0 cap0 (.slice none 0 0) len0 rfl rfl Try.underlying23 (by kernel_rfl) rfl rfl (OwnB.nil_ _ _ _) (hba.ext hb1) (by simp) (by simp; omega) (Nat.le_refl _) ?_; intro A' c' w3 hown hgr hat' hc1 hc2)
        obtain ⟨g, rfl, hg1, hg2⟩ := hown.some_ (by simp; omega)
        simp only [List.nil_append] at hown
        have hbw3 : Below w1.heap.size w1 w3 := ⟨hgr.os, hgr.tape, hgr.output, hgr.size, fun b hb => hgr.block b hb (by simp [Value.ownBlock])⟩
        clear hgr hat'
        go_loopw [9] (fun i wr => ∃ (j : Nat) (m : List UInt8), j ≤ 32 ∧ i = .int .i64 j ∧ m.length = len0 ∧ OwnB wr w1.heap.size 5 (.slice (some ⟨g, 0, none⟩) len0 c') m ∧ Below w1.heap.size w1 wr ∧ num m = num l ^^^ (2 ^ k * (mask % 2 ^ j))) (fun i _ => 32 - (intOf i).toNat)
        case atStart => exact ⟨0, l, by omega, rfl, hl, hown, hbw3, by simp [Nat.mod_one]⟩
        case round =>
          obtain ⟨j, m, hj, rfl, hml, hown, hbw, hnum⟩ := hrel
          by_cases hlt : j < 32
          · obtain ⟨x, hx, hcx⟩ := hown.at_ (j := (k + j) / 8) (by omega)
            have hfx := hown.frozen ((k + j) / 8)
            have Hown := Lib.hid hown
            have Hnum := Lib.hid hnum
            have Hml := Lib.hid hml
            have Hx := Lib.hid hx
            have h8 := u8_lt x
            clear hown hnum hml hx
            go_wp2
            · have ht : (bits BinOp.and IntKind.u32 ((mask : Int) / 2 ^ j) 1 == 1) = true := by assumption
              go_roundw
              case rel =>
                rw [bit8 x (Nat.mod_lt _ (by omega))]
                exact ⟨j + 1, m.set ((k + j) / 8) (x ^^^ UInt8.ofNat (2 ^ ((k + j) % 8))), by omega, by go_num, by rw [List.length_set]; exact Hml.out, Hown.out.set_ _ _, hbw.setCell hg1 _, burst_yes l m k j mask x Hnum.out (bit_yes hm1 ht) Hx.out⟩
              case measure => simp [intOf]; omega
            · have ht : (bits BinOp.and IntKind.u32 ((mask : Int) / 2 ^ j) 1 == 1) = false := by assumption
              go_roundw
              case rel => exact ⟨j + 1, m, by omega, by go_num, Hml.out, Hown.out, hbw, burst_no l m k j mask Hnum.out (bit_no hm1 ht)⟩
              case measure => simp [intOf]; omega
          · obtain rfl : j = 32 := by omega
            have hne := Lib.hid (upd_burst 0 l m k mask (by omega) (by omega) hz hm1 (by rw [hnum]; congr 2; exact Nat.mod_eq_of_lt (by omega)))
            have hB := (hba.ext hb1).ext hbw
            have hBm := hown.bytes
            clear hown hnum
            go_wp2_with fail
            refine (of_any _ l _ _ hB).mono ?_
            rintro e w4 ⟨rfl, hb4⟩
            go_wp2_with fail
            refine (of_any _ m _ _ (hBm.ext hb4)).mono ?_
            rintro e w5 ⟨rfl, hb5⟩
            go_wp2_with fail
            go_ret
            refine ⟨ret_bool (b := true) ?_, Below.ext (Below.ext (Below.ext hb1 hbw) hb4) hb5⟩
            have := hne.out
            simp
            omega
end Go.Proofs.Ytmakcggmaphanaa.crcBursts
