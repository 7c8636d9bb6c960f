import Derived.Test.YtiblijmngokcgaaDoorKitS
import Derived.Test.YtiblijmngokcgaaDoorTreeS
namespace Go.Proofs.YtiblijmngokcgaaDoor
open Go.RowKit
set_option maxRecDepth 100000
set_option linter.unusedVariables false
set_option linter.unusedSimpArgs false
theorem letter_any (k : Int) (h1 : 97 ≤ k) (h2 : k ≤ 122) (w : World) : Calls Tryd.prog 75 #[.int .u8 k] w fun e w' => e = .returned (.bool true) ∧ w' = w := by
  go_enter Tryd.func75, Tryd.ntmps75
  go_wp2
  go_ret
  exact ⟨rfl, rfl⟩
def five (c : UInt8) : Prop := c = 97 ∨ c = 98 ∨ c = 120 ∨ c = 121 ∨ c = 122
def wordsL : List UInt8 := [32, 118, 97, 114, 32, 97, 114, 114, 97, 121, 32, 111, 110, 32, 115, 116, 97, 114, 116, 32, 109, 101, 115, 115, 97, 103, 101, 32, 116, 105, 99, 107, 32, 105, 110, 112, 117, 116, 32, 105, 102, 32, 101, 108, 115, 101, 32, 119, 104, 105, 108, 101, 32, 115, 101, 110, 100, 32, 111, 117, 116, 112, 117, 116, 32, 115, 101, 108, 102, 32, 112, 114, 111, 99, 115, 32, 102, 114, 111, 109, 32, 118, 97, 108, 117, 101, 32]
set_option maxHeartbeats 2000000 in
theorem reserved_any (c : UInt8) (hc : five c) (w : World) : Calls Tryd.prog 76 #[.string (ByteArray.mk #[c])] w fun e w' => e = .returned (.bool false) ∧ w' = w := by
  have D : ∀ k, k ≤ 84 → (((ByteArray.mk wordsL.toArray).extract k (k + 3)).toList == (ByteArray.mk #[32] ++ ByteArray.mk #[c] ++ ByteArray.mk #[32]).toList) = false := by
    rcases hc with rfl | rfl | rfl | rfl | rfl <;> decide +kernel
  rcases hc with rfl | rfl | rfl | rfl | rfl
  all_goals
    go_enter Tryd.func76, Tryd.ntmps76
    go_wp2
    go_loopw [3] (fun a wr => ∃ k : Nat, a = .int .i64 k ∧ k ≤ 1 ∧ wr = w) (fun a _ => 1 - (intOf a).toNat)
    case atStart => exact ⟨0, rfl, by omega, rfl⟩
    case round =>
      obtain ⟨k, rfl, hk, rfl⟩ := hrel
      by_cases h0 : k = 0
      · subst h0
        go_wp2
        go_roundw
        case rel => exact ⟨1, rfl, by omega, trivial⟩
        case measure => simp [intOf]
      · obtain rfl : k = 1 := by omega
        go_wp2
        go_loopw [5] (fun a wr2 => ∃ k : Nat, a = .int .i64 k ∧ k ≤ 85 ∧ wr2 = wr) (fun a _ => 85 - (intOf a).toNat)
        case atStart => exact ⟨0, rfl, by omega, rfl⟩
        case round =>
          obtain ⟨k, rfl, hk, _⟩ := hrel
          by_cases h1 : k < 85
          · go_wp2
            · rename_i h
              exact absurd (h.symm.trans (D k (by omega))) (by decide)
            · refine ⟨⟨k + 1, rfl, by omega, trivial⟩, by simp [intOf]; omega⟩
          · obtain rfl : k = 85 := by omega
            go_wp2
            go_ret
            exact ⟨rfl, rfl⟩
set_option maxHeartbeats 2000000 in
theorem valid_any (c : UInt8) (hc : five c) (w : World) : Calls Tryd.prog 67 #[.string (ByteArray.mk #[c])] w fun e w' => e = .returned (.bool true) ∧ w' = w := by
  have hR := reserved_any c hc w
  rcases hc with rfl | rfl | rfl | rfl | rfl
  all_goals
    have HR := Lib.hid hR
    clear hR
    go_enter Tryd.func67, Tryd.ntmps67
    go_wp2_with fail
    refine (letter_any _ (by decide) (by decide) w).mono ?_
    rintro e w1 ⟨rfl, rfl⟩
    go_wp2_with fail
    refine HR.out.mono ?_
    rintro e w1 ⟨rfl, rfl⟩
    go_wp2
    go_loopw [3] (fun a wr => ∃ k : Nat, a = .int .i64 k ∧ k ≤ 1 ∧ wr = w1) (fun a _ => 1 - (intOf a).toNat)
    case atStart => exact ⟨0, rfl, by omega, rfl⟩
    case round =>
      obtain ⟨k, rfl, hk, rfl⟩ := hrel
      by_cases h0 : k = 0
      · subst h0
        go_wp2_with fail
        refine (letter_any _ (by decide) (by decide) wr).mono ?_
        rintro e w1 ⟨rfl, rfl⟩
        go_wp2
        go_roundw
        case rel => exact ⟨1, rfl, by omega, trivial⟩
        case measure => simp [intOf]
      · obtain rfl : k = 1 := by omega
        go_wp2
        go_ret
        exact ⟨rfl, rfl⟩
def opnd (op : Int) : Int := if op = 1 ∨ op = 2 ∨ (4 ≤ op ∧ op ≤ 7) then 0 else if op = 3 ∨ op = 8 ∨ op = 9 then 1 else if 10 ≤ op ∧ op ≤ 22 then 2 else -1
set_option maxHeartbeats 2000000 in
theorem operands_any (op : Int) (h1 : 1 ≤ op) (h2 : op ≤ 22) (w : World) : Calls Tryd.prog 84 #[.int .i64 op] w fun e w' => e = .returned (.int .i64 (opnd op)) ∧ w' = w := by
  by_cases a1 : op = 1 ∨ op = 2 ∨ (4 ≤ op ∧ op ≤ 7)
  · have e : opnd op = 0 := by unfold opnd; rw [if_pos a1]
    rw [e]
    clear e
    rcases a1 with rfl | rfl | ⟨a, b⟩
    · go_enter Tryd.func84, Tryd.ntmps84
      go_wp2
      go_ret
      exact ⟨rfl, rfl⟩
    · go_enter Tryd.func84, Tryd.ntmps84
      go_wp2
      go_ret
      exact ⟨rfl, rfl⟩
    · have b1 : (op == 1) = false := by simp; omega
      have b2 : (op == 2) = false := by simp; omega
      go_enter Tryd.func84, Tryd.ntmps84
      go_wp2
      go_ret
      exact ⟨rfl, rfl⟩
  · by_cases a2 : op = 3 ∨ op = 8 ∨ op = 9
    · have e : opnd op = 1 := by unfold opnd; rw [if_neg a1, if_pos a2]
      rw [e]
      clear e
      rcases a2 with rfl | rfl | rfl
      all_goals
        clear a1
        go_enter Tryd.func84, Tryd.ntmps84
        go_wp2
        go_ret
        exact ⟨rfl, rfl⟩
    · have e : opnd op = 2 := by unfold opnd; rw [if_neg a1, if_neg a2, if_pos (by omega)]
      rw [e]
      clear e
      have b1 : (op == 1) = false := by simp; omega
      have b2 : (op == 2) = false := by simp; omega
      have b3 : (op == 3) = false := by simp; omega
      have b8 : (op == 8) = false := by simp; omega
      have b9 : (op == 9) = false := by simp; omega
      have c4 : 10 ≤ op := by omega
      clear a1 a2
      go_enter Tryd.func84, Tryd.ntmps84
      go_wp2
      go_ret
      exact ⟨rfl, rfl⟩
set_option maxHeartbeats 1000000 in
theorem cells_any (nm : ByteArray) (size init : Int) (h0 : 0 ≤ size) (h1 : size ≤ 1000) (w : World) : Calls Tryd.prog 61 #[.agg #[.string nm, .int .i64 size, .int .i64 init]] w fun e w' => e = .returned (.int .i64 (max size 1)) ∧ Below w.heap.size w w' := by
  by_cases hz : size = 0
  · subst hz
    go_enter Tryd.func61, Tryd.ntmps61
    go_wp2
    go_ret
    exact ⟨rfl, (Below.refl _ w).alloc (Nat.le_refl _) _⟩
  · have h2 : 1 ≤ size := by omega
    have e : max size 1 = size := by omega
    rw [e]
    clear e hz h0
    go_enter Tryd.func61, Tryd.ntmps61
    go_wp2
    all_goals
      go_ret
      exact ⟨ret_int (by first | omega | (simp at *; omega) | (simp at *)), (Below.refl _ w).alloc (Nat.le_refl _) _⟩
end Go.Proofs.YtiblijmngokcgaaDoor
