import Derived.Test.YtiblijmngokcgaaDoorDrES
namespace Go.Proofs.YtiblijmngokcgaaDoor
open Go.RowKit
set_option maxRecDepth 100000
set_option linter.unusedVariables false
set_option linter.unusedSimpArgs false
theorem trM_in (b : Bool) : InR (trM b) := by cases b <;> exact ⟨by decide, by decide⟩
theorem wrap64_inr (z : Int) : InR (wrap64 z) := by
  unfold wrap64
  exact ⟨by omega, by omega⟩
theorem tmod_inr {a b : Int} (ha : InR a) : InR (a.tmod b) := by
  obtain ⟨h1, h2⟩ := ha
  have h := Int.natAbs_tmod a b
  have h3 := Nat.mod_le a.natAbs b.natAbs
  rcases Int.le_total 0 a with h0 | h0
  · have := Int.tmod_nonneg b h0
    exact ⟨by omega, by omega⟩
  · have := Int.tmod_nonneg b (show 0 ≤ -a by omega)
    rw [Int.neg_tmod] at this
    exact ⟨by omega, by omega⟩
theorem ite_inr (c : Prop) [Decidable c] {x y : Int} (h : InR x) (k : InR y) : InR (if c then x else y) := by
  split
  · exact h
  · exact k
theorem aplM_in {op a b : Int} (ha : InR a) (hb : InR b) : InR (aplM op a b) := by
  unfold aplM
  repeat' (first | exact wrap64_inr _ | exact trM_in _ | exact tmod_inr ha | exact ⟨by decide, by decide⟩ | refine ite_inr _ ?_ ?_)
set_option maxHeartbeats 8000000 in
theorem apply_any (op a b : Int) (w : World) (hop : 0 ≤ op ∧ op ≤ 22) (ha : InR a) (hb : InR b) : Calls Tryd.prog 90 #[.int .i64 op, .int .i64 a, .int .i64 b] w fun e w' => e = .returned (.int .i64 (aplM op a b)) ∧ w' = w := by
  obtain ⟨a1, a2⟩ := ha
  obtain ⟨b1, b2⟩ := hb
  by_cases h8 : op = 8
  · subst h8
    go_enter Tryd.func90, Tryd.ntmps90
    go_wp2
    go_ret
    exact ⟨by simp [aplM], rfl⟩
  by_cases h9 : op = 9
  · subst h9
    by_cases g : a = 0
    · skip
      have d0 : (a == 0) = true := by simpa using g
      go_enter Tryd.func90, Tryd.ntmps90
      go_wp2
      go_ret
      exact ⟨by simp [aplM, trM, g], rfl⟩
    · skip
      have d0 : (a == 0) = false := by simpa using g
      go_enter Tryd.func90, Tryd.ntmps90
      go_wp2
      go_ret
      exact ⟨by simp [aplM, trM, g], rfl⟩
  by_cases h10 : op = 10
  · subst h10
    go_enter Tryd.func90, Tryd.ntmps90
    go_wp2
    go_ret
    exact ⟨by simp [aplM], rfl⟩
  by_cases h11 : op = 11
  · subst h11
    go_enter Tryd.func90, Tryd.ntmps90
    go_wp2
    go_ret
    exact ⟨by simp [aplM], rfl⟩
  by_cases h12 : op = 12
  · subst h12
    go_enter Tryd.func90, Tryd.ntmps90
    go_wp2
    go_ret
    exact ⟨by simp [aplM], rfl⟩
  by_cases h13 : op = 13
  · subst h13
    by_cases g0 : b = 0
    · subst g0
      go_enter Tryd.func90, Tryd.ntmps90
      go_wp2
      go_ret
      exact ⟨by simp [aplM], rfl⟩
    · by_cases g1 : b = -1
      · subst g1
        go_enter Tryd.func90, Tryd.ntmps90
        go_wp2
        go_ret
        exact ⟨by simp [aplM], rfl⟩
      · have d0 : (b == 0) = false := by simpa using g0
        have d1 : (b == -1) = false := by simpa using g1
        go_enter Tryd.func90, Tryd.ntmps90
        go_wp2
        go_ret
        exact ⟨by simp [aplM, g0, g1], rfl⟩
  by_cases h14 : op = 14
  · subst h14
    by_cases g0 : b = 0
    · subst g0
      go_enter Tryd.func90, Tryd.ntmps90
      go_wp2
      go_ret
      exact ⟨by simp [aplM], rfl⟩
    · by_cases g1 : b = -1
      · subst g1
        go_enter Tryd.func90, Tryd.ntmps90
        go_wp2
        go_ret
        exact ⟨by simp [aplM], rfl⟩
      · have d0 : (b == 0) = false := by simpa using g0
        have d1 : (b == -1) = false := by simpa using g1
        go_enter Tryd.func90, Tryd.ntmps90
        go_wp2
        go_ret
        exact ⟨by simp [aplM, g0, g1], rfl⟩
  by_cases h15 : op = 15
  · subst h15
    by_cases g : a < b
    · skip
      have d0 : decide (a < b) = true := by simpa using g
      go_enter Tryd.func90, Tryd.ntmps90
      go_wp2
      go_ret
      exact ⟨by simp [aplM, trM, g], rfl⟩
    · skip
      have d0 : decide (a < b) = false := by simpa using g
      go_enter Tryd.func90, Tryd.ntmps90
      go_wp2
      go_ret
      exact ⟨by simp [aplM, trM, g], rfl⟩
  by_cases h16 : op = 16
  · subst h16
    by_cases g : a ≤ b
    · skip
      have d0 : decide (a ≤ b) = true := by simpa using g
      go_enter Tryd.func90, Tryd.ntmps90
      go_wp2
      go_ret
      exact ⟨by simp [aplM, trM, g], rfl⟩
    · skip
      have d0 : decide (a ≤ b) = false := by simpa using g
      go_enter Tryd.func90, Tryd.ntmps90
      go_wp2
      go_ret
      exact ⟨by simp [aplM, trM, g], rfl⟩
  by_cases h17 : op = 17
  · subst h17
    by_cases g : b < a
    · skip
      have d0 : decide (b < a) = true := by simpa using g
      go_enter Tryd.func90, Tryd.ntmps90
      go_wp2
      go_ret
      exact ⟨by simp [aplM, trM, g], rfl⟩
    · skip
      have d0 : decide (b < a) = false := by simpa using g
      go_enter Tryd.func90, Tryd.ntmps90
      go_wp2
      go_ret
      exact ⟨by simp [aplM, trM, g], rfl⟩
  by_cases h18 : op = 18
  · subst h18
    by_cases g : b ≤ a
    · skip
      have d0 : decide (b ≤ a) = true := by simpa using g
      go_enter Tryd.func90, Tryd.ntmps90
      go_wp2
      go_ret
      exact ⟨by simp [aplM, trM, g], rfl⟩
    · skip
      have d0 : decide (b ≤ a) = false := by simpa using g
      go_enter Tryd.func90, Tryd.ntmps90
      go_wp2
      go_ret
      exact ⟨by simp [aplM, trM, g], rfl⟩
  by_cases h19 : op = 19
  · subst h19
    by_cases g : a = b
    · skip
      have d0 : (a == b) = true := by simpa using g
      go_enter Tryd.func90, Tryd.ntmps90
      go_wp2
      go_ret
      exact ⟨by simp [aplM, trM, g], rfl⟩
    · skip
      have d0 : (a == b) = false := by simpa using g
      go_enter Tryd.func90, Tryd.ntmps90
      go_wp2
      go_ret
      exact ⟨by simp [aplM, trM, g], rfl⟩
  by_cases h20 : op = 20
  · subst h20
    by_cases g : a = b
    · skip
      have d0 : (a != b) = false := by simpa using g
      have d1 : (a == b) = true := by simpa using g
      go_enter Tryd.func90, Tryd.ntmps90
      go_wp2
      go_ret
      exact ⟨by simp [aplM, trM, g], rfl⟩
    · skip
      have d0 : (a != b) = true := by simpa using g
      have d1 : (a == b) = false := by simpa using g
      go_enter Tryd.func90, Tryd.ntmps90
      go_wp2
      go_ret
      exact ⟨by simp [aplM, trM, g], rfl⟩
  by_cases h21 : op = 21
  · subst h21
    by_cases g0 : a = 0
    · have d0 : (a != 0) = false := by simpa using g0
      have d0' : (a == 0) = true := by simpa using g0
      by_cases g1 : b = 0
      · have d1 : (b != 0) = false := by simpa using g1
        have d1' : (b == 0) = true := by simpa using g1
        go_enter Tryd.func90, Tryd.ntmps90
        go_wp2
        go_ret
        exact ⟨by simp [aplM, trM, g0, g1], rfl⟩
      · have d1 : (b != 0) = true := by simpa using g1
        have d1' : (b == 0) = false := by simpa using g1
        go_enter Tryd.func90, Tryd.ntmps90
        go_wp2
        go_ret
        exact ⟨by simp [aplM, trM, g0, g1], rfl⟩
    · have d0 : (a != 0) = true := by simpa using g0
      have d0' : (a == 0) = false := by simpa using g0
      by_cases g1 : b = 0
      · have d1 : (b != 0) = false := by simpa using g1
        have d1' : (b == 0) = true := by simpa using g1
        go_enter Tryd.func90, Tryd.ntmps90
        go_wp2
        go_ret
        exact ⟨by simp [aplM, trM, g0, g1], rfl⟩
      · have d1 : (b != 0) = true := by simpa using g1
        have d1' : (b == 0) = false := by simpa using g1
        go_enter Tryd.func90, Tryd.ntmps90
        go_wp2
        go_ret
        exact ⟨by simp [aplM, trM, g0, g1], rfl⟩
  by_cases h22 : op = 22
  · subst h22
    by_cases g0 : a = 0
    · have d0 : (a != 0) = false := by simpa using g0
      have d0' : (a == 0) = true := by simpa using g0
      by_cases g1 : b = 0
      · have d1 : (b != 0) = false := by simpa using g1
        have d1' : (b == 0) = true := by simpa using g1
        go_enter Tryd.func90, Tryd.ntmps90
        go_wp2
        go_ret
        exact ⟨by simp [aplM, trM, g0, g1], rfl⟩
      · have d1 : (b != 0) = true := by simpa using g1
        have d1' : (b == 0) = false := by simpa using g1
        go_enter Tryd.func90, Tryd.ntmps90
        go_wp2
        go_ret
        exact ⟨by simp [aplM, trM, g0, g1], rfl⟩
    · have d0 : (a != 0) = true := by simpa using g0
      have d0' : (a == 0) = false := by simpa using g0
      by_cases g1 : b = 0
      · have d1 : (b != 0) = false := by simpa using g1
        have d1' : (b == 0) = true := by simpa using g1
        go_enter Tryd.func90, Tryd.ntmps90
        go_wp2
        go_ret
        exact ⟨by simp [aplM, trM, g0, g1], rfl⟩
      · have d1 : (b != 0) = true := by simpa using g1
        have d1' : (b == 0) = false := by simpa using g1
        go_enter Tryd.func90, Tryd.ntmps90
        go_wp2
        go_ret
        exact ⟨by simp [aplM, trM, g0, g1], rfl⟩
  have hd : aplM op a b = 0 := by
    unfold aplM
    simp only [h8, h9, h10, h11, h12, h13, h14, h15, h16, h17, h18, h19, h20, h21, h22, if_false]
  have e8 : (op == 8) = false := by simpa using h8
  have e9 : (op == 9) = false := by simpa using h9
  have e10 : (op == 10) = false := by simpa using h10
  have e11 : (op == 11) = false := by simpa using h11
  have e12 : (op == 12) = false := by simpa using h12
  have e13 : (op == 13) = false := by simpa using h13
  have e14 : (op == 14) = false := by simpa using h14
  have e15 : (op == 15) = false := by simpa using h15
  have e16 : (op == 16) = false := by simpa using h16
  have e17 : (op == 17) = false := by simpa using h17
  have e18 : (op == 18) = false := by simpa using h18
  have e19 : (op == 19) = false := by simpa using h19
  have e20 : (op == 20) = false := by simpa using h20
  have e21 : (op == 21) = false := by simpa using h21
  have e22 : (op == 22) = false := by simpa using h22
  clear h8 h9 h10 h11 h12 h13 h14 h15 h16 h17 h18 h19 h20 h21 h22
  rw [hd]
  go_enter Tryd.func90, Tryd.ntmps90
  go_wp2
  go_ret
  exact ⟨rfl, rfl⟩
end Go.Proofs.YtiblijmngokcgaaDoor
