/-
  slices.Grow(nil, n) and slices.Concat(a, b) at one element type (printed by concat.py).
-/
import Derived.Test.YtjcfnpmgklliiaaRlC
import Derived.Lib.AppendZeros
namespace Go.Proofs.Ytjcfnpmgklliiaa
open Go.RowKit
set_option maxRecDepth 100000
set_option linter.unusedVariables false

theorem zerosD (n : Nat) (h0 : 0 < n) (hb : n * 72 ≤ 140737488355328) (w : World) : ∃ cap W, (Builtin.append_ #[27, 3] 27 #[.slice none 0 0, .int .i64 (n : Int)]).run Try.prog w = .ok (.slice (some ⟨w.heap.size, 0, none⟩) n cap) W ∧
    OwnR encDt 9 W w.heap.size 38 (.slice (some ⟨w.heap.size, 0, none⟩) 0 cap) [] ∧ n ≤ cap ∧ cap ≤ 9223372036854775807 ∧ Below w.heap.size w W := by
  obtain ⟨i, hi, hz, hs, hby⟩ := info_parts infoDt
  have hn : n ≤ 140737488355328 := by omega
  have h := Lib.run_append_nil_zeros (P := Try.prog) w 27 3 27 38 i (.agg #[.int .i64 0, .int .i64 0, .int .i64 0, .int .i64 0, .int .i64 0, .int .i64 0, .int .i64 0, .int .i64 0, .int .i64 0]) .i64 .i64 Try.underlying27 Try.underlying3 hi hz n h0 (by rw [hs]; omega) (by omega) (by rw [hby]; omega)
  have hg := grownCap_ge w n 0 38
  have hm := grownCap_le_maxLen w n 0 38 (by unfold maxLen; omega)
  refine ⟨_, _, h, ?_, hg, by unfold maxLen at hm; exact hm, ((Below.refl _ w).drew).alloc (Nat.le_refl _) _⟩
  refine ⟨rfl, .inr ⟨w.heap.size, _, _, rfl, Nat.le_refl _, heap_alloc_new w.drew _, by simp, hm, ?_, by simp⟩⟩
  rw [Array.size_append, size_zeroCells, size_zeroCells, show (Value.cells (.agg #[.int .i64 0, .int .i64 0, .int .i64 0, .int .i64 0, .int .i64 0, .int .i64 0, .int .i64 0, .int .i64 0, .int .i64 0])).size = 9 from rfl, ← Nat.add_mul]
  congr 1
  omega

set_option maxHeartbeats 1000000 in
theorem growD (n : Nat) (hb : n * 72 ≤ 140737488355328) (w : World) :
    Calls Try.prog 100 #[.slice none 0 0, .int .i64 (n : Int)] w fun e w' => ∃ A c, e = .returned (.slice A 0 c) ∧ OwnR encDt 9 w' w.heap.size 38 (.slice A 0 c) [] ∧ Below w.heap.size w w' := by
  have hn : n ≤ 140737488355328 := by omega
  by_cases h0 : 0 < n
  · obtain ⟨cap, W, hrun, hown, h1, h2, hbw⟩ := zerosD n h0 hb w
    have Hrun := Lib.hid hrun
    clear hrun
    have d1 : decide (0 < n) = true := by simpa using h0
    go_enter Try.func100, Try.ntmps100
    go_wp2_with (refine Lib.wpList_append_run (o := ⟨some 22, _, _, _, _, _⟩) _ rfl _ _ _ _ rfl _ _ rfl rfl _ _ Hrun.out ?_)
    go_wp2
    go_ret
    exact ⟨_, _, rfl, hown, hbw⟩
  · obtain rfl : n = 0 := by omega
    go_enter Try.func100, Try.ntmps100
    go_wp2
    go_ret
    exact ⟨none, 0, rfl, OwnR.nil_ _ _ _, Below.refl _ _⟩

set_option maxHeartbeats 2000000 in
theorem concatD (g : Nat) (A1 A2 : Option Addr) (n1 c1 n2 c2 : Nat) (l1 l2 : List Dt) (S1 S2 : Nat → Prop) (w : World) (h0 : w.cell? ⟨g, 0, none⟩ = some (.slice A1 n1 c1)) (h1 : w.cell? ⟨g, 1, none⟩ = some (.slice A2 n2 c2))
    (r1 : Recs encDt S1 w (.slice A1 n1 c1) l1) (r2 : Recs encDt S2 w (.slice A2 n2 c2) l2) (hb : (n1 + n2) * 72 ≤ 140737488355328) :
    Calls Try.prog 78 #[.slice (some ⟨g, 0, none⟩) 2 2] w fun e w' => ∃ A c, e = .returned (.slice A (n1 + n2) c) ∧ OwnR encDt 9 w' w.heap.size 38 (.slice A (n1 + n2) c) (l1 ++ l2) ∧ Below w.heap.size w w' := by
  have hn : n1 + n2 ≤ 140737488355328 := by omega
  have hgl : g < w.heap.size := block_lt_of_cell h0
  obtain ⟨hl1, hl2, hl3⟩ := r1.len
  obtain ⟨hm1, hm2, hm3⟩ := r2.len
  have Hl1 := Lib.hid hl1
  have Hm1 := Lib.hid hm1
  clear hl1 hm1
  go_enter Try.func78, Try.ntmps78
  go_wp2
  go_loop [3, 11] (fun s i => ∃ j : Nat, j ≤ 2 ∧ i = .int .i64 j ∧ s = .int .i64 ((if j = 0 then 0 else if j = 1 then n1 else n1 + n2 : Nat) : Int)) (fun _ i => 2 - (intOf i).toNat)
  case atStart => exact ⟨0, by omega, rfl, rfl⟩
  case round =>
    obtain ⟨j, hj, rfl, rfl⟩ := hrel
    obtain rfl | rfl | rfl : j = 0 ∨ j = 1 ∨ j = 2 := by omega
    · simp only [if_true]
      go_wp2
      go_round
      case rel => exact ⟨1, by omega, rfl, by simp⟩
      case measure => simp [intOf]
    · simp only [if_true, Nat.one_ne_zero, if_false]
      go_wp2
      go_round
      case rel => exact ⟨2, by omega, rfl, by simp⟩
      case measure => simp [intOf]
    · simp only [show (2 : Nat) = 0 ↔ False by decide, show (2 : Nat) = 1 ↔ False by decide, if_false]
      go_wp2_with fail
      rw [← Int.natCast_add]
      refine (growD (n1 + n2) hb w).mono ?_
      rintro e w1 ⟨A, c, rfl, hown, hb1⟩
      have h0' := (hb1.cell (p := ⟨g, 0, none⟩) hgl).trans h0
      have h1' := (hb1.cell (p := ⟨g, 1, none⟩) hgl).trans h1
      clear h0 h1
      have hsz1 := hb1.size
      go_wp2
      go_loopw [6, 27] (fun v i wr => ∃ (j n' : Nat) (A' : Option Addr) (c' : Nat), j ≤ 2 ∧ i = .int .i64 j ∧ v = .slice A' n' c' ∧ n' ≤ n1 + n2 ∧ OwnR encDt 9 wr w.heap.size 38 (.slice A' n' c') (if j = 0 then [] else if j = 1 then l1 else l1 ++ l2) ∧ Below w.heap.size w wr) (fun _ i _ => 2 - (intOf i).toNat)
      case atStart => exact ⟨0, 0, A, c, by omega, rfl, rfl, by omega, hown, hb1⟩
      case round =>
        obtain ⟨j, n', A', c', hj, rfl, rfl, hn', hown', hbr⟩ := hrel
        have q0 := (hbr.cell (p := ⟨g, 0, none⟩) hgl).trans ((hb1.cell (p := ⟨g, 0, none⟩) hgl).symm.trans h0')
        have q1 := (hbr.cell (p := ⟨g, 1, none⟩) hgl).trans ((hb1.cell (p := ⟨g, 1, none⟩) hgl).symm.trans h1')
        have hszr := hbr.size
        clear h0' h1'
        obtain rfl | rfl | rfl : j = 0 ∨ j = 1 ∨ j = 2 := by omega
        · simp only [if_true] at hown'
          have hlen := hown'.len.1
          simp at hlen
          subst hlen
          go_wp2_with (refine wpList_appR (o := ⟨some 33, _, _, _, _, _⟩) encDt_len encDt_one (.agg #[.int .i64 0, .int .i64 0, .int .i64 0, .int .i64 0, .int .i64 0, .int .i64 0, .int .i64 0, .int .i64 0, .int .i64 0]) 72 _ _ 27 38 w.heap.size [] l1 A1 n1 c1 (.slice A' 0 c') n1 rfl rfl Try.underlying27 infoDt rfl (by omega) rfl rfl hown' (r1.ext hbr) (by simp) (by simp; omega) (by simp; omega) hszr ?_; intro A9 c9 w9 hown9 hgr9 hat9 hc91 hc92)
          have hb9 : Below w.heap.size w w9 := hown'.grow hgr9 hbr (Nat.le_refl _) hszr
          go_wp2
          go_roundw
          case rel => exact ⟨1, n1, A9, c9, by omega, rfl, rfl, by omega, by simpa using hown9, hb9⟩
          case measure => simp [intOf]
        · simp only [if_true, Nat.one_ne_zero, if_false] at hown'
          have hlen := hown'.len.1
          rw [Hl1.out] at hlen
          subst hlen
          go_wp2_with (refine wpList_appR (o := ⟨some 33, _, _, _, _, _⟩) encDt_len encDt_one (.agg #[.int .i64 0, .int .i64 0, .int .i64 0, .int .i64 0, .int .i64 0, .int .i64 0, .int .i64 0, .int .i64 0, .int .i64 0]) 72 _ _ 27 38 w.heap.size l1 l2 A2 n2 c2 (.slice A' n1 c') (n1 + n2) rfl rfl Try.underlying27 infoDt rfl (by omega) rfl rfl hown' (r2.ext hbr) (by rw [Hl1.out]) (by rw [Hl1.out]; exact hb) (by rw [Hl1.out]; omega) hszr ?_; intro A9 c9 w9 hown9 hgr9 hat9 hc91 hc92)
          have hb9 : Below w.heap.size w w9 := hown'.grow hgr9 hbr (Nat.le_refl _) hszr
          go_wp2
          go_roundw
          case rel => exact ⟨2, n1 + n2, A9, c9, by omega, rfl, by rfl, by omega, by simpa using hown9, hb9⟩
          case measure => simp [intOf]
        · simp only [show (2 : Nat) = 0 ↔ False by decide, show (2 : Nat) = 1 ↔ False by decide, if_false] at hown'
          have hlen := hown'.len.1
          rw [List.length_append, Hl1.out, Hm1.out] at hlen
          subst hlen
          go_wp2
          go_ret
          exact ⟨_, _, rfl, hown', hbr⟩
end Go.Proofs.Ytjcfnpmgklliiaa
