/-
  The document's comparison of two disks.
-/
import Derived.Test.YtmbbngdhdhgliaaRefCrash
namespace Go.Proofs.Ytmbbngdhdhgliaa
open Go.RowKit
set_option maxRecDepth 100000
set_option linter.unusedVariables false

set_option maxHeartbeats 2000000 in
theorem samedisk_eq (A1 A2 : Option Addr) (n c1 c2 : Nat) (fs : List Fil) (S1 S2 : Nat → Prop) (w : World) (h1 : Dsk S1 w (.slice A1 n c1) fs) (h2 : Dsk S2 w (.slice A2 n c2) fs) (hn : n ≤ 1000000) :
    Calls Try.prog 10 #[.agg #[.slice A1 n c1], .agg #[.slice A2 n c2]] w fun e w' => e = .returned (.bool true) ∧ Below w.heap.size w w' := by
  obtain ⟨W, hW, bW, hsW, r1, r2⟩ : ∃ W, W = (w.alloc (.cells #[.slice A1 n c1] 24)).alloc (.cells #[.slice A2 n c2] 24) ∧ Below w.heap.size w W ∧ W.heap.size = w.heap.size + 2 ∧
      W.heap[w.heap.size]? = some (.cells #[.slice A1 n c1] 24 (0, 0)) ∧ W.heap[w.heap.size + 1]? = some (.cells #[.slice A2 n c2] 24 (0, 0)) := by
    refine ⟨_, rfl, ((Below.refl _ w).alloc (Nat.le_refl _) _).alloc (by simp) _, by simp, ?_, ?_⟩
    · exact (((Below.refl _ _).alloc (Nat.le_refl _) _).block w.heap.size (by simp)).trans (heap_alloc_new w _)
    · have := heap_alloc_new (w.alloc (.cells #[.slice A1 n c1] 24)) (.cells #[.slice A2 n c2] 24)
      rw [World.size_alloc] at this
      exact this
  have hl1 := h1.len
  have k1 := h1.ext bW
  have k2 := h2.ext bW
  have q1 : W.cell? ⟨w.heap.size, 0, none⟩ = some (.slice A1 n c1) := by rw [cell_of_row _ _ _ _ _ _ r1]; rfl
  have q2 : W.cell? ⟨w.heap.size + 1, 0, none⟩ = some (.slice A2 n c2) := by rw [cell_of_row _ _ _ _ _ _ r2]; rfl
  have R1 := Lib.hid q1
  have R2 := Lib.hid q2
  have ag22 : ∀ w : World, (isAgg 22).run Try.prog w = .ok false w := fun w => by simp [isAgg, run_underlying Try.underlying22]
  have ag30 : ∀ w : World, (isAgg 30).run Try.prog w = .ok false w := fun w => by simp [isAgg, run_underlying Try.underlying30]
  have A22 := Lib.hid ag22
  have A30 := Lib.hid ag30
  have HsW := Lib.hid hsW
  clear ag22 ag30 r1 r2 hsW
  go_enter Try.func10, Try.ntmps10
  rw [hW] at q1 q2
  go_wp2_with fail
  rw [← hW]
  clear q1 q2 hW
  go_loopw [5] (fun v wr => ∃ j : Nat, v = .int .i64 j ∧ j ≤ n ∧ Below W.heap.size W wr) (fun v _ => n - (intOf v).toNat)
  case atStart => exact ⟨0, rfl, by omega, Below.refl _ _⟩
  case round =>
    obtain ⟨j, rfl, hj, hbr⟩ := hrel
    have e1 : wr.cell? ⟨w.heap.size, 0, none⟩ = some (.slice A1 n c1) := (hbr.cell (p := ⟨w.heap.size, 0, none⟩) (by have := HsW.out; show w.heap.size < _; omega)).trans R1.out
    by_cases hlt : j < n
    · obtain ⟨b1, o1, x1, f1, rfl, hb1, hf1, hx1, u0, u1⟩ := k1.at_ hlt
      obtain ⟨b2, o2, x2, f2, rfl, hb2, hf2, hx2, v0, v1⟩ := k2.at_ hlt
      obtain rfl : f1 = f2 := by rw [hf1] at hf2; cases hf2; rfl
      have hcl : ∀ (w' : World) (p : Addr), Below W.heap.size W w' → p.block < W.heap.size → w'.cell? p = W.cell? p := fun w' p h hp => h.cell hp
      have HC := Lib.hid hcl
      have U0 := Lib.hid u0
      have U1 := Lib.hid u1
      have V0 := Lib.hid v0
      have V1 := Lib.hid v1
      clear hf1 hf2 u0 u1 v0 v1 hcl
      go_wp2_with fail
      refine wp_region_lexL (Below W.heap.size W) (by kernel_rfl) (by kernel_rfl) (hbr.drew) ?_
      repeat (first | (refine lexL_q0 rfl ?_; go_big_quiet_step (fail); refine wpQuiet_nil ?_) | (refine lexL_skip0 rfl rfl ?_; simp only [Act.put, List.setIfInBounds_toArray, List.set_cons_succ, List.set_cons_zero]))
      refine lexL_ld (⟨w.heap.size, 0, none⟩) (.slice (some ⟨b1, o1, none⟩) n c1) rfl rfl rfl (fun w' hS => run_ld1 (A22.out _) ((HC.out w' ⟨w.heap.size, 0, none⟩ hS (by have := HsW.out; show w.heap.size < _; omega)).trans R1.out)) ?_
      simp only [Act.put, List.setIfInBounds_toArray, List.set_cons_succ, List.set_cons_zero]
      repeat (first | (refine lexL_q0 rfl ?_; go_big_quiet_step (fail); refine wpQuiet_nil ?_) | (refine lexL_skip0 rfl rfl ?_; simp only [Act.put, List.setIfInBounds_toArray, List.set_cons_succ, List.set_cons_zero]))
      refine lexL_ld (⟨b1, o1 + j * 2, none⟩) (.slice x1.A1 x1.n1 x1.c1) rfl rfl rfl (fun w' hS => run_ld1 (A30.out _) ((HC.out w' ⟨b1, o1 + j * 2, none⟩ hS hb1).trans U0.out)) ?_
      simp only [Act.put, List.setIfInBounds_toArray, List.set_cons_succ, List.set_cons_zero]
      repeat (first | (refine lexL_q0 rfl ?_; go_big_quiet_step (fail); refine wpQuiet_nil ?_) | (refine lexL_skip0 rfl rfl ?_; simp only [Act.put, List.setIfInBounds_toArray, List.set_cons_succ, List.set_cons_zero]))
      refine lexL_ld (⟨w.heap.size + 1, 0, none⟩) (.slice (some ⟨b2, o2, none⟩) n c2) rfl rfl rfl (fun w' hS => run_ld1 (A22.out _) ((HC.out w' ⟨w.heap.size + 1, 0, none⟩ hS (by have := HsW.out; show w.heap.size + 1 < _; omega)).trans R2.out)) ?_
      simp only [Act.put, List.setIfInBounds_toArray, List.set_cons_succ, List.set_cons_zero]
      repeat (first | (refine lexL_q0 rfl ?_; go_big_quiet_step (fail); refine wpQuiet_nil ?_) | (refine lexL_skip0 rfl rfl ?_; simp only [Act.put, List.setIfInBounds_toArray, List.set_cons_succ, List.set_cons_zero]))
      refine lexL_ld (⟨b2, o2 + j * 2, none⟩) (.slice x2.A1 x2.n1 x2.c1) rfl rfl rfl (fun w' hS => run_ld1 (A30.out _) ((HC.out w' ⟨b2, o2 + j * 2, none⟩ hS hb2).trans V0.out)) ?_
      simp only [Act.put, List.setIfInBounds_toArray, List.set_cons_succ, List.set_cons_zero]
      repeat (first | (refine lexL_q0 rfl ?_; go_big_quiet_step (fail); refine wpQuiet_nil ?_) | (refine lexL_skip0 rfl rfl ?_; simp only [Act.put, List.setIfInBounds_toArray, List.set_cons_succ, List.set_cons_zero]))
      refine lexL_e rfl ?_
      go_wp2_with fail
      refine (samebytes_eq _ _ f1.s _ _ wr.drew ((hx1.s.ext hbr).drew) ((hx2.s.ext hbr).drew)).mono ?_
      rintro e w4 ⟨rfl, hb4⟩
      have b4 : Below W.heap.size W w4 := Below.ext hbr.drew hb4
      go_wp2_with fail
      refine lexL_go (b4) ?_
      repeat (first | (refine lexL_q0 rfl ?_; go_big_quiet_step (fail); refine wpQuiet_nil ?_) | (refine lexL_skip0 rfl rfl ?_; simp only [Act.put, List.setIfInBounds_toArray, List.set_cons_succ, List.set_cons_zero]))
      refine lexL_ld (⟨w.heap.size, 0, none⟩) (.slice (some ⟨b1, o1, none⟩) n c1) rfl rfl rfl (fun w' hS => run_ld1 (A22.out _) ((HC.out w' ⟨w.heap.size, 0, none⟩ hS (by have := HsW.out; show w.heap.size < _; omega)).trans R1.out)) ?_
      simp only [Act.put, List.setIfInBounds_toArray, List.set_cons_succ, List.set_cons_zero]
      repeat (first | (refine lexL_q0 rfl ?_; go_big_quiet_step (fail); refine wpQuiet_nil ?_) | (refine lexL_skip0 rfl rfl ?_; simp only [Act.put, List.setIfInBounds_toArray, List.set_cons_succ, List.set_cons_zero]))
      refine lexL_ld (⟨b1, o1 + j * 2 + 1, none⟩) (.slice x1.A2 x1.n2 x1.c2) rfl rfl rfl (fun w' hS => run_ld1 (A30.out _) ((HC.out w' ⟨b1, o1 + j * 2 + 1, none⟩ hS hb1).trans U1.out)) ?_
      simp only [Act.put, List.setIfInBounds_toArray, List.set_cons_succ, List.set_cons_zero]
      repeat (first | (refine lexL_q0 rfl ?_; go_big_quiet_step (fail); refine wpQuiet_nil ?_) | (refine lexL_skip0 rfl rfl ?_; simp only [Act.put, List.setIfInBounds_toArray, List.set_cons_succ, List.set_cons_zero]))
      refine lexL_ld (⟨w.heap.size + 1, 0, none⟩) (.slice (some ⟨b2, o2, none⟩) n c2) rfl rfl rfl (fun w' hS => run_ld1 (A22.out _) ((HC.out w' ⟨w.heap.size + 1, 0, none⟩ hS (by have := HsW.out; show w.heap.size + 1 < _; omega)).trans R2.out)) ?_
      simp only [Act.put, List.setIfInBounds_toArray, List.set_cons_succ, List.set_cons_zero]
      repeat (first | (refine lexL_q0 rfl ?_; go_big_quiet_step (fail); refine wpQuiet_nil ?_) | (refine lexL_skip0 rfl rfl ?_; simp only [Act.put, List.setIfInBounds_toArray, List.set_cons_succ, List.set_cons_zero]))
      refine lexL_ld (⟨b2, o2 + j * 2 + 1, none⟩) (.slice x2.A2 x2.n2 x2.c2) rfl rfl rfl (fun w' hS => run_ld1 (A30.out _) ((HC.out w' ⟨b2, o2 + j * 2 + 1, none⟩ hS hb2).trans V1.out)) ?_
      simp only [Act.put, List.setIfInBounds_toArray, List.set_cons_succ, List.set_cons_zero]
      repeat (first | (refine lexL_q0 rfl ?_; go_big_quiet_step (fail); refine wpQuiet_nil ?_) | (refine lexL_skip0 rfl rfl ?_; simp only [Act.put, List.setIfInBounds_toArray, List.set_cons_succ, List.set_cons_zero]))
      refine lexL_e rfl ?_
      go_wp2_with fail
      refine (samebytes_eq _ _ f1.p _ _ w4 (hx1.p.ext b4) (hx2.p.ext b4)).mono ?_
      rintro e w5 ⟨rfl, hb5⟩
      have b5 := Below.ext b4 hb5
      go_wp2_with fail
      refine lexL_go (b5) ?_
      repeat (first | (refine lexL_q0 rfl ?_; go_big_quiet_step (fail); refine wpQuiet_nil ?_) | (refine lexL_skip0 rfl rfl ?_; simp only [Act.put, List.setIfInBounds_toArray, List.set_cons_succ, List.set_cons_zero]))
      refine lexL_nil ?_
      go_wp2_with fail
      go_wp2
      go_roundw
      case rel => exact ⟨j + 1, by go_num, by omega, b5⟩
      case measure => simp [intOf]; omega
    · obtain rfl : j = n := by omega
      go_wp2
      go_ret
      exact ⟨rfl, Below.ext bW hbr⟩
end Go.Proofs.Ytmbbngdhdhgliaa
