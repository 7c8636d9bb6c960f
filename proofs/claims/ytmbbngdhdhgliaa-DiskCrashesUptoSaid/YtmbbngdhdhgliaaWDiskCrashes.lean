/-
  The walk of the law DiskCrashes: it returns true and writes nothing that was there. Conditions: what the row says of its arguments, and the bound on their bulk.
-/
import Derived.Test.YtmbbngdhdhgliaaSameDisk
namespace Go.Proofs.Ytmbbngdhdhgliaa.diskCrashes
open Go.RowKit
set_option maxRecDepth 100000
set_option linter.unusedVariables false

set_option maxHeartbeats 4000000 in
theorem walk (A : Option Addr) (n c : Nat) (fs : List Fil) (At : Option Addr) (nt ct : Nat) (ts : List Tear) (w : World) (hD : Dsk (· < w.heap.size) w (.slice A n c) fs) (hT : Trs (· < w.heap.size) w (.slice At nt ct) ts) (hl : ∀ f ∈ fs, f.s.length + f.p.length ≤ 3000000) (hlt : ∀ t ∈ ts, t.lost.length ≤ 3000000) :
    Calls Try.prog 3 #[.agg #[.slice A n c], .slice At nt ct] w fun e w' => e = .returned (.bool true) ∧ Below w.heap.size w w' := by
  have hd := hD.len
  have ht := hT.len
  have hd2 := hd.2
  have ht2 := ht.2
  have HL := Lib.hid hl
  have HLt := Lib.hid hlt
  clear hd ht hl hlt
  obtain ⟨W, hW⟩ : ∃ W, W = w.alloc (.cells #[.slice A n c] 24) := ⟨_, rfl⟩
  have bW : Below w.heap.size w W := by rw [hW]; exact (Below.refl _ _).alloc (Nat.le_refl _) _
  have rW : W.heap[w.heap.size]? = some (.cells #[.slice A n c] 24 (0, 0)) := by rw [hW]; exact heap_alloc_new _ _
  have hsW : w.heap.size < W.heap.size := (Array.getElem?_eq_some_iff.1 rW).1
  have RW := Lib.hid rW
  clear rW
  go_enter Try.func3, Try.ntmps3
  go_wp2_with fail
  rw [← hW]
  clear hW
  refine (awake_any W).mono ?_
  rintro e w1 ⟨rfl, hb1⟩
  have r1 := (hb1.block _ hsW).trans RW.out
  have q1 : w1.cell? ⟨w.heap.size, 0, none⟩ = some (.slice A n c) := by rw [cell_of_row _ _ _ _ _ _ r1]; rfl
  have R1 := Lib.hid r1
  have b1 := Below.ext bW hb1
  have s1 := hb1.size
  clear r1
  by_cases hn : n ≤ 20
  · have dn : decide (20 < n) = false := by simpa using hn
    have dn' : decide ((20 : Int) < (n : Int)) = false := by simp; omega
    by_cases hnt : nt ≤ 30
    · have dt : decide (30 < nt) = false := by simpa using hnt
      have dt' : decide ((30 : Int) < (nt : Int)) = false := by simp; omega
      go_wp2_with fail
      refine wp_region_lexL (Below w1.heap.size w1) (by kernel_rfl) (by kernel_rfl) ((Below.refl _ _).drew) ?_
      repeat (first | (refine lexL_q0 rfl ?_; go_big_quiet_step (fail); refine wpQuiet_nil ?_) | (refine lexL_skip0 rfl rfl ?_; simp only [Act.put, List.setIfInBounds_toArray, List.set_cons_succ, List.set_cons_zero]))
      refine lexL_ld (⟨w.heap.size, 0, none⟩) (.agg #[.slice A n c]) rfl rfl rfl (fun w' hS => run_ld_block ((hS.block _ (by omega)).trans R1.out) Try.underlying24 rfl (by kernel_rfl)) ?_
      simp only [Act.put, List.setIfInBounds_toArray, List.set_cons_succ, List.set_cons_zero]
      repeat (first | (refine lexL_q0 rfl ?_; go_big_quiet_step (fail); refine wpQuiet_nil ?_) | (refine lexL_skip0 rfl rfl ?_; simp only [Act.put, List.setIfInBounds_toArray, List.set_cons_succ, List.set_cons_zero]))
      refine lexL_e rfl ?_
      go_wp2_with fail
      have hD1 := (hD.ext b1).ext (w' := w1.drew) (Below.refl _ _).drew
      have hT1 := (hT.ext b1).ext (w' := w1.drew) (Below.refl _ _).drew
      refine (crash_any A n c fs _ w1.drew hD1 (by omega) At nt ct ts _ hT1 HL.out).mono ?_
      rintro e w2 ⟨A2, c2, rfl, hD2, hb2⟩
      have b12 : Below w1.heap.size w1 w2 := Below.ext (Below.refl _ _).drew hb2
      go_wp2_with fail
      refine lexL_go (b12) ?_
      repeat (first | (refine lexL_q0 rfl ?_; go_big_quiet_step (fail); refine wpQuiet_nil ?_) | (refine lexL_skip0 rfl rfl ?_; simp only [Act.put, List.setIfInBounds_toArray, List.set_cons_succ, List.set_cons_zero]))
      refine lexL_ld (⟨w.heap.size, 0, none⟩) (.agg #[.slice A n c]) rfl rfl rfl (fun w' hS => run_ld_block ((hS.block _ (by omega)).trans R1.out) Try.underlying24 rfl (by kernel_rfl)) ?_
      simp only [Act.put, List.setIfInBounds_toArray, List.set_cons_succ, List.set_cons_zero]
      repeat (first | (refine lexL_q0 rfl ?_; go_big_quiet_step (fail); refine wpQuiet_nil ?_) | (refine lexL_skip0 rfl rfl ?_; simp only [Act.put, List.setIfInBounds_toArray, List.set_cons_succ, List.set_cons_zero]))
      refine lexL_e rfl ?_
      go_wp2_with fail
      refine (refcrash_any A n c fs _ w2 (hD1.ext hb2) (by omega) At nt ct ts _ (hT1.ext hb2) HL.out HLt.out).mono ?_
      rintro e w3 ⟨A3, c3, rfl, hD3, hb3⟩
      have b13 := Below.ext b12 hb3
      go_wp2_with fail
      refine lexL_go (b13) ?_
      repeat (first | (refine lexL_q0 rfl ?_; go_big_quiet_step (fail); refine wpQuiet_nil ?_) | (refine lexL_skip0 rfl rfl ?_; simp only [Act.put, List.setIfInBounds_toArray, List.set_cons_succ, List.set_cons_zero]))
      refine lexL_e rfl ?_
      go_wp2_with fail
      refine (samedisk_eq A2 A3 n c2 c3 _ _ _ w3 (hD2.ext hb3) hD3 (by omega)).mono ?_
      rintro e w4 ⟨rfl, hb4⟩
      have b14 := Below.ext b13 hb4
      go_wp2_with fail
      refine lexL_go (b14) ?_
      repeat (first | (refine lexL_q0 rfl ?_; go_big_quiet_step (fail); refine wpQuiet_nil ?_) | (refine lexL_skip0 rfl rfl ?_; simp only [Act.put, List.setIfInBounds_toArray, List.set_cons_succ, List.set_cons_zero]))
      refine lexL_nil ?_
      go_wp2_with fail
      go_ret
      exact ⟨rfl, Below.ext b1 b14⟩
    · have dt : decide (30 < nt) = true := by simp; omega
      have dt' : decide ((30 : Int) < (nt : Int)) = true := by simp; omega
      go_wp2
      go_ret
      exact ⟨rfl, b1⟩
  · have dn : decide (20 < n) = true := by simp; omega
    have dn' : decide ((20 : Int) < (n : Int)) = true := by simp; omega
    go_wp2
    go_ret
    exact ⟨rfl, b1⟩
end Go.Proofs.Ytmbbngdhdhgliaa.diskCrashes
