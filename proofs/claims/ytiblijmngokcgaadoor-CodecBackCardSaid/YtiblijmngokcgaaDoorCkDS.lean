import Derived.Test.YtiblijmngokcgaaDoorCkCS
namespace Go.Proofs.YtiblijmngokcgaaDoor
open Go.RowKit
set_option maxRecDepth 100000
set_option linter.unusedVariables false
set_option linter.unusedSimpArgs false
set_option maxHeartbeats 1000000 in
theorem zero_any (A : Option Addr) (c : Nat) (w : World) : Calls Tryd.prog 79 #[.agg #[.int .i64 0, .int .i64 0, .string (ByteArray.mk #[]), .int .i64 0, .int .i64 0, .slice A 0 c]] w fun e w' => e = .returned (.bool true) ∧ Below w.heap.size w w' := by
  go_enter Tryd.func79, Tryd.ntmps79
  go_wp2
  go_ret
  exact ⟨rfl, (Below.refl _ w).alloc (Nat.le_refl _) _⟩
theorem five_scal {s : ByteArray} (h : isScal s ∨ isArr s) : ∃ c, five c ∧ s = ByteArray.mk #[c] := by
  rcases h with (rfl | rfl | rfl) | (rfl | rfl)
  · exact ⟨120, .inr (.inr (.inl rfl)), rfl⟩
  · exact ⟨121, .inr (.inr (.inr (.inl rfl))), rfl⟩
  · exact ⟨122, .inr (.inr (.inr (.inr rfl))), rfl⟩
  · exact ⟨97, .inl rfl, rfl⟩
  · exact ⟨98, .inr (.inl rfl), rfl⟩
def GoodOk (n : Nat) : Prop := ∀ (x : ExV) (t : Ex) (S : Nat → Prop) (w : World), ExOk n S w x t → DrE n t → Calls Tryd.prog 78 #[.agg #[.int .i64 x.op, .int .i64 x.val, .string x.name, .int .i64 x.slot, .int .i64 x.size, .slice x.A x.n x.c]] w fun e w' => e = .returned (.bool true) ∧ Below w.heap.size w w'
set_option maxHeartbeats 8000000 in
theorem good_step (n : Nat) (ih : GoodOk n) : GoodOk (n + 1) := by
  intro x t S w hok hdr
  obtain ⟨xo, xv, xm, xs, xz, xA, xn, xc⟩ := x
  obtain ⟨op, val, name, slot, size, args⟩ := t
  obtain ⟨rfl, rfl, rfl, rfl, rfl, hargs⟩ := hok
  obtain ⟨hslot, hsize, hall, hcls⟩ := hdr
  dsimp only at *
  subst hslot hsize
  have hlen := hargs.len
  have HL := Lib.hid hlen.1
  have hlc := hlen.2
  have HALL := Lib.hid hall
  clear hlen hall
  rcases hcls with ⟨rfl, h0, h2, rfl, rfl⟩ | ⟨rfl, rfl, hnm, rfl⟩ | ⟨h4, h7, rfl, rfl, rfl⟩ | ⟨rfl, rfl, hnm, h1⟩ | ⟨h8, h9, rfl, rfl, h1⟩ | ⟨h10, h22, rfl, rfl, h1⟩
  · obtain rfl : xn = 0 := by have := HL.out; first | omega | (simp at this; omega)
    have dneg : decide (xv < 0) = false := by simp; omega
    have eo : opnd 1 = 0 := by unfold opnd; simp; try omega
    obtain ⟨W, hW, hbW, sW, rW⟩ := newD w #[.int .i64 1, .int .i64 xv, .string (ByteArray.mk #[]), .int .i64 0, .int .i64 0, .slice xA 0 xc] 145
    have SW := Lib.hid sW
    have R0 := Lib.hid rW
    have q0 : W.cell? ⟨w.heap.size, 0, none⟩ = some (.int .i64 1) := row_cell R0.out 0 _ rfl
    have OP := Lib.hid (fun w' => operands_any 1 (by omega) (by omega) w')
    have EO := Lib.hid eo
    clear sW rW eo
    go_enter Tryd.func78, Tryd.ntmps78
    go_upto_region 1 with fail
    try rw [← hW]
    clear hW
    go_upto_region 2 with fail
    go_wp2_with fail
    refine wp_region_lexL ((fun w' => Below W.heap.size W w')) (by kernel_rfl) (by kernel_rfl) ((Below.refl _ W).drew) ?_
    repeat (first | (refine lexL_q0 rfl ?_; go_big_quiet_step (fail); refine wpQuiet_nil ?_) | (refine lexL_skip0 rfl rfl ?_; simp only [Act.put, List.setIfInBounds_toArray, List.set_cons_succ, List.set_cons_zero]))
    refine lexL_ld (⟨w.heap.size, 0, none⟩) (.int .i64 1) rfl rfl rfl (fun w' hw' => run_ld1 (ag_int _) (row_cell ((hw'.block w.heap.size (by have := SW.out; omega)).trans R0.out) 0 _ rfl)) ?_
    simp only [Act.put, List.setIfInBounds_toArray, List.set_cons_succ, List.set_cons_zero]
    repeat (first | (refine lexL_q0 rfl ?_; go_big_quiet_step (fail); refine wpQuiet_nil ?_) | (refine lexL_skip0 rfl rfl ?_; simp only [Act.put, List.setIfInBounds_toArray, List.set_cons_succ, List.set_cons_zero]))
    refine lexL_e rfl ?_
    go_wp2_with fail
    refine (OP.out _).mono ?_
    rintro e w1 ⟨rfl, rfl⟩
    rw [EO.out]
    have y1 : Below W.heap.size W W.drew := (Below.refl _ W).drew
    go_wp2_with fail
    refine lexL_go (y1) ?_
    repeat (first | (refine lexL_q0 rfl ?_; go_big_quiet_step (fail); refine wpQuiet_nil ?_) | (refine lexL_skip0 rfl rfl ?_; simp only [Act.put, List.setIfInBounds_toArray, List.set_cons_succ, List.set_cons_zero]))
    refine lexL_ld (⟨w.heap.size, 5, none⟩) (.slice xA 0 xc) rfl rfl rfl (fun w' hw' => run_ld1 (ag_exs _) (row_cell ((hw'.block w.heap.size (by have := SW.out; omega)).trans R0.out) 5 _ rfl)) ?_
    simp only [Act.put, List.setIfInBounds_toArray, List.set_cons_succ, List.set_cons_zero]
    repeat (first | (refine lexL_q0 rfl ?_; go_big_quiet_step (fail); refine wpQuiet_nil ?_) | (refine lexL_skip0 rfl rfl ?_; simp only [Act.put, List.setIfInBounds_toArray, List.set_cons_succ, List.set_cons_zero]))
    refine lexL_ld (⟨w.heap.size, 3, none⟩) (.int .i64 0) rfl rfl rfl (fun w' hw' => run_ld1 (ag_int _) (row_cell ((hw'.block w.heap.size (by have := SW.out; omega)).trans R0.out) 3 _ rfl)) ?_
    simp only [Act.put, List.setIfInBounds_toArray, List.set_cons_succ, List.set_cons_zero]
    repeat (first | (refine lexL_q0 rfl ?_; go_big_quiet_step (fail); refine wpQuiet_nil ?_) | (refine lexL_skip0 rfl rfl ?_; simp only [Act.put, List.setIfInBounds_toArray, List.set_cons_succ, List.set_cons_zero]))
    refine lexL_ld (⟨w.heap.size, 4, none⟩) (.int .i64 0) rfl rfl rfl (fun w' hw' => run_ld1 (ag_int _) (row_cell ((hw'.block w.heap.size (by have := SW.out; omega)).trans R0.out) 4 _ rfl)) ?_
    simp only [Act.put, List.setIfInBounds_toArray, List.set_cons_succ, List.set_cons_zero]
    repeat (first | (refine lexL_q0 rfl ?_; go_big_quiet_step (fail); refine wpQuiet_nil ?_) | (refine lexL_skip0 rfl rfl ?_; simp only [Act.put, List.setIfInBounds_toArray, List.set_cons_succ, List.set_cons_zero]))
    refine lexL_skip rfl rfl (y1) ?_
    simp only [Act.put, List.setIfInBounds_toArray, List.set_cons_succ, List.set_cons_zero]
    repeat (first | (refine lexL_q0 rfl ?_; go_big_quiet_step (fail); refine wpQuiet_nil ?_) | (refine lexL_skip0 rfl rfl ?_; simp only [Act.put, List.setIfInBounds_toArray, List.set_cons_succ, List.set_cons_zero]))
    refine lexL_ld (⟨w.heap.size, 2, none⟩) (.string (ByteArray.mk #[])) rfl rfl rfl (fun w' hw' => run_ld1 (ag_str _) (row_cell ((hw'.block w.heap.size (by have := SW.out; omega)).trans R0.out) 2 _ rfl)) ?_
    simp only [Act.put, List.setIfInBounds_toArray, List.set_cons_succ, List.set_cons_zero]
    repeat (first | (refine lexL_q0 rfl ?_; go_big_quiet_step (fail); refine wpQuiet_nil ?_) | (refine lexL_skip0 rfl rfl ?_; simp only [Act.put, List.setIfInBounds_toArray, List.set_cons_succ, List.set_cons_zero]))
    refine lexL_ld (⟨w.heap.size, 0, none⟩) (.int .i64 1) rfl rfl rfl (fun w' hw' => run_ld1 (ag_int _) (row_cell ((hw'.block w.heap.size (by have := SW.out; omega)).trans R0.out) 0 _ rfl)) ?_
    simp only [Act.put, List.setIfInBounds_toArray, List.set_cons_succ, List.set_cons_zero]
    repeat (first | (refine lexL_q0 rfl ?_; go_big_quiet_step (fail); refine wpQuiet_nil ?_) | (refine lexL_skip0 rfl rfl ?_; simp only [Act.put, List.setIfInBounds_toArray, List.set_cons_succ, List.set_cons_zero]))
    refine lexL_ld (⟨w.heap.size, 1, none⟩) (.int .i64 xv) rfl rfl rfl (fun w' hw' => run_ld1 (ag_int _) (row_cell ((hw'.block w.heap.size (by have := SW.out; omega)).trans R0.out) 1 _ rfl)) ?_
    simp only [Act.put, List.setIfInBounds_toArray, List.set_cons_succ, List.set_cons_zero]
    repeat (first | (refine lexL_q0 rfl ?_; go_big_quiet_step (fail); refine wpQuiet_nil ?_) | (refine lexL_skip0 rfl rfl ?_; simp only [Act.put, List.setIfInBounds_toArray, List.set_cons_succ, List.set_cons_zero]))
    refine lexL_ld (⟨w.heap.size, 0, none⟩) (.int .i64 1) rfl rfl rfl (fun w' hw' => run_ld1 (ag_int _) (row_cell ((hw'.block w.heap.size (by have := SW.out; omega)).trans R0.out) 0 _ rfl)) ?_
    simp only [Act.put, List.setIfInBounds_toArray, List.set_cons_succ, List.set_cons_zero]
    repeat (first | (refine lexL_q0 rfl ?_; go_big_quiet_step (fail); refine wpQuiet_nil ?_) | (refine lexL_skip0 rfl rfl ?_; simp only [Act.put, List.setIfInBounds_toArray, List.set_cons_succ, List.set_cons_zero]))
    refine lexL_nil ?_
    go_wp2_with fail
    obtain ⟨w1, hw1⟩ : ∃ w1, w1 = W.drew := ⟨_, rfl⟩
    rw [← hw1]
    have hb1 : Below W.heap.size W w1 := by rw [hw1]; exact y1
    have hb1' := Below.ext hbW hb1
    have R1 := Lib.hid ((hb1.block w.heap.size (by have := SW.out; omega)).trans R0.out)
    clear hw1
    go_wp2
    go_loopw [4] (fun a wr => ∃ k : Nat, a = .int .i64 k ∧ k ≤ 0 ∧ Below w1.heap.size w1 wr) (fun a _ => 0 - (intOf a).toNat)
    case atStart => exact ⟨0, rfl, by omega, Below.refl _ _⟩
    case round =>
      obtain ⟨k, rfl, hk, hb⟩ := hrel
      have hbW2 := Below.ext hb1' hb
      have R2 := Lib.hid ((hb.block w.heap.size (by have := hb1.size; have := SW.out; omega)).trans R1.out)
      have q5 : wr.cell? ⟨w.heap.size, 5, none⟩ = some (.slice xA 0 xc) := row_cell R2.out 5 _ rfl
      obtain rfl : k = 0 := by omega
      go_wp2
      go_ret
      exact ⟨rfl, hbW2⟩
  · obtain rfl : xn = 0 := by have := HL.out; first | omega | (simp at this; omega)
    obtain ⟨cc, hcc, rfl⟩ := five_scal (.inl hnm)
    clear hnm
    have eo : opnd 2 = 0 := by unfold opnd; simp; try omega
    obtain ⟨W, hW, hbW, sW, rW⟩ := newD w #[.int .i64 2, .int .i64 0, .string (ByteArray.mk #[cc]), .int .i64 0, .int .i64 0, .slice xA 0 xc] 145
    have SW := Lib.hid sW
    have R0 := Lib.hid rW
    have q0 : W.cell? ⟨w.heap.size, 0, none⟩ = some (.int .i64 2) := row_cell R0.out 0 _ rfl
    have OP := Lib.hid (fun w' => operands_any 2 (by omega) (by omega) w')
    have EO := Lib.hid eo
    clear sW rW eo
    go_enter Tryd.func78, Tryd.ntmps78
    go_upto_region 1 with fail
    try rw [← hW]
    clear hW
    go_upto_region 2 with fail
    go_wp2_with fail
    refine wp_region_lexL ((fun w' => Below W.heap.size W w')) (by kernel_rfl) (by kernel_rfl) ((Below.refl _ W).drew) ?_
    repeat (first | (refine lexL_q0 rfl ?_; go_big_quiet_step (fail); refine wpQuiet_nil ?_) | (refine lexL_skip0 rfl rfl ?_; simp only [Act.put, List.setIfInBounds_toArray, List.set_cons_succ, List.set_cons_zero]))
    refine lexL_ld (⟨w.heap.size, 0, none⟩) (.int .i64 2) rfl rfl rfl (fun w' hw' => run_ld1 (ag_int _) (row_cell ((hw'.block w.heap.size (by have := SW.out; omega)).trans R0.out) 0 _ rfl)) ?_
    simp only [Act.put, List.setIfInBounds_toArray, List.set_cons_succ, List.set_cons_zero]
    repeat (first | (refine lexL_q0 rfl ?_; go_big_quiet_step (fail); refine wpQuiet_nil ?_) | (refine lexL_skip0 rfl rfl ?_; simp only [Act.put, List.setIfInBounds_toArray, List.set_cons_succ, List.set_cons_zero]))
    refine lexL_e rfl ?_
    go_wp2_with fail
    refine (OP.out _).mono ?_
    rintro e w1 ⟨rfl, rfl⟩
    rw [EO.out]
    have y1 : Below W.heap.size W W.drew := (Below.refl _ W).drew
    go_wp2_with fail
    refine lexL_go (y1) ?_
    repeat (first | (refine lexL_q0 rfl ?_; go_big_quiet_step (fail); refine wpQuiet_nil ?_) | (refine lexL_skip0 rfl rfl ?_; simp only [Act.put, List.setIfInBounds_toArray, List.set_cons_succ, List.set_cons_zero]))
    refine lexL_ld (⟨w.heap.size, 5, none⟩) (.slice xA 0 xc) rfl rfl rfl (fun w' hw' => run_ld1 (ag_exs _) (row_cell ((hw'.block w.heap.size (by have := SW.out; omega)).trans R0.out) 5 _ rfl)) ?_
    simp only [Act.put, List.setIfInBounds_toArray, List.set_cons_succ, List.set_cons_zero]
    repeat (first | (refine lexL_q0 rfl ?_; go_big_quiet_step (fail); refine wpQuiet_nil ?_) | (refine lexL_skip0 rfl rfl ?_; simp only [Act.put, List.setIfInBounds_toArray, List.set_cons_succ, List.set_cons_zero]))
    refine lexL_ld (⟨w.heap.size, 3, none⟩) (.int .i64 0) rfl rfl rfl (fun w' hw' => run_ld1 (ag_int _) (row_cell ((hw'.block w.heap.size (by have := SW.out; omega)).trans R0.out) 3 _ rfl)) ?_
    simp only [Act.put, List.setIfInBounds_toArray, List.set_cons_succ, List.set_cons_zero]
    repeat (first | (refine lexL_q0 rfl ?_; go_big_quiet_step (fail); refine wpQuiet_nil ?_) | (refine lexL_skip0 rfl rfl ?_; simp only [Act.put, List.setIfInBounds_toArray, List.set_cons_succ, List.set_cons_zero]))
    refine lexL_ld (⟨w.heap.size, 4, none⟩) (.int .i64 0) rfl rfl rfl (fun w' hw' => run_ld1 (ag_int _) (row_cell ((hw'.block w.heap.size (by have := SW.out; omega)).trans R0.out) 4 _ rfl)) ?_
    simp only [Act.put, List.setIfInBounds_toArray, List.set_cons_succ, List.set_cons_zero]
    repeat (first | (refine lexL_q0 rfl ?_; go_big_quiet_step (fail); refine wpQuiet_nil ?_) | (refine lexL_skip0 rfl rfl ?_; simp only [Act.put, List.setIfInBounds_toArray, List.set_cons_succ, List.set_cons_zero]))
    refine lexL_ld (⟨w.heap.size, 2, none⟩) (.string (ByteArray.mk #[cc])) rfl rfl rfl (fun w' hw' => run_ld1 (ag_str _) (row_cell ((hw'.block w.heap.size (by have := SW.out; omega)).trans R0.out) 2 _ rfl)) ?_
    simp only [Act.put, List.setIfInBounds_toArray, List.set_cons_succ, List.set_cons_zero]
    repeat (first | (refine lexL_q0 rfl ?_; go_big_quiet_step (fail); refine wpQuiet_nil ?_) | (refine lexL_skip0 rfl rfl ?_; simp only [Act.put, List.setIfInBounds_toArray, List.set_cons_succ, List.set_cons_zero]))
    refine lexL_e rfl ?_
    go_wp2_with fail
    refine (valid_any cc hcc _).mono ?_
    rintro e w1 ⟨rfl, rfl⟩
    go_wp2_with fail
    refine lexL_go (y1) ?_
    repeat (first | (refine lexL_q0 rfl ?_; go_big_quiet_step (fail); refine wpQuiet_nil ?_) | (refine lexL_skip0 rfl rfl ?_; simp only [Act.put, List.setIfInBounds_toArray, List.set_cons_succ, List.set_cons_zero]))
    refine lexL_ld (⟨w.heap.size, 0, none⟩) (.int .i64 2) rfl rfl rfl (fun w' hw' => run_ld1 (ag_int _) (row_cell ((hw'.block w.heap.size (by have := SW.out; omega)).trans R0.out) 0 _ rfl)) ?_
    simp only [Act.put, List.setIfInBounds_toArray, List.set_cons_succ, List.set_cons_zero]
    repeat (first | (refine lexL_q0 rfl ?_; go_big_quiet_step (fail); refine wpQuiet_nil ?_) | (refine lexL_skip0 rfl rfl ?_; simp only [Act.put, List.setIfInBounds_toArray, List.set_cons_succ, List.set_cons_zero]))
    refine lexL_ld (⟨w.heap.size, 0, none⟩) (.int .i64 2) rfl rfl rfl (fun w' hw' => run_ld1 (ag_int _) (row_cell ((hw'.block w.heap.size (by have := SW.out; omega)).trans R0.out) 0 _ rfl)) ?_
    simp only [Act.put, List.setIfInBounds_toArray, List.set_cons_succ, List.set_cons_zero]
    repeat (first | (refine lexL_q0 rfl ?_; go_big_quiet_step (fail); refine wpQuiet_nil ?_) | (refine lexL_skip0 rfl rfl ?_; simp only [Act.put, List.setIfInBounds_toArray, List.set_cons_succ, List.set_cons_zero]))
    refine lexL_ld (⟨w.heap.size, 1, none⟩) (.int .i64 0) rfl rfl rfl (fun w' hw' => run_ld1 (ag_int _) (row_cell ((hw'.block w.heap.size (by have := SW.out; omega)).trans R0.out) 1 _ rfl)) ?_
    simp only [Act.put, List.setIfInBounds_toArray, List.set_cons_succ, List.set_cons_zero]
    repeat (first | (refine lexL_q0 rfl ?_; go_big_quiet_step (fail); refine wpQuiet_nil ?_) | (refine lexL_skip0 rfl rfl ?_; simp only [Act.put, List.setIfInBounds_toArray, List.set_cons_succ, List.set_cons_zero]))
    refine lexL_nil ?_
    go_wp2_with fail
    obtain ⟨w1, hw1⟩ : ∃ w1, w1 = W.drew := ⟨_, rfl⟩
    rw [← hw1]
    have hb1 : Below W.heap.size W w1 := by rw [hw1]; exact y1
    have hb1' := Below.ext hbW hb1
    have R1 := Lib.hid ((hb1.block w.heap.size (by have := SW.out; omega)).trans R0.out)
    clear hw1
    go_wp2
    go_loopw [4] (fun a wr => ∃ k : Nat, a = .int .i64 k ∧ k ≤ 0 ∧ Below w1.heap.size w1 wr) (fun a _ => 0 - (intOf a).toNat)
    case atStart => exact ⟨0, rfl, by omega, Below.refl _ _⟩
    case round =>
      obtain ⟨k, rfl, hk, hb⟩ := hrel
      have hbW2 := Below.ext hb1' hb
      have R2 := Lib.hid ((hb.block w.heap.size (by have := hb1.size; have := SW.out; omega)).trans R1.out)
      have q5 : wr.cell? ⟨w.heap.size, 5, none⟩ = some (.slice xA 0 xc) := row_cell R2.out 5 _ rfl
      obtain rfl : k = 0 := by omega
      go_wp2
      go_ret
      exact ⟨rfl, hbW2⟩
  · obtain rfl : xn = 0 := by have := HL.out; first | omega | (simp at this; omega)
    have e1 : (xo == 1) = false := by simp; omega
    have e2 : (xo == 2) = false := by simp; omega
    have e3 : (xo == 3) = false := by simp; omega
    have f1 : (xo != 1) = true := by simp; omega
    have eo : opnd xo = 0 := by unfold opnd; rw [if_pos (by omega)]
    obtain ⟨W, hW, hbW, sW, rW⟩ := newD w #[.int .i64 xo, .int .i64 0, .string (ByteArray.mk #[]), .int .i64 0, .int .i64 0, .slice xA 0 xc] 145
    have SW := Lib.hid sW
    have R0 := Lib.hid rW
    have q0 : W.cell? ⟨w.heap.size, 0, none⟩ = some (.int .i64 xo) := row_cell R0.out 0 _ rfl
    have OP := Lib.hid (fun w' => operands_any xo (by omega) (by omega) w')
    have EO := Lib.hid eo
    clear sW rW eo
    go_enter Tryd.func78, Tryd.ntmps78
    go_upto_region 1 with fail
    try rw [← hW]
    clear hW
    go_upto_region 2 with fail
    go_wp2_with fail
    refine wp_region_lexL ((fun w' => Below W.heap.size W w')) (by kernel_rfl) (by kernel_rfl) ((Below.refl _ W).drew) ?_
    repeat (first | (refine lexL_q0 rfl ?_; go_big_quiet_step (fail); refine wpQuiet_nil ?_) | (refine lexL_skip0 rfl rfl ?_; simp only [Act.put, List.setIfInBounds_toArray, List.set_cons_succ, List.set_cons_zero]))
    refine lexL_ld (⟨w.heap.size, 0, none⟩) (.int .i64 xo) rfl rfl rfl (fun w' hw' => run_ld1 (ag_int _) (row_cell ((hw'.block w.heap.size (by have := SW.out; omega)).trans R0.out) 0 _ rfl)) ?_
    simp only [Act.put, List.setIfInBounds_toArray, List.set_cons_succ, List.set_cons_zero]
    repeat (first | (refine lexL_q0 rfl ?_; go_big_quiet_step (fail); refine wpQuiet_nil ?_) | (refine lexL_skip0 rfl rfl ?_; simp only [Act.put, List.setIfInBounds_toArray, List.set_cons_succ, List.set_cons_zero]))
    refine lexL_e rfl ?_
    go_wp2_with fail
    refine (OP.out _).mono ?_
    rintro e w1 ⟨rfl, rfl⟩
    rw [EO.out]
    have y1 : Below W.heap.size W W.drew := (Below.refl _ W).drew
    go_wp2_with fail
    refine lexL_go (y1) ?_
    repeat (first | (refine lexL_q0 rfl ?_; go_big_quiet_step (fail); refine wpQuiet_nil ?_) | (refine lexL_skip0 rfl rfl ?_; simp only [Act.put, List.setIfInBounds_toArray, List.set_cons_succ, List.set_cons_zero]))
    refine lexL_ld (⟨w.heap.size, 5, none⟩) (.slice xA 0 xc) rfl rfl rfl (fun w' hw' => run_ld1 (ag_exs _) (row_cell ((hw'.block w.heap.size (by have := SW.out; omega)).trans R0.out) 5 _ rfl)) ?_
    simp only [Act.put, List.setIfInBounds_toArray, List.set_cons_succ, List.set_cons_zero]
    repeat (first | (refine lexL_q0 rfl ?_; go_big_quiet_step (fail); refine wpQuiet_nil ?_) | (refine lexL_skip0 rfl rfl ?_; simp only [Act.put, List.setIfInBounds_toArray, List.set_cons_succ, List.set_cons_zero]))
    refine lexL_ld (⟨w.heap.size, 3, none⟩) (.int .i64 0) rfl rfl rfl (fun w' hw' => run_ld1 (ag_int _) (row_cell ((hw'.block w.heap.size (by have := SW.out; omega)).trans R0.out) 3 _ rfl)) ?_
    simp only [Act.put, List.setIfInBounds_toArray, List.set_cons_succ, List.set_cons_zero]
    repeat (first | (refine lexL_q0 rfl ?_; go_big_quiet_step (fail); refine wpQuiet_nil ?_) | (refine lexL_skip0 rfl rfl ?_; simp only [Act.put, List.setIfInBounds_toArray, List.set_cons_succ, List.set_cons_zero]))
    refine lexL_ld (⟨w.heap.size, 4, none⟩) (.int .i64 0) rfl rfl rfl (fun w' hw' => run_ld1 (ag_int _) (row_cell ((hw'.block w.heap.size (by have := SW.out; omega)).trans R0.out) 4 _ rfl)) ?_
    simp only [Act.put, List.setIfInBounds_toArray, List.set_cons_succ, List.set_cons_zero]
    repeat (first | (refine lexL_q0 rfl ?_; go_big_quiet_step (fail); refine wpQuiet_nil ?_) | (refine lexL_skip0 rfl rfl ?_; simp only [Act.put, List.setIfInBounds_toArray, List.set_cons_succ, List.set_cons_zero]))
    refine lexL_skip rfl rfl (y1) ?_
    simp only [Act.put, List.setIfInBounds_toArray, List.set_cons_succ, List.set_cons_zero]
    repeat (first | (refine lexL_q0 rfl ?_; go_big_quiet_step (fail); refine wpQuiet_nil ?_) | (refine lexL_skip0 rfl rfl ?_; simp only [Act.put, List.setIfInBounds_toArray, List.set_cons_succ, List.set_cons_zero]))
    refine lexL_ld (⟨w.heap.size, 2, none⟩) (.string (ByteArray.mk #[])) rfl rfl rfl (fun w' hw' => run_ld1 (ag_str _) (row_cell ((hw'.block w.heap.size (by have := SW.out; omega)).trans R0.out) 2 _ rfl)) ?_
    simp only [Act.put, List.setIfInBounds_toArray, List.set_cons_succ, List.set_cons_zero]
    repeat (first | (refine lexL_q0 rfl ?_; go_big_quiet_step (fail); refine wpQuiet_nil ?_) | (refine lexL_skip0 rfl rfl ?_; simp only [Act.put, List.setIfInBounds_toArray, List.set_cons_succ, List.set_cons_zero]))
    refine lexL_ld (⟨w.heap.size, 0, none⟩) (.int .i64 xo) rfl rfl rfl (fun w' hw' => run_ld1 (ag_int _) (row_cell ((hw'.block w.heap.size (by have := SW.out; omega)).trans R0.out) 0 _ rfl)) ?_
    simp only [Act.put, List.setIfInBounds_toArray, List.set_cons_succ, List.set_cons_zero]
    repeat (first | (refine lexL_q0 rfl ?_; go_big_quiet_step (fail); refine wpQuiet_nil ?_) | (refine lexL_skip0 rfl rfl ?_; simp only [Act.put, List.setIfInBounds_toArray, List.set_cons_succ, List.set_cons_zero]))
    refine lexL_ld (⟨w.heap.size, 0, none⟩) (.int .i64 xo) rfl rfl rfl (fun w' hw' => run_ld1 (ag_int _) (row_cell ((hw'.block w.heap.size (by have := SW.out; omega)).trans R0.out) 0 _ rfl)) ?_
    simp only [Act.put, List.setIfInBounds_toArray, List.set_cons_succ, List.set_cons_zero]
    repeat (first | (refine lexL_q0 rfl ?_; go_big_quiet_step (fail); refine wpQuiet_nil ?_) | (refine lexL_skip0 rfl rfl ?_; simp only [Act.put, List.setIfInBounds_toArray, List.set_cons_succ, List.set_cons_zero]))
    refine lexL_ld (⟨w.heap.size, 1, none⟩) (.int .i64 0) rfl rfl rfl (fun w' hw' => run_ld1 (ag_int _) (row_cell ((hw'.block w.heap.size (by have := SW.out; omega)).trans R0.out) 1 _ rfl)) ?_
    simp only [Act.put, List.setIfInBounds_toArray, List.set_cons_succ, List.set_cons_zero]
    repeat (first | (refine lexL_q0 rfl ?_; go_big_quiet_step (fail); refine wpQuiet_nil ?_) | (refine lexL_skip0 rfl rfl ?_; simp only [Act.put, List.setIfInBounds_toArray, List.set_cons_succ, List.set_cons_zero]))
    refine lexL_nil ?_
    go_wp2_with fail
    obtain ⟨w1, hw1⟩ : ∃ w1, w1 = W.drew := ⟨_, rfl⟩
    rw [← hw1]
    have hb1 : Below W.heap.size W w1 := by rw [hw1]; exact y1
    have hb1' := Below.ext hbW hb1
    have R1 := Lib.hid ((hb1.block w.heap.size (by have := SW.out; omega)).trans R0.out)
    clear hw1
    go_wp2
    go_loopw [4] (fun a wr => ∃ k : Nat, a = .int .i64 k ∧ k ≤ 0 ∧ Below w1.heap.size w1 wr) (fun a _ => 0 - (intOf a).toNat)
    case atStart => exact ⟨0, rfl, by omega, Below.refl _ _⟩
    case round =>
      obtain ⟨k, rfl, hk, hb⟩ := hrel
      have hbW2 := Below.ext hb1' hb
      have R2 := Lib.hid ((hb.block w.heap.size (by have := hb1.size; have := SW.out; omega)).trans R1.out)
      have q5 : wr.cell? ⟨w.heap.size, 5, none⟩ = some (.slice xA 0 xc) := row_cell R2.out 5 _ rfl
      obtain rfl : k = 0 := by omega
      go_wp2
      go_ret
      exact ⟨rfl, hbW2⟩
  · obtain rfl : xn = 1 := by have := HL.out; first | omega | (simp at this; omega)
    obtain ⟨cc, hcc, rfl⟩ := five_scal (.inr hnm)
    clear hnm
    have eo : opnd 3 = 1 := by unfold opnd; simp; try omega
    obtain ⟨W, hW, hbW, sW, rW⟩ := newD w #[.int .i64 3, .int .i64 0, .string (ByteArray.mk #[cc]), .int .i64 0, .int .i64 0, .slice xA 1 xc] 145
    have SW := Lib.hid sW
    have R0 := Lib.hid rW
    have q0 : W.cell? ⟨w.heap.size, 0, none⟩ = some (.int .i64 3) := row_cell R0.out 0 _ rfl
    have OP := Lib.hid (fun w' => operands_any 3 (by omega) (by omega) w')
    have EO := Lib.hid eo
    clear sW rW eo
    go_enter Tryd.func78, Tryd.ntmps78
    go_upto_region 1 with fail
    try rw [← hW]
    clear hW
    go_upto_region 2 with fail
    go_wp2_with fail
    refine wp_region_lexL ((fun w' => Below W.heap.size W w')) (by kernel_rfl) (by kernel_rfl) ((Below.refl _ W).drew) ?_
    repeat (first | (refine lexL_q0 rfl ?_; go_big_quiet_step (fail); refine wpQuiet_nil ?_) | (refine lexL_skip0 rfl rfl ?_; simp only [Act.put, List.setIfInBounds_toArray, List.set_cons_succ, List.set_cons_zero]))
    refine lexL_ld (⟨w.heap.size, 0, none⟩) (.int .i64 3) rfl rfl rfl (fun w' hw' => run_ld1 (ag_int _) (row_cell ((hw'.block w.heap.size (by have := SW.out; omega)).trans R0.out) 0 _ rfl)) ?_
    simp only [Act.put, List.setIfInBounds_toArray, List.set_cons_succ, List.set_cons_zero]
    repeat (first | (refine lexL_q0 rfl ?_; go_big_quiet_step (fail); refine wpQuiet_nil ?_) | (refine lexL_skip0 rfl rfl ?_; simp only [Act.put, List.setIfInBounds_toArray, List.set_cons_succ, List.set_cons_zero]))
    refine lexL_e rfl ?_
    go_wp2_with fail
    refine (OP.out _).mono ?_
    rintro e w1 ⟨rfl, rfl⟩
    rw [EO.out]
    have y1 : Below W.heap.size W W.drew := (Below.refl _ W).drew
    go_wp2_with fail
    refine lexL_go (y1) ?_
    repeat (first | (refine lexL_q0 rfl ?_; go_big_quiet_step (fail); refine wpQuiet_nil ?_) | (refine lexL_skip0 rfl rfl ?_; simp only [Act.put, List.setIfInBounds_toArray, List.set_cons_succ, List.set_cons_zero]))
    refine lexL_ld (⟨w.heap.size, 5, none⟩) (.slice xA 1 xc) rfl rfl rfl (fun w' hw' => run_ld1 (ag_exs _) (row_cell ((hw'.block w.heap.size (by have := SW.out; omega)).trans R0.out) 5 _ rfl)) ?_
    simp only [Act.put, List.setIfInBounds_toArray, List.set_cons_succ, List.set_cons_zero]
    repeat (first | (refine lexL_q0 rfl ?_; go_big_quiet_step (fail); refine wpQuiet_nil ?_) | (refine lexL_skip0 rfl rfl ?_; simp only [Act.put, List.setIfInBounds_toArray, List.set_cons_succ, List.set_cons_zero]))
    refine lexL_ld (⟨w.heap.size, 3, none⟩) (.int .i64 0) rfl rfl rfl (fun w' hw' => run_ld1 (ag_int _) (row_cell ((hw'.block w.heap.size (by have := SW.out; omega)).trans R0.out) 3 _ rfl)) ?_
    simp only [Act.put, List.setIfInBounds_toArray, List.set_cons_succ, List.set_cons_zero]
    repeat (first | (refine lexL_q0 rfl ?_; go_big_quiet_step (fail); refine wpQuiet_nil ?_) | (refine lexL_skip0 rfl rfl ?_; simp only [Act.put, List.setIfInBounds_toArray, List.set_cons_succ, List.set_cons_zero]))
    refine lexL_ld (⟨w.heap.size, 4, none⟩) (.int .i64 0) rfl rfl rfl (fun w' hw' => run_ld1 (ag_int _) (row_cell ((hw'.block w.heap.size (by have := SW.out; omega)).trans R0.out) 4 _ rfl)) ?_
    simp only [Act.put, List.setIfInBounds_toArray, List.set_cons_succ, List.set_cons_zero]
    repeat (first | (refine lexL_q0 rfl ?_; go_big_quiet_step (fail); refine wpQuiet_nil ?_) | (refine lexL_skip0 rfl rfl ?_; simp only [Act.put, List.setIfInBounds_toArray, List.set_cons_succ, List.set_cons_zero]))
    refine lexL_ld (⟨w.heap.size, 2, none⟩) (.string (ByteArray.mk #[cc])) rfl rfl rfl (fun w' hw' => run_ld1 (ag_str _) (row_cell ((hw'.block w.heap.size (by have := SW.out; omega)).trans R0.out) 2 _ rfl)) ?_
    simp only [Act.put, List.setIfInBounds_toArray, List.set_cons_succ, List.set_cons_zero]
    repeat (first | (refine lexL_q0 rfl ?_; go_big_quiet_step (fail); refine wpQuiet_nil ?_) | (refine lexL_skip0 rfl rfl ?_; simp only [Act.put, List.setIfInBounds_toArray, List.set_cons_succ, List.set_cons_zero]))
    refine lexL_e rfl ?_
    go_wp2_with fail
    refine (valid_any cc hcc _).mono ?_
    rintro e w1 ⟨rfl, rfl⟩
    go_wp2_with fail
    refine lexL_go (y1) ?_
    repeat (first | (refine lexL_q0 rfl ?_; go_big_quiet_step (fail); refine wpQuiet_nil ?_) | (refine lexL_skip0 rfl rfl ?_; simp only [Act.put, List.setIfInBounds_toArray, List.set_cons_succ, List.set_cons_zero]))
    refine lexL_ld (⟨w.heap.size, 0, none⟩) (.int .i64 3) rfl rfl rfl (fun w' hw' => run_ld1 (ag_int _) (row_cell ((hw'.block w.heap.size (by have := SW.out; omega)).trans R0.out) 0 _ rfl)) ?_
    simp only [Act.put, List.setIfInBounds_toArray, List.set_cons_succ, List.set_cons_zero]
    repeat (first | (refine lexL_q0 rfl ?_; go_big_quiet_step (fail); refine wpQuiet_nil ?_) | (refine lexL_skip0 rfl rfl ?_; simp only [Act.put, List.setIfInBounds_toArray, List.set_cons_succ, List.set_cons_zero]))
    refine lexL_ld (⟨w.heap.size, 0, none⟩) (.int .i64 3) rfl rfl rfl (fun w' hw' => run_ld1 (ag_int _) (row_cell ((hw'.block w.heap.size (by have := SW.out; omega)).trans R0.out) 0 _ rfl)) ?_
    simp only [Act.put, List.setIfInBounds_toArray, List.set_cons_succ, List.set_cons_zero]
    repeat (first | (refine lexL_q0 rfl ?_; go_big_quiet_step (fail); refine wpQuiet_nil ?_) | (refine lexL_skip0 rfl rfl ?_; simp only [Act.put, List.setIfInBounds_toArray, List.set_cons_succ, List.set_cons_zero]))
    refine lexL_ld (⟨w.heap.size, 1, none⟩) (.int .i64 0) rfl rfl rfl (fun w' hw' => run_ld1 (ag_int _) (row_cell ((hw'.block w.heap.size (by have := SW.out; omega)).trans R0.out) 1 _ rfl)) ?_
    simp only [Act.put, List.setIfInBounds_toArray, List.set_cons_succ, List.set_cons_zero]
    repeat (first | (refine lexL_q0 rfl ?_; go_big_quiet_step (fail); refine wpQuiet_nil ?_) | (refine lexL_skip0 rfl rfl ?_; simp only [Act.put, List.setIfInBounds_toArray, List.set_cons_succ, List.set_cons_zero]))
    refine lexL_nil ?_
    go_wp2_with fail
    obtain ⟨w1, hw1⟩ : ∃ w1, w1 = W.drew := ⟨_, rfl⟩
    rw [← hw1]
    have hb1 : Below W.heap.size W w1 := by rw [hw1]; exact y1
    have hb1' := Below.ext hbW hb1
    have R1 := Lib.hid ((hb1.block w.heap.size (by have := SW.out; omega)).trans R0.out)
    clear hw1
    go_wp2
    go_loopw [4] (fun a wr => ∃ k : Nat, a = .int .i64 k ∧ k ≤ 1 ∧ Below w1.heap.size w1 wr) (fun a _ => 1 - (intOf a).toNat)
    case atStart => exact ⟨0, rfl, by omega, Below.refl _ _⟩
    case round =>
      obtain ⟨k, rfl, hk, hb⟩ := hrel
      have hbW2 := Below.ext hb1' hb
      have R2 := Lib.hid ((hb.block w.heap.size (by have := hb1.size; have := SW.out; omega)).trans R1.out)
      have q5 : wr.cell? ⟨w.heap.size, 5, none⟩ = some (.slice xA 1 xc) := row_cell R2.out 5 _ rfl
      by_cases hlt : k < 1
      · obtain ⟨b, off, y, u, rfl, hS, hbb, hu, hoky, hcy⟩ := hargs.at_ encEx_len (j := k) hlt (by omega)
        have HC := Lib.hid (fun i u h => (hbW2.cell (p := ⟨b, off + k * 6 + i, none⟩) hbb).trans (hcy i u h))
        have hU := HALL.out u (List.mem_of_getElem? hu)
        have Hc := Lib.hid (ih y u _ wr (ExOk.keep (Keep.of_below hbW2) _ _ _ hoky) hU)
        clear hu hcy hU hoky
        go_wp2_with (refine wpList_ldv (t := 145) (A := ⟨b, off + k * 6, none⟩) rfl rfl rfl (ld_exw HC.out) ?_)
        refine Hc.out.mono ?_
        rintro e w2 ⟨rfl, hb2⟩
        go_wp2
        go_roundw
        case rel => exact ⟨k + 1, by go_num, by omega, Below.ext hb hb2⟩
        case measure => simp [intOf]; omega
      · obtain rfl : k = 1 := by omega
        go_wp2
        go_ret
        exact ⟨rfl, hbW2⟩
  · obtain rfl : xn = 1 := by have := HL.out; first | omega | (simp at this; omega)
    have e1 : (xo == 1) = false := by simp; omega
    have e2 : (xo == 2) = false := by simp; omega
    have e3 : (xo == 3) = false := by simp; omega
    have f1 : (xo != 1) = true := by simp; omega
    have eo : opnd xo = 1 := by unfold opnd; rw [if_neg (by omega), if_pos (by omega)]
    obtain ⟨W, hW, hbW, sW, rW⟩ := newD w #[.int .i64 xo, .int .i64 0, .string (ByteArray.mk #[]), .int .i64 0, .int .i64 0, .slice xA 1 xc] 145
    have SW := Lib.hid sW
    have R0 := Lib.hid rW
    have q0 : W.cell? ⟨w.heap.size, 0, none⟩ = some (.int .i64 xo) := row_cell R0.out 0 _ rfl
    have OP := Lib.hid (fun w' => operands_any xo (by omega) (by omega) w')
    have EO := Lib.hid eo
    clear sW rW eo
    go_enter Tryd.func78, Tryd.ntmps78
    go_upto_region 1 with fail
    try rw [← hW]
    clear hW
    go_upto_region 2 with fail
    go_wp2_with fail
    refine wp_region_lexL ((fun w' => Below W.heap.size W w')) (by kernel_rfl) (by kernel_rfl) ((Below.refl _ W).drew) ?_
    repeat (first | (refine lexL_q0 rfl ?_; go_big_quiet_step (fail); refine wpQuiet_nil ?_) | (refine lexL_skip0 rfl rfl ?_; simp only [Act.put, List.setIfInBounds_toArray, List.set_cons_succ, List.set_cons_zero]))
    refine lexL_ld (⟨w.heap.size, 0, none⟩) (.int .i64 xo) rfl rfl rfl (fun w' hw' => run_ld1 (ag_int _) (row_cell ((hw'.block w.heap.size (by have := SW.out; omega)).trans R0.out) 0 _ rfl)) ?_
    simp only [Act.put, List.setIfInBounds_toArray, List.set_cons_succ, List.set_cons_zero]
    repeat (first | (refine lexL_q0 rfl ?_; go_big_quiet_step (fail); refine wpQuiet_nil ?_) | (refine lexL_skip0 rfl rfl ?_; simp only [Act.put, List.setIfInBounds_toArray, List.set_cons_succ, List.set_cons_zero]))
    refine lexL_e rfl ?_
    go_wp2_with fail
    refine (OP.out _).mono ?_
    rintro e w1 ⟨rfl, rfl⟩
    rw [EO.out]
    have y1 : Below W.heap.size W W.drew := (Below.refl _ W).drew
    go_wp2_with fail
    refine lexL_go (y1) ?_
    repeat (first | (refine lexL_q0 rfl ?_; go_big_quiet_step (fail); refine wpQuiet_nil ?_) | (refine lexL_skip0 rfl rfl ?_; simp only [Act.put, List.setIfInBounds_toArray, List.set_cons_succ, List.set_cons_zero]))
    refine lexL_ld (⟨w.heap.size, 5, none⟩) (.slice xA 1 xc) rfl rfl rfl (fun w' hw' => run_ld1 (ag_exs _) (row_cell ((hw'.block w.heap.size (by have := SW.out; omega)).trans R0.out) 5 _ rfl)) ?_
    simp only [Act.put, List.setIfInBounds_toArray, List.set_cons_succ, List.set_cons_zero]
    repeat (first | (refine lexL_q0 rfl ?_; go_big_quiet_step (fail); refine wpQuiet_nil ?_) | (refine lexL_skip0 rfl rfl ?_; simp only [Act.put, List.setIfInBounds_toArray, List.set_cons_succ, List.set_cons_zero]))
    refine lexL_ld (⟨w.heap.size, 3, none⟩) (.int .i64 0) rfl rfl rfl (fun w' hw' => run_ld1 (ag_int _) (row_cell ((hw'.block w.heap.size (by have := SW.out; omega)).trans R0.out) 3 _ rfl)) ?_
    simp only [Act.put, List.setIfInBounds_toArray, List.set_cons_succ, List.set_cons_zero]
    repeat (first | (refine lexL_q0 rfl ?_; go_big_quiet_step (fail); refine wpQuiet_nil ?_) | (refine lexL_skip0 rfl rfl ?_; simp only [Act.put, List.setIfInBounds_toArray, List.set_cons_succ, List.set_cons_zero]))
    refine lexL_ld (⟨w.heap.size, 4, none⟩) (.int .i64 0) rfl rfl rfl (fun w' hw' => run_ld1 (ag_int _) (row_cell ((hw'.block w.heap.size (by have := SW.out; omega)).trans R0.out) 4 _ rfl)) ?_
    simp only [Act.put, List.setIfInBounds_toArray, List.set_cons_succ, List.set_cons_zero]
    repeat (first | (refine lexL_q0 rfl ?_; go_big_quiet_step (fail); refine wpQuiet_nil ?_) | (refine lexL_skip0 rfl rfl ?_; simp only [Act.put, List.setIfInBounds_toArray, List.set_cons_succ, List.set_cons_zero]))
    refine lexL_skip rfl rfl (y1) ?_
    simp only [Act.put, List.setIfInBounds_toArray, List.set_cons_succ, List.set_cons_zero]
    repeat (first | (refine lexL_q0 rfl ?_; go_big_quiet_step (fail); refine wpQuiet_nil ?_) | (refine lexL_skip0 rfl rfl ?_; simp only [Act.put, List.setIfInBounds_toArray, List.set_cons_succ, List.set_cons_zero]))
    refine lexL_ld (⟨w.heap.size, 2, none⟩) (.string (ByteArray.mk #[])) rfl rfl rfl (fun w' hw' => run_ld1 (ag_str _) (row_cell ((hw'.block w.heap.size (by have := SW.out; omega)).trans R0.out) 2 _ rfl)) ?_
    simp only [Act.put, List.setIfInBounds_toArray, List.set_cons_succ, List.set_cons_zero]
    repeat (first | (refine lexL_q0 rfl ?_; go_big_quiet_step (fail); refine wpQuiet_nil ?_) | (refine lexL_skip0 rfl rfl ?_; simp only [Act.put, List.setIfInBounds_toArray, List.set_cons_succ, List.set_cons_zero]))
    refine lexL_ld (⟨w.heap.size, 0, none⟩) (.int .i64 xo) rfl rfl rfl (fun w' hw' => run_ld1 (ag_int _) (row_cell ((hw'.block w.heap.size (by have := SW.out; omega)).trans R0.out) 0 _ rfl)) ?_
    simp only [Act.put, List.setIfInBounds_toArray, List.set_cons_succ, List.set_cons_zero]
    repeat (first | (refine lexL_q0 rfl ?_; go_big_quiet_step (fail); refine wpQuiet_nil ?_) | (refine lexL_skip0 rfl rfl ?_; simp only [Act.put, List.setIfInBounds_toArray, List.set_cons_succ, List.set_cons_zero]))
    refine lexL_ld (⟨w.heap.size, 0, none⟩) (.int .i64 xo) rfl rfl rfl (fun w' hw' => run_ld1 (ag_int _) (row_cell ((hw'.block w.heap.size (by have := SW.out; omega)).trans R0.out) 0 _ rfl)) ?_
    simp only [Act.put, List.setIfInBounds_toArray, List.set_cons_succ, List.set_cons_zero]
    repeat (first | (refine lexL_q0 rfl ?_; go_big_quiet_step (fail); refine wpQuiet_nil ?_) | (refine lexL_skip0 rfl rfl ?_; simp only [Act.put, List.setIfInBounds_toArray, List.set_cons_succ, List.set_cons_zero]))
    refine lexL_ld (⟨w.heap.size, 1, none⟩) (.int .i64 0) rfl rfl rfl (fun w' hw' => run_ld1 (ag_int _) (row_cell ((hw'.block w.heap.size (by have := SW.out; omega)).trans R0.out) 1 _ rfl)) ?_
    simp only [Act.put, List.setIfInBounds_toArray, List.set_cons_succ, List.set_cons_zero]
    repeat (first | (refine lexL_q0 rfl ?_; go_big_quiet_step (fail); refine wpQuiet_nil ?_) | (refine lexL_skip0 rfl rfl ?_; simp only [Act.put, List.setIfInBounds_toArray, List.set_cons_succ, List.set_cons_zero]))
    refine lexL_nil ?_
    go_wp2_with fail
    obtain ⟨w1, hw1⟩ : ∃ w1, w1 = W.drew := ⟨_, rfl⟩
    rw [← hw1]
    have hb1 : Below W.heap.size W w1 := by rw [hw1]; exact y1
    have hb1' := Below.ext hbW hb1
    have R1 := Lib.hid ((hb1.block w.heap.size (by have := SW.out; omega)).trans R0.out)
    clear hw1
    go_wp2
    go_loopw [4] (fun a wr => ∃ k : Nat, a = .int .i64 k ∧ k ≤ 1 ∧ Below w1.heap.size w1 wr) (fun a _ => 1 - (intOf a).toNat)
    case atStart => exact ⟨0, rfl, by omega, Below.refl _ _⟩
    case round =>
      obtain ⟨k, rfl, hk, hb⟩ := hrel
      have hbW2 := Below.ext hb1' hb
      have R2 := Lib.hid ((hb.block w.heap.size (by have := hb1.size; have := SW.out; omega)).trans R1.out)
      have q5 : wr.cell? ⟨w.heap.size, 5, none⟩ = some (.slice xA 1 xc) := row_cell R2.out 5 _ rfl
      by_cases hlt : k < 1
      · obtain ⟨b, off, y, u, rfl, hS, hbb, hu, hoky, hcy⟩ := hargs.at_ encEx_len (j := k) hlt (by omega)
        have HC := Lib.hid (fun i u h => (hbW2.cell (p := ⟨b, off + k * 6 + i, none⟩) hbb).trans (hcy i u h))
        have hU := HALL.out u (List.mem_of_getElem? hu)
        have Hc := Lib.hid (ih y u _ wr (ExOk.keep (Keep.of_below hbW2) _ _ _ hoky) hU)
        clear hu hcy hU hoky
        go_wp2_with (refine wpList_ldv (t := 145) (A := ⟨b, off + k * 6, none⟩) rfl rfl rfl (ld_exw HC.out) ?_)
        refine Hc.out.mono ?_
        rintro e w2 ⟨rfl, hb2⟩
        go_wp2
        go_roundw
        case rel => exact ⟨k + 1, by go_num, by omega, Below.ext hb hb2⟩
        case measure => simp [intOf]; omega
      · obtain rfl : k = 1 := by omega
        go_wp2
        go_ret
        exact ⟨rfl, hbW2⟩
  · obtain rfl : xn = 2 := by have := HL.out; first | omega | (simp at this; omega)
    have e1 : (xo == 1) = false := by simp; omega
    have e2 : (xo == 2) = false := by simp; omega
    have e3 : (xo == 3) = false := by simp; omega
    have f1 : (xo != 1) = true := by simp; omega
    have eo : opnd xo = 2 := by unfold opnd; rw [if_neg (by omega), if_neg (by omega), if_pos (by omega)]
    obtain ⟨W, hW, hbW, sW, rW⟩ := newD w #[.int .i64 xo, .int .i64 0, .string (ByteArray.mk #[]), .int .i64 0, .int .i64 0, .slice xA 2 xc] 145
    have SW := Lib.hid sW
    have R0 := Lib.hid rW
    have q0 : W.cell? ⟨w.heap.size, 0, none⟩ = some (.int .i64 xo) := row_cell R0.out 0 _ rfl
    have OP := Lib.hid (fun w' => operands_any xo (by omega) (by omega) w')
    have EO := Lib.hid eo
    clear sW rW eo
    go_enter Tryd.func78, Tryd.ntmps78
    go_upto_region 1 with fail
    try rw [← hW]
    clear hW
    go_upto_region 2 with fail
    go_wp2_with fail
    refine wp_region_lexL ((fun w' => Below W.heap.size W w')) (by kernel_rfl) (by kernel_rfl) ((Below.refl _ W).drew) ?_
    repeat (first | (refine lexL_q0 rfl ?_; go_big_quiet_step (fail); refine wpQuiet_nil ?_) | (refine lexL_skip0 rfl rfl ?_; simp only [Act.put, List.setIfInBounds_toArray, List.set_cons_succ, List.set_cons_zero]))
    refine lexL_ld (⟨w.heap.size, 0, none⟩) (.int .i64 xo) rfl rfl rfl (fun w' hw' => run_ld1 (ag_int _) (row_cell ((hw'.block w.heap.size (by have := SW.out; omega)).trans R0.out) 0 _ rfl)) ?_
    simp only [Act.put, List.setIfInBounds_toArray, List.set_cons_succ, List.set_cons_zero]
    repeat (first | (refine lexL_q0 rfl ?_; go_big_quiet_step (fail); refine wpQuiet_nil ?_) | (refine lexL_skip0 rfl rfl ?_; simp only [Act.put, List.setIfInBounds_toArray, List.set_cons_succ, List.set_cons_zero]))
    refine lexL_e rfl ?_
    go_wp2_with fail
    refine (OP.out _).mono ?_
    rintro e w1 ⟨rfl, rfl⟩
    rw [EO.out]
    have y1 : Below W.heap.size W W.drew := (Below.refl _ W).drew
    go_wp2_with fail
    refine lexL_go (y1) ?_
    repeat (first | (refine lexL_q0 rfl ?_; go_big_quiet_step (fail); refine wpQuiet_nil ?_) | (refine lexL_skip0 rfl rfl ?_; simp only [Act.put, List.setIfInBounds_toArray, List.set_cons_succ, List.set_cons_zero]))
    refine lexL_ld (⟨w.heap.size, 5, none⟩) (.slice xA 2 xc) rfl rfl rfl (fun w' hw' => run_ld1 (ag_exs _) (row_cell ((hw'.block w.heap.size (by have := SW.out; omega)).trans R0.out) 5 _ rfl)) ?_
    simp only [Act.put, List.setIfInBounds_toArray, List.set_cons_succ, List.set_cons_zero]
    repeat (first | (refine lexL_q0 rfl ?_; go_big_quiet_step (fail); refine wpQuiet_nil ?_) | (refine lexL_skip0 rfl rfl ?_; simp only [Act.put, List.setIfInBounds_toArray, List.set_cons_succ, List.set_cons_zero]))
    refine lexL_ld (⟨w.heap.size, 3, none⟩) (.int .i64 0) rfl rfl rfl (fun w' hw' => run_ld1 (ag_int _) (row_cell ((hw'.block w.heap.size (by have := SW.out; omega)).trans R0.out) 3 _ rfl)) ?_
    simp only [Act.put, List.setIfInBounds_toArray, List.set_cons_succ, List.set_cons_zero]
    repeat (first | (refine lexL_q0 rfl ?_; go_big_quiet_step (fail); refine wpQuiet_nil ?_) | (refine lexL_skip0 rfl rfl ?_; simp only [Act.put, List.setIfInBounds_toArray, List.set_cons_succ, List.set_cons_zero]))
    refine lexL_ld (⟨w.heap.size, 4, none⟩) (.int .i64 0) rfl rfl rfl (fun w' hw' => run_ld1 (ag_int _) (row_cell ((hw'.block w.heap.size (by have := SW.out; omega)).trans R0.out) 4 _ rfl)) ?_
    simp only [Act.put, List.setIfInBounds_toArray, List.set_cons_succ, List.set_cons_zero]
    repeat (first | (refine lexL_q0 rfl ?_; go_big_quiet_step (fail); refine wpQuiet_nil ?_) | (refine lexL_skip0 rfl rfl ?_; simp only [Act.put, List.setIfInBounds_toArray, List.set_cons_succ, List.set_cons_zero]))
    refine lexL_skip rfl rfl (y1) ?_
    simp only [Act.put, List.setIfInBounds_toArray, List.set_cons_succ, List.set_cons_zero]
    repeat (first | (refine lexL_q0 rfl ?_; go_big_quiet_step (fail); refine wpQuiet_nil ?_) | (refine lexL_skip0 rfl rfl ?_; simp only [Act.put, List.setIfInBounds_toArray, List.set_cons_succ, List.set_cons_zero]))
    refine lexL_ld (⟨w.heap.size, 2, none⟩) (.string (ByteArray.mk #[])) rfl rfl rfl (fun w' hw' => run_ld1 (ag_str _) (row_cell ((hw'.block w.heap.size (by have := SW.out; omega)).trans R0.out) 2 _ rfl)) ?_
    simp only [Act.put, List.setIfInBounds_toArray, List.set_cons_succ, List.set_cons_zero]
    repeat (first | (refine lexL_q0 rfl ?_; go_big_quiet_step (fail); refine wpQuiet_nil ?_) | (refine lexL_skip0 rfl rfl ?_; simp only [Act.put, List.setIfInBounds_toArray, List.set_cons_succ, List.set_cons_zero]))
    refine lexL_ld (⟨w.heap.size, 0, none⟩) (.int .i64 xo) rfl rfl rfl (fun w' hw' => run_ld1 (ag_int _) (row_cell ((hw'.block w.heap.size (by have := SW.out; omega)).trans R0.out) 0 _ rfl)) ?_
    simp only [Act.put, List.setIfInBounds_toArray, List.set_cons_succ, List.set_cons_zero]
    repeat (first | (refine lexL_q0 rfl ?_; go_big_quiet_step (fail); refine wpQuiet_nil ?_) | (refine lexL_skip0 rfl rfl ?_; simp only [Act.put, List.setIfInBounds_toArray, List.set_cons_succ, List.set_cons_zero]))
    refine lexL_ld (⟨w.heap.size, 0, none⟩) (.int .i64 xo) rfl rfl rfl (fun w' hw' => run_ld1 (ag_int _) (row_cell ((hw'.block w.heap.size (by have := SW.out; omega)).trans R0.out) 0 _ rfl)) ?_
    simp only [Act.put, List.setIfInBounds_toArray, List.set_cons_succ, List.set_cons_zero]
    repeat (first | (refine lexL_q0 rfl ?_; go_big_quiet_step (fail); refine wpQuiet_nil ?_) | (refine lexL_skip0 rfl rfl ?_; simp only [Act.put, List.setIfInBounds_toArray, List.set_cons_succ, List.set_cons_zero]))
    refine lexL_ld (⟨w.heap.size, 1, none⟩) (.int .i64 0) rfl rfl rfl (fun w' hw' => run_ld1 (ag_int _) (row_cell ((hw'.block w.heap.size (by have := SW.out; omega)).trans R0.out) 1 _ rfl)) ?_
    simp only [Act.put, List.setIfInBounds_toArray, List.set_cons_succ, List.set_cons_zero]
    repeat (first | (refine lexL_q0 rfl ?_; go_big_quiet_step (fail); refine wpQuiet_nil ?_) | (refine lexL_skip0 rfl rfl ?_; simp only [Act.put, List.setIfInBounds_toArray, List.set_cons_succ, List.set_cons_zero]))
    refine lexL_nil ?_
    go_wp2_with fail
    obtain ⟨w1, hw1⟩ : ∃ w1, w1 = W.drew := ⟨_, rfl⟩
    rw [← hw1]
    have hb1 : Below W.heap.size W w1 := by rw [hw1]; exact y1
    have hb1' := Below.ext hbW hb1
    have R1 := Lib.hid ((hb1.block w.heap.size (by have := SW.out; omega)).trans R0.out)
    clear hw1
    go_wp2
    go_loopw [4] (fun a wr => ∃ k : Nat, a = .int .i64 k ∧ k ≤ 2 ∧ Below w1.heap.size w1 wr) (fun a _ => 2 - (intOf a).toNat)
    case atStart => exact ⟨0, rfl, by omega, Below.refl _ _⟩
    case round =>
      obtain ⟨k, rfl, hk, hb⟩ := hrel
      have hbW2 := Below.ext hb1' hb
      have R2 := Lib.hid ((hb.block w.heap.size (by have := hb1.size; have := SW.out; omega)).trans R1.out)
      have q5 : wr.cell? ⟨w.heap.size, 5, none⟩ = some (.slice xA 2 xc) := row_cell R2.out 5 _ rfl
      by_cases hlt : k < 2
      · obtain ⟨b, off, y, u, rfl, hS, hbb, hu, hoky, hcy⟩ := hargs.at_ encEx_len (j := k) hlt (by omega)
        have HC := Lib.hid (fun i u h => (hbW2.cell (p := ⟨b, off + k * 6 + i, none⟩) hbb).trans (hcy i u h))
        have hU := HALL.out u (List.mem_of_getElem? hu)
        have Hc := Lib.hid (ih y u _ wr (ExOk.keep (Keep.of_below hbW2) _ _ _ hoky) hU)
        clear hu hcy hU hoky
        go_wp2_with (refine wpList_ldv (t := 145) (A := ⟨b, off + k * 6, none⟩) rfl rfl rfl (ld_exw HC.out) ?_)
        refine Hc.out.mono ?_
        rintro e w2 ⟨rfl, hb2⟩
        go_wp2
        go_roundw
        case rel => exact ⟨k + 1, by go_num, by omega, Below.ext hb hb2⟩
        case measure => simp [intOf]; omega
      · obtain rfl : k = 2 := by omega
        go_wp2
        go_ret
        exact ⟨rfl, hbW2⟩
theorem good_any : ∀ (n : Nat), GoodOk n
  | 0 => fun x t S w h => h.elim
  | n + 1 => good_step n (good_any n)
end Go.Proofs.YtiblijmngokcgaaDoor
