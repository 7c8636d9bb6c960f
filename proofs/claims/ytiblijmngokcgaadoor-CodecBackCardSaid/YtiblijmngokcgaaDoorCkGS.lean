import Derived.Test.YtiblijmngokcgaaDoorCkFS
namespace Go.Proofs.YtiblijmngokcgaaDoor
open Go.RowKit
set_option maxRecDepth 100000
set_option linter.unusedVariables false
set_option linter.unusedSimpArgs false
def FineOk (n : Nat) : Prop := ∀ (A : Option Addr) (m c : Nat) (ts : List Sm) (w : World), SmL n w (.slice A m c) ts → (∀ s ∈ ts, DrS n s) →
  Calls Tryd.prog 68 #[.slice A m c] w fun e w' => e = .returned (.bool true) ∧ Below w.heap.size w w'
set_option maxHeartbeats 16000000 in
theorem fine_step (n : Nat) (ih : ∀ k, k < n → FineOk k) : FineOk n := by
  intro A m c ts w hL hrs
  have HL := Lib.hid hL.len.1
  have hlc := hL.len.2
  have HRS := Lib.hid hrs
  have HIH := Lib.hid ih
  clear hrs ih
  go_enter Tryd.func68, Tryd.ntmps68
  go_wp2
  go_loopw [3] (fun b wr => ∃ (k : Nat), b = .int .i64 k ∧ k ≤ m ∧ Below w.heap.size w wr) (fun b _ => m - (intOf b).toNat)
  case atStart => exact ⟨0, rfl, by omega, Below.refl _ _⟩
  case round =>
    obtain ⟨k, rfl, hk, hb⟩ := hrel
    by_cases hlt : k < m
    · obtain ⟨ba, oa, x, t, rfl, hSb, hba, ht, hok, hcx⟩ := hL.at_ encSm_len (j := k) hlt (by omega)
      cases n with
      | zero => exact hok.elim
      | succ n =>
        have hrt := HRS.out t (List.mem_of_getElem? ht)
        obtain ⟨kind, name, slot, size, place, value, body, els⟩ := t
        obtain ⟨rfl, rfl, rfl, rfl, hpl, hvl, hbd, hel⟩ := hok
        obtain ⟨hsl, hsz, nvl, nbd, nel, ncl⟩ := hrt
        obtain ⟨xk, xm, xs, xz, ⟨po, pv, pm, ps, pz, pA, pn, pc⟩, vx, xA, xn, xc, xB, xm2, xd⟩ := x
        dsimp only at *
        subst hsl hsz
        have HC := Lib.hid (fun i u h2 => ((Below.refl _ _).trans hb |>.cell (p := ⟨ba, oa + k * 18 + i, none⟩) hba).trans (hcx i u h2))
        rcases ncl with ⟨rfl, nn, rfl, rfl, rfl⟩ | ⟨rfl, nn, npl, rfl, rfl⟩ | ⟨rfl, rfl, npl, rfl, rfl⟩ | ⟨rfl, rfl, rfl, rfl, rfl⟩ | ⟨rfl, rfl, rfl, _, _⟩ | ⟨rfl, rfl, rfl, rfl, _⟩
        · obtain ⟨cc, hcc, rfl⟩ := five_scal (.inl nn)
          clear nn
          obtain ⟨rfl, rfl, rfl, rfl, rfl, hpa⟩ := hpl
          dsimp only at *
          obtain rfl : pn = 0 := by have := hpa.len.1; simpa using this.symm
          obtain rfl : xn = 0 := by have := hbd.len.1; simpa using this.symm
          obtain rfl : xm2 = 0 := by have := hel.len.1; simpa using this.symm
          obtain ⟨W, hW, bW, kW, SW, R0⟩ := boxD wr wr #[.int .i64 1, .string (ByteArray.mk #[cc]), .int .i64 0, .int .i64 0, .int .i64 0, .int .i64 0, .string (ByteArray.mk #[]), .int .i64 0, .int .i64 0, .slice pA 0 pc, .int .i64 vx.op, .int .i64 vx.val, .string vx.name, .int .i64 vx.slot, .int .i64 vx.size, .slice vx.A vx.n vx.c, .slice xA 0 xc, .slice xB 0 xd] 147 (Below.refl _ _)
          obtain ⟨bx, hbx⟩ : ∃ b, b = wr.heap.size := ⟨_, rfl⟩
          rw [← hbx] at R0
          have HBX := Lib.hid hbx
          have hbxW : bx < W.heap.size := by have := SW.out; omega
          have yW := Below.ext hb kW
          have HVL := Lib.hid (fun (w' : World) (h : Below W.heap.size W w') => good_any 3 vx value _ w' (ExOk.keep (Keep.of_below (Below.ext yW h)) _ _ _ hvl) nvl)
          have HB := Lib.hid (fun (w' : World) (h : Below W.heap.size W w') => HIH.out n (by omega) xA 0 xc _ w' (SmL.ext hbd (Below.ext yW h)) nbd)
          have HE := Lib.hid (fun (w' : World) (h : Below W.heap.size W w') => HIH.out n (by omega) xB 0 xd _ w' (SmL.ext hel (Below.ext yW h)) nel)
          clear hbx hvl hbd hel hcx ht hL hpa
          go_upto_region 5 with (first | (refine wpList_ldv (t := 147) (A := ⟨ba, oa + k * 18, none⟩) rfl rfl rfl (ld_sm HC.out) ?_) | (refine wpList_store_new rfl 147 _ _ rfl 147 _ #[.int .i64 1, .string (ByteArray.mk #[cc]), .int .i64 0, .int .i64 0, .int .i64 0, .int .i64 0, .string (ByteArray.mk #[]), .int .i64 0, .int .i64 0, .slice pA 0 pc, .int .i64 vx.op, .int .i64 vx.val, .string vx.name, .int .i64 vx.slot, .int .i64 vx.size, .slice vx.A vx.n vx.c, .slice xA 0 xc, .slice xB 0 xd] rfl rfl (by kernel_rfl) rfl (by simp [Value.oneCell']) ?_))
          try dsimp only
          rw [← hW, ← HBX.out]
          clear hW
          try simp only [Act.put]
          go_wp2_with fail
          refine wp_region_lexL ((fun w' => Below W.heap.size W w')) (by kernel_rfl) (by kernel_rfl) ((Below.refl _ W).drew) ?_
          repeat (first | (refine lexL_q0 rfl ?_; go_big_quiet_step (fail); refine wpQuiet_nil ?_) | (refine lexL_skip0 rfl rfl ?_; simp only [Act.put, List.setIfInBounds_toArray, List.set_cons_succ, List.set_cons_zero]))
          refine lexL_ld (⟨bx, 0, none⟩) (.int .i64 1) rfl rfl rfl (fun w' hw' => run_ld1 (ag_int _) (row_cell ((hw'.block bx hbxW).trans R0.out) 0 _ rfl)) ?_
          simp only [Act.put, List.setIfInBounds_toArray, List.set_cons_succ, List.set_cons_zero]
          repeat (first | (refine lexL_q0 rfl ?_; go_big_quiet_step (fail); refine wpQuiet_nil ?_) | (refine lexL_skip0 rfl rfl ?_; simp only [Act.put, List.setIfInBounds_toArray, List.set_cons_succ, List.set_cons_zero]))
          refine lexL_ld (⟨bx, 0, none⟩) (.int .i64 1) rfl rfl rfl (fun w' hw' => run_ld1 (ag_int _) (row_cell ((hw'.block bx hbxW).trans R0.out) 0 _ rfl)) ?_
          simp only [Act.put, List.setIfInBounds_toArray, List.set_cons_succ, List.set_cons_zero]
          repeat (first | (refine lexL_q0 rfl ?_; go_big_quiet_step (fail); refine wpQuiet_nil ?_) | (refine lexL_skip0 rfl rfl ?_; simp only [Act.put, List.setIfInBounds_toArray, List.set_cons_succ, List.set_cons_zero]))
          refine lexL_ld (⟨bx, 0, none⟩) (.int .i64 1) rfl rfl rfl (fun w' hw' => run_ld1 (ag_int _) (row_cell ((hw'.block bx hbxW).trans R0.out) 0 _ rfl)) ?_
          simp only [Act.put, List.setIfInBounds_toArray, List.set_cons_succ, List.set_cons_zero]
          repeat (first | (refine lexL_q0 rfl ?_; go_big_quiet_step (fail); refine wpQuiet_nil ?_) | (refine lexL_skip0 rfl rfl ?_; simp only [Act.put, List.setIfInBounds_toArray, List.set_cons_succ, List.set_cons_zero]))
          refine lexL_ld (⟨bx, 0, none⟩) (.int .i64 1) rfl rfl rfl (fun w' hw' => run_ld1 (ag_int _) (row_cell ((hw'.block bx hbxW).trans R0.out) 0 _ rfl)) ?_
          simp only [Act.put, List.setIfInBounds_toArray, List.set_cons_succ, List.set_cons_zero]
          repeat (first | (refine lexL_q0 rfl ?_; go_big_quiet_step (fail); refine wpQuiet_nil ?_) | (refine lexL_skip0 rfl rfl ?_; simp only [Act.put, List.setIfInBounds_toArray, List.set_cons_succ, List.set_cons_zero]))
          refine lexL_ld (⟨bx, 0, none⟩) (.int .i64 1) rfl rfl rfl (fun w' hw' => run_ld1 (ag_int _) (row_cell ((hw'.block bx hbxW).trans R0.out) 0 _ rfl)) ?_
          simp only [Act.put, List.setIfInBounds_toArray, List.set_cons_succ, List.set_cons_zero]
          repeat (first | (refine lexL_q0 rfl ?_; go_big_quiet_step (fail); refine wpQuiet_nil ?_) | (refine lexL_skip0 rfl rfl ?_; simp only [Act.put, List.setIfInBounds_toArray, List.set_cons_succ, List.set_cons_zero]))
          refine lexL_nil ?_
          obtain ⟨w1, hw1⟩ : ∃ w1, w1 = W.drew := ⟨_, rfl⟩
          rw [← hw1]
          have y1 : Below W.heap.size W w1 := by rw [hw1]; exact (Below.refl _ W).drew
          clear hw1
          have Rw1 := Lib.hid ((y1.block bx hbxW).trans R0.out)
          have cw10 : w1.cell? ⟨bx, 0, none⟩ = some (.int .i64 1) := row_cell Rw1.out 0 _ rfl
          have cw11 : w1.cell? ⟨bx, 1, none⟩ = some (.string (ByteArray.mk #[cc])) := row_cell Rw1.out 1 _ rfl
          have cw12 : w1.cell? ⟨bx, 2, none⟩ = some (.int .i64 0) := row_cell Rw1.out 2 _ rfl
          have cw13 : w1.cell? ⟨bx, 3, none⟩ = some (.int .i64 0) := row_cell Rw1.out 3 _ rfl
          go_wp2_with fail
          refine (valid_any cc hcc w1).mono ?_
          rintro e w2 ⟨rfl, rfl⟩
          go_wp2_with (refine wpList_ldv (t := 145) (A := ⟨bx, 10, none⟩) rfl rfl rfl (ld_exAt (y := vx) Rw1.out rfl) ?_)
          refine (HVL.out _ y1).mono ?_
          rintro e w3 ⟨rfl, b3⟩
          have y3 := Below.ext y1 b3
          have Rw3 := Lib.hid ((y3.block bx hbxW).trans R0.out)
          have cw30 : w3.cell? ⟨bx, 0, none⟩ = some (.int .i64 1) := row_cell Rw3.out 0 _ rfl
          have cw316 : w3.cell? ⟨bx, 16, none⟩ = some (.slice xA 0 xc) := row_cell Rw3.out 16 _ rfl
          have cw317 : w3.cell? ⟨bx, 17, none⟩ = some (.slice xB 0 xd) := row_cell Rw3.out 17 _ rfl
          go_wp2_with (refine wpList_ldv (t := 145) (A := ⟨bx, 4, none⟩) rfl rfl rfl (ld_exAt (y := ⟨0, 0, ByteArray.mk #[], 0, 0, pA, 0, pc⟩) Rw3.out rfl) ?_)
          refine (zero_any pA pc w3).mono ?_
          rintro e w4 ⟨rfl, b4⟩
          have y4 := Below.ext y3 b4
          have Rw4 := Lib.hid ((y4.block bx hbxW).trans R0.out)
          have cw40 : w4.cell? ⟨bx, 0, none⟩ = some (.int .i64 1) := row_cell Rw4.out 0 _ rfl
          have cw416 : w4.cell? ⟨bx, 16, none⟩ = some (.slice xA 0 xc) := row_cell Rw4.out 16 _ rfl
          have cw417 : w4.cell? ⟨bx, 17, none⟩ = some (.slice xB 0 xd) := row_cell Rw4.out 17 _ rfl
          go_wp2_with fail
          refine (HB.out _ y4).mono ?_
          rintro e w5 ⟨rfl, b5⟩
          have y5 := Below.ext y4 b5
          have Rw5 := Lib.hid ((y5.block bx hbxW).trans R0.out)
          have cw517 : w5.cell? ⟨bx, 17, none⟩ = some (.slice xB 0 xd) := row_cell Rw5.out 17 _ rfl
          go_wp2_with fail
          refine (HE.out _ y5).mono ?_
          rintro e w6 ⟨rfl, b6⟩
          go_wp2
          go_roundw
          case rel => exact ⟨k + 1, by go_num, by omega, Below.ext yW (Below.ext y5 b6)⟩
          case measure => simp [intOf]; omega
        · obtain ⟨cc, hcc, rfl⟩ := five_scal (.inr nn)
          clear nn
          obtain rfl : xn = 0 := by have := hbd.len.1; simpa using this.symm
          obtain rfl : xm2 = 0 := by have := hel.len.1; simpa using this.symm
          obtain ⟨W, hW, bW, kW, SW, R0⟩ := boxD wr wr #[.int .i64 2, .string (ByteArray.mk #[cc]), .int .i64 0, .int .i64 0, .int .i64 po, .int .i64 pv, .string pm, .int .i64 ps, .int .i64 pz, .slice pA pn pc, .int .i64 vx.op, .int .i64 vx.val, .string vx.name, .int .i64 vx.slot, .int .i64 vx.size, .slice vx.A vx.n vx.c, .slice xA 0 xc, .slice xB 0 xd] 147 (Below.refl _ _)
          obtain ⟨bx, hbx⟩ : ∃ b, b = wr.heap.size := ⟨_, rfl⟩
          rw [← hbx] at R0
          have HBX := Lib.hid hbx
          have hbxW : bx < W.heap.size := by have := SW.out; omega
          have yW := Below.ext hb kW
          have HVL := Lib.hid (fun (w' : World) (h : Below W.heap.size W w') => good_any 3 vx value _ w' (ExOk.keep (Keep.of_below (Below.ext yW h)) _ _ _ hvl) nvl)
          have HB := Lib.hid (fun (w' : World) (h : Below W.heap.size W w') => HIH.out n (by omega) xA 0 xc _ w' (SmL.ext hbd (Below.ext yW h)) nbd)
          have HE := Lib.hid (fun (w' : World) (h : Below W.heap.size W w') => HIH.out n (by omega) xB 0 xd _ w' (SmL.ext hel (Below.ext yW h)) nel)
          have HP := Lib.hid (fun (w' : World) (h : Below W.heap.size W w') => good_any 3 ⟨po, pv, pm, ps, pz, pA, pn, pc⟩ place _ w' (ExOk.keep (Keep.of_below (Below.ext yW h)) _ _ _ hpl) npl)
          clear hbx hvl hbd hel hcx ht hL hpl
          go_upto_region 5 with (first | (refine wpList_ldv (t := 147) (A := ⟨ba, oa + k * 18, none⟩) rfl rfl rfl (ld_sm HC.out) ?_) | (refine wpList_store_new rfl 147 _ _ rfl 147 _ #[.int .i64 2, .string (ByteArray.mk #[cc]), .int .i64 0, .int .i64 0, .int .i64 po, .int .i64 pv, .string pm, .int .i64 ps, .int .i64 pz, .slice pA pn pc, .int .i64 vx.op, .int .i64 vx.val, .string vx.name, .int .i64 vx.slot, .int .i64 vx.size, .slice vx.A vx.n vx.c, .slice xA 0 xc, .slice xB 0 xd] rfl rfl (by kernel_rfl) rfl (by simp [Value.oneCell']) ?_))
          try dsimp only
          rw [← hW, ← HBX.out]
          clear hW
          try simp only [Act.put]
          go_wp2_with fail
          refine wp_region_lexL ((fun w' => Below W.heap.size W w')) (by kernel_rfl) (by kernel_rfl) ((Below.refl _ W).drew) ?_
          repeat (first | (refine lexL_q0 rfl ?_; go_big_quiet_step (fail); refine wpQuiet_nil ?_) | (refine lexL_skip0 rfl rfl ?_; simp only [Act.put, List.setIfInBounds_toArray, List.set_cons_succ, List.set_cons_zero]))
          refine lexL_ld (⟨bx, 0, none⟩) (.int .i64 2) rfl rfl rfl (fun w' hw' => run_ld1 (ag_int _) (row_cell ((hw'.block bx hbxW).trans R0.out) 0 _ rfl)) ?_
          simp only [Act.put, List.setIfInBounds_toArray, List.set_cons_succ, List.set_cons_zero]
          repeat (first | (refine lexL_q0 rfl ?_; go_big_quiet_step (fail); refine wpQuiet_nil ?_) | (refine lexL_skip0 rfl rfl ?_; simp only [Act.put, List.setIfInBounds_toArray, List.set_cons_succ, List.set_cons_zero]))
          refine lexL_ld (⟨bx, 0, none⟩) (.int .i64 2) rfl rfl rfl (fun w' hw' => run_ld1 (ag_int _) (row_cell ((hw'.block bx hbxW).trans R0.out) 0 _ rfl)) ?_
          simp only [Act.put, List.setIfInBounds_toArray, List.set_cons_succ, List.set_cons_zero]
          repeat (first | (refine lexL_q0 rfl ?_; go_big_quiet_step (fail); refine wpQuiet_nil ?_) | (refine lexL_skip0 rfl rfl ?_; simp only [Act.put, List.setIfInBounds_toArray, List.set_cons_succ, List.set_cons_zero]))
          refine lexL_ld (⟨bx, 0, none⟩) (.int .i64 2) rfl rfl rfl (fun w' hw' => run_ld1 (ag_int _) (row_cell ((hw'.block bx hbxW).trans R0.out) 0 _ rfl)) ?_
          simp only [Act.put, List.setIfInBounds_toArray, List.set_cons_succ, List.set_cons_zero]
          repeat (first | (refine lexL_q0 rfl ?_; go_big_quiet_step (fail); refine wpQuiet_nil ?_) | (refine lexL_skip0 rfl rfl ?_; simp only [Act.put, List.setIfInBounds_toArray, List.set_cons_succ, List.set_cons_zero]))
          refine lexL_ld (⟨bx, 0, none⟩) (.int .i64 2) rfl rfl rfl (fun w' hw' => run_ld1 (ag_int _) (row_cell ((hw'.block bx hbxW).trans R0.out) 0 _ rfl)) ?_
          simp only [Act.put, List.setIfInBounds_toArray, List.set_cons_succ, List.set_cons_zero]
          repeat (first | (refine lexL_q0 rfl ?_; go_big_quiet_step (fail); refine wpQuiet_nil ?_) | (refine lexL_skip0 rfl rfl ?_; simp only [Act.put, List.setIfInBounds_toArray, List.set_cons_succ, List.set_cons_zero]))
          refine lexL_ld (⟨bx, 0, none⟩) (.int .i64 2) rfl rfl rfl (fun w' hw' => run_ld1 (ag_int _) (row_cell ((hw'.block bx hbxW).trans R0.out) 0 _ rfl)) ?_
          simp only [Act.put, List.setIfInBounds_toArray, List.set_cons_succ, List.set_cons_zero]
          repeat (first | (refine lexL_q0 rfl ?_; go_big_quiet_step (fail); refine wpQuiet_nil ?_) | (refine lexL_skip0 rfl rfl ?_; simp only [Act.put, List.setIfInBounds_toArray, List.set_cons_succ, List.set_cons_zero]))
          refine lexL_nil ?_
          obtain ⟨w1, hw1⟩ : ∃ w1, w1 = W.drew := ⟨_, rfl⟩
          rw [← hw1]
          have y1 : Below W.heap.size W w1 := by rw [hw1]; exact (Below.refl _ W).drew
          clear hw1
          have Rw1 := Lib.hid ((y1.block bx hbxW).trans R0.out)
          have cw10 : w1.cell? ⟨bx, 0, none⟩ = some (.int .i64 2) := row_cell Rw1.out 0 _ rfl
          have cw11 : w1.cell? ⟨bx, 1, none⟩ = some (.string (ByteArray.mk #[cc])) := row_cell Rw1.out 1 _ rfl
          have cw12 : w1.cell? ⟨bx, 2, none⟩ = some (.int .i64 0) := row_cell Rw1.out 2 _ rfl
          have cw13 : w1.cell? ⟨bx, 3, none⟩ = some (.int .i64 0) := row_cell Rw1.out 3 _ rfl
          go_wp2_with fail
          refine (valid_any cc hcc w1).mono ?_
          rintro e w2 ⟨rfl, rfl⟩
          go_wp2_with (refine wpList_ldv (t := 145) (A := ⟨bx, 10, none⟩) rfl rfl rfl (ld_exAt (y := vx) Rw1.out rfl) ?_)
          refine (HVL.out _ y1).mono ?_
          rintro e w3 ⟨rfl, b3⟩
          have y3 := Below.ext y1 b3
          have Rw3 := Lib.hid ((y3.block bx hbxW).trans R0.out)
          have cw30 : w3.cell? ⟨bx, 0, none⟩ = some (.int .i64 2) := row_cell Rw3.out 0 _ rfl
          have cw316 : w3.cell? ⟨bx, 16, none⟩ = some (.slice xA 0 xc) := row_cell Rw3.out 16 _ rfl
          have cw317 : w3.cell? ⟨bx, 17, none⟩ = some (.slice xB 0 xd) := row_cell Rw3.out 17 _ rfl
          go_wp2_with (refine wpList_ldv (t := 145) (A := ⟨bx, 4, none⟩) rfl rfl rfl (ld_exAt (y := ⟨po, pv, pm, ps, pz, pA, pn, pc⟩) Rw3.out rfl) ?_)
          refine (HP.out _ y3).mono ?_
          rintro e w4 ⟨rfl, b4⟩
          have y4 := Below.ext y3 b4
          have Rw4 := Lib.hid ((y4.block bx hbxW).trans R0.out)
          have cw40 : w4.cell? ⟨bx, 0, none⟩ = some (.int .i64 2) := row_cell Rw4.out 0 _ rfl
          have cw416 : w4.cell? ⟨bx, 16, none⟩ = some (.slice xA 0 xc) := row_cell Rw4.out 16 _ rfl
          have cw417 : w4.cell? ⟨bx, 17, none⟩ = some (.slice xB 0 xd) := row_cell Rw4.out 17 _ rfl
          go_wp2_with fail
          refine (HB.out _ y4).mono ?_
          rintro e w5 ⟨rfl, b5⟩
          have y5 := Below.ext y4 b5
          have Rw5 := Lib.hid ((y5.block bx hbxW).trans R0.out)
          have cw517 : w5.cell? ⟨bx, 17, none⟩ = some (.slice xB 0 xd) := row_cell Rw5.out 17 _ rfl
          go_wp2_with fail
          refine (HE.out _ y5).mono ?_
          rintro e w6 ⟨rfl, b6⟩
          go_wp2
          go_roundw
          case rel => exact ⟨k + 1, by go_num, by omega, Below.ext yW (Below.ext y5 b6)⟩
          case measure => simp [intOf]; omega
        · obtain rfl : xn = 0 := by have := hbd.len.1; simpa using this.symm
          obtain rfl : xm2 = 0 := by have := hel.len.1; simpa using this.symm
          obtain ⟨W, hW, bW, kW, SW, R0⟩ := boxD wr wr #[.int .i64 5, .string (ByteArray.mk #[]), .int .i64 0, .int .i64 0, .int .i64 po, .int .i64 pv, .string pm, .int .i64 ps, .int .i64 pz, .slice pA pn pc, .int .i64 vx.op, .int .i64 vx.val, .string vx.name, .int .i64 vx.slot, .int .i64 vx.size, .slice vx.A vx.n vx.c, .slice xA 0 xc, .slice xB 0 xd] 147 (Below.refl _ _)
          obtain ⟨bx, hbx⟩ : ∃ b, b = wr.heap.size := ⟨_, rfl⟩
          rw [← hbx] at R0
          have HBX := Lib.hid hbx
          have hbxW : bx < W.heap.size := by have := SW.out; omega
          have yW := Below.ext hb kW
          have HVL := Lib.hid (fun (w' : World) (h : Below W.heap.size W w') => good_any 3 vx value _ w' (ExOk.keep (Keep.of_below (Below.ext yW h)) _ _ _ hvl) nvl)
          have HB := Lib.hid (fun (w' : World) (h : Below W.heap.size W w') => HIH.out n (by omega) xA 0 xc _ w' (SmL.ext hbd (Below.ext yW h)) nbd)
          have HE := Lib.hid (fun (w' : World) (h : Below W.heap.size W w') => HIH.out n (by omega) xB 0 xd _ w' (SmL.ext hel (Below.ext yW h)) nel)
          have HP := Lib.hid (fun (w' : World) (h : Below W.heap.size W w') => good_any 3 ⟨po, pv, pm, ps, pz, pA, pn, pc⟩ place _ w' (ExOk.keep (Keep.of_below (Below.ext yW h)) _ _ _ hpl) npl)
          clear hbx hvl hbd hel hcx ht hL hpl
          go_upto_region 5 with (first | (refine wpList_ldv (t := 147) (A := ⟨ba, oa + k * 18, none⟩) rfl rfl rfl (ld_sm HC.out) ?_) | (refine wpList_store_new rfl 147 _ _ rfl 147 _ #[.int .i64 5, .string (ByteArray.mk #[]), .int .i64 0, .int .i64 0, .int .i64 po, .int .i64 pv, .string pm, .int .i64 ps, .int .i64 pz, .slice pA pn pc, .int .i64 vx.op, .int .i64 vx.val, .string vx.name, .int .i64 vx.slot, .int .i64 vx.size, .slice vx.A vx.n vx.c, .slice xA 0 xc, .slice xB 0 xd] rfl rfl (by kernel_rfl) rfl (by simp [Value.oneCell']) ?_))
          try dsimp only
          rw [← hW, ← HBX.out]
          clear hW
          try simp only [Act.put]
          go_wp2_with fail
          refine wp_region_lexL ((fun w' => Below W.heap.size W w')) (by kernel_rfl) (by kernel_rfl) ((Below.refl _ W).drew) ?_
          repeat (first | (refine lexL_q0 rfl ?_; go_big_quiet_step (fail); refine wpQuiet_nil ?_) | (refine lexL_skip0 rfl rfl ?_; simp only [Act.put, List.setIfInBounds_toArray, List.set_cons_succ, List.set_cons_zero]))
          refine lexL_ld (⟨bx, 0, none⟩) (.int .i64 5) rfl rfl rfl (fun w' hw' => run_ld1 (ag_int _) (row_cell ((hw'.block bx hbxW).trans R0.out) 0 _ rfl)) ?_
          simp only [Act.put, List.setIfInBounds_toArray, List.set_cons_succ, List.set_cons_zero]
          repeat (first | (refine lexL_q0 rfl ?_; go_big_quiet_step (fail); refine wpQuiet_nil ?_) | (refine lexL_skip0 rfl rfl ?_; simp only [Act.put, List.setIfInBounds_toArray, List.set_cons_succ, List.set_cons_zero]))
          refine lexL_ld (⟨bx, 0, none⟩) (.int .i64 5) rfl rfl rfl (fun w' hw' => run_ld1 (ag_int _) (row_cell ((hw'.block bx hbxW).trans R0.out) 0 _ rfl)) ?_
          simp only [Act.put, List.setIfInBounds_toArray, List.set_cons_succ, List.set_cons_zero]
          repeat (first | (refine lexL_q0 rfl ?_; go_big_quiet_step (fail); refine wpQuiet_nil ?_) | (refine lexL_skip0 rfl rfl ?_; simp only [Act.put, List.setIfInBounds_toArray, List.set_cons_succ, List.set_cons_zero]))
          refine lexL_ld (⟨bx, 0, none⟩) (.int .i64 5) rfl rfl rfl (fun w' hw' => run_ld1 (ag_int _) (row_cell ((hw'.block bx hbxW).trans R0.out) 0 _ rfl)) ?_
          simp only [Act.put, List.setIfInBounds_toArray, List.set_cons_succ, List.set_cons_zero]
          repeat (first | (refine lexL_q0 rfl ?_; go_big_quiet_step (fail); refine wpQuiet_nil ?_) | (refine lexL_skip0 rfl rfl ?_; simp only [Act.put, List.setIfInBounds_toArray, List.set_cons_succ, List.set_cons_zero]))
          refine lexL_ld (⟨bx, 0, none⟩) (.int .i64 5) rfl rfl rfl (fun w' hw' => run_ld1 (ag_int _) (row_cell ((hw'.block bx hbxW).trans R0.out) 0 _ rfl)) ?_
          simp only [Act.put, List.setIfInBounds_toArray, List.set_cons_succ, List.set_cons_zero]
          repeat (first | (refine lexL_q0 rfl ?_; go_big_quiet_step (fail); refine wpQuiet_nil ?_) | (refine lexL_skip0 rfl rfl ?_; simp only [Act.put, List.setIfInBounds_toArray, List.set_cons_succ, List.set_cons_zero]))
          refine lexL_ld (⟨bx, 0, none⟩) (.int .i64 5) rfl rfl rfl (fun w' hw' => run_ld1 (ag_int _) (row_cell ((hw'.block bx hbxW).trans R0.out) 0 _ rfl)) ?_
          simp only [Act.put, List.setIfInBounds_toArray, List.set_cons_succ, List.set_cons_zero]
          repeat (first | (refine lexL_q0 rfl ?_; go_big_quiet_step (fail); refine wpQuiet_nil ?_) | (refine lexL_skip0 rfl rfl ?_; simp only [Act.put, List.setIfInBounds_toArray, List.set_cons_succ, List.set_cons_zero]))
          refine lexL_ld (⟨bx, 0, none⟩) (.int .i64 5) rfl rfl rfl (fun w' hw' => run_ld1 (ag_int _) (row_cell ((hw'.block bx hbxW).trans R0.out) 0 _ rfl)) ?_
          simp only [Act.put, List.setIfInBounds_toArray, List.set_cons_succ, List.set_cons_zero]
          repeat (first | (refine lexL_q0 rfl ?_; go_big_quiet_step (fail); refine wpQuiet_nil ?_) | (refine lexL_skip0 rfl rfl ?_; simp only [Act.put, List.setIfInBounds_toArray, List.set_cons_succ, List.set_cons_zero]))
          refine lexL_nil ?_
          obtain ⟨w1, hw1⟩ : ∃ w1, w1 = W.drew := ⟨_, rfl⟩
          rw [← hw1]
          have y1 : Below W.heap.size W w1 := by rw [hw1]; exact (Below.refl _ W).drew
          clear hw1
          have Rw1 := Lib.hid ((y1.block bx hbxW).trans R0.out)
          have cw10 : w1.cell? ⟨bx, 0, none⟩ = some (.int .i64 5) := row_cell Rw1.out 0 _ rfl
          have cw11 : w1.cell? ⟨bx, 1, none⟩ = some (.string (ByteArray.mk #[])) := row_cell Rw1.out 1 _ rfl
          have cw12 : w1.cell? ⟨bx, 2, none⟩ = some (.int .i64 0) := row_cell Rw1.out 2 _ rfl
          have cw13 : w1.cell? ⟨bx, 3, none⟩ = some (.int .i64 0) := row_cell Rw1.out 3 _ rfl
          obtain ⟨w2, hw2⟩ : ∃ w2, w2 = w1 := ⟨_, rfl⟩
          subst hw2
          go_wp2_with (refine wpList_ldv (t := 145) (A := ⟨bx, 10, none⟩) rfl rfl rfl (ld_exAt (y := vx) Rw1.out rfl) ?_)
          refine (HVL.out _ y1).mono ?_
          rintro e w3 ⟨rfl, b3⟩
          have y3 := Below.ext y1 b3
          have Rw3 := Lib.hid ((y3.block bx hbxW).trans R0.out)
          have cw30 : w3.cell? ⟨bx, 0, none⟩ = some (.int .i64 5) := row_cell Rw3.out 0 _ rfl
          have cw316 : w3.cell? ⟨bx, 16, none⟩ = some (.slice xA 0 xc) := row_cell Rw3.out 16 _ rfl
          have cw317 : w3.cell? ⟨bx, 17, none⟩ = some (.slice xB 0 xd) := row_cell Rw3.out 17 _ rfl
          go_wp2_with (refine wpList_ldv (t := 145) (A := ⟨bx, 4, none⟩) rfl rfl rfl (ld_exAt (y := ⟨po, pv, pm, ps, pz, pA, pn, pc⟩) Rw3.out rfl) ?_)
          refine (HP.out _ y3).mono ?_
          rintro e w4 ⟨rfl, b4⟩
          have y4 := Below.ext y3 b4
          have Rw4 := Lib.hid ((y4.block bx hbxW).trans R0.out)
          have cw40 : w4.cell? ⟨bx, 0, none⟩ = some (.int .i64 5) := row_cell Rw4.out 0 _ rfl
          have cw416 : w4.cell? ⟨bx, 16, none⟩ = some (.slice xA 0 xc) := row_cell Rw4.out 16 _ rfl
          have cw417 : w4.cell? ⟨bx, 17, none⟩ = some (.slice xB 0 xd) := row_cell Rw4.out 17 _ rfl
          go_wp2_with fail
          refine (HB.out _ y4).mono ?_
          rintro e w5 ⟨rfl, b5⟩
          have y5 := Below.ext y4 b5
          have Rw5 := Lib.hid ((y5.block bx hbxW).trans R0.out)
          have cw517 : w5.cell? ⟨bx, 17, none⟩ = some (.slice xB 0 xd) := row_cell Rw5.out 17 _ rfl
          go_wp2_with fail
          refine (HE.out _ y5).mono ?_
          rintro e w6 ⟨rfl, b6⟩
          go_wp2
          go_roundw
          case rel => exact ⟨k + 1, by go_num, by omega, Below.ext yW (Below.ext y5 b6)⟩
          case measure => simp [intOf]; omega
        · obtain ⟨rfl, rfl, rfl, rfl, rfl, hpa⟩ := hpl
          dsimp only at *
          obtain rfl : pn = 0 := by have := hpa.len.1; simpa using this.symm
          obtain rfl : xn = 0 := by have := hbd.len.1; simpa using this.symm
          obtain rfl : xm2 = 0 := by have := hel.len.1; simpa using this.symm
          obtain ⟨W, hW, bW, kW, SW, R0⟩ := boxD wr wr #[.int .i64 6, .string (ByteArray.mk #[]), .int .i64 0, .int .i64 0, .int .i64 0, .int .i64 0, .string (ByteArray.mk #[]), .int .i64 0, .int .i64 0, .slice pA 0 pc, .int .i64 vx.op, .int .i64 vx.val, .string vx.name, .int .i64 vx.slot, .int .i64 vx.size, .slice vx.A vx.n vx.c, .slice xA 0 xc, .slice xB 0 xd] 147 (Below.refl _ _)
          obtain ⟨bx, hbx⟩ : ∃ b, b = wr.heap.size := ⟨_, rfl⟩
          rw [← hbx] at R0
          have HBX := Lib.hid hbx
          have hbxW : bx < W.heap.size := by have := SW.out; omega
          have yW := Below.ext hb kW
          have HVL := Lib.hid (fun (w' : World) (h : Below W.heap.size W w') => good_any 3 vx value _ w' (ExOk.keep (Keep.of_below (Below.ext yW h)) _ _ _ hvl) nvl)
          have HB := Lib.hid (fun (w' : World) (h : Below W.heap.size W w') => HIH.out n (by omega) xA 0 xc _ w' (SmL.ext hbd (Below.ext yW h)) nbd)
          have HE := Lib.hid (fun (w' : World) (h : Below W.heap.size W w') => HIH.out n (by omega) xB 0 xd _ w' (SmL.ext hel (Below.ext yW h)) nel)
          clear hbx hvl hbd hel hcx ht hL hpa
          go_upto_region 5 with (first | (refine wpList_ldv (t := 147) (A := ⟨ba, oa + k * 18, none⟩) rfl rfl rfl (ld_sm HC.out) ?_) | (refine wpList_store_new rfl 147 _ _ rfl 147 _ #[.int .i64 6, .string (ByteArray.mk #[]), .int .i64 0, .int .i64 0, .int .i64 0, .int .i64 0, .string (ByteArray.mk #[]), .int .i64 0, .int .i64 0, .slice pA 0 pc, .int .i64 vx.op, .int .i64 vx.val, .string vx.name, .int .i64 vx.slot, .int .i64 vx.size, .slice vx.A vx.n vx.c, .slice xA 0 xc, .slice xB 0 xd] rfl rfl (by kernel_rfl) rfl (by simp [Value.oneCell']) ?_))
          try dsimp only
          rw [← hW, ← HBX.out]
          clear hW
          try simp only [Act.put]
          go_wp2_with fail
          refine wp_region_lexL ((fun w' => Below W.heap.size W w')) (by kernel_rfl) (by kernel_rfl) ((Below.refl _ W).drew) ?_
          repeat (first | (refine lexL_q0 rfl ?_; go_big_quiet_step (fail); refine wpQuiet_nil ?_) | (refine lexL_skip0 rfl rfl ?_; simp only [Act.put, List.setIfInBounds_toArray, List.set_cons_succ, List.set_cons_zero]))
          refine lexL_ld (⟨bx, 0, none⟩) (.int .i64 6) rfl rfl rfl (fun w' hw' => run_ld1 (ag_int _) (row_cell ((hw'.block bx hbxW).trans R0.out) 0 _ rfl)) ?_
          simp only [Act.put, List.setIfInBounds_toArray, List.set_cons_succ, List.set_cons_zero]
          repeat (first | (refine lexL_q0 rfl ?_; go_big_quiet_step (fail); refine wpQuiet_nil ?_) | (refine lexL_skip0 rfl rfl ?_; simp only [Act.put, List.setIfInBounds_toArray, List.set_cons_succ, List.set_cons_zero]))
          refine lexL_ld (⟨bx, 0, none⟩) (.int .i64 6) rfl rfl rfl (fun w' hw' => run_ld1 (ag_int _) (row_cell ((hw'.block bx hbxW).trans R0.out) 0 _ rfl)) ?_
          simp only [Act.put, List.setIfInBounds_toArray, List.set_cons_succ, List.set_cons_zero]
          repeat (first | (refine lexL_q0 rfl ?_; go_big_quiet_step (fail); refine wpQuiet_nil ?_) | (refine lexL_skip0 rfl rfl ?_; simp only [Act.put, List.setIfInBounds_toArray, List.set_cons_succ, List.set_cons_zero]))
          refine lexL_ld (⟨bx, 0, none⟩) (.int .i64 6) rfl rfl rfl (fun w' hw' => run_ld1 (ag_int _) (row_cell ((hw'.block bx hbxW).trans R0.out) 0 _ rfl)) ?_
          simp only [Act.put, List.setIfInBounds_toArray, List.set_cons_succ, List.set_cons_zero]
          repeat (first | (refine lexL_q0 rfl ?_; go_big_quiet_step (fail); refine wpQuiet_nil ?_) | (refine lexL_skip0 rfl rfl ?_; simp only [Act.put, List.setIfInBounds_toArray, List.set_cons_succ, List.set_cons_zero]))
          refine lexL_ld (⟨bx, 0, none⟩) (.int .i64 6) rfl rfl rfl (fun w' hw' => run_ld1 (ag_int _) (row_cell ((hw'.block bx hbxW).trans R0.out) 0 _ rfl)) ?_
          simp only [Act.put, List.setIfInBounds_toArray, List.set_cons_succ, List.set_cons_zero]
          repeat (first | (refine lexL_q0 rfl ?_; go_big_quiet_step (fail); refine wpQuiet_nil ?_) | (refine lexL_skip0 rfl rfl ?_; simp only [Act.put, List.setIfInBounds_toArray, List.set_cons_succ, List.set_cons_zero]))
          refine lexL_ld (⟨bx, 0, none⟩) (.int .i64 6) rfl rfl rfl (fun w' hw' => run_ld1 (ag_int _) (row_cell ((hw'.block bx hbxW).trans R0.out) 0 _ rfl)) ?_
          simp only [Act.put, List.setIfInBounds_toArray, List.set_cons_succ, List.set_cons_zero]
          repeat (first | (refine lexL_q0 rfl ?_; go_big_quiet_step (fail); refine wpQuiet_nil ?_) | (refine lexL_skip0 rfl rfl ?_; simp only [Act.put, List.setIfInBounds_toArray, List.set_cons_succ, List.set_cons_zero]))
          refine lexL_ld (⟨bx, 0, none⟩) (.int .i64 6) rfl rfl rfl (fun w' hw' => run_ld1 (ag_int _) (row_cell ((hw'.block bx hbxW).trans R0.out) 0 _ rfl)) ?_
          simp only [Act.put, List.setIfInBounds_toArray, List.set_cons_succ, List.set_cons_zero]
          repeat (first | (refine lexL_q0 rfl ?_; go_big_quiet_step (fail); refine wpQuiet_nil ?_) | (refine lexL_skip0 rfl rfl ?_; simp only [Act.put, List.setIfInBounds_toArray, List.set_cons_succ, List.set_cons_zero]))
          refine lexL_nil ?_
          obtain ⟨w1, hw1⟩ : ∃ w1, w1 = W.drew := ⟨_, rfl⟩
          rw [← hw1]
          have y1 : Below W.heap.size W w1 := by rw [hw1]; exact (Below.refl _ W).drew
          clear hw1
          have Rw1 := Lib.hid ((y1.block bx hbxW).trans R0.out)
          have cw10 : w1.cell? ⟨bx, 0, none⟩ = some (.int .i64 6) := row_cell Rw1.out 0 _ rfl
          have cw11 : w1.cell? ⟨bx, 1, none⟩ = some (.string (ByteArray.mk #[])) := row_cell Rw1.out 1 _ rfl
          have cw12 : w1.cell? ⟨bx, 2, none⟩ = some (.int .i64 0) := row_cell Rw1.out 2 _ rfl
          have cw13 : w1.cell? ⟨bx, 3, none⟩ = some (.int .i64 0) := row_cell Rw1.out 3 _ rfl
          obtain ⟨w2, hw2⟩ : ∃ w2, w2 = w1 := ⟨_, rfl⟩
          subst hw2
          go_wp2_with (refine wpList_ldv (t := 145) (A := ⟨bx, 10, none⟩) rfl rfl rfl (ld_exAt (y := vx) Rw1.out rfl) ?_)
          refine (HVL.out _ y1).mono ?_
          rintro e w3 ⟨rfl, b3⟩
          have y3 := Below.ext y1 b3
          have Rw3 := Lib.hid ((y3.block bx hbxW).trans R0.out)
          have cw30 : w3.cell? ⟨bx, 0, none⟩ = some (.int .i64 6) := row_cell Rw3.out 0 _ rfl
          have cw316 : w3.cell? ⟨bx, 16, none⟩ = some (.slice xA 0 xc) := row_cell Rw3.out 16 _ rfl
          have cw317 : w3.cell? ⟨bx, 17, none⟩ = some (.slice xB 0 xd) := row_cell Rw3.out 17 _ rfl
          go_wp2_with (refine wpList_ldv (t := 145) (A := ⟨bx, 4, none⟩) rfl rfl rfl (ld_exAt (y := ⟨0, 0, ByteArray.mk #[], 0, 0, pA, 0, pc⟩) Rw3.out rfl) ?_)
          refine (zero_any pA pc w3).mono ?_
          rintro e w4 ⟨rfl, b4⟩
          have y4 := Below.ext y3 b4
          have Rw4 := Lib.hid ((y4.block bx hbxW).trans R0.out)
          have cw40 : w4.cell? ⟨bx, 0, none⟩ = some (.int .i64 6) := row_cell Rw4.out 0 _ rfl
          have cw416 : w4.cell? ⟨bx, 16, none⟩ = some (.slice xA 0 xc) := row_cell Rw4.out 16 _ rfl
          have cw417 : w4.cell? ⟨bx, 17, none⟩ = some (.slice xB 0 xd) := row_cell Rw4.out 17 _ rfl
          go_wp2_with fail
          refine (HB.out _ y4).mono ?_
          rintro e w5 ⟨rfl, b5⟩
          have y5 := Below.ext y4 b5
          have Rw5 := Lib.hid ((y5.block bx hbxW).trans R0.out)
          have cw517 : w5.cell? ⟨bx, 17, none⟩ = some (.slice xB 0 xd) := row_cell Rw5.out 17 _ rfl
          go_wp2_with fail
          refine (HE.out _ y5).mono ?_
          rintro e w6 ⟨rfl, b6⟩
          go_wp2
          go_roundw
          case rel => exact ⟨k + 1, by go_num, by omega, Below.ext yW (Below.ext y5 b6)⟩
          case measure => simp [intOf]; omega
        · obtain ⟨rfl, rfl, rfl, rfl, rfl, hpa⟩ := hpl
          dsimp only at *
          obtain rfl : pn = 0 := by have := hpa.len.1; simpa using this.symm
          obtain ⟨W, hW, bW, kW, SW, R0⟩ := boxD wr wr #[.int .i64 3, .string (ByteArray.mk #[]), .int .i64 0, .int .i64 0, .int .i64 0, .int .i64 0, .string (ByteArray.mk #[]), .int .i64 0, .int .i64 0, .slice pA 0 pc, .int .i64 vx.op, .int .i64 vx.val, .string vx.name, .int .i64 vx.slot, .int .i64 vx.size, .slice vx.A vx.n vx.c, .slice xA xn xc, .slice xB xm2 xd] 147 (Below.refl _ _)
          obtain ⟨bx, hbx⟩ : ∃ b, b = wr.heap.size := ⟨_, rfl⟩
          rw [← hbx] at R0
          have HBX := Lib.hid hbx
          have hbxW : bx < W.heap.size := by have := SW.out; omega
          have yW := Below.ext hb kW
          have HVL := Lib.hid (fun (w' : World) (h : Below W.heap.size W w') => good_any 3 vx value _ w' (ExOk.keep (Keep.of_below (Below.ext yW h)) _ _ _ hvl) nvl)
          have HB := Lib.hid (fun (w' : World) (h : Below W.heap.size W w') => HIH.out n (by omega) xA xn xc _ w' (SmL.ext hbd (Below.ext yW h)) nbd)
          have HE := Lib.hid (fun (w' : World) (h : Below W.heap.size W w') => HIH.out n (by omega) xB xm2 xd _ w' (SmL.ext hel (Below.ext yW h)) nel)
          clear hbx hvl hbd hel hcx ht hL hpa
          go_upto_region 5 with (first | (refine wpList_ldv (t := 147) (A := ⟨ba, oa + k * 18, none⟩) rfl rfl rfl (ld_sm HC.out) ?_) | (refine wpList_store_new rfl 147 _ _ rfl 147 _ #[.int .i64 3, .string (ByteArray.mk #[]), .int .i64 0, .int .i64 0, .int .i64 0, .int .i64 0, .string (ByteArray.mk #[]), .int .i64 0, .int .i64 0, .slice pA 0 pc, .int .i64 vx.op, .int .i64 vx.val, .string vx.name, .int .i64 vx.slot, .int .i64 vx.size, .slice vx.A vx.n vx.c, .slice xA xn xc, .slice xB xm2 xd] rfl rfl (by kernel_rfl) rfl (by simp [Value.oneCell']) ?_))
          try dsimp only
          rw [← hW, ← HBX.out]
          clear hW
          try simp only [Act.put]
          go_wp2_with fail
          refine wp_region_lexL ((fun w' => Below W.heap.size W w')) (by kernel_rfl) (by kernel_rfl) ((Below.refl _ W).drew) ?_
          repeat (first | (refine lexL_q0 rfl ?_; go_big_quiet_step (fail); refine wpQuiet_nil ?_) | (refine lexL_skip0 rfl rfl ?_; simp only [Act.put, List.setIfInBounds_toArray, List.set_cons_succ, List.set_cons_zero]))
          refine lexL_ld (⟨bx, 0, none⟩) (.int .i64 3) rfl rfl rfl (fun w' hw' => run_ld1 (ag_int _) (row_cell ((hw'.block bx hbxW).trans R0.out) 0 _ rfl)) ?_
          simp only [Act.put, List.setIfInBounds_toArray, List.set_cons_succ, List.set_cons_zero]
          repeat (first | (refine lexL_q0 rfl ?_; go_big_quiet_step (fail); refine wpQuiet_nil ?_) | (refine lexL_skip0 rfl rfl ?_; simp only [Act.put, List.setIfInBounds_toArray, List.set_cons_succ, List.set_cons_zero]))
          refine lexL_ld (⟨bx, 0, none⟩) (.int .i64 3) rfl rfl rfl (fun w' hw' => run_ld1 (ag_int _) (row_cell ((hw'.block bx hbxW).trans R0.out) 0 _ rfl)) ?_
          simp only [Act.put, List.setIfInBounds_toArray, List.set_cons_succ, List.set_cons_zero]
          repeat (first | (refine lexL_q0 rfl ?_; go_big_quiet_step (fail); refine wpQuiet_nil ?_) | (refine lexL_skip0 rfl rfl ?_; simp only [Act.put, List.setIfInBounds_toArray, List.set_cons_succ, List.set_cons_zero]))
          refine lexL_ld (⟨bx, 0, none⟩) (.int .i64 3) rfl rfl rfl (fun w' hw' => run_ld1 (ag_int _) (row_cell ((hw'.block bx hbxW).trans R0.out) 0 _ rfl)) ?_
          simp only [Act.put, List.setIfInBounds_toArray, List.set_cons_succ, List.set_cons_zero]
          repeat (first | (refine lexL_q0 rfl ?_; go_big_quiet_step (fail); refine wpQuiet_nil ?_) | (refine lexL_skip0 rfl rfl ?_; simp only [Act.put, List.setIfInBounds_toArray, List.set_cons_succ, List.set_cons_zero]))
          refine lexL_ld (⟨bx, 0, none⟩) (.int .i64 3) rfl rfl rfl (fun w' hw' => run_ld1 (ag_int _) (row_cell ((hw'.block bx hbxW).trans R0.out) 0 _ rfl)) ?_
          simp only [Act.put, List.setIfInBounds_toArray, List.set_cons_succ, List.set_cons_zero]
          repeat (first | (refine lexL_q0 rfl ?_; go_big_quiet_step (fail); refine wpQuiet_nil ?_) | (refine lexL_skip0 rfl rfl ?_; simp only [Act.put, List.setIfInBounds_toArray, List.set_cons_succ, List.set_cons_zero]))
          refine lexL_ld (⟨bx, 0, none⟩) (.int .i64 3) rfl rfl rfl (fun w' hw' => run_ld1 (ag_int _) (row_cell ((hw'.block bx hbxW).trans R0.out) 0 _ rfl)) ?_
          simp only [Act.put, List.setIfInBounds_toArray, List.set_cons_succ, List.set_cons_zero]
          repeat (first | (refine lexL_q0 rfl ?_; go_big_quiet_step (fail); refine wpQuiet_nil ?_) | (refine lexL_skip0 rfl rfl ?_; simp only [Act.put, List.setIfInBounds_toArray, List.set_cons_succ, List.set_cons_zero]))
          refine lexL_nil ?_
          obtain ⟨w1, hw1⟩ : ∃ w1, w1 = W.drew := ⟨_, rfl⟩
          rw [← hw1]
          have y1 : Below W.heap.size W w1 := by rw [hw1]; exact (Below.refl _ W).drew
          clear hw1
          have Rw1 := Lib.hid ((y1.block bx hbxW).trans R0.out)
          have cw10 : w1.cell? ⟨bx, 0, none⟩ = some (.int .i64 3) := row_cell Rw1.out 0 _ rfl
          have cw11 : w1.cell? ⟨bx, 1, none⟩ = some (.string (ByteArray.mk #[])) := row_cell Rw1.out 1 _ rfl
          have cw12 : w1.cell? ⟨bx, 2, none⟩ = some (.int .i64 0) := row_cell Rw1.out 2 _ rfl
          have cw13 : w1.cell? ⟨bx, 3, none⟩ = some (.int .i64 0) := row_cell Rw1.out 3 _ rfl
          obtain ⟨w2, hw2⟩ : ∃ w2, w2 = w1 := ⟨_, rfl⟩
          subst hw2
          go_wp2_with (refine wpList_ldv (t := 145) (A := ⟨bx, 10, none⟩) rfl rfl rfl (ld_exAt (y := vx) Rw1.out rfl) ?_)
          refine (HVL.out _ y1).mono ?_
          rintro e w3 ⟨rfl, b3⟩
          have y3 := Below.ext y1 b3
          have Rw3 := Lib.hid ((y3.block bx hbxW).trans R0.out)
          have cw30 : w3.cell? ⟨bx, 0, none⟩ = some (.int .i64 3) := row_cell Rw3.out 0 _ rfl
          have cw316 : w3.cell? ⟨bx, 16, none⟩ = some (.slice xA xn xc) := row_cell Rw3.out 16 _ rfl
          have cw317 : w3.cell? ⟨bx, 17, none⟩ = some (.slice xB xm2 xd) := row_cell Rw3.out 17 _ rfl
          go_wp2_with (refine wpList_ldv (t := 145) (A := ⟨bx, 4, none⟩) rfl rfl rfl (ld_exAt (y := ⟨0, 0, ByteArray.mk #[], 0, 0, pA, 0, pc⟩) Rw3.out rfl) ?_)
          refine (zero_any pA pc w3).mono ?_
          rintro e w4 ⟨rfl, b4⟩
          have y4 := Below.ext y3 b4
          have Rw4 := Lib.hid ((y4.block bx hbxW).trans R0.out)
          have cw40 : w4.cell? ⟨bx, 0, none⟩ = some (.int .i64 3) := row_cell Rw4.out 0 _ rfl
          have cw416 : w4.cell? ⟨bx, 16, none⟩ = some (.slice xA xn xc) := row_cell Rw4.out 16 _ rfl
          have cw417 : w4.cell? ⟨bx, 17, none⟩ = some (.slice xB xm2 xd) := row_cell Rw4.out 17 _ rfl
          go_wp2_with fail
          refine (HB.out _ y4).mono ?_
          rintro e w5 ⟨rfl, b5⟩
          have y5 := Below.ext y4 b5
          have Rw5 := Lib.hid ((y5.block bx hbxW).trans R0.out)
          have cw517 : w5.cell? ⟨bx, 17, none⟩ = some (.slice xB xm2 xd) := row_cell Rw5.out 17 _ rfl
          go_wp2_with fail
          refine (HE.out _ y5).mono ?_
          rintro e w6 ⟨rfl, b6⟩
          go_wp2
          go_roundw
          case rel => exact ⟨k + 1, by go_num, by omega, Below.ext yW (Below.ext y5 b6)⟩
          case measure => simp [intOf]; omega
        · obtain ⟨rfl, rfl, rfl, rfl, rfl, hpa⟩ := hpl
          dsimp only at *
          obtain rfl : pn = 0 := by have := hpa.len.1; simpa using this.symm
          obtain rfl : xm2 = 0 := by have := hel.len.1; simpa using this.symm
          obtain ⟨W, hW, bW, kW, SW, R0⟩ := boxD wr wr #[.int .i64 4, .string (ByteArray.mk #[]), .int .i64 0, .int .i64 0, .int .i64 0, .int .i64 0, .string (ByteArray.mk #[]), .int .i64 0, .int .i64 0, .slice pA 0 pc, .int .i64 vx.op, .int .i64 vx.val, .string vx.name, .int .i64 vx.slot, .int .i64 vx.size, .slice vx.A vx.n vx.c, .slice xA xn xc, .slice xB 0 xd] 147 (Below.refl _ _)
          obtain ⟨bx, hbx⟩ : ∃ b, b = wr.heap.size := ⟨_, rfl⟩
          rw [← hbx] at R0
          have HBX := Lib.hid hbx
          have hbxW : bx < W.heap.size := by have := SW.out; omega
          have yW := Below.ext hb kW
          have HVL := Lib.hid (fun (w' : World) (h : Below W.heap.size W w') => good_any 3 vx value _ w' (ExOk.keep (Keep.of_below (Below.ext yW h)) _ _ _ hvl) nvl)
          have HB := Lib.hid (fun (w' : World) (h : Below W.heap.size W w') => HIH.out n (by omega) xA xn xc _ w' (SmL.ext hbd (Below.ext yW h)) nbd)
          have HE := Lib.hid (fun (w' : World) (h : Below W.heap.size W w') => HIH.out n (by omega) xB 0 xd _ w' (SmL.ext hel (Below.ext yW h)) nel)
          clear hbx hvl hbd hel hcx ht hL hpa
          go_upto_region 5 with (first | (refine wpList_ldv (t := 147) (A := ⟨ba, oa + k * 18, none⟩) rfl rfl rfl (ld_sm HC.out) ?_) | (refine wpList_store_new rfl 147 _ _ rfl 147 _ #[.int .i64 4, .string (ByteArray.mk #[]), .int .i64 0, .int .i64 0, .int .i64 0, .int .i64 0, .string (ByteArray.mk #[]), .int .i64 0, .int .i64 0, .slice pA 0 pc, .int .i64 vx.op, .int .i64 vx.val, .string vx.name, .int .i64 vx.slot, .int .i64 vx.size, .slice vx.A vx.n vx.c, .slice xA xn xc, .slice xB 0 xd] rfl rfl (by kernel_rfl) rfl (by simp [Value.oneCell']) ?_))
          try dsimp only
          rw [← hW, ← HBX.out]
          clear hW
          try simp only [Act.put]
          go_wp2_with fail
          refine wp_region_lexL ((fun w' => Below W.heap.size W w')) (by kernel_rfl) (by kernel_rfl) ((Below.refl _ W).drew) ?_
          repeat (first | (refine lexL_q0 rfl ?_; go_big_quiet_step (fail); refine wpQuiet_nil ?_) | (refine lexL_skip0 rfl rfl ?_; simp only [Act.put, List.setIfInBounds_toArray, List.set_cons_succ, List.set_cons_zero]))
          refine lexL_ld (⟨bx, 0, none⟩) (.int .i64 4) rfl rfl rfl (fun w' hw' => run_ld1 (ag_int _) (row_cell ((hw'.block bx hbxW).trans R0.out) 0 _ rfl)) ?_
          simp only [Act.put, List.setIfInBounds_toArray, List.set_cons_succ, List.set_cons_zero]
          repeat (first | (refine lexL_q0 rfl ?_; go_big_quiet_step (fail); refine wpQuiet_nil ?_) | (refine lexL_skip0 rfl rfl ?_; simp only [Act.put, List.setIfInBounds_toArray, List.set_cons_succ, List.set_cons_zero]))
          refine lexL_ld (⟨bx, 0, none⟩) (.int .i64 4) rfl rfl rfl (fun w' hw' => run_ld1 (ag_int _) (row_cell ((hw'.block bx hbxW).trans R0.out) 0 _ rfl)) ?_
          simp only [Act.put, List.setIfInBounds_toArray, List.set_cons_succ, List.set_cons_zero]
          repeat (first | (refine lexL_q0 rfl ?_; go_big_quiet_step (fail); refine wpQuiet_nil ?_) | (refine lexL_skip0 rfl rfl ?_; simp only [Act.put, List.setIfInBounds_toArray, List.set_cons_succ, List.set_cons_zero]))
          refine lexL_ld (⟨bx, 0, none⟩) (.int .i64 4) rfl rfl rfl (fun w' hw' => run_ld1 (ag_int _) (row_cell ((hw'.block bx hbxW).trans R0.out) 0 _ rfl)) ?_
          simp only [Act.put, List.setIfInBounds_toArray, List.set_cons_succ, List.set_cons_zero]
          repeat (first | (refine lexL_q0 rfl ?_; go_big_quiet_step (fail); refine wpQuiet_nil ?_) | (refine lexL_skip0 rfl rfl ?_; simp only [Act.put, List.setIfInBounds_toArray, List.set_cons_succ, List.set_cons_zero]))
          refine lexL_ld (⟨bx, 0, none⟩) (.int .i64 4) rfl rfl rfl (fun w' hw' => run_ld1 (ag_int _) (row_cell ((hw'.block bx hbxW).trans R0.out) 0 _ rfl)) ?_
          simp only [Act.put, List.setIfInBounds_toArray, List.set_cons_succ, List.set_cons_zero]
          repeat (first | (refine lexL_q0 rfl ?_; go_big_quiet_step (fail); refine wpQuiet_nil ?_) | (refine lexL_skip0 rfl rfl ?_; simp only [Act.put, List.setIfInBounds_toArray, List.set_cons_succ, List.set_cons_zero]))
          refine lexL_ld (⟨bx, 0, none⟩) (.int .i64 4) rfl rfl rfl (fun w' hw' => run_ld1 (ag_int _) (row_cell ((hw'.block bx hbxW).trans R0.out) 0 _ rfl)) ?_
          simp only [Act.put, List.setIfInBounds_toArray, List.set_cons_succ, List.set_cons_zero]
          repeat (first | (refine lexL_q0 rfl ?_; go_big_quiet_step (fail); refine wpQuiet_nil ?_) | (refine lexL_skip0 rfl rfl ?_; simp only [Act.put, List.setIfInBounds_toArray, List.set_cons_succ, List.set_cons_zero]))
          refine lexL_ld (⟨bx, 0, none⟩) (.int .i64 4) rfl rfl rfl (fun w' hw' => run_ld1 (ag_int _) (row_cell ((hw'.block bx hbxW).trans R0.out) 0 _ rfl)) ?_
          simp only [Act.put, List.setIfInBounds_toArray, List.set_cons_succ, List.set_cons_zero]
          repeat (first | (refine lexL_q0 rfl ?_; go_big_quiet_step (fail); refine wpQuiet_nil ?_) | (refine lexL_skip0 rfl rfl ?_; simp only [Act.put, List.setIfInBounds_toArray, List.set_cons_succ, List.set_cons_zero]))
          refine lexL_nil ?_
          obtain ⟨w1, hw1⟩ : ∃ w1, w1 = W.drew := ⟨_, rfl⟩
          rw [← hw1]
          have y1 : Below W.heap.size W w1 := by rw [hw1]; exact (Below.refl _ W).drew
          clear hw1
          have Rw1 := Lib.hid ((y1.block bx hbxW).trans R0.out)
          have cw10 : w1.cell? ⟨bx, 0, none⟩ = some (.int .i64 4) := row_cell Rw1.out 0 _ rfl
          have cw11 : w1.cell? ⟨bx, 1, none⟩ = some (.string (ByteArray.mk #[])) := row_cell Rw1.out 1 _ rfl
          have cw12 : w1.cell? ⟨bx, 2, none⟩ = some (.int .i64 0) := row_cell Rw1.out 2 _ rfl
          have cw13 : w1.cell? ⟨bx, 3, none⟩ = some (.int .i64 0) := row_cell Rw1.out 3 _ rfl
          obtain ⟨w2, hw2⟩ : ∃ w2, w2 = w1 := ⟨_, rfl⟩
          subst hw2
          go_wp2_with (refine wpList_ldv (t := 145) (A := ⟨bx, 10, none⟩) rfl rfl rfl (ld_exAt (y := vx) Rw1.out rfl) ?_)
          refine (HVL.out _ y1).mono ?_
          rintro e w3 ⟨rfl, b3⟩
          have y3 := Below.ext y1 b3
          have Rw3 := Lib.hid ((y3.block bx hbxW).trans R0.out)
          have cw30 : w3.cell? ⟨bx, 0, none⟩ = some (.int .i64 4) := row_cell Rw3.out 0 _ rfl
          have cw316 : w3.cell? ⟨bx, 16, none⟩ = some (.slice xA xn xc) := row_cell Rw3.out 16 _ rfl
          have cw317 : w3.cell? ⟨bx, 17, none⟩ = some (.slice xB 0 xd) := row_cell Rw3.out 17 _ rfl
          go_wp2_with (refine wpList_ldv (t := 145) (A := ⟨bx, 4, none⟩) rfl rfl rfl (ld_exAt (y := ⟨0, 0, ByteArray.mk #[], 0, 0, pA, 0, pc⟩) Rw3.out rfl) ?_)
          refine (zero_any pA pc w3).mono ?_
          rintro e w4 ⟨rfl, b4⟩
          have y4 := Below.ext y3 b4
          have Rw4 := Lib.hid ((y4.block bx hbxW).trans R0.out)
          have cw40 : w4.cell? ⟨bx, 0, none⟩ = some (.int .i64 4) := row_cell Rw4.out 0 _ rfl
          have cw416 : w4.cell? ⟨bx, 16, none⟩ = some (.slice xA xn xc) := row_cell Rw4.out 16 _ rfl
          have cw417 : w4.cell? ⟨bx, 17, none⟩ = some (.slice xB 0 xd) := row_cell Rw4.out 17 _ rfl
          go_wp2_with fail
          refine (HB.out _ y4).mono ?_
          rintro e w5 ⟨rfl, b5⟩
          have y5 := Below.ext y4 b5
          have Rw5 := Lib.hid ((y5.block bx hbxW).trans R0.out)
          have cw517 : w5.cell? ⟨bx, 17, none⟩ = some (.slice xB 0 xd) := row_cell Rw5.out 17 _ rfl
          go_wp2_with fail
          refine (HE.out _ y5).mono ?_
          rintro e w6 ⟨rfl, b6⟩
          go_wp2
          go_roundw
          case rel => exact ⟨k + 1, by go_num, by omega, Below.ext yW (Below.ext y5 b6)⟩
          case measure => simp [intOf]; omega
    · obtain rfl : k = m := by omega
      go_wp2
      go_ret
      exact ⟨rfl, hb⟩
theorem fine_any : ∀ (n : Nat), FineOk n := fun n => Nat.strongRecOn n fun n ih => fine_step n ih
end Go.Proofs.YtiblijmngokcgaaDoor
