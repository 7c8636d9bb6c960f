/-
  Append and Rewrite of a log: of package wal and of the document.
-/
import Derived.Test.YtjcfnpmgklliiaaWalA
import Derived.Test.YtjcfnpmgklliiaaDiskC
namespace Go.Proofs.Ytjcfnpmgklliiaa
open Go.RowKit
set_option maxRecDepth 100000
set_option linter.unusedVariables false
set_option linter.unusedSimpArgs false

set_option maxHeartbeats 2000000 in
theorem walappend_go (A : Option Addr) (n c : Nat) (fs : List Fil) (S : Nat → Prop) (w : World) (hD : Dsk S w (.slice A n c) fs) (hn : n ≤ 1000) (k : Int) (Al : Option Addr) (nl cl : Nat) (l : List Dt) (Sl : Nat → Prop) (hl : Recs encDt Sl w (.slice Al nl cl) l) (hin : ∀ d ∈ l, DtIn d) (hnl : (frL l).length ≤ 30000) (hlen : ∀ f ∈ fs, flen f ≤ 30000) (r : List Fil) (rn : Nat) (er : Int) (hR : OpR (fun f => ⟨f.s, f.p ++ frL l⟩) fs n k r rn er) :
    Calls Try.prog 24 #[.agg #[.slice A n c], .int .i64 k, .slice Al nl cl] w fun e w' => ∃ A' c', e = .returned (.tuple #[.agg #[.slice A' rn c'], .int .i64 er]) ∧ Dsk (fun b => S b ∨ w.heap.size ≤ b) w' (.slice A' rn c') r ∧ Below w.heap.size w w' := by
  have hD0 := hD.mono (S' := fun b => S b ∧ b < w.heap.size) (fun b hb hs => ⟨hs, hb⟩)
  obtain ⟨W, hW, hbW, hsW, hw0, hw1⟩ := two_boxes w (.slice A n c)
  have HsW := Lib.hid hsW
  have hfl := frL_ge l
  have hll := hl.len.1
  have HR := Lib.hid hR
  clear hR
  have H0 := Lib.hid hw0
  have H1 := Lib.hid hw1
  clear hw0 hw1
  go_enter Try.func24, Try.ntmps24
  go_wp2_with fail
  rw [← hW]
  clear hW hsW
  refine wp_region_lexL (fun w' => Below w.heap.size w w' ∧ w'.heap[w.heap.size]? = some (.cells #[.slice A n c] 45 (0, 0))) (by kernel_rfl) (by kernel_rfl) (⟨hbW.drew, H0.out⟩) ?_
  repeat (first | (refine lexL_q0 rfl ?_; go_big_quiet_step (fail); refine wpQuiet_nil ?_) | (refine lexL_skip0 rfl rfl ?_; simp only [Act.put, List.setIfInBounds_toArray, List.set_cons_succ, List.set_cons_zero]))
  refine lexL_ld (⟨w.heap.size, 0, none⟩) (.agg #[.slice A n c]) rfl rfl rfl (fun w' hS => run_ld_block hS.2 Try.underlying45 rfl (by kernel_rfl)) ?_
  simp only [Act.put, List.setIfInBounds_toArray, List.set_cons_succ, List.set_cons_zero]
  repeat (first | (refine lexL_q0 rfl ?_; go_big_quiet_step (fail); refine wpQuiet_nil ?_) | (refine lexL_skip0 rfl rfl ?_; simp only [Act.put, List.setIfInBounds_toArray, List.set_cons_succ, List.set_cons_zero]))
  refine lexL_e rfl ?_
  go_wp2_with fail
  refine (frames_any Al nl cl l _ W.drew ((hl.ext hbW).drew) hin (by omega)).mono ?_
  rintro e w3 ⟨A3, c3, rfl, hown3, hb3⟩
  obtain ⟨nb, hnb⟩ : ∃ nb, nb = (frL l).length := ⟨_, rfl⟩
  rw [← hnb] at hown3 ⊢
  have hnb2 : nb ≤ 30000 := by omega
  clear hnb hfl
  have b13 : Below W.heap.size W w3 := Below.ext (Below.refl _ _).drew hb3
  have B3 := Below.ext hbW b13
  have z3 := (b13.block _ (by have := HsW.out; omega)).trans H0.out
  have y3 := (b13.block _ (by have := HsW.out; omega)).trans H1.out
  have Z3 := Lib.hid z3
  have Y3 := Lib.hid y3
  clear z3 y3
  have hD4 : Dsk (fun b => (S b ∧ b < w.heap.size) ∨ w.heap.size + 2 ≤ b) w3 (.slice A n c) fs := (hD0.ext B3).mono (fun _ _ h => .inl h)
  have hB4 : By (fun b => (S b ∧ b < w.heap.size) ∨ w.heap.size + 2 ≤ b) w3 (.slice A3 nb c3) (frL l) := (hown3.bytes.mono (S' := fun b => (S b ∧ b < w.heap.size) ∨ w.heap.size + 2 ≤ b) (fun b _ h => .inr (by have h1 : W.heap.size ≤ b := h.1; have := HsW.out; omega))).by_
  go_wp2_with fail
  refine lexL_go (⟨B3, Z3.out⟩) ?_
  repeat (first | (refine lexL_q0 rfl ?_; go_big_quiet_step (fail); refine wpQuiet_nil ?_) | (refine lexL_skip0 rfl rfl ?_; simp only [Act.put, List.setIfInBounds_toArray, List.set_cons_succ, List.set_cons_zero]))
  refine lexL_e rfl ?_
  go_wp2_with fail
  refine (append_go A n c fs _ w3 hD4 hn k A3 nb c3 (frL l) hB4 hnb2 hlen r rn er HR.out).mono ?_
  rintro e w5 ⟨A5, c5, rfl, hD5, hb5⟩
  have hR4 : w.heap.size + 1 < w3.heap.size := (Array.getElem?_eq_some_iff.1 Y3.out).1
  have z5 := (hb5.block _ hR4).trans Y3.out
  have x5 := (hb5.block w.heap.size (by omega)).trans Z3.out
  have Z5 := Lib.hid z5
  have X5 := Lib.hid x5
  clear z5 x5
  have B5 : Below w.heap.size w w5 := Below.ext B3 hb5
  go_wp2_with fail
  refine lexL_go (⟨B5, X5.out⟩) ?_
  repeat (first | (refine lexL_q0 rfl ?_; go_big_quiet_step (fail); refine wpQuiet_nil ?_) | (refine lexL_skip0 rfl rfl ?_; simp only [Act.put, List.setIfInBounds_toArray, List.set_cons_succ, List.set_cons_zero]))
  refine lexL_e rfl ?_
  refine wpList_store_row rfl 45 _ _ rfl (w.heap.size + 1) 45 _ _ rfl rfl Z5.out (by kernel_rfl) rfl (by simp [Value.oneCell']) ?_
  refine lexL_go ⟨Below.setRow B5 (by omega) _, (setRow_other _ _ _ _ (by omega)).trans X5.out⟩ ?_
  simp only [Act.put]
  repeat (first | (refine lexL_q0 rfl ?_; go_big_quiet_step (fail); refine wpQuiet_nil ?_) | (refine lexL_skip0 rfl rfl ?_; simp only [Act.put, List.setIfInBounds_toArray, List.set_cons_succ, List.set_cons_zero]))
  refine lexL_nil ?_
  go_wp2_with fail
  go_wp2
  refine bodyPost_ret (results_ct rfl rfl (run_ld_block (setRow_heap _ _ _ _ _ _ Z5.out) Try.underlying45 rfl (by kernel_rfl))) rfl ?_
  have hD6 := ((hD5.mono (S' := fun b => (S b ∨ w.heap.size ≤ b) ∧ b ≠ w.heap.size + 1) (fun b _ h => by
    rcases h with (h | h) | h
    · exact ⟨.inl h.1, by omega⟩
    · exact ⟨.inr (by omega), by omega⟩
    · exact ⟨.inr (by omega), by omega⟩)).keep (fun b hb hs => setRow_other w5 (w.heap.size + 1) b #[.slice A5 rn c5] hs.2)).mono (S' := fun b => S b ∨ w.heap.size ≤ b) (fun _ _ h => h.1)
  exact ⟨A5, c5, rfl, hD6, Below.setRow B5 (by omega) _⟩

set_option maxHeartbeats 2000000 in
theorem walrewrite_go (A : Option Addr) (n c : Nat) (fs : List Fil) (S : Nat → Prop) (w : World) (hD : Dsk S w (.slice A n c) fs) (hn : n ≤ 1000) (k : Int) (Al : Option Addr) (nl cl : Nat) (l : List Dt) (Sl : Nat → Prop) (hl : Recs encDt Sl w (.slice Al nl cl) l) (hin : ∀ d ∈ l, DtIn d) (hnl : (frL l).length ≤ 30000) (hlen : ∀ f ∈ fs, flen f ≤ 30000) (r : List Fil) (rn : Nat) (er : Int) (hR : OpR (fun _ => ⟨frL l, []⟩) fs n k r rn er) :
    Calls Try.prog 26 #[.agg #[.slice A n c], .int .i64 k, .slice Al nl cl] w fun e w' => ∃ A' c', e = .returned (.tuple #[.agg #[.slice A' rn c'], .int .i64 er]) ∧ Dsk (fun b => S b ∨ w.heap.size ≤ b) w' (.slice A' rn c') r ∧ Below w.heap.size w w' := by
  have hD0 := hD.mono (S' := fun b => S b ∧ b < w.heap.size) (fun b hb hs => ⟨hs, hb⟩)
  obtain ⟨W, hW, hbW, hsW, hw0, hw1⟩ := two_boxes w (.slice A n c)
  have HsW := Lib.hid hsW
  have hfl := frL_ge l
  have hll := hl.len.1
  have HR := Lib.hid hR
  clear hR
  have H0 := Lib.hid hw0
  have H1 := Lib.hid hw1
  clear hw0 hw1
  go_enter Try.func26, Try.ntmps26
  go_wp2_with fail
  rw [← hW]
  clear hW hsW
  refine wp_region_lexL (fun w' => Below w.heap.size w w' ∧ w'.heap[w.heap.size]? = some (.cells #[.slice A n c] 45 (0, 0))) (by kernel_rfl) (by kernel_rfl) (⟨hbW.drew, H0.out⟩) ?_
  repeat (first | (refine lexL_q0 rfl ?_; go_big_quiet_step (fail); refine wpQuiet_nil ?_) | (refine lexL_skip0 rfl rfl ?_; simp only [Act.put, List.setIfInBounds_toArray, List.set_cons_succ, List.set_cons_zero]))
  refine lexL_ld (⟨w.heap.size, 0, none⟩) (.agg #[.slice A n c]) rfl rfl rfl (fun w' hS => run_ld_block hS.2 Try.underlying45 rfl (by kernel_rfl)) ?_
  simp only [Act.put, List.setIfInBounds_toArray, List.set_cons_succ, List.set_cons_zero]
  repeat (first | (refine lexL_q0 rfl ?_; go_big_quiet_step (fail); refine wpQuiet_nil ?_) | (refine lexL_skip0 rfl rfl ?_; simp only [Act.put, List.setIfInBounds_toArray, List.set_cons_succ, List.set_cons_zero]))
  refine lexL_e rfl ?_
  go_wp2_with fail
  refine (frames_any Al nl cl l _ W.drew ((hl.ext hbW).drew) hin (by omega)).mono ?_
  rintro e w3 ⟨A3, c3, rfl, hown3, hb3⟩
  obtain ⟨nb, hnb⟩ : ∃ nb, nb = (frL l).length := ⟨_, rfl⟩
  rw [← hnb] at hown3 ⊢
  have hnb2 : nb ≤ 30000 := by omega
  clear hnb hfl
  have b13 : Below W.heap.size W w3 := Below.ext (Below.refl _ _).drew hb3
  have B3 := Below.ext hbW b13
  have z3 := (b13.block _ (by have := HsW.out; omega)).trans H0.out
  have y3 := (b13.block _ (by have := HsW.out; omega)).trans H1.out
  have Z3 := Lib.hid z3
  have Y3 := Lib.hid y3
  clear z3 y3
  have hD4 : Dsk (fun b => (S b ∧ b < w.heap.size) ∨ w.heap.size + 2 ≤ b) w3 (.slice A n c) fs := (hD0.ext B3).mono (fun _ _ h => .inl h)
  have hB4 : By (fun b => (S b ∧ b < w.heap.size) ∨ w.heap.size + 2 ≤ b) w3 (.slice A3 nb c3) (frL l) := (hown3.bytes.mono (S' := fun b => (S b ∧ b < w.heap.size) ∨ w.heap.size + 2 ≤ b) (fun b _ h => .inr (by have h1 : W.heap.size ≤ b := h.1; have := HsW.out; omega))).by_
  go_wp2_with fail
  refine lexL_go (⟨B3, Z3.out⟩) ?_
  repeat (first | (refine lexL_q0 rfl ?_; go_big_quiet_step (fail); refine wpQuiet_nil ?_) | (refine lexL_skip0 rfl rfl ?_; simp only [Act.put, List.setIfInBounds_toArray, List.set_cons_succ, List.set_cons_zero]))
  refine lexL_e rfl ?_
  go_wp2_with fail
  refine (replace_go A n c fs _ w3 hD4 hn k A3 nb c3 (frL l) hB4 hnb2 hlen r rn er HR.out).mono ?_
  rintro e w5 ⟨A5, c5, rfl, hD5, hb5⟩
  have hR4 : w.heap.size + 1 < w3.heap.size := (Array.getElem?_eq_some_iff.1 Y3.out).1
  have z5 := (hb5.block _ hR4).trans Y3.out
  have x5 := (hb5.block w.heap.size (by omega)).trans Z3.out
  have Z5 := Lib.hid z5
  have X5 := Lib.hid x5
  clear z5 x5
  have B5 : Below w.heap.size w w5 := Below.ext B3 hb5
  go_wp2_with fail
  refine lexL_go (⟨B5, X5.out⟩) ?_
  repeat (first | (refine lexL_q0 rfl ?_; go_big_quiet_step (fail); refine wpQuiet_nil ?_) | (refine lexL_skip0 rfl rfl ?_; simp only [Act.put, List.setIfInBounds_toArray, List.set_cons_succ, List.set_cons_zero]))
  refine lexL_e rfl ?_
  refine wpList_store_row rfl 45 _ _ rfl (w.heap.size + 1) 45 _ _ rfl rfl Z5.out (by kernel_rfl) rfl (by simp [Value.oneCell']) ?_
  refine lexL_go ⟨Below.setRow B5 (by omega) _, (setRow_other _ _ _ _ (by omega)).trans X5.out⟩ ?_
  simp only [Act.put]
  repeat (first | (refine lexL_q0 rfl ?_; go_big_quiet_step (fail); refine wpQuiet_nil ?_) | (refine lexL_skip0 rfl rfl ?_; simp only [Act.put, List.setIfInBounds_toArray, List.set_cons_succ, List.set_cons_zero]))
  refine lexL_nil ?_
  go_wp2_with fail
  go_wp2
  refine bodyPost_ret (results_ct rfl rfl (run_ld_block (setRow_heap _ _ _ _ _ _ Z5.out) Try.underlying45 rfl (by kernel_rfl))) rfl ?_
  have hD6 := ((hD5.mono (S' := fun b => (S b ∨ w.heap.size ≤ b) ∧ b ≠ w.heap.size + 1) (fun b _ h => by
    rcases h with (h | h) | h
    · exact ⟨.inl h.1, by omega⟩
    · exact ⟨.inr (by omega), by omega⟩
    · exact ⟨.inr (by omega), by omega⟩)).keep (fun b hb hs => setRow_other w5 (w.heap.size + 1) b #[.slice A5 rn c5] hs.2)).mono (S' := fun b => S b ∨ w.heap.size ≤ b) (fun _ _ h => h.1)
  exact ⟨A5, c5, rfl, hD6, Below.setRow B5 (by omega) _⟩

set_option maxHeartbeats 2000000 in
theorem refwalappend_go (A : Option Addr) (n c : Nat) (fs : List Fil) (S : Nat → Prop) (w : World) (hD : Dsk S w (.slice A n c) fs) (hn : n ≤ 1000) (k : Int) (Al : Option Addr) (nl cl : Nat) (l : List Dt) (Sl : Nat → Prop) (hl : Recs encDt Sl w (.slice Al nl cl) l) (hin : ∀ d ∈ l, DtIn d) (hnl : (frL l).length ≤ 30000) (hlen : ∀ f ∈ fs, flen f ≤ 30000) (r : List Fil) (rn : Nat) (er : Int) (hR : OpR (fun f => ⟨f.s, f.p ++ frL l⟩) fs n k r rn er) :
    Calls Try.prog 25 #[.agg #[.slice A n c], .int .i64 k, .slice Al nl cl] w fun e w' => ∃ A' c', e = .returned (.tuple #[.agg #[.slice A' rn c'], .int .i64 er]) ∧ Dsk (fun b => S b ∨ w.heap.size ≤ b) w' (.slice A' rn c') r ∧ Below w.heap.size w w' := by
  have hD0 := hD.mono (S' := fun b => S b ∧ b < w.heap.size) (fun b hb hs => ⟨hs, hb⟩)
  obtain ⟨W, hW, hbW, hsW, hw0, hw1⟩ := two_boxes w (.slice A n c)
  have HsW := Lib.hid hsW
  have hfl := frL_ge l
  have hll := hl.len.1
  have HR := Lib.hid hR
  clear hR
  have H0 := Lib.hid hw0
  have H1 := Lib.hid hw1
  clear hw0 hw1
  go_enter Try.func25, Try.ntmps25
  go_wp2_with fail
  rw [← hW]
  clear hW hsW
  refine wp_region_lexL (fun w' => Below w.heap.size w w' ∧ w'.heap[w.heap.size]? = some (.cells #[.slice A n c] 45 (0, 0))) (by kernel_rfl) (by kernel_rfl) (⟨hbW.drew, H0.out⟩) ?_
  repeat (first | (refine lexL_q0 rfl ?_; go_big_quiet_step (fail); refine wpQuiet_nil ?_) | (refine lexL_skip0 rfl rfl ?_; simp only [Act.put, List.setIfInBounds_toArray, List.set_cons_succ, List.set_cons_zero]))
  refine lexL_ld (⟨w.heap.size, 0, none⟩) (.agg #[.slice A n c]) rfl rfl rfl (fun w' hS => run_ld_block hS.2 Try.underlying45 rfl (by kernel_rfl)) ?_
  simp only [Act.put, List.setIfInBounds_toArray, List.set_cons_succ, List.set_cons_zero]
  repeat (first | (refine lexL_q0 rfl ?_; go_big_quiet_step (fail); refine wpQuiet_nil ?_) | (refine lexL_skip0 rfl rfl ?_; simp only [Act.put, List.setIfInBounds_toArray, List.set_cons_succ, List.set_cons_zero]))
  refine lexL_e rfl ?_
  go_wp2_with fail
  refine (refframes_any Al nl cl l _ W.drew ((hl.ext hbW).drew) hin (by omega)).mono ?_
  rintro e w3 ⟨A3, c3, rfl, hown3, hb3⟩
  obtain ⟨nb, hnb⟩ : ∃ nb, nb = (frL l).length := ⟨_, rfl⟩
  rw [← hnb] at hown3 ⊢
  have hnb2 : nb ≤ 30000 := by omega
  clear hnb hfl
  have b13 : Below W.heap.size W w3 := Below.ext (Below.refl _ _).drew hb3
  have B3 := Below.ext hbW b13
  have z3 := (b13.block _ (by have := HsW.out; omega)).trans H0.out
  have y3 := (b13.block _ (by have := HsW.out; omega)).trans H1.out
  have Z3 := Lib.hid z3
  have Y3 := Lib.hid y3
  clear z3 y3
  have hD4 : Dsk (fun b => (S b ∧ b < w.heap.size) ∨ w.heap.size + 2 ≤ b) w3 (.slice A n c) fs := (hD0.ext B3).mono (fun _ _ h => .inl h)
  have hB4 : By (fun b => (S b ∧ b < w.heap.size) ∨ w.heap.size + 2 ≤ b) w3 (.slice A3 nb c3) (frL l) := (hown3.bytes.mono (S' := fun b => (S b ∧ b < w.heap.size) ∨ w.heap.size + 2 ≤ b) (fun b _ h => .inr (by have h1 : W.heap.size ≤ b := h.1; have := HsW.out; omega))).by_
  go_wp2_with fail
  refine lexL_go (⟨B3, Z3.out⟩) ?_
  repeat (first | (refine lexL_q0 rfl ?_; go_big_quiet_step (fail); refine wpQuiet_nil ?_) | (refine lexL_skip0 rfl rfl ?_; simp only [Act.put, List.setIfInBounds_toArray, List.set_cons_succ, List.set_cons_zero]))
  refine lexL_e rfl ?_
  go_wp2_with fail
  refine (refappend_go A n c fs _ w3 hD4 hn k A3 nb c3 (frL l) hB4 hnb2 hlen r rn er HR.out).mono ?_
  rintro e w5 ⟨A5, c5, rfl, hD5, hb5⟩
  have hR4 : w.heap.size + 1 < w3.heap.size := (Array.getElem?_eq_some_iff.1 Y3.out).1
  have z5 := (hb5.block _ hR4).trans Y3.out
  have x5 := (hb5.block w.heap.size (by omega)).trans Z3.out
  have Z5 := Lib.hid z5
  have X5 := Lib.hid x5
  clear z5 x5
  have B5 : Below w.heap.size w w5 := Below.ext B3 hb5
  go_wp2_with fail
  refine lexL_go (⟨B5, X5.out⟩) ?_
  repeat (first | (refine lexL_q0 rfl ?_; go_big_quiet_step (fail); refine wpQuiet_nil ?_) | (refine lexL_skip0 rfl rfl ?_; simp only [Act.put, List.setIfInBounds_toArray, List.set_cons_succ, List.set_cons_zero]))
  refine lexL_e rfl ?_
  refine wpList_store_row rfl 45 _ _ rfl (w.heap.size + 1) 45 _ _ rfl rfl Z5.out (by kernel_rfl) rfl (by simp [Value.oneCell']) ?_
  refine lexL_go ⟨Below.setRow B5 (by omega) _, (setRow_other _ _ _ _ (by omega)).trans X5.out⟩ ?_
  simp only [Act.put]
  repeat (first | (refine lexL_q0 rfl ?_; go_big_quiet_step (fail); refine wpQuiet_nil ?_) | (refine lexL_skip0 rfl rfl ?_; simp only [Act.put, List.setIfInBounds_toArray, List.set_cons_succ, List.set_cons_zero]))
  refine lexL_nil ?_
  go_wp2_with fail
  go_wp2
  refine bodyPost_ret (results_ct rfl rfl (run_ld_block (setRow_heap _ _ _ _ _ _ Z5.out) Try.underlying45 rfl (by kernel_rfl))) rfl ?_
  have hD6 := ((hD5.mono (S' := fun b => (S b ∨ w.heap.size ≤ b) ∧ b ≠ w.heap.size + 1) (fun b _ h => by
    rcases h with (h | h) | h
    · exact ⟨.inl h.1, by omega⟩
    · exact ⟨.inr (by omega), by omega⟩
    · exact ⟨.inr (by omega), by omega⟩)).keep (fun b hb hs => setRow_other w5 (w.heap.size + 1) b #[.slice A5 rn c5] hs.2)).mono (S' := fun b => S b ∨ w.heap.size ≤ b) (fun _ _ h => h.1)
  exact ⟨A5, c5, rfl, hD6, Below.setRow B5 (by omega) _⟩

set_option maxHeartbeats 2000000 in
theorem refwalrewrite_go (A : Option Addr) (n c : Nat) (fs : List Fil) (S : Nat → Prop) (w : World) (hD : Dsk S w (.slice A n c) fs) (hn : n ≤ 1000) (k : Int) (Al : Option Addr) (nl cl : Nat) (l : List Dt) (Sl : Nat → Prop) (hl : Recs encDt Sl w (.slice Al nl cl) l) (hin : ∀ d ∈ l, DtIn d) (hnl : (frL l).length ≤ 30000) (hlen : ∀ f ∈ fs, flen f ≤ 30000) (r : List Fil) (rn : Nat) (er : Int) (hR : OpR (fun _ => ⟨frL l, []⟩) fs n k r rn er) :
    Calls Try.prog 27 #[.agg #[.slice A n c], .int .i64 k, .slice Al nl cl] w fun e w' => ∃ A' c', e = .returned (.tuple #[.agg #[.slice A' rn c'], .int .i64 er]) ∧ Dsk (fun b => S b ∨ w.heap.size ≤ b) w' (.slice A' rn c') r ∧ Below w.heap.size w w' := by
  have hD0 := hD.mono (S' := fun b => S b ∧ b < w.heap.size) (fun b hb hs => ⟨hs, hb⟩)
  obtain ⟨W, hW, hbW, hsW, hw0, hw1⟩ := two_boxes w (.slice A n c)
  have HsW := Lib.hid hsW
  have hfl := frL_ge l
  have hll := hl.len.1
  have HR := Lib.hid hR
  clear hR
  have H0 := Lib.hid hw0
  have H1 := Lib.hid hw1
  clear hw0 hw1
  go_enter Try.func27, Try.ntmps27
  go_wp2_with fail
  rw [← hW]
  clear hW hsW
  refine wp_region_lexL (fun w' => Below w.heap.size w w' ∧ w'.heap[w.heap.size]? = some (.cells #[.slice A n c] 45 (0, 0))) (by kernel_rfl) (by kernel_rfl) (⟨hbW.drew, H0.out⟩) ?_
  repeat (first | (refine lexL_q0 rfl ?_; go_big_quiet_step (fail); refine wpQuiet_nil ?_) | (refine lexL_skip0 rfl rfl ?_; simp only [Act.put, List.setIfInBounds_toArray, List.set_cons_succ, List.set_cons_zero]))
  refine lexL_ld (⟨w.heap.size, 0, none⟩) (.agg #[.slice A n c]) rfl rfl rfl (fun w' hS => run_ld_block hS.2 Try.underlying45 rfl (by kernel_rfl)) ?_
  simp only [Act.put, List.setIfInBounds_toArray, List.set_cons_succ, List.set_cons_zero]
  repeat (first | (refine lexL_q0 rfl ?_; go_big_quiet_step (fail); refine wpQuiet_nil ?_) | (refine lexL_skip0 rfl rfl ?_; simp only [Act.put, List.setIfInBounds_toArray, List.set_cons_succ, List.set_cons_zero]))
  refine lexL_e rfl ?_
  go_wp2_with fail
  refine (refframes_any Al nl cl l _ W.drew ((hl.ext hbW).drew) hin (by omega)).mono ?_
  rintro e w3 ⟨A3, c3, rfl, hown3, hb3⟩
  obtain ⟨nb, hnb⟩ : ∃ nb, nb = (frL l).length := ⟨_, rfl⟩
  rw [← hnb] at hown3 ⊢
  have hnb2 : nb ≤ 30000 := by omega
  clear hnb hfl
  have b13 : Below W.heap.size W w3 := Below.ext (Below.refl _ _).drew hb3
  have B3 := Below.ext hbW b13
  have z3 := (b13.block _ (by have := HsW.out; omega)).trans H0.out
  have y3 := (b13.block _ (by have := HsW.out; omega)).trans H1.out
  have Z3 := Lib.hid z3
  have Y3 := Lib.hid y3
  clear z3 y3
  have hD4 : Dsk (fun b => (S b ∧ b < w.heap.size) ∨ w.heap.size + 2 ≤ b) w3 (.slice A n c) fs := (hD0.ext B3).mono (fun _ _ h => .inl h)
  have hB4 : By (fun b => (S b ∧ b < w.heap.size) ∨ w.heap.size + 2 ≤ b) w3 (.slice A3 nb c3) (frL l) := (hown3.bytes.mono (S' := fun b => (S b ∧ b < w.heap.size) ∨ w.heap.size + 2 ≤ b) (fun b _ h => .inr (by have h1 : W.heap.size ≤ b := h.1; have := HsW.out; omega))).by_
  go_wp2_with fail
  refine lexL_go (⟨B3, Z3.out⟩) ?_
  repeat (first | (refine lexL_q0 rfl ?_; go_big_quiet_step (fail); refine wpQuiet_nil ?_) | (refine lexL_skip0 rfl rfl ?_; simp only [Act.put, List.setIfInBounds_toArray, List.set_cons_succ, List.set_cons_zero]))
  refine lexL_e rfl ?_
  go_wp2_with fail
  refine (refreplace_go A n c fs _ w3 hD4 hn k A3 nb c3 (frL l) hB4 hnb2 hlen r rn er HR.out).mono ?_
  rintro e w5 ⟨A5, c5, rfl, hD5, hb5⟩
  have hR4 : w.heap.size + 1 < w3.heap.size := (Array.getElem?_eq_some_iff.1 Y3.out).1
  have z5 := (hb5.block _ hR4).trans Y3.out
  have x5 := (hb5.block w.heap.size (by omega)).trans Z3.out
  have Z5 := Lib.hid z5
  have X5 := Lib.hid x5
  clear z5 x5
  have B5 : Below w.heap.size w w5 := Below.ext B3 hb5
  go_wp2_with fail
  refine lexL_go (⟨B5, X5.out⟩) ?_
  repeat (first | (refine lexL_q0 rfl ?_; go_big_quiet_step (fail); refine wpQuiet_nil ?_) | (refine lexL_skip0 rfl rfl ?_; simp only [Act.put, List.setIfInBounds_toArray, List.set_cons_succ, List.set_cons_zero]))
  refine lexL_e rfl ?_
  refine wpList_store_row rfl 45 _ _ rfl (w.heap.size + 1) 45 _ _ rfl rfl Z5.out (by kernel_rfl) rfl (by simp [Value.oneCell']) ?_
  refine lexL_go ⟨Below.setRow B5 (by omega) _, (setRow_other _ _ _ _ (by omega)).trans X5.out⟩ ?_
  simp only [Act.put]
  repeat (first | (refine lexL_q0 rfl ?_; go_big_quiet_step (fail); refine wpQuiet_nil ?_) | (refine lexL_skip0 rfl rfl ?_; simp only [Act.put, List.setIfInBounds_toArray, List.set_cons_succ, List.set_cons_zero]))
  refine lexL_nil ?_
  go_wp2_with fail
  go_wp2
  refine bodyPost_ret (results_ct rfl rfl (run_ld_block (setRow_heap _ _ _ _ _ _ Z5.out) Try.underlying45 rfl (by kernel_rfl))) rfl ?_
  have hD6 := ((hD5.mono (S' := fun b => (S b ∨ w.heap.size ≤ b) ∧ b ≠ w.heap.size + 1) (fun b _ h => by
    rcases h with (h | h) | h
    · exact ⟨.inl h.1, by omega⟩
    · exact ⟨.inr (by omega), by omega⟩
    · exact ⟨.inr (by omega), by omega⟩)).keep (fun b hb hs => setRow_other w5 (w.heap.size + 1) b #[.slice A5 rn c5] hs.2)).mono (S' := fun b => S b ∨ w.heap.size ≤ b) (fun _ _ h => h.1)
  exact ⟨A5, c5, rfl, hD6, Below.setRow B5 (by omega) _⟩

end Go.Proofs.Ytjcfnpmgklliiaa
