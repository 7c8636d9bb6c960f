/-
  Journals: Crash of the program and the document.
-/
import Derived.Test.YtjcfnpmgklliiaaRlB
namespace Go.Proofs.Ytjcfnpmgklliiaa
open Go.RowKit
set_option maxRecDepth 100000
set_option linter.unusedVariables false
set_option linter.unusedSimpArgs false


set_option maxHeartbeats 4000000 in
theorem rlcrash_any (A : Option Addr) (c : Nat) (B : Option Addr) (m d : Nat) (a b u : List Dt) (K : Nat) (S : Nat → Prop) (w : World) (hJ : Jrn S w A c B m d a b u K) (keep : Int) (L : Option Addr) (nl cl : Nat) (lost : List Int) (Sl : Nat → Prop) (hL : Recs encZ Sl w (.slice L nl cl) lost) (hnl : nl ≤ 1000) (l : List Dt) (hWh : WholeR (frL a ++ tornL (frL b) keep lost) l) :
    Calls Try.prog 40 #[.agg #[.slice A 1 c, .slice B m d], .agg #[.int .i64 keep, .slice L nl cl]] w fun e w' => ∃ A' c', e = .returned (.tuple #[.agg #[.slice A' 1 c', .slice none 0 0], .int .i64 0]) ∧ Jrn (fun b => w.heap.size ≤ b) w' A' c' none 0 0 l [] [] K ∧ Below w.heap.size w w' := by
  have hz := hJ.siz
  have hk := hJ.kle
  have hll := Lib.hid hL.len.1
  obtain ⟨W, hW, hbW, SW, R0, R1, R2⟩ := jboxes3 w (.slice A 1 c) (.slice B m d) (.int .i64 keep) (.slice L nl cl)
  have hD0 := hJ.dsk.ext hbW
  have hL0 := hL.ext hbW
  obtain ⟨W1, hW1, z1, s1, r1⟩ := newD W #[.int .i64 keep, .slice L nl cl] 57
  have hT := lit_tear1 W keep L nl cl lost _ hL0
  rw [← hW1] at hT
  have S1 := Lib.hid s1
  have hcr := crash_any A 1 c _ _ W1 (hD0.ext z1) (by omega) _ 1 1 [⟨keep, lost⟩] _ hT (fun f hf => by simp only [List.mem_singleton] at hf; subst hf; show (frL a).length + (frL b).length ≤ 3000000; omega)
  rw [crash_file] at hcr
  have Hcr := Lib.hid hcr
  have htl := tornL_le (frL b) keep lost
  have hwl := whole_len hWh
  rw [List.length_append] at hwl
  clear hcr s1 r1
  go_enter Try.func40, Try.ntmps40
  go_upto_region 1 with fail
  rw [← hW]
  clear hW
  go_wp2_with (first | (refine wpList_ldv (t := 45) (A := ⟨w.heap.size, 0, none⟩) rfl rfl rfl (ld_jd R0.out) ?_) | (refine wpList_load_row rfl 57 _ rfl _ rfl 57 _ (0,0) _ R1.out Try.underlying57 rfl (by kernel_rfl) ?_))
  rw [← hW1]
  clear hW1
  refine Hcr.out.mono ?_
  rintro e w2 ⟨A2, c2, rfl, hD2, hb2⟩
  have b2 := Below.ext hbW (Below.ext z1 hb2)
  have s2 := hb2.size
  have sW := SW.out
  have s1' := S1.out
  have K2 := Lib.hid ((hb2.block (w.heap.size + 2) (by omega)).trans ((z1.block (w.heap.size + 2) (by omega)).trans R2.out))
  have hop := walopen_go A2 1 c2 _ _ w2 hD2 (by omega) 0 (fun f hf => by simp only [List.mem_singleton] at hf; subst hf; simp only [flen, List.length_append, List.length_nil]; omega) l _ 1 0 (.inl ⟨0, _, rfl, rfl, by simpa using hWh, rfl, rfl, rfl⟩)
  have Hop := Lib.hid hop
  clear hop
  go_wp2_with fail
  refine Hop.out.mono ?_
  rintro e w3 ⟨A3, c3, B3, e3, rfl, _, hD3, hb3⟩
  have s3 := hb3.size
  have K3 := Lib.hid ((hb3.block (w.heap.size + 2) (by omega)).trans K2.out)
  obtain ⟨W4, hW4, b4, k4, S4, r4⟩ := boxD w w3 #[.slice B3 1 e3] 45 (Below.ext b2 hb3)
  go_upto_region 4 with (refine wpList_store_new rfl 45 _ _ rfl 45 _ #[.slice B3 1 e3] rfl rfl (by kernel_rfl) rfl (by simp [Value.oneCell']) ?_)
  rw [← hW4]
  clear hW4
  have K4 := Lib.hid ((k4.block (w.heap.size + 2) (by omega)).trans K3.out)
  have hD4 := (hD3.mono (S' := fun b => w.heap.size + 3 ≤ b) (fun b _ h => by rcases h with h | h <;> omega)).ext k4
  go_wp2_with (first | (refine wpList_load_row rfl 45 _ rfl _ rfl 45 _ (0,0) _ r4.out Try.underlying45 rfl (by kernel_rfl) ?_) | (refine wpList_store_row rfl 70 _ _ rfl (w.heap.size + 2) 70 _ _ rfl rfl K4.out (by kernel_rfl) rfl (by simp [Value.oneCell']) ?_))
  refine bodyPost_ret (results_ct rfl rfl (run_ld_block (setRow_heap _ _ _ _ _ _ K4.out) Try.underlying70 rfl (by kernel_rfl))) rfl ?_
  refine ⟨B3, e3, rfl, ⟨?_, Recs.nil_ _ _, whole_in hWh, (by simp), (by simp), by simp [frL_nil]; omega, hk⟩, Below.setRow b4 (by omega) _⟩
  exact (hD4.keep (fun b hb h => setRow_other _ _ _ _ (by omega))).mono (fun b _ h => by omega)

set_option maxHeartbeats 4000000 in
theorem refcrash30_any (A : Option Addr) (c : Nat) (B : Option Addr) (m d : Nat) (a b u : List Dt) (K : Nat) (S : Nat → Prop) (w : World) (hJ : Jrn S w A c B m d a b u K) (keep : Int) (L : Option Addr) (nl cl : Nat) (lost : List Int) (Sl : Nat → Prop) (hL : Recs encZ Sl w (.slice L nl cl) lost) (hnl : nl ≤ 1000) (l : List Dt) (hWh : WholeR (frL a ++ tornL (frL b) keep lost) l) :
    Calls Try.prog 82 #[.agg #[.slice A 1 c, .slice B m d], .agg #[.int .i64 keep, .slice L nl cl]] w fun e w' => ∃ A' c', e = .returned (.tuple #[.agg #[.slice A' 1 c', .slice none 0 0], .int .i64 0]) ∧ Jrn (fun b => w.heap.size ≤ b) w' A' c' none 0 0 l [] [] K ∧ Below w.heap.size w w' := by
  have hz := hJ.siz
  have hk := hJ.kle
  have hll := Lib.hid hL.len.1
  obtain ⟨W, hW, hbW, SW, R0, R1, R2⟩ := jboxes3 w (.slice A 1 c) (.slice B m d) (.int .i64 keep) (.slice L nl cl)
  have hD0 := hJ.dsk.ext hbW
  have hL0 := hL.ext hbW
  obtain ⟨W1, hW1, z1, s1, r1⟩ := newD W #[.int .i64 keep, .slice L nl cl] 57
  have hT := lit_tear1 W keep L nl cl lost _ hL0
  rw [← hW1] at hT
  have S1 := Lib.hid s1
  have hcr := refcrash_any A 1 c _ _ W1 (hD0.ext z1) (by omega) _ 1 1 [⟨keep, lost⟩] _ hT (fun f hf => by simp only [List.mem_singleton] at hf; subst hf; show (frL a).length + (frL b).length ≤ 3000000; omega) (fun t ht => by simp only [List.mem_singleton] at ht; subst ht; show lost.length ≤ 3000000; rw [hll.out]; omega)
  rw [crash_file] at hcr
  have Hcr := Lib.hid hcr
  have htl := tornL_le (frL b) keep lost
  have hwl := whole_len hWh
  rw [List.length_append] at hwl
  clear hcr s1 r1
  go_enter Try.func82, Try.ntmps82
  go_upto_region 1 with fail
  rw [← hW]
  clear hW
  go_wp2_with (first | (refine wpList_ldv (t := 45) (A := ⟨w.heap.size, 0, none⟩) rfl rfl rfl (ld_jd R0.out) ?_) | (refine wpList_load_row rfl 57 _ rfl _ rfl 57 _ (0,0) _ R1.out Try.underlying57 rfl (by kernel_rfl) ?_))
  rw [← hW1]
  clear hW1
  refine Hcr.out.mono ?_
  rintro e w2 ⟨A2, c2, rfl, hD2, hb2⟩
  have b2 := Below.ext hbW (Below.ext z1 hb2)
  have s2 := hb2.size
  have sW := SW.out
  have s1' := S1.out
  have K2 := Lib.hid ((hb2.block (w.heap.size + 2) (by omega)).trans ((z1.block (w.heap.size + 2) (by omega)).trans R2.out))
  obtain ⟨W3, hW3, b3, k3, S3, r3⟩ := boxD w w2 #[.slice A2 1 c2] 45 b2
  go_upto_region 2 with (refine wpList_store_new rfl 45 _ _ rfl 45 _ #[.slice A2 1 c2] rfl rfl (by kernel_rfl) rfl (by simp [Value.oneCell']) ?_)
  rw [← hW3]
  clear hW3
  have s3 := k3.size
  have hop := refopen_go A2 1 c2 _ _ W3 ((hD2.mono (S' := fun b => w.heap.size + 3 ≤ b ∧ b < w2.heap.size) (fun b hb h => ⟨by omega, hb⟩)).ext k3) (by omega) 0 (fun f hf => by simp only [List.mem_singleton] at hf; subst hf; simp only [flen, List.length_append, List.length_nil]; omega) l _ 1 0 (.inl ⟨0, _, rfl, rfl, by simpa using hWh, rfl, rfl, rfl⟩)
  have Hop := Lib.hid hop
  clear hop
  go_wp2_with (refine wpList_load_row rfl 45 _ rfl _ rfl 45 _ (0,0) _ r3.out Try.underlying45 rfl (by kernel_rfl) ?_)
  refine Hop.out.mono ?_
  rintro e w4 ⟨A3, c3, B3, e3, rfl, _, hD3, hb3⟩
  have sb := S3.out
  have k34 := hb3.size
  have K3 := Lib.hid ((hb3.block (w.heap.size + 2) (by omega)).trans ((k3.block (w.heap.size + 2) (by omega)).trans K2.out))
  have q3 := Lib.hid ((hb3.block w2.heap.size (by omega)).trans r3.out)
  obtain ⟨bq, hbq⟩ : ∃ bq, bq = w2.heap.size := ⟨_, rfl⟩
  rw [← hbq] at q3 ⊢
  have hbq1 : w2.heap.size ≤ bq := by omega
  have hbq2 : bq < W3.heap.size := by omega
  obtain ⟨W4, hW4⟩ : ∃ W4, W4 = w4.setRow bq #[.slice B3 1 e3] := ⟨_, rfl⟩
  have g4 : w4.grownBy W4 (some bq) := by rw [hW4]; exact grown_setRow _ _ _
  have b4 : Below w.heap.size w W4 := by rw [hW4]; exact Below.setRow (Below.ext b3 hb3) (by omega) _
  have r4 := Lib.hid (show W4.heap[bq]? = some (.cells #[.slice B3 1 e3] 45 (0, 0)) by rw [hW4]; exact setRow_heap _ _ _ _ _ _ q3.out)
  have K4 := Lib.hid ((g4.block (w.heap.size + 2) (by omega) (by simp; omega)).trans K3.out)
  have hD4 := ((hD3.mono (S' := fun b => w.heap.size + 3 ≤ b ∧ b ≠ bq) (fun b _ h => by rcases h with h | h; exact ⟨h.1, by omega⟩; exact ⟨by omega, by omega⟩)).keep (fun b hb h => g4.block b hb (by simpa using h.2))).mono (S' := fun b => w.heap.size + 3 ≤ b) (fun b _ h => h.1)
  clear hbq
  go_upto_region 5 with (refine wpList_store_row rfl 45 _ _ rfl bq 45 _ _ rfl rfl q3.out (by kernel_rfl) rfl (by simp [Value.oneCell']) ?_)
  rw [← hW4]
  clear hW4
  go_wp2_with (first | (refine wpList_load_row rfl 45 _ rfl _ rfl 45 _ (0,0) _ r4.out Try.underlying45 rfl (by kernel_rfl) ?_) | (refine wpList_store_row rfl 70 _ _ rfl (w.heap.size + 2) 70 _ _ rfl rfl K4.out (by kernel_rfl) rfl (by simp [Value.oneCell']) ?_))
  refine bodyPost_ret (results_ct rfl rfl (run_ld_block (setRow_heap _ _ _ _ _ _ K4.out) Try.underlying70 rfl (by kernel_rfl))) rfl ?_
  refine ⟨B3, e3, rfl, ⟨?_, Recs.nil_ _ _, whole_in hWh, (by simp), (by simp), by simp [frL_nil]; omega, hk⟩, Below.setRow b4 (by omega) _⟩
  exact (hD4.keep (fun b hb h => setRow_other _ _ _ _ (by omega))).mono (fun b _ h => by omega)
end Go.Proofs.Ytjcfnpmgklliiaa
