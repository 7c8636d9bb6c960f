/-
  The changes of the messages in flight: Add, Take, Drop, Duplicate and the reference's.
-/
import Derived.Test.YtfnafdncbbjolaaChange
import Derived.Test.YtfnafdncbbjolaaRes
namespace Go.Proofs.Ytfnafdncbbjolaa
open Go.RowKit
set_option maxRecDepth 100000
set_option linter.unusedVariables false

set_option maxHeartbeats 1000000 in
theorem add_ok (A1 A2 : Option Addr) (n1 c1 n2 c2 : Nat) (l1 l2 : List Msg) (S1 S2 : Nat → Prop) (w : World) (r1 : Recs encM S1 w (.slice A1 n1 c1) l1) (r2 : Recs encM S2 w (.slice A2 n2 c2) l2) (hn : n1 + n2 ≤ 256) :
    Calls Try.prog 18 #[.slice A1 n1 c1, .slice A2 n2 c2] w fun e w' => ∃ A c, e = .returned (.tuple #[.slice A (n1 + n2) c, .int .i64 0]) ∧ OwnR encM 9 w' w.heap.size 32 (.slice A (n1 + n2) c) (l1 ++ l2) ∧ Below w.heap.size w w' := by
  have d1 : decide (256 < n1 + n2) = false := by simp; omega
  go_enter Try.func18, Try.ntmps18
  go_wp2_with fail
  have hba : Below w.heap.size w (w.alloc (.cells #[.slice A1 n1 c1, .slice A2 n2 c2] 26)) := (Below.refl _ w).alloc (Nat.le_refl _) _
  refine (concatM w.heap.size A1 A2 n1 c1 n2 c2 l1 l2 S1 S2 _ (by go_simp) (by go_simp) (r1.ext hba) (r2.ext hba) (by omega)).mono ?_
  rintro e w1 ⟨A, c, rfl, hown, hb1⟩
  go_wp2
  go_ret2
  exact ⟨A, c, rfl, hown.weak (by simp), Below.ext hba hb1⟩

set_option maxHeartbeats 1000000 in
theorem add_no (A1 A2 : Option Addr) (n1 c1 n2 c2 : Nat) (w : World) (hn : 256 < n1 + n2) (hn1 : n1 ≤ 100000) (hn2 : n2 ≤ 100000) :
    Calls Try.prog 18 #[.slice A1 n1 c1, .slice A2 n2 c2] w fun e w' => e = .returned (.tuple #[.slice none 0 0, .int .i64 4]) ∧ w = w' := by
  have d1 : decide (256 < n1 + n2) = true := by simpa using hn
  go_enter Try.func18, Try.ntmps18
  go_wp2
  go_ret2
  exact ⟨rfl, rfl⟩

set_option maxHeartbeats 2000000 in
theorem take_ok (A : Option Addr) (n c : Nat) (ms : List Msg) (S : Nat → Prop) (w : World) (hv : Recs encM S w (.slice A n c) ms) (hlen : n ≤ 1000) (k : Nat) (m : Msg) (hk : ms[k]? = some m) :
    Calls Try.prog 23 #[.slice A n c, .int .i64 (k : Int)] w fun e w' => ∃ A' c', e = .returned (.tuple #[aggM m, .slice A' (n - 1) c', .int .i64 0]) ∧ OwnR encM 9 w' w.heap.size 32 (.slice A' (n - 1) c') (ms.take k ++ ms.drop (k + 1)) ∧ Below w.heap.size w w' := by
  obtain ⟨hl1, hl2, hl3⟩ := hv.len
  have hlt : k < n := by have := (List.getElem?_eq_some_iff.1 hk).1; omega
  have d0 : decide ((k : Int) < 0) = false := by simp
  have d1 : decide (n ≤ k) = false := by simpa using hlt
  have hba : ∀ o, Below w.heap.size w (w.alloc o) := fun o => (Below.refl _ w).alloc (Nat.le_refl _) o
  have ht := hv.take_ encM_len (j := k) (by omega)
  have hd := hv.drop_ encM_len (j := k + 1) (by omega) (q := c = k + 1) (by omega)
  obtain ⟨b, off, rfl, hb, hld⟩ := run_ldM hv hk
  have Hld := Lib.hid hld
  have Hl1 := Lib.hid hl1
  clear hk hl1 hld
  simp only [Option.map_some, Addr.add_mid] at hd
  go_enter Try.func23, Try.ntmps23
  go_wp2_with fail
  refine wp_region_lexL (Below w.heap.size w) (by kernel_rfl) (by kernel_rfl) ((hba _).drew) ?_
  repeat (first | (refine lexL_q0 rfl ?_; go_big_quiet_step (fail); refine wpQuiet_nil ?_) | (refine lexL_skip0 rfl rfl ?_; simp only [Act.put, List.setIfInBounds_toArray, List.set_cons_succ, List.set_cons_zero]))
  refine lexL_ld (⟨b, off + k * 9, none⟩) (aggM m) rfl rfl rfl (Hld.out) ?_
  simp only [Act.put, List.setIfInBounds_toArray, List.set_cons_succ, List.set_cons_zero]
  repeat (first | (refine lexL_q0 rfl ?_; go_big_quiet_step (fail); refine wpQuiet_nil ?_) | (refine lexL_skip0 rfl rfl ?_; simp only [Act.put, List.setIfInBounds_toArray, List.set_cons_succ, List.set_cons_zero]))
  generalize (if c = k + 1 then (some ⟨b, off, none⟩ : Option Addr) else some ⟨b, off + (k + 1) * 9, none⟩) = A2 at hd ⊢
  have hz0 : (w.alloc (.cells #[.int .i64 0, .int .i64 0, .int .i64 0, .int .i64 0, .int .i64 0, .int .i64 0, .int .i64 0, .slice none 0 0, .slice none 0 0] 32)).drew.heap[w.heap.size]? = some (.cells #[.int .i64 0, .int .i64 0, .int .i64 0, .int .i64 0, .int .i64 0, .int .i64 0, .int .i64 0, .slice none 0 0, .slice none 0 0] 32 (0, 0)) := heap_alloc_new w _
  have hW0 : Below w.heap.size w (w.alloc (.cells #[.int .i64 0, .int .i64 0, .int .i64 0, .int .i64 0, .int .i64 0, .int .i64 0, .int .i64 0, .slice none 0 0, .slice none 0 0] 32)).drew := (hba _).drew
  generalize (w.alloc (.cells #[.int .i64 0, .int .i64 0, .int .i64 0, .int .i64 0, .int .i64 0, .int .i64 0, .int .i64 0, .slice none 0 0, .slice none 0 0] 32)).drew = W at *
  have hWlt : w.heap.size < W.heap.size := (Array.getElem?_eq_some_iff.1 hz0).1
  have hW1 : Below W.heap.size W (W.alloc (.cells #[.slice (some ⟨b, off, none⟩) k c, .slice A2 (n - (k + 1)) (c - (k + 1))] 26)) := (Below.refl _ _).alloc (Nat.le_refl _) _
  refine lexL_e rfl ?_
  go_wp2_with fail
  refine lexL_go (Below.ext hW0 hW1) ?_
  repeat (first | (refine lexL_q0 rfl ?_; go_big_quiet_step (fail); refine wpQuiet_nil ?_) | (refine lexL_skip0 rfl rfl ?_; simp only [Act.put, List.setIfInBounds_toArray, List.set_cons_succ, List.set_cons_zero]))
  refine lexL_e rfl ?_
  go_wp2_with fail
  refine (concatM W.heap.size (some ⟨b, off, none⟩) A2 k c (n - (k + 1)) (c - (k + 1)) _ _ S S _ (by go_simp) (by go_simp) ((ht.ext hW0).ext hW1) ((hd.ext hW0).ext hW1) (by omega)).mono ?_
  rintro e w1 ⟨A', c', rfl, hown, hb1⟩
  have hb1' := Below.ext hW1 hb1
  have hz1 := (hb1'.block _ hWlt).trans hz0
  clear hz0
  go_wp2_with fail
  refine lexL_go (Below.ext hW0 hb1') ?_
  repeat (first | (refine lexL_q0 rfl ?_; go_big_quiet_step (fail); refine wpQuiet_nil ?_) | (refine lexL_skip0 rfl rfl ?_; simp only [Act.put, List.setIfInBounds_toArray, List.set_cons_succ, List.set_cons_zero]))
  refine lexL_e rfl ?_
  unfold aggM
  refine wpList_store_row rfl _ _ _ rfl w.heap.size 32 _ _ rfl rfl hz1 (by kernel_rfl) rfl (by simp [Value.oneCell']) ?_
  refine lexL_go (Below.setRow (Below.ext hW0 hb1') (Nat.le_refl _) _) ?_
  simp only [Act.put]
  repeat (first | (refine lexL_q0 rfl ?_; go_big_quiet_step (fail); refine wpQuiet_nil ?_) | (refine lexL_skip0 rfl rfl ?_; simp only [Act.put, List.setIfInBounds_toArray, List.set_cons_succ, List.set_cons_zero]))
  refine lexL_nil ?_
  go_wp2_with fail
  have hlz := run_ld_block (P := Try.prog) (t := 32) (setRow_heap _ _ _ #[.int .i64 m.f, .int .i64 m.t, .int .i64 m.i, .int .i64 m.x, .int .i64 m.o, .int .i64 m.v, .int .i64 0, .slice none 0 0, .slice none 0 0] _ _ hz1) Try.underlying32 rfl (by kernel_rfl)
  go_wp2
  refine bodyPost_ret (results_ctt rfl rfl hlz) rfl ?_
  refine ⟨A', c', by rw [show n - 1 = k + (n - (k + 1)) by omega]; rfl, ?_, Below.setRow (Below.ext hW0 hb1') (Nat.le_refl _) _⟩
  rw [show n - 1 = k + (n - (k + 1)) by omega]
  refine (hown.weak (base' := w.heap.size) (by simp; omega)).kept (row := some w.heap.size) ⟨rfl, rfl, rfl, by simp, fun j hj hne => setRow_other _ _ _ _ (by simpa using hne)⟩ (.inr (fun e => ?_))
  have := (World.ownsRow.lt hown _ e).1
  simp at this
  omega
end Go.Proofs.Ytfnafdncbbjolaa
