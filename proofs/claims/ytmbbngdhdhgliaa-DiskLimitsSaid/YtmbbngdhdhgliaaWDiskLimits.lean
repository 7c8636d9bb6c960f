/-
  The walk of the law DiskLimits: it returns true and writes nothing that was there. Conditions: what the row says of its arguments.
-/
import Derived.Test.YtmbbngdhdhgliaaDiskLaw
import Derived.Test.YtmbbngdhdhgliaaLexThree
import Derived.WalkKit
import Derived.ProofKit
import Derived.OpenShut
import Derived.ShutString
import Derived.Below
namespace Go.Proofs.Ytmbbngdhdhgliaa.diskLimits
open Go.ChangeShapes Go.WideShapes Go.ChangeAt Go.RowKit
open Go.ChangeMaps (open_string shut_string)
set_option linter.unusedVariables false      -- a walk need not use every 'w<i>' (that an integer argument fits its kind)
set_option linter.unusedVariables false
set_option maxRecDepth 100000

set_option maxHeartbeats 4000000 in
theorem walk (a0 : Int) (a1 : Int) (w0 : (Lit.int .u8 a0).wf = true) (w1 : (Lit.int .u8 a1).wf = true) (w : World) :
    Calls Try.prog 6 #[.int .u8 a0, .int .u8 a1] w fun e w' => e = .returned (.bool true) ∧ Below w.heap.size w w' := by
  have hn := wf_u8 w0
  have hm := wf_u8 w1
  obtain ⟨n, rfl⟩ := Int.eq_ofNat_of_zero_le hn.1
  obtain ⟨m, rfl⟩ := Int.eq_ofNat_of_zero_le hm.1
  have hn' : n < 256 := by omega
  have hm' : m < 256 := by omega
  clear w0 w1 hn hm
  go_enter Try.func6, Try.ntmps6
  go_wp2_with fail
  refine (awake_any _).mono ?_
  rintro e w1 ⟨rfl, hb1⟩
  have hnew := new_ok 1 (by omega) w1
  rw [show ((1 : Nat) : Int) = 1 from rfl] at hnew
  have Hnew := Lib.hid hnew
  clear hnew
  go_wp2_with fail
  refine (Hnew.out).mono ?_
  rintro e w2 ⟨A2, c2, rfl, hD2, hb2⟩
  have hmk : ∀ W : World, (Instr.makeSlice 30 (.int .i64 (65536 - (n : Int))) (.int .i64 (65536 - (n : Int)))).run Try.prog W = .ok (.slice (some ⟨W.heap.size, 0, none⟩) (65536 - n) (65536 - n)) (W.alloc (.cells (madeCells (encB 0).toArray (65536 - n)) 5)) := fun W => by
    have := mkBn (65536 - n) (by omega) W
    rw [show ((65536 - n : Nat) : Int) = 65536 - (n : Int) by omega] at this
    exact this
  obtain ⟨W, hW⟩ : ∃ W, W = w2.alloc (.cells #[.slice A2 1 c2] 24) := ⟨_, rfl⟩
  have hbW : Below w2.heap.size w2 W := by rw [hW]; exact (Below.refl _ _).alloc (Nat.le_refl _) _
  have hrD : W.heap[w2.heap.size]? = some (.cells #[.slice A2 1 c2] 24 (0, 0)) := by rw [hW]; exact heap_alloc_new _ _
  have hsW : W.heap.size = w2.heap.size + 1 := by rw [hW]; simp
  have b2 := Below.ext hb1 hb2
  have hww := b2.size
  have hownA := mkOwnBn (65536 - n) (by omega) W
  have hbA : Below W.heap.size W (W.alloc (.cells (madeCells (encB 0).toArray (65536 - n)) 5)) := (Below.refl _ _).alloc (Nat.le_refl _) _
  rw [hsW] at hownA
  go_wp2_with fail
  clear hmk
  rw [← hW]
  obtain ⟨W1, hW1⟩ : ∃ W1, W1 = W.alloc (.cells (madeCells (encB 0).toArray (65536 - n)) 5) := ⟨_, rfl⟩
  rw [← hW1] at hownA hbA
  rw [← hW1]
  clear hW hW1
  have bWA := Below.ext hbW hbA
  have bA := Below.ext b2 bWA
  have hrD1 := (hbA.block _ (by omega)).trans hrD
  have hltD : w2.heap.size < W1.heap.size := (Array.getElem?_eq_some_iff.1 hrD1).1
  have hD3 : Dsk (· ≠ w2.heap.size) W1 (.slice A2 1 c2) [zFil] := ((hD2.mono (S' := (· < w2.heap.size)) (fun _ h _ => h)).ext bWA).mono (fun _ _ h => by omega)
  have hap := append_ok A2 1 c2 [zFil] _ W1 hD3 (by omega) 0 zFil rfl _ (65536 - n) (65536 - n) _ (hownA.recs.mono (fun _ _ h => by have := h.1; omega)) (by show 0 + 0 + (65536 - n) ≤ _; omega)
  rw [show ((0 : Nat) : Int) = 0 from rfl] at hap
  refine hap.mono ?_
  rintro e w3 ⟨A3, c3, rfl, hD3, hb3⟩
  clear hap
  have hr3 := (hb3.block _ hltD).trans hrD1
  have Hr3 := Lib.hid hr3
  clear hr3 hrD hrD1 hsW
  obtain ⟨W4, hW4⟩ : ∃ W4, W4 = w3.setRow w2.heap.size #[.slice A3 1 c3] := ⟨_, rfl⟩
  have hr4 : W4.heap[w2.heap.size]? = some (.cells #[.slice A3 1 c3] 24 (0, 0)) := by rw [hW4]; exact setRow_heap _ _ _ _ _ _ Hr3.out
  have b4 : Below w.heap.size w W4 := by rw [hW4]; exact Below.setRow (Below.ext bA hb3) hww _
  have hD4 : Dsk (· ≠ w2.heap.size) W4 (.slice A3 1 c3) [⟨[], [] ++ List.replicate (65536 - n) 0⟩] := by
    rw [hW4]
    exact (hD3.mono (S' := (· ≠ w2.heap.size)) (fun b _ h => by rcases h with h | h; exact h; omega)).keep (Keep.of_grown (grown_setRow _ _ _))
  have hlt4 : w2.heap.size < W4.heap.size := (Array.getElem?_eq_some_iff.1 hr4).1
  go_wp2_with (refine wpList_store_row rfl 24 _ _ rfl w2.heap.size 24 _ _ rfl rfl Hr3.out (by kernel_rfl) rfl (by simp [Value.oneCell']) ?_)
  rw [← hW4]
  have HR4 := Lib.hid hr4
  clear hW4 hr4
  have hmk8 : ∀ W : World, (Instr.makeSlice 30 (.int .u8 (m : Int)) (.int .u8 (m : Int))).run Try.prog W = .ok (.slice (some ⟨W.heap.size, 0, none⟩) m m) (W.alloc (.cells (madeCells (encB 0).toArray m) 5)) := mkB8 m hm'
  have hmk9 : ∀ W : World, (Instr.makeSlice 30 (.int .i64 (65536 + (m : Int))) (.int .i64 (65536 + (m : Int)))).run Try.prog W = .ok (.slice (some ⟨W.heap.size, 0, none⟩) (65536 + m) (65536 + m)) (W.alloc (.cells (madeCells (encB 0).toArray (65536 + m)) 5)) := fun W => mkBn (65536 + m) (by omega) W
  by_cases hmn : n < m
  · have dmn : decide (n < m) = true := by simpa using hmn
    have d0 : ((m : Int) == 0) = false := by simp; omega
    go_wp2_with fail
    refine wp_region_three (Below W4.heap.size W4) [0, 1, 7, 2, 3, 4, 5, 6, 8, 9] [0, 1, 2, 7, 3, 4, 5, 6, 8, 9] [0, 1, 2, 3, 4, 5, 6, 7, 8, 9] 7 2 3 (by kernel_rfl) (by kernel_rfl) (by kernel_rfl) (by kernel_rfl) (by kernel_rfl) (by decide) (by decide) (by decide) ((Below.refl _ _).drew) ?_ ?_ ?_
    all_goals simp only [opsOf, List.filterMap_cons, List.filterMap_nil, List.getElem?_cons_zero, List.getElem?_cons_succ]
    · repeat (first | (refine lexL_q0 rfl ?_; go_big_quiet_step (fail); refine wpQuiet_nil ?_) | (refine lexL_skip0 rfl rfl ?_; simp only [Act.put, List.setIfInBounds_toArray, List.set_cons_succ, List.set_cons_zero]))
      refine lexL_ld (⟨w2.heap.size, 0, none⟩) (.agg #[.slice A3 1 c3]) rfl rfl rfl (fun w' hS => run_ld_block ((hS.block _ hlt4).trans HR4.out) Try.underlying24 rfl (by kernel_rfl)) ?_
      simp only [Act.put, List.setIfInBounds_toArray, List.set_cons_succ, List.set_cons_zero]
      repeat (first | (refine lexL_q0 rfl ?_; go_big_quiet_step (fail); refine wpQuiet_nil ?_) | (refine lexL_skip0 rfl rfl ?_; simp only [Act.put, List.setIfInBounds_toArray, List.set_cons_succ, List.set_cons_zero]))
      have va : Below W4.heap.size W4 (W4.alloc (.cells #[.slice none 0 0] 24)).drew := ((Below.refl _ _).alloc (Nat.le_refl _) _).drew
      refine lexL_e rfl ?_
      go_wp2_with fail
      refine lexL_go va ?_
      repeat (first | (refine lexL_q0 rfl ?_; go_big_quiet_step (fail); refine wpQuiet_nil ?_) | (refine lexL_skip0 rfl rfl ?_; simp only [Act.put, List.setIfInBounds_toArray, List.set_cons_succ, List.set_cons_zero]))
      have vb : Below W4.heap.size W4 ((W4.alloc (.cells #[.slice none 0 0] 24)).alloc (.cells (madeCells (encB 0).toArray m) 5)).drew := (((Below.refl _ _).alloc (Nat.le_refl _) _).alloc (by simp) _).drew
      have hownM := (mkOwnBn (m) (by omega) (W4.alloc (.cells #[.slice none 0 0] 24))).ext (w' := ((W4.alloc (.cells #[.slice none 0 0] 24)).alloc (.cells (madeCells (encB 0).toArray m) 5)).drew) (Below.refl _ _).drew
      have rowX : ((W4.alloc (.cells #[.slice none 0 0] 24)).alloc (.cells (madeCells (encB 0).toArray m) 5)).drew.heap[W4.heap.size]? = some (.cells #[.slice none 0 0] 24 (0, 0)) := (((Below.refl _ _).alloc (Nat.le_refl _) _).block W4.heap.size (by simp)).trans (heap_alloc_new W4 _)
      rw [World.size_alloc] at hownM
      refine lexL_e rfl ?_
      go_wp2_with fail
      refine lexL_go vb ?_
      repeat (first | (refine lexL_q0 rfl ?_; go_big_quiet_step (fail); refine wpQuiet_nil ?_) | (refine lexL_skip0 rfl rfl ?_; simp only [Act.put, List.setIfInBounds_toArray, List.set_cons_succ, List.set_cons_zero]))
      refine lexL_e rfl ?_
      go_wp2_with fail
      have hszV : ((W4.alloc (.cells #[.slice none 0 0] 24)).alloc (.cells (madeCells (encB 0).toArray m) 5)).drew.heap.size = W4.heap.size + 2 := by show ((W4.alloc (.cells #[.slice none 0 0] 24)).alloc (.cells (madeCells (encB 0).toArray m) 5)).heap.size = _; rw [World.size_alloc, World.size_alloc]
      generalize ((W4.alloc (.cells #[.slice none 0 0] 24)).alloc (.cells (madeCells (encB 0).toArray m) 5)).drew = V at *
      have hap := append_long A3 1 c3 _ _ V (hD4.ext vb) (by omega) 0 _ rfl (some ⟨W4.heap.size + 1, 0, none⟩) m m (by show _ < 0 + ([] ++ List.replicate (65536 - n) (0 : UInt8)).length + m; simp; omega) (by show 0 + ([] ++ List.replicate (65536 - n) (0 : UInt8)).length + m ≤ _; simp; omega)
      rw [show ((0 : Nat) : Int) = 0 from rfl] at hap
      refine hap.mono ?_
      rintro e w6 ⟨rfl, hb6⟩
      clear hap
      have b46 := Below.ext vb hb6
      go_wp2_with fail
      refine lexL_go (b46) ?_
      repeat (first | (refine lexL_q0 rfl ?_; go_big_quiet_step (fail); refine wpQuiet_nil ?_) | (refine lexL_skip0 rfl rfl ?_; simp only [Act.put, List.setIfInBounds_toArray, List.set_cons_succ, List.set_cons_zero]))
      have rowX6 := (hb6.block (W4.heap.size) (by omega)).trans rowX
      refine lexL_e rfl ?_
      refine wpList_store_row rfl 24 _ _ rfl (W4.heap.size) 24 _ _ rfl rfl rowX6 (by kernel_rfl) rfl (by simp [Value.oneCell']) ?_
      have b47 : Below W4.heap.size W4 (w6.setRow (W4.heap.size) #[.slice none 0 0]) := Below.setRow b46 (by omega) _
      refine lexL_go b47 ?_
      simp only [Act.put]
      repeat (first | (refine lexL_q0 rfl ?_; go_big_quiet_step (fail); refine wpQuiet_nil ?_) | (refine lexL_skip0 rfl rfl ?_; simp only [Act.put, List.setIfInBounds_toArray, List.set_cons_succ, List.set_cons_zero]))
      have hr7 := setRow_heap _ _ _ #[.slice none 0 0] _ _ rowX6
      generalize w6.setRow (W4.heap.size) #[.slice none 0 0] = W7 at *
      have HR7 := Lib.hid hr7
      have hlt7 : W4.heap.size < W7.heap.size := (Array.getElem?_eq_some_iff.1 hr7).1
      clear hr7
      refine lexL_nil ?_
      go_wp2_with fail
      refine wp_region_three (Below W7.heap.size W7) [0, 1, 2, 3, 9, 4, 5, 6, 7, 8, 10, 11] [0, 1, 2, 3, 4, 9, 5, 6, 7, 8, 10, 11] [0, 1, 2, 3, 4, 5, 6, 7, 8, 9, 10, 11] 9 4 5 (by kernel_rfl) (by kernel_rfl) (by kernel_rfl) (by kernel_rfl) (by kernel_rfl) (by decide) (by decide) (by decide) ((Below.refl _ _).drew) ?_ ?_ ?_
      all_goals simp only [opsOf, List.filterMap_cons, List.filterMap_nil, List.getElem?_cons_zero, List.getElem?_cons_succ]
      · repeat (first | (refine lexL_q0 rfl ?_; go_big_quiet_step (fail); refine wpQuiet_nil ?_) | (refine lexL_skip0 rfl rfl ?_; simp only [Act.put, List.setIfInBounds_toArray, List.set_cons_succ, List.set_cons_zero]))
        refine lexL_ld (⟨w2.heap.size, 0, none⟩) (.agg #[.slice A3 1 c3]) rfl rfl rfl (fun w' hS => run_ld_block (((hS.block _ (Nat.lt_of_lt_of_le hlt4 b47.size)).trans (b47.block _ hlt4)).trans HR4.out) Try.underlying24 rfl (by kernel_rfl)) ?_
        simp only [Act.put, List.setIfInBounds_toArray, List.set_cons_succ, List.set_cons_zero]
        repeat (first | (refine lexL_q0 rfl ?_; go_big_quiet_step (fail); refine wpQuiet_nil ?_) | (refine lexL_skip0 rfl rfl ?_; simp only [Act.put, List.setIfInBounds_toArray, List.set_cons_succ, List.set_cons_zero]))
        have vaq : Below W7.heap.size W7 (W7.alloc (.cells #[.slice none 0 0] 24)).drew := ((Below.refl _ _).alloc (Nat.le_refl _) _).drew
        refine lexL_e rfl ?_
        go_wp2_with fail
        refine lexL_go vaq ?_
        repeat (first | (refine lexL_q0 rfl ?_; go_big_quiet_step (fail); refine wpQuiet_nil ?_) | (refine lexL_skip0 rfl rfl ?_; simp only [Act.put, List.setIfInBounds_toArray, List.set_cons_succ, List.set_cons_zero]))
        have vbq : Below W7.heap.size W7 ((W7.alloc (.cells #[.slice none 0 0] 24)).alloc (.cells (madeCells (encB 0).toArray (65536 + m)) 5)).drew := (((Below.refl _ _).alloc (Nat.le_refl _) _).alloc (by simp) _).drew
        have hownMq := (mkOwnBn ((65536 + m)) (by omega) (W7.alloc (.cells #[.slice none 0 0] 24))).ext (w' := ((W7.alloc (.cells #[.slice none 0 0] 24)).alloc (.cells (madeCells (encB 0).toArray (65536 + m)) 5)).drew) (Below.refl _ _).drew
        have rowXq : ((W7.alloc (.cells #[.slice none 0 0] 24)).alloc (.cells (madeCells (encB 0).toArray (65536 + m)) 5)).drew.heap[W7.heap.size]? = some (.cells #[.slice none 0 0] 24 (0, 0)) := (((Below.refl _ _).alloc (Nat.le_refl _) _).block W7.heap.size (by simp)).trans (heap_alloc_new W7 _)
        rw [World.size_alloc] at hownMq
        refine lexL_e rfl ?_
        go_wp2_with fail
        refine lexL_go vbq ?_
        repeat (first | (refine lexL_q0 rfl ?_; go_big_quiet_step (fail); refine wpQuiet_nil ?_) | (refine lexL_skip0 rfl rfl ?_; simp only [Act.put, List.setIfInBounds_toArray, List.set_cons_succ, List.set_cons_zero]))
        refine lexL_e rfl ?_
        go_wp2_with fail
        have hszVq : ((W7.alloc (.cells #[.slice none 0 0] 24)).alloc (.cells (madeCells (encB 0).toArray (65536 + m)) 5)).drew.heap.size = W7.heap.size + 2 := by show ((W7.alloc (.cells #[.slice none 0 0] 24)).alloc (.cells (madeCells (encB 0).toArray (65536 + m)) 5)).heap.size = _; rw [World.size_alloc, World.size_alloc]
        generalize ((W7.alloc (.cells #[.slice none 0 0] 24)).alloc (.cells (madeCells (encB 0).toArray (65536 + m)) 5)).drew = Vq at *
        have hre := replace_long A3 1 c3 Vq (by omega) 0 (by omega) (some ⟨W7.heap.size + 1, 0, none⟩) (65536 + m) (65536 + m) (by omega) (by omega)
        rw [show ((0 : Nat) : Int) = 0 from rfl] at hre
        refine hre.mono ?_
        rintro e w6q ⟨rfl, hb6q⟩
        clear hre
        have b46q := Below.ext vbq hb6q
        go_wp2_with fail
        refine lexL_go (b46q) ?_
        repeat (first | (refine lexL_q0 rfl ?_; go_big_quiet_step (fail); refine wpQuiet_nil ?_) | (refine lexL_skip0 rfl rfl ?_; simp only [Act.put, List.setIfInBounds_toArray, List.set_cons_succ, List.set_cons_zero]))
        have rowX6q := (hb6q.block (W7.heap.size) (by omega)).trans rowXq
        refine lexL_e rfl ?_
        refine wpList_store_row rfl 24 _ _ rfl (W7.heap.size) 24 _ _ rfl rfl rowX6q (by kernel_rfl) rfl (by simp [Value.oneCell']) ?_
        have b47q : Below W7.heap.size W7 (w6q.setRow (W7.heap.size) #[.slice none 0 0]) := Below.setRow b46q (by omega) _
        refine lexL_go b47q ?_
        simp only [Act.put]
        repeat (first | (refine lexL_q0 rfl ?_; go_big_quiet_step (fail); refine wpQuiet_nil ?_) | (refine lexL_skip0 rfl rfl ?_; simp only [Act.put, List.setIfInBounds_toArray, List.set_cons_succ, List.set_cons_zero]))
        have hr7q := setRow_heap _ _ _ #[.slice none 0 0] _ _ rowX6q
        generalize w6q.setRow (W7.heap.size) #[.slice none 0 0] = W10 at *
        have HR7q := Lib.hid hr7q
        have hlt7q : W7.heap.size < W10.heap.size := (Array.getElem?_eq_some_iff.1 hr7q).1
        clear hr7q
        have b710 := b47q
        have qX : W10.cell? ⟨W4.heap.size, 0, none⟩ = some (.slice none 0 0) := by rw [cell_of_row _ _ _ _ _ _ ((b710.block _ hlt7).trans HR7.out)]; rfl
        refine lexL_nil ?_
        go_wp2_with fail
        go_wp2
        go_ret
        exact ⟨rfl, Below.ext b4 (Below.ext b47 b710)⟩
      · repeat (first | (refine lexL_q0 rfl ?_; go_big_quiet_step (fail); refine wpQuiet_nil ?_) | (refine lexL_skip0 rfl rfl ?_; simp only [Act.put, List.setIfInBounds_toArray, List.set_cons_succ, List.set_cons_zero]))
        refine lexL_ld (⟨w2.heap.size, 0, none⟩) (.agg #[.slice A3 1 c3]) rfl rfl rfl (fun w' hS => run_ld_block (((hS.block _ (Nat.lt_of_lt_of_le hlt4 b47.size)).trans (b47.block _ hlt4)).trans HR4.out) Try.underlying24 rfl (by kernel_rfl)) ?_
        simp only [Act.put, List.setIfInBounds_toArray, List.set_cons_succ, List.set_cons_zero]
        repeat (first | (refine lexL_q0 rfl ?_; go_big_quiet_step (fail); refine wpQuiet_nil ?_) | (refine lexL_skip0 rfl rfl ?_; simp only [Act.put, List.setIfInBounds_toArray, List.set_cons_succ, List.set_cons_zero]))
        have vaq : Below W7.heap.size W7 (W7.alloc (.cells (madeCells (encB 0).toArray (65536 + m)) 5)).drew := ((Below.refl _ _).alloc (Nat.le_refl _) _).drew
        refine lexL_e rfl ?_
        go_wp2_with fail
        refine lexL_go vaq ?_
        repeat (first | (refine lexL_q0 rfl ?_; go_big_quiet_step (fail); refine wpQuiet_nil ?_) | (refine lexL_skip0 rfl rfl ?_; simp only [Act.put, List.setIfInBounds_toArray, List.set_cons_succ, List.set_cons_zero]))
        have vbq : Below W7.heap.size W7 ((W7.alloc (.cells (madeCells (encB 0).toArray (65536 + m)) 5)).alloc (.cells #[.slice none 0 0] 24)).drew := (((Below.refl _ _).alloc (Nat.le_refl _) _).alloc (by simp) _).drew
        have hownMq := (mkOwnBn ((65536 + m)) (by omega) W7).ext (w' := ((W7.alloc (.cells (madeCells (encB 0).toArray (65536 + m)) 5)).alloc (.cells #[.slice none 0 0] 24)).drew) ((Below.refl _ _).alloc (Nat.le_refl _) _).drew
        have rowXq : ((W7.alloc (.cells (madeCells (encB 0).toArray (65536 + m)) 5)).alloc (.cells #[.slice none 0 0] 24)).drew.heap[W7.heap.size + 1]? = some (.cells #[.slice none 0 0] 24 (0, 0)) := by
          have := heap_alloc_new (W7.alloc (.cells (madeCells (encB 0).toArray (65536 + m)) 5)) (.cells #[.slice none 0 0] 24)
          rw [World.size_alloc] at this
          exact this
        refine lexL_e rfl ?_
        go_wp2_with fail
        refine lexL_go vbq ?_
        repeat (first | (refine lexL_q0 rfl ?_; go_big_quiet_step (fail); refine wpQuiet_nil ?_) | (refine lexL_skip0 rfl rfl ?_; simp only [Act.put, List.setIfInBounds_toArray, List.set_cons_succ, List.set_cons_zero]))
        refine lexL_e rfl ?_
        go_wp2_with fail
        have hszVq : ((W7.alloc (.cells (madeCells (encB 0).toArray (65536 + m)) 5)).alloc (.cells #[.slice none 0 0] 24)).drew.heap.size = W7.heap.size + 2 := by show ((W7.alloc (.cells (madeCells (encB 0).toArray (65536 + m)) 5)).alloc (.cells #[.slice none 0 0] 24)).heap.size = _; rw [World.size_alloc, World.size_alloc]
        generalize ((W7.alloc (.cells (madeCells (encB 0).toArray (65536 + m)) 5)).alloc (.cells #[.slice none 0 0] 24)).drew = Vq at *
        have hre := replace_long A3 1 c3 Vq (by omega) 0 (by omega) (some ⟨W7.heap.size, 0, none⟩) (65536 + m) (65536 + m) (by omega) (by omega)
        rw [show ((0 : Nat) : Int) = 0 from rfl] at hre
        refine hre.mono ?_
        rintro e w6q ⟨rfl, hb6q⟩
        clear hre
        have b46q := Below.ext vbq hb6q
        go_wp2_with fail
        refine lexL_go (b46q) ?_
        repeat (first | (refine lexL_q0 rfl ?_; go_big_quiet_step (fail); refine wpQuiet_nil ?_) | (refine lexL_skip0 rfl rfl ?_; simp only [Act.put, List.setIfInBounds_toArray, List.set_cons_succ, List.set_cons_zero]))
        have rowX6q := (hb6q.block (W7.heap.size + 1) (by omega)).trans rowXq
        refine lexL_e rfl ?_
        refine wpList_store_row rfl 24 _ _ rfl (W7.heap.size + 1) 24 _ _ rfl rfl rowX6q (by kernel_rfl) rfl (by simp [Value.oneCell']) ?_
        have b47q : Below W7.heap.size W7 (w6q.setRow (W7.heap.size + 1) #[.slice none 0 0]) := Below.setRow b46q (by omega) _
        refine lexL_go b47q ?_
        simp only [Act.put]
        repeat (first | (refine lexL_q0 rfl ?_; go_big_quiet_step (fail); refine wpQuiet_nil ?_) | (refine lexL_skip0 rfl rfl ?_; simp only [Act.put, List.setIfInBounds_toArray, List.set_cons_succ, List.set_cons_zero]))
        have hr7q := setRow_heap _ _ _ #[.slice none 0 0] _ _ rowX6q
        generalize w6q.setRow (W7.heap.size + 1) #[.slice none 0 0] = W10 at *
        have HR7q := Lib.hid hr7q
        have hlt7q : W7.heap.size + 1 < W10.heap.size := (Array.getElem?_eq_some_iff.1 hr7q).1
        clear hr7q
        have b710 := b47q
        have qX : W10.cell? ⟨W4.heap.size, 0, none⟩ = some (.slice none 0 0) := by rw [cell_of_row _ _ _ _ _ _ ((b710.block _ hlt7).trans HR7.out)]; rfl
        refine lexL_nil ?_
        go_wp2_with fail
        go_wp2
        go_ret
        exact ⟨rfl, Below.ext b4 (Below.ext b47 b710)⟩
      · repeat (first | (refine lexL_q0 rfl ?_; go_big_quiet_step (fail); refine wpQuiet_nil ?_) | (refine lexL_skip0 rfl rfl ?_; simp only [Act.put, List.setIfInBounds_toArray, List.set_cons_succ, List.set_cons_zero]))
        refine lexL_ld (⟨w2.heap.size, 0, none⟩) (.agg #[.slice A3 1 c3]) rfl rfl rfl (fun w' hS => run_ld_block (((hS.block _ (Nat.lt_of_lt_of_le hlt4 b47.size)).trans (b47.block _ hlt4)).trans HR4.out) Try.underlying24 rfl (by kernel_rfl)) ?_
        simp only [Act.put, List.setIfInBounds_toArray, List.set_cons_succ, List.set_cons_zero]
        repeat (first | (refine lexL_q0 rfl ?_; go_big_quiet_step (fail); refine wpQuiet_nil ?_) | (refine lexL_skip0 rfl rfl ?_; simp only [Act.put, List.setIfInBounds_toArray, List.set_cons_succ, List.set_cons_zero]))
        have vbq : Below W7.heap.size W7 (W7.alloc (.cells (madeCells (encB 0).toArray (65536 + m)) 5)).drew := ((Below.refl _ _).alloc (Nat.le_refl _) _).drew
        have hownMq := (mkOwnBn ((65536 + m)) (by omega) W7).ext (w' := (W7.alloc (.cells (madeCells (encB 0).toArray (65536 + m)) 5)).drew) (Below.refl _ _).drew
        refine lexL_e rfl ?_
        go_wp2_with fail
        refine lexL_go vbq ?_
        repeat (first | (refine lexL_q0 rfl ?_; go_big_quiet_step (fail); refine wpQuiet_nil ?_) | (refine lexL_skip0 rfl rfl ?_; simp only [Act.put, List.setIfInBounds_toArray, List.set_cons_succ, List.set_cons_zero]))
        refine lexL_e rfl ?_
        go_wp2_with fail
        generalize (W7.alloc (.cells (madeCells (encB 0).toArray (65536 + m)) 5)).drew = Vq at *
        have hre := replace_long A3 1 c3 Vq (by omega) 0 (by omega) (some ⟨W7.heap.size, 0, none⟩) (65536 + m) (65536 + m) (by omega) (by omega)
        rw [show ((0 : Nat) : Int) = 0 from rfl] at hre
        refine hre.mono ?_
        rintro e w6q ⟨rfl, hb6q⟩
        clear hre
        have b46q := Below.ext vbq hb6q
        go_wp2_with fail
        refine lexL_go (b46q) ?_
        repeat (first | (refine lexL_q0 rfl ?_; go_big_quiet_step (fail); refine wpQuiet_nil ?_) | (refine lexL_skip0 rfl rfl ?_; simp only [Act.put, List.setIfInBounds_toArray, List.set_cons_succ, List.set_cons_zero]))
        have hbXq : Below w6q.heap.size w6q (w6q.alloc (.cells #[.slice none 0 0] 24)) := (Below.refl _ _).alloc (Nat.le_refl _) _
        refine lexL_e rfl ?_
        go_wp2_with fail
        refine lexL_go (Below.ext b46q hbXq) ?_
        repeat (first | (refine lexL_q0 rfl ?_; go_big_quiet_step (fail); refine wpQuiet_nil ?_) | (refine lexL_skip0 rfl rfl ?_; simp only [Act.put, List.setIfInBounds_toArray, List.set_cons_succ, List.set_cons_zero]))
        refine lexL_e rfl ?_
        refine wpList_store_row rfl 24 _ _ rfl w6q.heap.size 24 _ _ rfl rfl (heap_alloc_new w6q _) (by kernel_rfl) rfl (by simp [Value.oneCell']) ?_
        rw [World.setRow_alloc_new]
        have hbX7q : Below w6q.heap.size w6q (w6q.alloc (.cells #[.slice none 0 0] 24)) := (Below.refl _ _).alloc (Nat.le_refl _) _
        have b47q := Below.ext b46q hbX7q
        refine lexL_go b47q ?_
        simp only [Act.put]
        repeat (first | (refine lexL_q0 rfl ?_; go_big_quiet_step (fail); refine wpQuiet_nil ?_) | (refine lexL_skip0 rfl rfl ?_; simp only [Act.put, List.setIfInBounds_toArray, List.set_cons_succ, List.set_cons_zero]))
        have hr7q : (w6q.alloc (.cells #[.slice none 0 0] 24)).heap[w6q.heap.size]? = some (.cells #[.slice none 0 0] 24 (0, 0)) := heap_alloc_new w6q _
        generalize w6q.alloc (.cells #[.slice none 0 0] 24) = W10 at *
        have HR7q := Lib.hid hr7q
        have hlt7q : w6q.heap.size < W10.heap.size := (Array.getElem?_eq_some_iff.1 hr7q).1
        clear hr7q
        have b710 := b47q
        have qX : W10.cell? ⟨W4.heap.size, 0, none⟩ = some (.slice none 0 0) := by rw [cell_of_row _ _ _ _ _ _ ((b710.block _ hlt7).trans HR7.out)]; rfl
        refine lexL_nil ?_
        go_wp2_with fail
        go_wp2
        go_ret
        exact ⟨rfl, Below.ext b4 (Below.ext b47 b710)⟩
    · repeat (first | (refine lexL_q0 rfl ?_; go_big_quiet_step (fail); refine wpQuiet_nil ?_) | (refine lexL_skip0 rfl rfl ?_; simp only [Act.put, List.setIfInBounds_toArray, List.set_cons_succ, List.set_cons_zero]))
      refine lexL_ld (⟨w2.heap.size, 0, none⟩) (.agg #[.slice A3 1 c3]) rfl rfl rfl (fun w' hS => run_ld_block ((hS.block _ hlt4).trans HR4.out) Try.underlying24 rfl (by kernel_rfl)) ?_
      simp only [Act.put, List.setIfInBounds_toArray, List.set_cons_succ, List.set_cons_zero]
      repeat (first | (refine lexL_q0 rfl ?_; go_big_quiet_step (fail); refine wpQuiet_nil ?_) | (refine lexL_skip0 rfl rfl ?_; simp only [Act.put, List.setIfInBounds_toArray, List.set_cons_succ, List.set_cons_zero]))
      have va : Below W4.heap.size W4 (W4.alloc (.cells (madeCells (encB 0).toArray m) 5)).drew := ((Below.refl _ _).alloc (Nat.le_refl _) _).drew
      refine lexL_e rfl ?_
      go_wp2_with fail
      refine lexL_go va ?_
      repeat (first | (refine lexL_q0 rfl ?_; go_big_quiet_step (fail); refine wpQuiet_nil ?_) | (refine lexL_skip0 rfl rfl ?_; simp only [Act.put, List.setIfInBounds_toArray, List.set_cons_succ, List.set_cons_zero]))
      have vb : Below W4.heap.size W4 ((W4.alloc (.cells (madeCells (encB 0).toArray m) 5)).alloc (.cells #[.slice none 0 0] 24)).drew := (((Below.refl _ _).alloc (Nat.le_refl _) _).alloc (by simp) _).drew
      have hownM := (mkOwnBn (m) (by omega) W4).ext (w' := ((W4.alloc (.cells (madeCells (encB 0).toArray m) 5)).alloc (.cells #[.slice none 0 0] 24)).drew) ((Below.refl _ _).alloc (Nat.le_refl _) _).drew
      have rowX : ((W4.alloc (.cells (madeCells (encB 0).toArray m) 5)).alloc (.cells #[.slice none 0 0] 24)).drew.heap[W4.heap.size + 1]? = some (.cells #[.slice none 0 0] 24 (0, 0)) := by
        have := heap_alloc_new (W4.alloc (.cells (madeCells (encB 0).toArray m) 5)) (.cells #[.slice none 0 0] 24)
        rw [World.size_alloc] at this
        exact this
      refine lexL_e rfl ?_
      go_wp2_with fail
      refine lexL_go vb ?_
      repeat (first | (refine lexL_q0 rfl ?_; go_big_quiet_step (fail); refine wpQuiet_nil ?_) | (refine lexL_skip0 rfl rfl ?_; simp only [Act.put, List.setIfInBounds_toArray, List.set_cons_succ, List.set_cons_zero]))
      refine lexL_e rfl ?_
      go_wp2_with fail
      have hszV : ((W4.alloc (.cells (madeCells (encB 0).toArray m) 5)).alloc (.cells #[.slice none 0 0] 24)).drew.heap.size = W4.heap.size + 2 := by show ((W4.alloc (.cells (madeCells (encB 0).toArray m) 5)).alloc (.cells #[.slice none 0 0] 24)).heap.size = _; rw [World.size_alloc, World.size_alloc]
      generalize ((W4.alloc (.cells (madeCells (encB 0).toArray m) 5)).alloc (.cells #[.slice none 0 0] 24)).drew = V at *
      have hap := append_long A3 1 c3 _ _ V (hD4.ext vb) (by omega) 0 _ rfl (some ⟨W4.heap.size, 0, none⟩) m m (by show _ < 0 + ([] ++ List.replicate (65536 - n) (0 : UInt8)).length + m; simp; omega) (by show 0 + ([] ++ List.replicate (65536 - n) (0 : UInt8)).length + m ≤ _; simp; omega)
      rw [show ((0 : Nat) : Int) = 0 from rfl] at hap
      refine hap.mono ?_
      rintro e w6 ⟨rfl, hb6⟩
      clear hap
      have b46 := Below.ext vb hb6
      go_wp2_with fail
      refine lexL_go (b46) ?_
      repeat (first | (refine lexL_q0 rfl ?_; go_big_quiet_step (fail); refine wpQuiet_nil ?_) | (refine lexL_skip0 rfl rfl ?_; simp only [Act.put, List.setIfInBounds_toArray, List.set_cons_succ, List.set_cons_zero]))
      have rowX6 := (hb6.block (W4.heap.size + 1) (by omega)).trans rowX
      refine lexL_e rfl ?_
      refine wpList_store_row rfl 24 _ _ rfl (W4.heap.size + 1) 24 _ _ rfl rfl rowX6 (by kernel_rfl) rfl (by simp [Value.oneCell']) ?_
      have b47 : Below W4.heap.size W4 (w6.setRow (W4.heap.size + 1) #[.slice none 0 0]) := Below.setRow b46 (by omega) _
      refine lexL_go b47 ?_
      simp only [Act.put]
      repeat (first | (refine lexL_q0 rfl ?_; go_big_quiet_step (fail); refine wpQuiet_nil ?_) | (refine lexL_skip0 rfl rfl ?_; simp only [Act.put, List.setIfInBounds_toArray, List.set_cons_succ, List.set_cons_zero]))
      have hr7 := setRow_heap _ _ _ #[.slice none 0 0] _ _ rowX6
      generalize w6.setRow (W4.heap.size + 1) #[.slice none 0 0] = W7 at *
      have HR7 := Lib.hid hr7
      have hlt7 : W4.heap.size + 1 < W7.heap.size := (Array.getElem?_eq_some_iff.1 hr7).1
      clear hr7
      refine lexL_nil ?_
      go_wp2_with fail
      refine wp_region_three (Below W7.heap.size W7) [0, 1, 2, 3, 9, 4, 5, 6, 7, 8, 10, 11] [0, 1, 2, 3, 4, 9, 5, 6, 7, 8, 10, 11] [0, 1, 2, 3, 4, 5, 6, 7, 8, 9, 10, 11] 9 4 5 (by kernel_rfl) (by kernel_rfl) (by kernel_rfl) (by kernel_rfl) (by kernel_rfl) (by decide) (by decide) (by decide) ((Below.refl _ _).drew) ?_ ?_ ?_
      all_goals simp only [opsOf, List.filterMap_cons, List.filterMap_nil, List.getElem?_cons_zero, List.getElem?_cons_succ]
      · repeat (first | (refine lexL_q0 rfl ?_; go_big_quiet_step (fail); refine wpQuiet_nil ?_) | (refine lexL_skip0 rfl rfl ?_; simp only [Act.put, List.setIfInBounds_toArray, List.set_cons_succ, List.set_cons_zero]))
        refine lexL_ld (⟨w2.heap.size, 0, none⟩) (.agg #[.slice A3 1 c3]) rfl rfl rfl (fun w' hS => run_ld_block (((hS.block _ (Nat.lt_of_lt_of_le hlt4 b47.size)).trans (b47.block _ hlt4)).trans HR4.out) Try.underlying24 rfl (by kernel_rfl)) ?_
        simp only [Act.put, List.setIfInBounds_toArray, List.set_cons_succ, List.set_cons_zero]
        repeat (first | (refine lexL_q0 rfl ?_; go_big_quiet_step (fail); refine wpQuiet_nil ?_) | (refine lexL_skip0 rfl rfl ?_; simp only [Act.put, List.setIfInBounds_toArray, List.set_cons_succ, List.set_cons_zero]))
        have vaq : Below W7.heap.size W7 (W7.alloc (.cells #[.slice none 0 0] 24)).drew := ((Below.refl _ _).alloc (Nat.le_refl _) _).drew
        refine lexL_e rfl ?_
        go_wp2_with fail
        refine lexL_go vaq ?_
        repeat (first | (refine lexL_q0 rfl ?_; go_big_quiet_step (fail); refine wpQuiet_nil ?_) | (refine lexL_skip0 rfl rfl ?_; simp only [Act.put, List.setIfInBounds_toArray, List.set_cons_succ, List.set_cons_zero]))
        have vbq : Below W7.heap.size W7 ((W7.alloc (.cells #[.slice none 0 0] 24)).alloc (.cells (madeCells (encB 0).toArray (65536 + m)) 5)).drew := (((Below.refl _ _).alloc (Nat.le_refl _) _).alloc (by simp) _).drew
        have hownMq := (mkOwnBn ((65536 + m)) (by omega) (W7.alloc (.cells #[.slice none 0 0] 24))).ext (w' := ((W7.alloc (.cells #[.slice none 0 0] 24)).alloc (.cells (madeCells (encB 0).toArray (65536 + m)) 5)).drew) (Below.refl _ _).drew
        have rowXq : ((W7.alloc (.cells #[.slice none 0 0] 24)).alloc (.cells (madeCells (encB 0).toArray (65536 + m)) 5)).drew.heap[W7.heap.size]? = some (.cells #[.slice none 0 0] 24 (0, 0)) := (((Below.refl _ _).alloc (Nat.le_refl _) _).block W7.heap.size (by simp)).trans (heap_alloc_new W7 _)
        rw [World.size_alloc] at hownMq
        refine lexL_e rfl ?_
        go_wp2_with fail
        refine lexL_go vbq ?_
        repeat (first | (refine lexL_q0 rfl ?_; go_big_quiet_step (fail); refine wpQuiet_nil ?_) | (refine lexL_skip0 rfl rfl ?_; simp only [Act.put, List.setIfInBounds_toArray, List.set_cons_succ, List.set_cons_zero]))
        refine lexL_e rfl ?_
        go_wp2_with fail
        have hszVq : ((W7.alloc (.cells #[.slice none 0 0] 24)).alloc (.cells (madeCells (encB 0).toArray (65536 + m)) 5)).drew.heap.size = W7.heap.size + 2 := by show ((W7.alloc (.cells #[.slice none 0 0] 24)).alloc (.cells (madeCells (encB 0).toArray (65536 + m)) 5)).heap.size = _; rw [World.size_alloc, World.size_alloc]
        generalize ((W7.alloc (.cells #[.slice none 0 0] 24)).alloc (.cells (madeCells (encB 0).toArray (65536 + m)) 5)).drew = Vq at *
        have hre := replace_long A3 1 c3 Vq (by omega) 0 (by omega) (some ⟨W7.heap.size + 1, 0, none⟩) (65536 + m) (65536 + m) (by omega) (by omega)
        rw [show ((0 : Nat) : Int) = 0 from rfl] at hre
        refine hre.mono ?_
        rintro e w6q ⟨rfl, hb6q⟩
        clear hre
        have b46q := Below.ext vbq hb6q
        go_wp2_with fail
        refine lexL_go (b46q) ?_
        repeat (first | (refine lexL_q0 rfl ?_; go_big_quiet_step (fail); refine wpQuiet_nil ?_) | (refine lexL_skip0 rfl rfl ?_; simp only [Act.put, List.setIfInBounds_toArray, List.set_cons_succ, List.set_cons_zero]))
        have rowX6q := (hb6q.block (W7.heap.size) (by omega)).trans rowXq
        refine lexL_e rfl ?_
        refine wpList_store_row rfl 24 _ _ rfl (W7.heap.size) 24 _ _ rfl rfl rowX6q (by kernel_rfl) rfl (by simp [Value.oneCell']) ?_
        have b47q : Below W7.heap.size W7 (w6q.setRow (W7.heap.size) #[.slice none 0 0]) := Below.setRow b46q (by omega) _
        refine lexL_go b47q ?_
        simp only [Act.put]
        repeat (first | (refine lexL_q0 rfl ?_; go_big_quiet_step (fail); refine wpQuiet_nil ?_) | (refine lexL_skip0 rfl rfl ?_; simp only [Act.put, List.setIfInBounds_toArray, List.set_cons_succ, List.set_cons_zero]))
        have hr7q := setRow_heap _ _ _ #[.slice none 0 0] _ _ rowX6q
        generalize w6q.setRow (W7.heap.size) #[.slice none 0 0] = W10 at *
        have HR7q := Lib.hid hr7q
        have hlt7q : W7.heap.size < W10.heap.size := (Array.getElem?_eq_some_iff.1 hr7q).1
        clear hr7q
        have b710 := b47q
        have qX : W10.cell? ⟨W4.heap.size + 1, 0, none⟩ = some (.slice none 0 0) := by rw [cell_of_row _ _ _ _ _ _ ((b710.block _ hlt7).trans HR7.out)]; rfl
        refine lexL_nil ?_
        go_wp2_with fail
        go_wp2
        go_ret
        exact ⟨rfl, Below.ext b4 (Below.ext b47 b710)⟩
      · repeat (first | (refine lexL_q0 rfl ?_; go_big_quiet_step (fail); refine wpQuiet_nil ?_) | (refine lexL_skip0 rfl rfl ?_; simp only [Act.put, List.setIfInBounds_toArray, List.set_cons_succ, List.set_cons_zero]))
        refine lexL_ld (⟨w2.heap.size, 0, none⟩) (.agg #[.slice A3 1 c3]) rfl rfl rfl (fun w' hS => run_ld_block (((hS.block _ (Nat.lt_of_lt_of_le hlt4 b47.size)).trans (b47.block _ hlt4)).trans HR4.out) Try.underlying24 rfl (by kernel_rfl)) ?_
        simp only [Act.put, List.setIfInBounds_toArray, List.set_cons_succ, List.set_cons_zero]
        repeat (first | (refine lexL_q0 rfl ?_; go_big_quiet_step (fail); refine wpQuiet_nil ?_) | (refine lexL_skip0 rfl rfl ?_; simp only [Act.put, List.setIfInBounds_toArray, List.set_cons_succ, List.set_cons_zero]))
        have vaq : Below W7.heap.size W7 (W7.alloc (.cells (madeCells (encB 0).toArray (65536 + m)) 5)).drew := ((Below.refl _ _).alloc (Nat.le_refl _) _).drew
        refine lexL_e rfl ?_
        go_wp2_with fail
        refine lexL_go vaq ?_
        repeat (first | (refine lexL_q0 rfl ?_; go_big_quiet_step (fail); refine wpQuiet_nil ?_) | (refine lexL_skip0 rfl rfl ?_; simp only [Act.put, List.setIfInBounds_toArray, List.set_cons_succ, List.set_cons_zero]))
        have vbq : Below W7.heap.size W7 ((W7.alloc (.cells (madeCells (encB 0).toArray (65536 + m)) 5)).alloc (.cells #[.slice none 0 0] 24)).drew := (((Below.refl _ _).alloc (Nat.le_refl _) _).alloc (by simp) _).drew
        have hownMq := (mkOwnBn ((65536 + m)) (by omega) W7).ext (w' := ((W7.alloc (.cells (madeCells (encB 0).toArray (65536 + m)) 5)).alloc (.cells #[.slice none 0 0] 24)).drew) ((Below.refl _ _).alloc (Nat.le_refl _) _).drew
        have rowXq : ((W7.alloc (.cells (madeCells (encB 0).toArray (65536 + m)) 5)).alloc (.cells #[.slice none 0 0] 24)).drew.heap[W7.heap.size + 1]? = some (.cells #[.slice none 0 0] 24 (0, 0)) := by
          have := heap_alloc_new (W7.alloc (.cells (madeCells (encB 0).toArray (65536 + m)) 5)) (.cells #[.slice none 0 0] 24)
          rw [World.size_alloc] at this
          exact this
        refine lexL_e rfl ?_
        go_wp2_with fail
        refine lexL_go vbq ?_
        repeat (first | (refine lexL_q0 rfl ?_; go_big_quiet_step (fail); refine wpQuiet_nil ?_) | (refine lexL_skip0 rfl rfl ?_; simp only [Act.put, List.setIfInBounds_toArray, List.set_cons_succ, List.set_cons_zero]))
        refine lexL_e rfl ?_
        go_wp2_with fail
        have hszVq : ((W7.alloc (.cells (madeCells (encB 0).toArray (65536 + m)) 5)).alloc (.cells #[.slice none 0 0] 24)).drew.heap.size = W7.heap.size + 2 := by show ((W7.alloc (.cells (madeCells (encB 0).toArray (65536 + m)) 5)).alloc (.cells #[.slice none 0 0] 24)).heap.size = _; rw [World.size_alloc, World.size_alloc]
        generalize ((W7.alloc (.cells (madeCells (encB 0).toArray (65536 + m)) 5)).alloc (.cells #[.slice none 0 0] 24)).drew = Vq at *
        have hre := replace_long A3 1 c3 Vq (by omega) 0 (by omega) (some ⟨W7.heap.size, 0, none⟩) (65536 + m) (65536 + m) (by omega) (by omega)
        rw [show ((0 : Nat) : Int) = 0 from rfl] at hre
        refine hre.mono ?_
        rintro e w6q ⟨rfl, hb6q⟩
        clear hre
        have b46q := Below.ext vbq hb6q
        go_wp2_with fail
        refine lexL_go (b46q) ?_
        repeat (first | (refine lexL_q0 rfl ?_; go_big_quiet_step (fail); refine wpQuiet_nil ?_) | (refine lexL_skip0 rfl rfl ?_; simp only [Act.put, List.setIfInBounds_toArray, List.set_cons_succ, List.set_cons_zero]))
        have rowX6q := (hb6q.block (W7.heap.size + 1) (by omega)).trans rowXq
        refine lexL_e rfl ?_
        refine wpList_store_row rfl 24 _ _ rfl (W7.heap.size + 1) 24 _ _ rfl rfl rowX6q (by kernel_rfl) rfl (by simp [Value.oneCell']) ?_
        have b47q : Below W7.heap.size W7 (w6q.setRow (W7.heap.size + 1) #[.slice none 0 0]) := Below.setRow b46q (by omega) _
        refine lexL_go b47q ?_
        simp only [Act.put]
        repeat (first | (refine lexL_q0 rfl ?_; go_big_quiet_step (fail); refine wpQuiet_nil ?_) | (refine lexL_skip0 rfl rfl ?_; simp only [Act.put, List.setIfInBounds_toArray, List.set_cons_succ, List.set_cons_zero]))
        have hr7q := setRow_heap _ _ _ #[.slice none 0 0] _ _ rowX6q
        generalize w6q.setRow (W7.heap.size + 1) #[.slice none 0 0] = W10 at *
        have HR7q := Lib.hid hr7q
        have hlt7q : W7.heap.size + 1 < W10.heap.size := (Array.getElem?_eq_some_iff.1 hr7q).1
        clear hr7q
        have b710 := b47q
        have qX : W10.cell? ⟨W4.heap.size + 1, 0, none⟩ = some (.slice none 0 0) := by rw [cell_of_row _ _ _ _ _ _ ((b710.block _ hlt7).trans HR7.out)]; rfl
        refine lexL_nil ?_
        go_wp2_with fail
        go_wp2
        go_ret
        exact ⟨rfl, Below.ext b4 (Below.ext b47 b710)⟩
      · repeat (first | (refine lexL_q0 rfl ?_; go_big_quiet_step (fail); refine wpQuiet_nil ?_) | (refine lexL_skip0 rfl rfl ?_; simp only [Act.put, List.setIfInBounds_toArray, List.set_cons_succ, List.set_cons_zero]))
        refine lexL_ld (⟨w2.heap.size, 0, none⟩) (.agg #[.slice A3 1 c3]) rfl rfl rfl (fun w' hS => run_ld_block (((hS.block _ (Nat.lt_of_lt_of_le hlt4 b47.size)).trans (b47.block _ hlt4)).trans HR4.out) Try.underlying24 rfl (by kernel_rfl)) ?_
        simp only [Act.put, List.setIfInBounds_toArray, List.set_cons_succ, List.set_cons_zero]
        repeat (first | (refine lexL_q0 rfl ?_; go_big_quiet_step (fail); refine wpQuiet_nil ?_) | (refine lexL_skip0 rfl rfl ?_; simp only [Act.put, List.setIfInBounds_toArray, List.set_cons_succ, List.set_cons_zero]))
        have vbq : Below W7.heap.size W7 (W7.alloc (.cells (madeCells (encB 0).toArray (65536 + m)) 5)).drew := ((Below.refl _ _).alloc (Nat.le_refl _) _).drew
        have hownMq := (mkOwnBn ((65536 + m)) (by omega) W7).ext (w' := (W7.alloc (.cells (madeCells (encB 0).toArray (65536 + m)) 5)).drew) (Below.refl _ _).drew
        refine lexL_e rfl ?_
        go_wp2_with fail
        refine lexL_go vbq ?_
        repeat (first | (refine lexL_q0 rfl ?_; go_big_quiet_step (fail); refine wpQuiet_nil ?_) | (refine lexL_skip0 rfl rfl ?_; simp only [Act.put, List.setIfInBounds_toArray, List.set_cons_succ, List.set_cons_zero]))
        refine lexL_e rfl ?_
        go_wp2_with fail
        generalize (W7.alloc (.cells (madeCells (encB 0).toArray (65536 + m)) 5)).drew = Vq at *
        have hre := replace_long A3 1 c3 Vq (by omega) 0 (by omega) (some ⟨W7.heap.size, 0, none⟩) (65536 + m) (65536 + m) (by omega) (by omega)
        rw [show ((0 : Nat) : Int) = 0 from rfl] at hre
        refine hre.mono ?_
        rintro e w6q ⟨rfl, hb6q⟩
        clear hre
        have b46q := Below.ext vbq hb6q
        go_wp2_with fail
        refine lexL_go (b46q) ?_
        repeat (first | (refine lexL_q0 rfl ?_; go_big_quiet_step (fail); refine wpQuiet_nil ?_) | (refine lexL_skip0 rfl rfl ?_; simp only [Act.put, List.setIfInBounds_toArray, List.set_cons_succ, List.set_cons_zero]))
        have hbXq : Below w6q.heap.size w6q (w6q.alloc (.cells #[.slice none 0 0] 24)) := (Below.refl _ _).alloc (Nat.le_refl _) _
        refine lexL_e rfl ?_
        go_wp2_with fail
        refine lexL_go (Below.ext b46q hbXq) ?_
        repeat (first | (refine lexL_q0 rfl ?_; go_big_quiet_step (fail); refine wpQuiet_nil ?_) | (refine lexL_skip0 rfl rfl ?_; simp only [Act.put, List.setIfInBounds_toArray, List.set_cons_succ, List.set_cons_zero]))
        refine lexL_e rfl ?_
        refine wpList_store_row rfl 24 _ _ rfl w6q.heap.size 24 _ _ rfl rfl (heap_alloc_new w6q _) (by kernel_rfl) rfl (by simp [Value.oneCell']) ?_
        rw [World.setRow_alloc_new]
        have hbX7q : Below w6q.heap.size w6q (w6q.alloc (.cells #[.slice none 0 0] 24)) := (Below.refl _ _).alloc (Nat.le_refl _) _
        have b47q := Below.ext b46q hbX7q
        refine lexL_go b47q ?_
        simp only [Act.put]
        repeat (first | (refine lexL_q0 rfl ?_; go_big_quiet_step (fail); refine wpQuiet_nil ?_) | (refine lexL_skip0 rfl rfl ?_; simp only [Act.put, List.setIfInBounds_toArray, List.set_cons_succ, List.set_cons_zero]))
        have hr7q : (w6q.alloc (.cells #[.slice none 0 0] 24)).heap[w6q.heap.size]? = some (.cells #[.slice none 0 0] 24 (0, 0)) := heap_alloc_new w6q _
        generalize w6q.alloc (.cells #[.slice none 0 0] 24) = W10 at *
        have HR7q := Lib.hid hr7q
        have hlt7q : w6q.heap.size < W10.heap.size := (Array.getElem?_eq_some_iff.1 hr7q).1
        clear hr7q
        have b710 := b47q
        have qX : W10.cell? ⟨W4.heap.size + 1, 0, none⟩ = some (.slice none 0 0) := by rw [cell_of_row _ _ _ _ _ _ ((b710.block _ hlt7).trans HR7.out)]; rfl
        refine lexL_nil ?_
        go_wp2_with fail
        go_wp2
        go_ret
        exact ⟨rfl, Below.ext b4 (Below.ext b47 b710)⟩
    · repeat (first | (refine lexL_q0 rfl ?_; go_big_quiet_step (fail); refine wpQuiet_nil ?_) | (refine lexL_skip0 rfl rfl ?_; simp only [Act.put, List.setIfInBounds_toArray, List.set_cons_succ, List.set_cons_zero]))
      refine lexL_ld (⟨w2.heap.size, 0, none⟩) (.agg #[.slice A3 1 c3]) rfl rfl rfl (fun w' hS => run_ld_block ((hS.block _ hlt4).trans HR4.out) Try.underlying24 rfl (by kernel_rfl)) ?_
      simp only [Act.put, List.setIfInBounds_toArray, List.set_cons_succ, List.set_cons_zero]
      repeat (first | (refine lexL_q0 rfl ?_; go_big_quiet_step (fail); refine wpQuiet_nil ?_) | (refine lexL_skip0 rfl rfl ?_; simp only [Act.put, List.setIfInBounds_toArray, List.set_cons_succ, List.set_cons_zero]))
      have vb : Below W4.heap.size W4 (W4.alloc (.cells (madeCells (encB 0).toArray m) 5)).drew := ((Below.refl _ _).alloc (Nat.le_refl _) _).drew
      have hownM := (mkOwnBn (m) (by omega) W4).ext (w' := (W4.alloc (.cells (madeCells (encB 0).toArray m) 5)).drew) (Below.refl _ _).drew
      refine lexL_e rfl ?_
      go_wp2_with fail
      refine lexL_go vb ?_
      repeat (first | (refine lexL_q0 rfl ?_; go_big_quiet_step (fail); refine wpQuiet_nil ?_) | (refine lexL_skip0 rfl rfl ?_; simp only [Act.put, List.setIfInBounds_toArray, List.set_cons_succ, List.set_cons_zero]))
      refine lexL_e rfl ?_
      go_wp2_with fail
      generalize (W4.alloc (.cells (madeCells (encB 0).toArray m) 5)).drew = V at *
      have hap := append_long A3 1 c3 _ _ V (hD4.ext vb) (by omega) 0 _ rfl (some ⟨W4.heap.size, 0, none⟩) m m (by show _ < 0 + ([] ++ List.replicate (65536 - n) (0 : UInt8)).length + m; simp; omega) (by show 0 + ([] ++ List.replicate (65536 - n) (0 : UInt8)).length + m ≤ _; simp; omega)
      rw [show ((0 : Nat) : Int) = 0 from rfl] at hap
      refine hap.mono ?_
      rintro e w6 ⟨rfl, hb6⟩
      clear hap
      have b46 := Below.ext vb hb6
      go_wp2_with fail
      refine lexL_go (b46) ?_
      repeat (first | (refine lexL_q0 rfl ?_; go_big_quiet_step (fail); refine wpQuiet_nil ?_) | (refine lexL_skip0 rfl rfl ?_; simp only [Act.put, List.setIfInBounds_toArray, List.set_cons_succ, List.set_cons_zero]))
      have hbX : Below w6.heap.size w6 (w6.alloc (.cells #[.slice none 0 0] 24)) := (Below.refl _ _).alloc (Nat.le_refl _) _
      refine lexL_e rfl ?_
      go_wp2_with fail
      refine lexL_go (Below.ext b46 hbX) ?_
      repeat (first | (refine lexL_q0 rfl ?_; go_big_quiet_step (fail); refine wpQuiet_nil ?_) | (refine lexL_skip0 rfl rfl ?_; simp only [Act.put, List.setIfInBounds_toArray, List.set_cons_succ, List.set_cons_zero]))
      refine lexL_e rfl ?_
      refine wpList_store_row rfl 24 _ _ rfl w6.heap.size 24 _ _ rfl rfl (heap_alloc_new w6 _) (by kernel_rfl) rfl (by simp [Value.oneCell']) ?_
      rw [World.setRow_alloc_new]
      have hbX7 : Below w6.heap.size w6 (w6.alloc (.cells #[.slice none 0 0] 24)) := (Below.refl _ _).alloc (Nat.le_refl _) _
      have b47 := Below.ext b46 hbX7
      refine lexL_go b47 ?_
      simp only [Act.put]
      repeat (first | (refine lexL_q0 rfl ?_; go_big_quiet_step (fail); refine wpQuiet_nil ?_) | (refine lexL_skip0 rfl rfl ?_; simp only [Act.put, List.setIfInBounds_toArray, List.set_cons_succ, List.set_cons_zero]))
      have hr7 : (w6.alloc (.cells #[.slice none 0 0] 24)).heap[w6.heap.size]? = some (.cells #[.slice none 0 0] 24 (0, 0)) := heap_alloc_new w6 _
      generalize w6.alloc (.cells #[.slice none 0 0] 24) = W7 at *
      have HR7 := Lib.hid hr7
      have hlt7 : w6.heap.size < W7.heap.size := (Array.getElem?_eq_some_iff.1 hr7).1
      clear hr7
      refine lexL_nil ?_
      go_wp2_with fail
      refine wp_region_three (Below W7.heap.size W7) [0, 1, 2, 3, 9, 4, 5, 6, 7, 8, 10, 11] [0, 1, 2, 3, 4, 9, 5, 6, 7, 8, 10, 11] [0, 1, 2, 3, 4, 5, 6, 7, 8, 9, 10, 11] 9 4 5 (by kernel_rfl) (by kernel_rfl) (by kernel_rfl) (by kernel_rfl) (by kernel_rfl) (by decide) (by decide) (by decide) ((Below.refl _ _).drew) ?_ ?_ ?_
      all_goals simp only [opsOf, List.filterMap_cons, List.filterMap_nil, List.getElem?_cons_zero, List.getElem?_cons_succ]
      · repeat (first | (refine lexL_q0 rfl ?_; go_big_quiet_step (fail); refine wpQuiet_nil ?_) | (refine lexL_skip0 rfl rfl ?_; simp only [Act.put, List.setIfInBounds_toArray, List.set_cons_succ, List.set_cons_zero]))
        refine lexL_ld (⟨w2.heap.size, 0, none⟩) (.agg #[.slice A3 1 c3]) rfl rfl rfl (fun w' hS => run_ld_block (((hS.block _ (Nat.lt_of_lt_of_le hlt4 b47.size)).trans (b47.block _ hlt4)).trans HR4.out) Try.underlying24 rfl (by kernel_rfl)) ?_
        simp only [Act.put, List.setIfInBounds_toArray, List.set_cons_succ, List.set_cons_zero]
        repeat (first | (refine lexL_q0 rfl ?_; go_big_quiet_step (fail); refine wpQuiet_nil ?_) | (refine lexL_skip0 rfl rfl ?_; simp only [Act.put, List.setIfInBounds_toArray, List.set_cons_succ, List.set_cons_zero]))
        have vaq : Below W7.heap.size W7 (W7.alloc (.cells #[.slice none 0 0] 24)).drew := ((Below.refl _ _).alloc (Nat.le_refl _) _).drew
        refine lexL_e rfl ?_
        go_wp2_with fail
        refine lexL_go vaq ?_
        repeat (first | (refine lexL_q0 rfl ?_; go_big_quiet_step (fail); refine wpQuiet_nil ?_) | (refine lexL_skip0 rfl rfl ?_; simp only [Act.put, List.setIfInBounds_toArray, List.set_cons_succ, List.set_cons_zero]))
        have vbq : Below W7.heap.size W7 ((W7.alloc (.cells #[.slice none 0 0] 24)).alloc (.cells (madeCells (encB 0).toArray (65536 + m)) 5)).drew := (((Below.refl _ _).alloc (Nat.le_refl _) _).alloc (by simp) _).drew
        have hownMq := (mkOwnBn ((65536 + m)) (by omega) (W7.alloc (.cells #[.slice none 0 0] 24))).ext (w' := ((W7.alloc (.cells #[.slice none 0 0] 24)).alloc (.cells (madeCells (encB 0).toArray (65536 + m)) 5)).drew) (Below.refl _ _).drew
        have rowXq : ((W7.alloc (.cells #[.slice none 0 0] 24)).alloc (.cells (madeCells (encB 0).toArray (65536 + m)) 5)).drew.heap[W7.heap.size]? = some (.cells #[.slice none 0 0] 24 (0, 0)) := (((Below.refl _ _).alloc (Nat.le_refl _) _).block W7.heap.size (by simp)).trans (heap_alloc_new W7 _)
        rw [World.size_alloc] at hownMq
        refine lexL_e rfl ?_
        go_wp2_with fail
        refine lexL_go vbq ?_
        repeat (first | (refine lexL_q0 rfl ?_; go_big_quiet_step (fail); refine wpQuiet_nil ?_) | (refine lexL_skip0 rfl rfl ?_; simp only [Act.put, List.setIfInBounds_toArray, List.set_cons_succ, List.set_cons_zero]))
        refine lexL_e rfl ?_
        go_wp2_with fail
        have hszVq : ((W7.alloc (.cells #[.slice none 0 0] 24)).alloc (.cells (madeCells (encB 0).toArray (65536 + m)) 5)).drew.heap.size = W7.heap.size + 2 := by show ((W7.alloc (.cells #[.slice none 0 0] 24)).alloc (.cells (madeCells (encB 0).toArray (65536 + m)) 5)).heap.size = _; rw [World.size_alloc, World.size_alloc]
        generalize ((W7.alloc (.cells #[.slice none 0 0] 24)).alloc (.cells (madeCells (encB 0).toArray (65536 + m)) 5)).drew = Vq at *
        have hre := replace_long A3 1 c3 Vq (by omega) 0 (by omega) (some ⟨W7.heap.size + 1, 0, none⟩) (65536 + m) (65536 + m) (by omega) (by omega)
        rw [show ((0 : Nat) : Int) = 0 from rfl] at hre
        refine hre.mono ?_
        rintro e w6q ⟨rfl, hb6q⟩
        clear hre
        have b46q := Below.ext vbq hb6q
        go_wp2_with fail
        refine lexL_go (b46q) ?_
        repeat (first | (refine lexL_q0 rfl ?_; go_big_quiet_step (fail); refine wpQuiet_nil ?_) | (refine lexL_skip0 rfl rfl ?_; simp only [Act.put, List.setIfInBounds_toArray, List.set_cons_succ, List.set_cons_zero]))
        have rowX6q := (hb6q.block (W7.heap.size) (by omega)).trans rowXq
        refine lexL_e rfl ?_
        refine wpList_store_row rfl 24 _ _ rfl (W7.heap.size) 24 _ _ rfl rfl rowX6q (by kernel_rfl) rfl (by simp [Value.oneCell']) ?_
        have b47q : Below W7.heap.size W7 (w6q.setRow (W7.heap.size) #[.slice none 0 0]) := Below.setRow b46q (by omega) _
        refine lexL_go b47q ?_
        simp only [Act.put]
        repeat (first | (refine lexL_q0 rfl ?_; go_big_quiet_step (fail); refine wpQuiet_nil ?_) | (refine lexL_skip0 rfl rfl ?_; simp only [Act.put, List.setIfInBounds_toArray, List.set_cons_succ, List.set_cons_zero]))
        have hr7q := setRow_heap _ _ _ #[.slice none 0 0] _ _ rowX6q
        generalize w6q.setRow (W7.heap.size) #[.slice none 0 0] = W10 at *
        have HR7q := Lib.hid hr7q
        have hlt7q : W7.heap.size < W10.heap.size := (Array.getElem?_eq_some_iff.1 hr7q).1
        clear hr7q
        have b710 := b47q
        have qX : W10.cell? ⟨w6.heap.size, 0, none⟩ = some (.slice none 0 0) := by rw [cell_of_row _ _ _ _ _ _ ((b710.block _ hlt7).trans HR7.out)]; rfl
        refine lexL_nil ?_
        go_wp2_with fail
        go_wp2
        go_ret
        exact ⟨rfl, Below.ext b4 (Below.ext b47 b710)⟩
      · repeat (first | (refine lexL_q0 rfl ?_; go_big_quiet_step (fail); refine wpQuiet_nil ?_) | (refine lexL_skip0 rfl rfl ?_; simp only [Act.put, List.setIfInBounds_toArray, List.set_cons_succ, List.set_cons_zero]))
        refine lexL_ld (⟨w2.heap.size, 0, none⟩) (.agg #[.slice A3 1 c3]) rfl rfl rfl (fun w' hS => run_ld_block (((hS.block _ (Nat.lt_of_lt_of_le hlt4 b47.size)).trans (b47.block _ hlt4)).trans HR4.out) Try.underlying24 rfl (by kernel_rfl)) ?_
        simp only [Act.put, List.setIfInBounds_toArray, List.set_cons_succ, List.set_cons_zero]
        repeat (first | (refine lexL_q0 rfl ?_; go_big_quiet_step (fail); refine wpQuiet_nil ?_) | (refine lexL_skip0 rfl rfl ?_; simp only [Act.put, List.setIfInBounds_toArray, List.set_cons_succ, List.set_cons_zero]))
        have vaq : Below W7.heap.size W7 (W7.alloc (.cells (madeCells (encB 0).toArray (65536 + m)) 5)).drew := ((Below.refl _ _).alloc (Nat.le_refl _) _).drew
        refine lexL_e rfl ?_
        go_wp2_with fail
        refine lexL_go vaq ?_
        repeat (first | (refine lexL_q0 rfl ?_; go_big_quiet_step (fail); refine wpQuiet_nil ?_) | (refine lexL_skip0 rfl rfl ?_; simp only [Act.put, List.setIfInBounds_toArray, List.set_cons_succ, List.set_cons_zero]))
        have vbq : Below W7.heap.size W7 ((W7.alloc (.cells (madeCells (encB 0).toArray (65536 + m)) 5)).alloc (.cells #[.slice none 0 0] 24)).drew := (((Below.refl _ _).alloc (Nat.le_refl _) _).alloc (by simp) _).drew
        have hownMq := (mkOwnBn ((65536 + m)) (by omega) W7).ext (w' := ((W7.alloc (.cells (madeCells (encB 0).toArray (65536 + m)) 5)).alloc (.cells #[.slice none 0 0] 24)).drew) ((Below.refl _ _).alloc (Nat.le_refl _) _).drew
        have rowXq : ((W7.alloc (.cells (madeCells (encB 0).toArray (65536 + m)) 5)).alloc (.cells #[.slice none 0 0] 24)).drew.heap[W7.heap.size + 1]? = some (.cells #[.slice none 0 0] 24 (0, 0)) := by
          have := heap_alloc_new (W7.alloc (.cells (madeCells (encB 0).toArray (65536 + m)) 5)) (.cells #[.slice none 0 0] 24)
          rw [World.size_alloc] at this
          exact this
        refine lexL_e rfl ?_
        go_wp2_with fail
        refine lexL_go vbq ?_
        repeat (first | (refine lexL_q0 rfl ?_; go_big_quiet_step (fail); refine wpQuiet_nil ?_) | (refine lexL_skip0 rfl rfl ?_; simp only [Act.put, List.setIfInBounds_toArray, List.set_cons_succ, List.set_cons_zero]))
        refine lexL_e rfl ?_
        go_wp2_with fail
        have hszVq : ((W7.alloc (.cells (madeCells (encB 0).toArray (65536 + m)) 5)).alloc (.cells #[.slice none 0 0] 24)).drew.heap.size = W7.heap.size + 2 := by show ((W7.alloc (.cells (madeCells (encB 0).toArray (65536 + m)) 5)).alloc (.cells #[.slice none 0 0] 24)).heap.size = _; rw [World.size_alloc, World.size_alloc]
        generalize ((W7.alloc (.cells (madeCells (encB 0).toArray (65536 + m)) 5)).alloc (.cells #[.slice none 0 0] 24)).drew = Vq at *
        have hre := replace_long A3 1 c3 Vq (by omega) 0 (by omega) (some ⟨W7.heap.size, 0, none⟩) (65536 + m) (65536 + m) (by omega) (by omega)
        rw [show ((0 : Nat) : Int) = 0 from rfl] at hre
        refine hre.mono ?_
        rintro e w6q ⟨rfl, hb6q⟩
        clear hre
        have b46q := Below.ext vbq hb6q
        go_wp2_with fail
        refine lexL_go (b46q) ?_
        repeat (first | (refine lexL_q0 rfl ?_; go_big_quiet_step (fail); refine wpQuiet_nil ?_) | (refine lexL_skip0 rfl rfl ?_; simp only [Act.put, List.setIfInBounds_toArray, List.set_cons_succ, List.set_cons_zero]))
        have rowX6q := (hb6q.block (W7.heap.size + 1) (by omega)).trans rowXq
        refine lexL_e rfl ?_
        refine wpList_store_row rfl 24 _ _ rfl (W7.heap.size + 1) 24 _ _ rfl rfl rowX6q (by kernel_rfl) rfl (by simp [Value.oneCell']) ?_
        have b47q : Below W7.heap.size W7 (w6q.setRow (W7.heap.size + 1) #[.slice none 0 0]) := Below.setRow b46q (by omega) _
        refine lexL_go b47q ?_
        simp only [Act.put]
        repeat (first | (refine lexL_q0 rfl ?_; go_big_quiet_step (fail); refine wpQuiet_nil ?_) | (refine lexL_skip0 rfl rfl ?_; simp only [Act.put, List.setIfInBounds_toArray, List.set_cons_succ, List.set_cons_zero]))
        have hr7q := setRow_heap _ _ _ #[.slice none 0 0] _ _ rowX6q
        generalize w6q.setRow (W7.heap.size + 1) #[.slice none 0 0] = W10 at *
        have HR7q := Lib.hid hr7q
        have hlt7q : W7.heap.size + 1 < W10.heap.size := (Array.getElem?_eq_some_iff.1 hr7q).1
        clear hr7q
        have b710 := b47q
        have qX : W10.cell? ⟨w6.heap.size, 0, none⟩ = some (.slice none 0 0) := by rw [cell_of_row _ _ _ _ _ _ ((b710.block _ hlt7).trans HR7.out)]; rfl
        refine lexL_nil ?_
        go_wp2_with fail
        go_wp2
        go_ret
        exact ⟨rfl, Below.ext b4 (Below.ext b47 b710)⟩
      · repeat (first | (refine lexL_q0 rfl ?_; go_big_quiet_step (fail); refine wpQuiet_nil ?_) | (refine lexL_skip0 rfl rfl ?_; simp only [Act.put, List.setIfInBounds_toArray, List.set_cons_succ, List.set_cons_zero]))
        refine lexL_ld (⟨w2.heap.size, 0, none⟩) (.agg #[.slice A3 1 c3]) rfl rfl rfl (fun w' hS => run_ld_block (((hS.block _ (Nat.lt_of_lt_of_le hlt4 b47.size)).trans (b47.block _ hlt4)).trans HR4.out) Try.underlying24 rfl (by kernel_rfl)) ?_
        simp only [Act.put, List.setIfInBounds_toArray, List.set_cons_succ, List.set_cons_zero]
        repeat (first | (refine lexL_q0 rfl ?_; go_big_quiet_step (fail); refine wpQuiet_nil ?_) | (refine lexL_skip0 rfl rfl ?_; simp only [Act.put, List.setIfInBounds_toArray, List.set_cons_succ, List.set_cons_zero]))
        have vbq : Below W7.heap.size W7 (W7.alloc (.cells (madeCells (encB 0).toArray (65536 + m)) 5)).drew := ((Below.refl _ _).alloc (Nat.le_refl _) _).drew
        have hownMq := (mkOwnBn ((65536 + m)) (by omega) W7).ext (w' := (W7.alloc (.cells (madeCells (encB 0).toArray (65536 + m)) 5)).drew) (Below.refl _ _).drew
        refine lexL_e rfl ?_
        go_wp2_with fail
        refine lexL_go vbq ?_
        repeat (first | (refine lexL_q0 rfl ?_; go_big_quiet_step (fail); refine wpQuiet_nil ?_) | (refine lexL_skip0 rfl rfl ?_; simp only [Act.put, List.setIfInBounds_toArray, List.set_cons_succ, List.set_cons_zero]))
        refine lexL_e rfl ?_
        go_wp2_with fail
        generalize (W7.alloc (.cells (madeCells (encB 0).toArray (65536 + m)) 5)).drew = Vq at *
        have hre := replace_long A3 1 c3 Vq (by omega) 0 (by omega) (some ⟨W7.heap.size, 0, none⟩) (65536 + m) (65536 + m) (by omega) (by omega)
        rw [show ((0 : Nat) : Int) = 0 from rfl] at hre
        refine hre.mono ?_
        rintro e w6q ⟨rfl, hb6q⟩
        clear hre
        have b46q := Below.ext vbq hb6q
        go_wp2_with fail
        refine lexL_go (b46q) ?_
        repeat (first | (refine lexL_q0 rfl ?_; go_big_quiet_step (fail); refine wpQuiet_nil ?_) | (refine lexL_skip0 rfl rfl ?_; simp only [Act.put, List.setIfInBounds_toArray, List.set_cons_succ, List.set_cons_zero]))
        have hbXq : Below w6q.heap.size w6q (w6q.alloc (.cells #[.slice none 0 0] 24)) := (Below.refl _ _).alloc (Nat.le_refl _) _
        refine lexL_e rfl ?_
        go_wp2_with fail
        refine lexL_go (Below.ext b46q hbXq) ?_
        repeat (first | (refine lexL_q0 rfl ?_; go_big_quiet_step (fail); refine wpQuiet_nil ?_) | (refine lexL_skip0 rfl rfl ?_; simp only [Act.put, List.setIfInBounds_toArray, List.set_cons_succ, List.set_cons_zero]))
        refine lexL_e rfl ?_
        refine wpList_store_row rfl 24 _ _ rfl w6q.heap.size 24 _ _ rfl rfl (heap_alloc_new w6q _) (by kernel_rfl) rfl (by simp [Value.oneCell']) ?_
        rw [World.setRow_alloc_new]
        have hbX7q : Below w6q.heap.size w6q (w6q.alloc (.cells #[.slice none 0 0] 24)) := (Below.refl _ _).alloc (Nat.le_refl _) _
        have b47q := Below.ext b46q hbX7q
        refine lexL_go b47q ?_
        simp only [Act.put]
        repeat (first | (refine lexL_q0 rfl ?_; go_big_quiet_step (fail); refine wpQuiet_nil ?_) | (refine lexL_skip0 rfl rfl ?_; simp only [Act.put, List.setIfInBounds_toArray, List.set_cons_succ, List.set_cons_zero]))
        have hr7q : (w6q.alloc (.cells #[.slice none 0 0] 24)).heap[w6q.heap.size]? = some (.cells #[.slice none 0 0] 24 (0, 0)) := heap_alloc_new w6q _
        generalize w6q.alloc (.cells #[.slice none 0 0] 24) = W10 at *
        have HR7q := Lib.hid hr7q
        have hlt7q : w6q.heap.size < W10.heap.size := (Array.getElem?_eq_some_iff.1 hr7q).1
        clear hr7q
        have b710 := b47q
        have qX : W10.cell? ⟨w6.heap.size, 0, none⟩ = some (.slice none 0 0) := by rw [cell_of_row _ _ _ _ _ _ ((b710.block _ hlt7).trans HR7.out)]; rfl
        refine lexL_nil ?_
        go_wp2_with fail
        go_wp2
        go_ret
        exact ⟨rfl, Below.ext b4 (Below.ext b47 b710)⟩
  · have dmn : decide (n < m) = false := by simpa using hmn
    by_cases hm0 : m = 0
    · have d0 : ((m : Int) == 0) = true := by simpa using hm0
      have hm1 : m ≤ 0 := by omega
      clear hm0
      go_wp2_with fail
      refine wp_region_three (Below W4.heap.size W4) [0, 1, 7, 2, 3, 4, 5, 6, 8, 9] [0, 1, 2, 7, 3, 4, 5, 6, 8, 9] [0, 1, 2, 3, 4, 5, 6, 7, 8, 9] 7 2 3 (by kernel_rfl) (by kernel_rfl) (by kernel_rfl) (by kernel_rfl) (by kernel_rfl) (by decide) (by decide) (by decide) ((Below.refl _ _).drew) ?_ ?_ ?_
      all_goals simp only [opsOf, List.filterMap_cons, List.filterMap_nil, List.getElem?_cons_zero, List.getElem?_cons_succ]
      · repeat (first | (refine lexL_q0 rfl ?_; go_big_quiet_step (fail); refine wpQuiet_nil ?_) | (refine lexL_skip0 rfl rfl ?_; simp only [Act.put, List.setIfInBounds_toArray, List.set_cons_succ, List.set_cons_zero]))
        refine lexL_ld (⟨w2.heap.size, 0, none⟩) (.agg #[.slice A3 1 c3]) rfl rfl rfl (fun w' hS => run_ld_block ((hS.block _ hlt4).trans HR4.out) Try.underlying24 rfl (by kernel_rfl)) ?_
        simp only [Act.put, List.setIfInBounds_toArray, List.set_cons_succ, List.set_cons_zero]
        repeat (first | (refine lexL_q0 rfl ?_; go_big_quiet_step (fail); refine wpQuiet_nil ?_) | (refine lexL_skip0 rfl rfl ?_; simp only [Act.put, List.setIfInBounds_toArray, List.set_cons_succ, List.set_cons_zero]))
        have va : Below W4.heap.size W4 (W4.alloc (.cells #[.slice none 0 0] 24)).drew := ((Below.refl _ _).alloc (Nat.le_refl _) _).drew
        refine lexL_e rfl ?_
        go_wp2_with fail
        refine lexL_go va ?_
        repeat (first | (refine lexL_q0 rfl ?_; go_big_quiet_step (fail); refine wpQuiet_nil ?_) | (refine lexL_skip0 rfl rfl ?_; simp only [Act.put, List.setIfInBounds_toArray, List.set_cons_succ, List.set_cons_zero]))
        have vb : Below W4.heap.size W4 ((W4.alloc (.cells #[.slice none 0 0] 24)).alloc (.cells (madeCells (encB 0).toArray m) 5)).drew := (((Below.refl _ _).alloc (Nat.le_refl _) _).alloc (by simp) _).drew
        have hownM := (mkOwnBn (m) (by omega) (W4.alloc (.cells #[.slice none 0 0] 24))).ext (w' := ((W4.alloc (.cells #[.slice none 0 0] 24)).alloc (.cells (madeCells (encB 0).toArray m) 5)).drew) (Below.refl _ _).drew
        have rowX : ((W4.alloc (.cells #[.slice none 0 0] 24)).alloc (.cells (madeCells (encB 0).toArray m) 5)).drew.heap[W4.heap.size]? = some (.cells #[.slice none 0 0] 24 (0, 0)) := (((Below.refl _ _).alloc (Nat.le_refl _) _).block W4.heap.size (by simp)).trans (heap_alloc_new W4 _)
        rw [World.size_alloc] at hownM
        refine lexL_e rfl ?_
        go_wp2_with fail
        refine lexL_go vb ?_
        repeat (first | (refine lexL_q0 rfl ?_; go_big_quiet_step (fail); refine wpQuiet_nil ?_) | (refine lexL_skip0 rfl rfl ?_; simp only [Act.put, List.setIfInBounds_toArray, List.set_cons_succ, List.set_cons_zero]))
        refine lexL_e rfl ?_
        go_wp2_with fail
        have hszV : ((W4.alloc (.cells #[.slice none 0 0] 24)).alloc (.cells (madeCells (encB 0).toArray m) 5)).drew.heap.size = W4.heap.size + 2 := by show ((W4.alloc (.cells #[.slice none 0 0] 24)).alloc (.cells (madeCells (encB 0).toArray m) 5)).heap.size = _; rw [World.size_alloc, World.size_alloc]
        generalize ((W4.alloc (.cells #[.slice none 0 0] 24)).alloc (.cells (madeCells (encB 0).toArray m) 5)).drew = V at *
        have hap := append_ok A3 1 c3 _ (· ≠ W4.heap.size) V ((hD4.lo.ext vb).mono (fun b hb h => by omega)) (by omega) 0 _ rfl (some ⟨W4.heap.size + 1, 0, none⟩) m m _ (hownM.recs.mono (fun _ _ h => by have := h.1; omega)) (by show 0 + ([] ++ List.replicate (65536 - n) (0 : UInt8)).length + m ≤ _; simp; omega)
        rw [show ((0 : Nat) : Int) = 0 from rfl] at hap
        refine hap.mono ?_
        rintro e w6 ⟨A6, c6, rfl, hD6, hb6⟩
        clear hap
        have b46 := Below.ext vb hb6
        go_wp2_with fail
        refine lexL_go (b46) ?_
        repeat (first | (refine lexL_q0 rfl ?_; go_big_quiet_step (fail); refine wpQuiet_nil ?_) | (refine lexL_skip0 rfl rfl ?_; simp only [Act.put, List.setIfInBounds_toArray, List.set_cons_succ, List.set_cons_zero]))
        have rowX6 := (hb6.block (W4.heap.size) (by omega)).trans rowX
        refine lexL_e rfl ?_
        refine wpList_store_row rfl 24 _ _ rfl (W4.heap.size) 24 _ _ rfl rfl rowX6 (by kernel_rfl) rfl (by simp [Value.oneCell']) ?_
        have b47 : Below W4.heap.size W4 (w6.setRow (W4.heap.size) #[.slice A6 1 c6]) := Below.setRow b46 (by omega) _
        refine lexL_go b47 ?_
        simp only [Act.put]
        repeat (first | (refine lexL_q0 rfl ?_; go_big_quiet_step (fail); refine wpQuiet_nil ?_) | (refine lexL_skip0 rfl rfl ?_; simp only [Act.put, List.setIfInBounds_toArray, List.set_cons_succ, List.set_cons_zero]))
        have hr7 := setRow_heap _ _ _ #[.slice A6 1 c6] _ _ rowX6
        have hD7 : Dsk (fun _ => True) (w6.setRow (W4.heap.size) #[.slice A6 1 c6]) (.slice A6 1 c6) _ := ((hD6.mono (S' := (· ≠ W4.heap.size)) (fun b _ h => by rcases h with h | h; exact h; omega)).keep (Keep.of_grown (grown_setRow _ _ _))).mono (fun _ _ _ => trivial)
        generalize w6.setRow (W4.heap.size) #[.slice A6 1 c6] = W7 at *
        have HR7 := Lib.hid hr7
        have hlt7 : W4.heap.size < W7.heap.size := (Array.getElem?_eq_some_iff.1 hr7).1
        clear hr7
        refine lexL_nil ?_
        go_wp2_with fail
        refine wp_region_three (Below W7.heap.size W7) [0, 1, 2, 3, 9, 4, 5, 6, 7, 8, 10, 11] [0, 1, 2, 3, 4, 9, 5, 6, 7, 8, 10, 11] [0, 1, 2, 3, 4, 5, 6, 7, 8, 9, 10, 11] 9 4 5 (by kernel_rfl) (by kernel_rfl) (by kernel_rfl) (by kernel_rfl) (by kernel_rfl) (by decide) (by decide) (by decide) ((Below.refl _ _).drew) ?_ ?_ ?_
        all_goals simp only [opsOf, List.filterMap_cons, List.filterMap_nil, List.getElem?_cons_zero, List.getElem?_cons_succ]
        · repeat (first | (refine lexL_q0 rfl ?_; go_big_quiet_step (fail); refine wpQuiet_nil ?_) | (refine lexL_skip0 rfl rfl ?_; simp only [Act.put, List.setIfInBounds_toArray, List.set_cons_succ, List.set_cons_zero]))
          refine lexL_ld (⟨w2.heap.size, 0, none⟩) (.agg #[.slice A3 1 c3]) rfl rfl rfl (fun w' hS => run_ld_block (((hS.block _ (Nat.lt_of_lt_of_le hlt4 b47.size)).trans (b47.block _ hlt4)).trans HR4.out) Try.underlying24 rfl (by kernel_rfl)) ?_
          simp only [Act.put, List.setIfInBounds_toArray, List.set_cons_succ, List.set_cons_zero]
          repeat (first | (refine lexL_q0 rfl ?_; go_big_quiet_step (fail); refine wpQuiet_nil ?_) | (refine lexL_skip0 rfl rfl ?_; simp only [Act.put, List.setIfInBounds_toArray, List.set_cons_succ, List.set_cons_zero]))
          have vaq : Below W7.heap.size W7 (W7.alloc (.cells #[.slice none 0 0] 24)).drew := ((Below.refl _ _).alloc (Nat.le_refl _) _).drew
          refine lexL_e rfl ?_
          go_wp2_with fail
          refine lexL_go vaq ?_
          repeat (first | (refine lexL_q0 rfl ?_; go_big_quiet_step (fail); refine wpQuiet_nil ?_) | (refine lexL_skip0 rfl rfl ?_; simp only [Act.put, List.setIfInBounds_toArray, List.set_cons_succ, List.set_cons_zero]))
          have vbq : Below W7.heap.size W7 ((W7.alloc (.cells #[.slice none 0 0] 24)).alloc (.cells (madeCells (encB 0).toArray (65536 + m)) 5)).drew := (((Below.refl _ _).alloc (Nat.le_refl _) _).alloc (by simp) _).drew
          have hownMq := (mkOwnBn ((65536 + m)) (by omega) (W7.alloc (.cells #[.slice none 0 0] 24))).ext (w' := ((W7.alloc (.cells #[.slice none 0 0] 24)).alloc (.cells (madeCells (encB 0).toArray (65536 + m)) 5)).drew) (Below.refl _ _).drew
          have rowXq : ((W7.alloc (.cells #[.slice none 0 0] 24)).alloc (.cells (madeCells (encB 0).toArray (65536 + m)) 5)).drew.heap[W7.heap.size]? = some (.cells #[.slice none 0 0] 24 (0, 0)) := (((Below.refl _ _).alloc (Nat.le_refl _) _).block W7.heap.size (by simp)).trans (heap_alloc_new W7 _)
          rw [World.size_alloc] at hownMq
          refine lexL_e rfl ?_
          go_wp2_with fail
          refine lexL_go vbq ?_
          repeat (first | (refine lexL_q0 rfl ?_; go_big_quiet_step (fail); refine wpQuiet_nil ?_) | (refine lexL_skip0 rfl rfl ?_; simp only [Act.put, List.setIfInBounds_toArray, List.set_cons_succ, List.set_cons_zero]))
          refine lexL_e rfl ?_
          go_wp2_with fail
          have hszVq : ((W7.alloc (.cells #[.slice none 0 0] 24)).alloc (.cells (madeCells (encB 0).toArray (65536 + m)) 5)).drew.heap.size = W7.heap.size + 2 := by show ((W7.alloc (.cells #[.slice none 0 0] 24)).alloc (.cells (madeCells (encB 0).toArray (65536 + m)) 5)).heap.size = _; rw [World.size_alloc, World.size_alloc]
          generalize ((W7.alloc (.cells #[.slice none 0 0] 24)).alloc (.cells (madeCells (encB 0).toArray (65536 + m)) 5)).drew = Vq at *
          have hre := replace_ok A3 1 c3 _ _ Vq ((hD4.ext b47).ext vbq) (by omega) 0 (by omega) (some ⟨W7.heap.size + 1, 0, none⟩) (65536 + m) (65536 + m) _ _ hownMq.recs (by omega)
          rw [show ((0 : Nat) : Int) = 0 from rfl] at hre
          refine hre.mono ?_
          rintro e w6q ⟨A6q, c6q, rfl, hD6q, hb6q⟩
          clear hre
          have b46q := Below.ext vbq hb6q
          go_wp2_with fail
          refine lexL_go (b46q) ?_
          repeat (first | (refine lexL_q0 rfl ?_; go_big_quiet_step (fail); refine wpQuiet_nil ?_) | (refine lexL_skip0 rfl rfl ?_; simp only [Act.put, List.setIfInBounds_toArray, List.set_cons_succ, List.set_cons_zero]))
          have rowX6q := (hb6q.block (W7.heap.size) (by omega)).trans rowXq
          refine lexL_e rfl ?_
          refine wpList_store_row rfl 24 _ _ rfl (W7.heap.size) 24 _ _ rfl rfl rowX6q (by kernel_rfl) rfl (by simp [Value.oneCell']) ?_
          have b47q : Below W7.heap.size W7 (w6q.setRow (W7.heap.size) #[.slice A6q 1 c6q]) := Below.setRow b46q (by omega) _
          refine lexL_go b47q ?_
          simp only [Act.put]
          repeat (first | (refine lexL_q0 rfl ?_; go_big_quiet_step (fail); refine wpQuiet_nil ?_) | (refine lexL_skip0 rfl rfl ?_; simp only [Act.put, List.setIfInBounds_toArray, List.set_cons_succ, List.set_cons_zero]))
          have hr7q := setRow_heap _ _ _ #[.slice A6q 1 c6q] _ _ rowX6q
          generalize w6q.setRow (W7.heap.size) #[.slice A6q 1 c6q] = W10 at *
          have HR7q := Lib.hid hr7q
          have hlt7q : W7.heap.size < W10.heap.size := (Array.getElem?_eq_some_iff.1 hr7q).1
          clear hr7q
          have b710 := b47q
          have qX : W10.cell? ⟨W4.heap.size, 0, none⟩ = some (.slice A6 1 c6) := by rw [cell_of_row _ _ _ _ _ _ ((b710.block _ hlt7).trans HR7.out)]; rfl
          have hD10 := hD7.ext b710
          obtain ⟨bX, oX, xX, fX, rfl, hbX, hfX, hxX, cX0, cX1⟩ := hD10.at_ (k := 0) (by omega)
          have hfe : fX = ⟨[], ([] ++ List.replicate (65536 - n) 0) ++ List.replicate m 0⟩ := by cases hfX; rfl
          have hln := hxX.p.len.1
          rw [hfe] at hln
          simp at hln
          have dX : ((xX.n2 : Int) == ((65536 - n : Nat) : Int) + (m : Int)) = true := by simp; omega
          rw [Nat.zero_mul, Nat.add_zero] at cX0 cX1
          clear hfe hln hfX
          refine lexL_nil ?_
          go_wp2_with fail
          go_wp2
          go_ret
          exact ⟨rfl, Below.ext b4 (Below.ext b47 b710)⟩
        · repeat (first | (refine lexL_q0 rfl ?_; go_big_quiet_step (fail); refine wpQuiet_nil ?_) | (refine lexL_skip0 rfl rfl ?_; simp only [Act.put, List.setIfInBounds_toArray, List.set_cons_succ, List.set_cons_zero]))
          refine lexL_ld (⟨w2.heap.size, 0, none⟩) (.agg #[.slice A3 1 c3]) rfl rfl rfl (fun w' hS => run_ld_block (((hS.block _ (Nat.lt_of_lt_of_le hlt4 b47.size)).trans (b47.block _ hlt4)).trans HR4.out) Try.underlying24 rfl (by kernel_rfl)) ?_
          simp only [Act.put, List.setIfInBounds_toArray, List.set_cons_succ, List.set_cons_zero]
          repeat (first | (refine lexL_q0 rfl ?_; go_big_quiet_step (fail); refine wpQuiet_nil ?_) | (refine lexL_skip0 rfl rfl ?_; simp only [Act.put, List.setIfInBounds_toArray, List.set_cons_succ, List.set_cons_zero]))
          have vaq : Below W7.heap.size W7 (W7.alloc (.cells (madeCells (encB 0).toArray (65536 + m)) 5)).drew := ((Below.refl _ _).alloc (Nat.le_refl _) _).drew
          refine lexL_e rfl ?_
          go_wp2_with fail
          refine lexL_go vaq ?_
          repeat (first | (refine lexL_q0 rfl ?_; go_big_quiet_step (fail); refine wpQuiet_nil ?_) | (refine lexL_skip0 rfl rfl ?_; simp only [Act.put, List.setIfInBounds_toArray, List.set_cons_succ, List.set_cons_zero]))
          have vbq : Below W7.heap.size W7 ((W7.alloc (.cells (madeCells (encB 0).toArray (65536 + m)) 5)).alloc (.cells #[.slice none 0 0] 24)).drew := (((Below.refl _ _).alloc (Nat.le_refl _) _).alloc (by simp) _).drew
          have hownMq := (mkOwnBn ((65536 + m)) (by omega) W7).ext (w' := ((W7.alloc (.cells (madeCells (encB 0).toArray (65536 + m)) 5)).alloc (.cells #[.slice none 0 0] 24)).drew) ((Below.refl _ _).alloc (Nat.le_refl _) _).drew
          have rowXq : ((W7.alloc (.cells (madeCells (encB 0).toArray (65536 + m)) 5)).alloc (.cells #[.slice none 0 0] 24)).drew.heap[W7.heap.size + 1]? = some (.cells #[.slice none 0 0] 24 (0, 0)) := by
            have := heap_alloc_new (W7.alloc (.cells (madeCells (encB 0).toArray (65536 + m)) 5)) (.cells #[.slice none 0 0] 24)
            rw [World.size_alloc] at this
            exact this
          refine lexL_e rfl ?_
          go_wp2_with fail
          refine lexL_go vbq ?_
          repeat (first | (refine lexL_q0 rfl ?_; go_big_quiet_step (fail); refine wpQuiet_nil ?_) | (refine lexL_skip0 rfl rfl ?_; simp only [Act.put, List.setIfInBounds_toArray, List.set_cons_succ, List.set_cons_zero]))
          refine lexL_e rfl ?_
          go_wp2_with fail
          have hszVq : ((W7.alloc (.cells (madeCells (encB 0).toArray (65536 + m)) 5)).alloc (.cells #[.slice none 0 0] 24)).drew.heap.size = W7.heap.size + 2 := by show ((W7.alloc (.cells (madeCells (encB 0).toArray (65536 + m)) 5)).alloc (.cells #[.slice none 0 0] 24)).heap.size = _; rw [World.size_alloc, World.size_alloc]
          generalize ((W7.alloc (.cells (madeCells (encB 0).toArray (65536 + m)) 5)).alloc (.cells #[.slice none 0 0] 24)).drew = Vq at *
          have hre := replace_ok A3 1 c3 _ _ Vq ((hD4.ext b47).ext vbq) (by omega) 0 (by omega) (some ⟨W7.heap.size, 0, none⟩) (65536 + m) (65536 + m) _ _ hownMq.recs (by omega)
          rw [show ((0 : Nat) : Int) = 0 from rfl] at hre
          refine hre.mono ?_
          rintro e w6q ⟨A6q, c6q, rfl, hD6q, hb6q⟩
          clear hre
          have b46q := Below.ext vbq hb6q
          go_wp2_with fail
          refine lexL_go (b46q) ?_
          repeat (first | (refine lexL_q0 rfl ?_; go_big_quiet_step (fail); refine wpQuiet_nil ?_) | (refine lexL_skip0 rfl rfl ?_; simp only [Act.put, List.setIfInBounds_toArray, List.set_cons_succ, List.set_cons_zero]))
          have rowX6q := (hb6q.block (W7.heap.size + 1) (by omega)).trans rowXq
          refine lexL_e rfl ?_
          refine wpList_store_row rfl 24 _ _ rfl (W7.heap.size + 1) 24 _ _ rfl rfl rowX6q (by kernel_rfl) rfl (by simp [Value.oneCell']) ?_
          have b47q : Below W7.heap.size W7 (w6q.setRow (W7.heap.size + 1) #[.slice A6q 1 c6q]) := Below.setRow b46q (by omega) _
          refine lexL_go b47q ?_
          simp only [Act.put]
          repeat (first | (refine lexL_q0 rfl ?_; go_big_quiet_step (fail); refine wpQuiet_nil ?_) | (refine lexL_skip0 rfl rfl ?_; simp only [Act.put, List.setIfInBounds_toArray, List.set_cons_succ, List.set_cons_zero]))
          have hr7q := setRow_heap _ _ _ #[.slice A6q 1 c6q] _ _ rowX6q
          generalize w6q.setRow (W7.heap.size + 1) #[.slice A6q 1 c6q] = W10 at *
          have HR7q := Lib.hid hr7q
          have hlt7q : W7.heap.size + 1 < W10.heap.size := (Array.getElem?_eq_some_iff.1 hr7q).1
          clear hr7q
          have b710 := b47q
          have qX : W10.cell? ⟨W4.heap.size, 0, none⟩ = some (.slice A6 1 c6) := by rw [cell_of_row _ _ _ _ _ _ ((b710.block _ hlt7).trans HR7.out)]; rfl
          have hD10 := hD7.ext b710
          obtain ⟨bX, oX, xX, fX, rfl, hbX, hfX, hxX, cX0, cX1⟩ := hD10.at_ (k := 0) (by omega)
          have hfe : fX = ⟨[], ([] ++ List.replicate (65536 - n) 0) ++ List.replicate m 0⟩ := by cases hfX; rfl
          have hln := hxX.p.len.1
          rw [hfe] at hln
          simp at hln
          have dX : ((xX.n2 : Int) == ((65536 - n : Nat) : Int) + (m : Int)) = true := by simp; omega
          rw [Nat.zero_mul, Nat.add_zero] at cX0 cX1
          clear hfe hln hfX
          refine lexL_nil ?_
          go_wp2_with fail
          go_wp2
          go_ret
          exact ⟨rfl, Below.ext b4 (Below.ext b47 b710)⟩
        · repeat (first | (refine lexL_q0 rfl ?_; go_big_quiet_step (fail); refine wpQuiet_nil ?_) | (refine lexL_skip0 rfl rfl ?_; simp only [Act.put, List.setIfInBounds_toArray, List.set_cons_succ, List.set_cons_zero]))
          refine lexL_ld (⟨w2.heap.size, 0, none⟩) (.agg #[.slice A3 1 c3]) rfl rfl rfl (fun w' hS => run_ld_block (((hS.block _ (Nat.lt_of_lt_of_le hlt4 b47.size)).trans (b47.block _ hlt4)).trans HR4.out) Try.underlying24 rfl (by kernel_rfl)) ?_
          simp only [Act.put, List.setIfInBounds_toArray, List.set_cons_succ, List.set_cons_zero]
          repeat (first | (refine lexL_q0 rfl ?_; go_big_quiet_step (fail); refine wpQuiet_nil ?_) | (refine lexL_skip0 rfl rfl ?_; simp only [Act.put, List.setIfInBounds_toArray, List.set_cons_succ, List.set_cons_zero]))
          have vbq : Below W7.heap.size W7 (W7.alloc (.cells (madeCells (encB 0).toArray (65536 + m)) 5)).drew := ((Below.refl _ _).alloc (Nat.le_refl _) _).drew
          have hownMq := (mkOwnBn ((65536 + m)) (by omega) W7).ext (w' := (W7.alloc (.cells (madeCells (encB 0).toArray (65536 + m)) 5)).drew) (Below.refl _ _).drew
          refine lexL_e rfl ?_
          go_wp2_with fail
          refine lexL_go vbq ?_
          repeat (first | (refine lexL_q0 rfl ?_; go_big_quiet_step (fail); refine wpQuiet_nil ?_) | (refine lexL_skip0 rfl rfl ?_; simp only [Act.put, List.setIfInBounds_toArray, List.set_cons_succ, List.set_cons_zero]))
          refine lexL_e rfl ?_
          go_wp2_with fail
          generalize (W7.alloc (.cells (madeCells (encB 0).toArray (65536 + m)) 5)).drew = Vq at *
          have hre := replace_ok A3 1 c3 _ _ Vq ((hD4.ext b47).ext vbq) (by omega) 0 (by omega) (some ⟨W7.heap.size, 0, none⟩) (65536 + m) (65536 + m) _ _ hownMq.recs (by omega)
          rw [show ((0 : Nat) : Int) = 0 from rfl] at hre
          refine hre.mono ?_
          rintro e w6q ⟨A6q, c6q, rfl, hD6q, hb6q⟩
          clear hre
          have b46q := Below.ext vbq hb6q
          go_wp2_with fail
          refine lexL_go (b46q) ?_
          repeat (first | (refine lexL_q0 rfl ?_; go_big_quiet_step (fail); refine wpQuiet_nil ?_) | (refine lexL_skip0 rfl rfl ?_; simp only [Act.put, List.setIfInBounds_toArray, List.set_cons_succ, List.set_cons_zero]))
          have hbXq : Below w6q.heap.size w6q (w6q.alloc (.cells #[.slice none 0 0] 24)) := (Below.refl _ _).alloc (Nat.le_refl _) _
          refine lexL_e rfl ?_
          go_wp2_with fail
          refine lexL_go (Below.ext b46q hbXq) ?_
          repeat (first | (refine lexL_q0 rfl ?_; go_big_quiet_step (fail); refine wpQuiet_nil ?_) | (refine lexL_skip0 rfl rfl ?_; simp only [Act.put, List.setIfInBounds_toArray, List.set_cons_succ, List.set_cons_zero]))
          refine lexL_e rfl ?_
          refine wpList_store_row rfl 24 _ _ rfl w6q.heap.size 24 _ _ rfl rfl (heap_alloc_new w6q _) (by kernel_rfl) rfl (by simp [Value.oneCell']) ?_
          rw [World.setRow_alloc_new]
          have hbX7q : Below w6q.heap.size w6q (w6q.alloc (.cells #[.slice A6q 1 c6q] 24)) := (Below.refl _ _).alloc (Nat.le_refl _) _
          have b47q := Below.ext b46q hbX7q
          refine lexL_go b47q ?_
          simp only [Act.put]
          repeat (first | (refine lexL_q0 rfl ?_; go_big_quiet_step (fail); refine wpQuiet_nil ?_) | (refine lexL_skip0 rfl rfl ?_; simp only [Act.put, List.setIfInBounds_toArray, List.set_cons_succ, List.set_cons_zero]))
          have hr7q : (w6q.alloc (.cells #[.slice A6q 1 c6q] 24)).heap[w6q.heap.size]? = some (.cells #[.slice A6q 1 c6q] 24 (0, 0)) := heap_alloc_new w6q _
          generalize w6q.alloc (.cells #[.slice A6q 1 c6q] 24) = W10 at *
          have HR7q := Lib.hid hr7q
          have hlt7q : w6q.heap.size < W10.heap.size := (Array.getElem?_eq_some_iff.1 hr7q).1
          clear hr7q
          have b710 := b47q
          have qX : W10.cell? ⟨W4.heap.size, 0, none⟩ = some (.slice A6 1 c6) := by rw [cell_of_row _ _ _ _ _ _ ((b710.block _ hlt7).trans HR7.out)]; rfl
          have hD10 := hD7.ext b710
          obtain ⟨bX, oX, xX, fX, rfl, hbX, hfX, hxX, cX0, cX1⟩ := hD10.at_ (k := 0) (by omega)
          have hfe : fX = ⟨[], ([] ++ List.replicate (65536 - n) 0) ++ List.replicate m 0⟩ := by cases hfX; rfl
          have hln := hxX.p.len.1
          rw [hfe] at hln
          simp at hln
          have dX : ((xX.n2 : Int) == ((65536 - n : Nat) : Int) + (m : Int)) = true := by simp; omega
          rw [Nat.zero_mul, Nat.add_zero] at cX0 cX1
          clear hfe hln hfX
          refine lexL_nil ?_
          go_wp2_with fail
          go_wp2
          go_ret
          exact ⟨rfl, Below.ext b4 (Below.ext b47 b710)⟩
      · repeat (first | (refine lexL_q0 rfl ?_; go_big_quiet_step (fail); refine wpQuiet_nil ?_) | (refine lexL_skip0 rfl rfl ?_; simp only [Act.put, List.setIfInBounds_toArray, List.set_cons_succ, List.set_cons_zero]))
        refine lexL_ld (⟨w2.heap.size, 0, none⟩) (.agg #[.slice A3 1 c3]) rfl rfl rfl (fun w' hS => run_ld_block ((hS.block _ hlt4).trans HR4.out) Try.underlying24 rfl (by kernel_rfl)) ?_
        simp only [Act.put, List.setIfInBounds_toArray, List.set_cons_succ, List.set_cons_zero]
        repeat (first | (refine lexL_q0 rfl ?_; go_big_quiet_step (fail); refine wpQuiet_nil ?_) | (refine lexL_skip0 rfl rfl ?_; simp only [Act.put, List.setIfInBounds_toArray, List.set_cons_succ, List.set_cons_zero]))
        have va : Below W4.heap.size W4 (W4.alloc (.cells (madeCells (encB 0).toArray m) 5)).drew := ((Below.refl _ _).alloc (Nat.le_refl _) _).drew
        refine lexL_e rfl ?_
        go_wp2_with fail
        refine lexL_go va ?_
        repeat (first | (refine lexL_q0 rfl ?_; go_big_quiet_step (fail); refine wpQuiet_nil ?_) | (refine lexL_skip0 rfl rfl ?_; simp only [Act.put, List.setIfInBounds_toArray, List.set_cons_succ, List.set_cons_zero]))
        have vb : Below W4.heap.size W4 ((W4.alloc (.cells (madeCells (encB 0).toArray m) 5)).alloc (.cells #[.slice none 0 0] 24)).drew := (((Below.refl _ _).alloc (Nat.le_refl _) _).alloc (by simp) _).drew
        have hownM := (mkOwnBn (m) (by omega) W4).ext (w' := ((W4.alloc (.cells (madeCells (encB 0).toArray m) 5)).alloc (.cells #[.slice none 0 0] 24)).drew) ((Below.refl _ _).alloc (Nat.le_refl _) _).drew
        have rowX : ((W4.alloc (.cells (madeCells (encB 0).toArray m) 5)).alloc (.cells #[.slice none 0 0] 24)).drew.heap[W4.heap.size + 1]? = some (.cells #[.slice none 0 0] 24 (0, 0)) := by
          have := heap_alloc_new (W4.alloc (.cells (madeCells (encB 0).toArray m) 5)) (.cells #[.slice none 0 0] 24)
          rw [World.size_alloc] at this
          exact this
        refine lexL_e rfl ?_
        go_wp2_with fail
        refine lexL_go vb ?_
        repeat (first | (refine lexL_q0 rfl ?_; go_big_quiet_step (fail); refine wpQuiet_nil ?_) | (refine lexL_skip0 rfl rfl ?_; simp only [Act.put, List.setIfInBounds_toArray, List.set_cons_succ, List.set_cons_zero]))
        refine lexL_e rfl ?_
        go_wp2_with fail
        have hszV : ((W4.alloc (.cells (madeCells (encB 0).toArray m) 5)).alloc (.cells #[.slice none 0 0] 24)).drew.heap.size = W4.heap.size + 2 := by show ((W4.alloc (.cells (madeCells (encB 0).toArray m) 5)).alloc (.cells #[.slice none 0 0] 24)).heap.size = _; rw [World.size_alloc, World.size_alloc]
        generalize ((W4.alloc (.cells (madeCells (encB 0).toArray m) 5)).alloc (.cells #[.slice none 0 0] 24)).drew = V at *
        have hap := append_ok A3 1 c3 _ (· ≠ W4.heap.size + 1) V ((hD4.lo.ext vb).mono (fun b hb h => by omega)) (by omega) 0 _ rfl (some ⟨W4.heap.size, 0, none⟩) m m _ (hownM.recs.mono (fun b _ h => by have h2 := h.2; simp [Value.ownBlock] at h2; omega)) (by show 0 + ([] ++ List.replicate (65536 - n) (0 : UInt8)).length + m ≤ _; simp; omega)
        rw [show ((0 : Nat) : Int) = 0 from rfl] at hap
        refine hap.mono ?_
        rintro e w6 ⟨A6, c6, rfl, hD6, hb6⟩
        clear hap
        have b46 := Below.ext vb hb6
        go_wp2_with fail
        refine lexL_go (b46) ?_
        repeat (first | (refine lexL_q0 rfl ?_; go_big_quiet_step (fail); refine wpQuiet_nil ?_) | (refine lexL_skip0 rfl rfl ?_; simp only [Act.put, List.setIfInBounds_toArray, List.set_cons_succ, List.set_cons_zero]))
        have rowX6 := (hb6.block (W4.heap.size + 1) (by omega)).trans rowX
        refine lexL_e rfl ?_
        refine wpList_store_row rfl 24 _ _ rfl (W4.heap.size + 1) 24 _ _ rfl rfl rowX6 (by kernel_rfl) rfl (by simp [Value.oneCell']) ?_
        have b47 : Below W4.heap.size W4 (w6.setRow (W4.heap.size + 1) #[.slice A6 1 c6]) := Below.setRow b46 (by omega) _
        refine lexL_go b47 ?_
        simp only [Act.put]
        repeat (first | (refine lexL_q0 rfl ?_; go_big_quiet_step (fail); refine wpQuiet_nil ?_) | (refine lexL_skip0 rfl rfl ?_; simp only [Act.put, List.setIfInBounds_toArray, List.set_cons_succ, List.set_cons_zero]))
        have hr7 := setRow_heap _ _ _ #[.slice A6 1 c6] _ _ rowX6
        have hD7 : Dsk (fun _ => True) (w6.setRow (W4.heap.size + 1) #[.slice A6 1 c6]) (.slice A6 1 c6) _ := ((hD6.mono (S' := (· ≠ W4.heap.size + 1)) (fun b _ h => by rcases h with h | h; exact h; omega)).keep (Keep.of_grown (grown_setRow _ _ _))).mono (fun _ _ _ => trivial)
        generalize w6.setRow (W4.heap.size + 1) #[.slice A6 1 c6] = W7 at *
        have HR7 := Lib.hid hr7
        have hlt7 : W4.heap.size + 1 < W7.heap.size := (Array.getElem?_eq_some_iff.1 hr7).1
        clear hr7
        refine lexL_nil ?_
        go_wp2_with fail
        refine wp_region_three (Below W7.heap.size W7) [0, 1, 2, 3, 9, 4, 5, 6, 7, 8, 10, 11] [0, 1, 2, 3, 4, 9, 5, 6, 7, 8, 10, 11] [0, 1, 2, 3, 4, 5, 6, 7, 8, 9, 10, 11] 9 4 5 (by kernel_rfl) (by kernel_rfl) (by kernel_rfl) (by kernel_rfl) (by kernel_rfl) (by decide) (by decide) (by decide) ((Below.refl _ _).drew) ?_ ?_ ?_
        all_goals simp only [opsOf, List.filterMap_cons, List.filterMap_nil, List.getElem?_cons_zero, List.getElem?_cons_succ]
        · repeat (first | (refine lexL_q0 rfl ?_; go_big_quiet_step (fail); refine wpQuiet_nil ?_) | (refine lexL_skip0 rfl rfl ?_; simp only [Act.put, List.setIfInBounds_toArray, List.set_cons_succ, List.set_cons_zero]))
          refine lexL_ld (⟨w2.heap.size, 0, none⟩) (.agg #[.slice A3 1 c3]) rfl rfl rfl (fun w' hS => run_ld_block (((hS.block _ (Nat.lt_of_lt_of_le hlt4 b47.size)).trans (b47.block _ hlt4)).trans HR4.out) Try.underlying24 rfl (by kernel_rfl)) ?_
          simp only [Act.put, List.setIfInBounds_toArray, List.set_cons_succ, List.set_cons_zero]
          repeat (first | (refine lexL_q0 rfl ?_; go_big_quiet_step (fail); refine wpQuiet_nil ?_) | (refine lexL_skip0 rfl rfl ?_; simp only [Act.put, List.setIfInBounds_toArray, List.set_cons_succ, List.set_cons_zero]))
          have vaq : Below W7.heap.size W7 (W7.alloc (.cells #[.slice none 0 0] 24)).drew := ((Below.refl _ _).alloc (Nat.le_refl _) _).drew
          refine lexL_e rfl ?_
          go_wp2_with fail
          refine lexL_go vaq ?_
          repeat (first | (refine lexL_q0 rfl ?_; go_big_quiet_step (fail); refine wpQuiet_nil ?_) | (refine lexL_skip0 rfl rfl ?_; simp only [Act.put, List.setIfInBounds_toArray, List.set_cons_succ, List.set_cons_zero]))
          have vbq : Below W7.heap.size W7 ((W7.alloc (.cells #[.slice none 0 0] 24)).alloc (.cells (madeCells (encB 0).toArray (65536 + m)) 5)).drew := (((Below.refl _ _).alloc (Nat.le_refl _) _).alloc (by simp) _).drew
          have hownMq := (mkOwnBn ((65536 + m)) (by omega) (W7.alloc (.cells #[.slice none 0 0] 24))).ext (w' := ((W7.alloc (.cells #[.slice none 0 0] 24)).alloc (.cells (madeCells (encB 0).toArray (65536 + m)) 5)).drew) (Below.refl _ _).drew
          have rowXq : ((W7.alloc (.cells #[.slice none 0 0] 24)).alloc (.cells (madeCells (encB 0).toArray (65536 + m)) 5)).drew.heap[W7.heap.size]? = some (.cells #[.slice none 0 0] 24 (0, 0)) := (((Below.refl _ _).alloc (Nat.le_refl _) _).block W7.heap.size (by simp)).trans (heap_alloc_new W7 _)
          rw [World.size_alloc] at hownMq
          refine lexL_e rfl ?_
          go_wp2_with fail
          refine lexL_go vbq ?_
          repeat (first | (refine lexL_q0 rfl ?_; go_big_quiet_step (fail); refine wpQuiet_nil ?_) | (refine lexL_skip0 rfl rfl ?_; simp only [Act.put, List.setIfInBounds_toArray, List.set_cons_succ, List.set_cons_zero]))
          refine lexL_e rfl ?_
          go_wp2_with fail
          have hszVq : ((W7.alloc (.cells #[.slice none 0 0] 24)).alloc (.cells (madeCells (encB 0).toArray (65536 + m)) 5)).drew.heap.size = W7.heap.size + 2 := by show ((W7.alloc (.cells #[.slice none 0 0] 24)).alloc (.cells (madeCells (encB 0).toArray (65536 + m)) 5)).heap.size = _; rw [World.size_alloc, World.size_alloc]
          generalize ((W7.alloc (.cells #[.slice none 0 0] 24)).alloc (.cells (madeCells (encB 0).toArray (65536 + m)) 5)).drew = Vq at *
          have hre := replace_ok A3 1 c3 _ _ Vq ((hD4.ext b47).ext vbq) (by omega) 0 (by omega) (some ⟨W7.heap.size + 1, 0, none⟩) (65536 + m) (65536 + m) _ _ hownMq.recs (by omega)
          rw [show ((0 : Nat) : Int) = 0 from rfl] at hre
          refine hre.mono ?_
          rintro e w6q ⟨A6q, c6q, rfl, hD6q, hb6q⟩
          clear hre
          have b46q := Below.ext vbq hb6q
          go_wp2_with fail
          refine lexL_go (b46q) ?_
          repeat (first | (refine lexL_q0 rfl ?_; go_big_quiet_step (fail); refine wpQuiet_nil ?_) | (refine lexL_skip0 rfl rfl ?_; simp only [Act.put, List.setIfInBounds_toArray, List.set_cons_succ, List.set_cons_zero]))
          have rowX6q := (hb6q.block (W7.heap.size) (by omega)).trans rowXq
          refine lexL_e rfl ?_
          refine wpList_store_row rfl 24 _ _ rfl (W7.heap.size) 24 _ _ rfl rfl rowX6q (by kernel_rfl) rfl (by simp [Value.oneCell']) ?_
          have b47q : Below W7.heap.size W7 (w6q.setRow (W7.heap.size) #[.slice A6q 1 c6q]) := Below.setRow b46q (by omega) _
          refine lexL_go b47q ?_
          simp only [Act.put]
          repeat (first | (refine lexL_q0 rfl ?_; go_big_quiet_step (fail); refine wpQuiet_nil ?_) | (refine lexL_skip0 rfl rfl ?_; simp only [Act.put, List.setIfInBounds_toArray, List.set_cons_succ, List.set_cons_zero]))
          have hr7q := setRow_heap _ _ _ #[.slice A6q 1 c6q] _ _ rowX6q
          generalize w6q.setRow (W7.heap.size) #[.slice A6q 1 c6q] = W10 at *
          have HR7q := Lib.hid hr7q
          have hlt7q : W7.heap.size < W10.heap.size := (Array.getElem?_eq_some_iff.1 hr7q).1
          clear hr7q
          have b710 := b47q
          have qX : W10.cell? ⟨W4.heap.size + 1, 0, none⟩ = some (.slice A6 1 c6) := by rw [cell_of_row _ _ _ _ _ _ ((b710.block _ hlt7).trans HR7.out)]; rfl
          have hD10 := hD7.ext b710
          obtain ⟨bX, oX, xX, fX, rfl, hbX, hfX, hxX, cX0, cX1⟩ := hD10.at_ (k := 0) (by omega)
          have hfe : fX = ⟨[], ([] ++ List.replicate (65536 - n) 0) ++ List.replicate m 0⟩ := by cases hfX; rfl
          have hln := hxX.p.len.1
          rw [hfe] at hln
          simp at hln
          have dX : ((xX.n2 : Int) == ((65536 - n : Nat) : Int) + (m : Int)) = true := by simp; omega
          rw [Nat.zero_mul, Nat.add_zero] at cX0 cX1
          clear hfe hln hfX
          refine lexL_nil ?_
          go_wp2_with fail
          go_wp2
          go_ret
          exact ⟨rfl, Below.ext b4 (Below.ext b47 b710)⟩
        · repeat (first | (refine lexL_q0 rfl ?_; go_big_quiet_step (fail); refine wpQuiet_nil ?_) | (refine lexL_skip0 rfl rfl ?_; simp only [Act.put, List.setIfInBounds_toArray, List.set_cons_succ, List.set_cons_zero]))
          refine lexL_ld (⟨w2.heap.size, 0, none⟩) (.agg #[.slice A3 1 c3]) rfl rfl rfl (fun w' hS => run_ld_block (((hS.block _ (Nat.lt_of_lt_of_le hlt4 b47.size)).trans (b47.block _ hlt4)).trans HR4.out) Try.underlying24 rfl (by kernel_rfl)) ?_
          simp only [Act.put, List.setIfInBounds_toArray, List.set_cons_succ, List.set_cons_zero]
          repeat (first | (refine lexL_q0 rfl ?_; go_big_quiet_step (fail); refine wpQuiet_nil ?_) | (refine lexL_skip0 rfl rfl ?_; simp only [Act.put, List.setIfInBounds_toArray, List.set_cons_succ, List.set_cons_zero]))
          have vaq : Below W7.heap.size W7 (W7.alloc (.cells (madeCells (encB 0).toArray (65536 + m)) 5)).drew := ((Below.refl _ _).alloc (Nat.le_refl _) _).drew
          refine lexL_e rfl ?_
          go_wp2_with fail
          refine lexL_go vaq ?_
          repeat (first | (refine lexL_q0 rfl ?_; go_big_quiet_step (fail); refine wpQuiet_nil ?_) | (refine lexL_skip0 rfl rfl ?_; simp only [Act.put, List.setIfInBounds_toArray, List.set_cons_succ, List.set_cons_zero]))
          have vbq : Below W7.heap.size W7 ((W7.alloc (.cells (madeCells (encB 0).toArray (65536 + m)) 5)).alloc (.cells #[.slice none 0 0] 24)).drew := (((Below.refl _ _).alloc (Nat.le_refl _) _).alloc (by simp) _).drew
          have hownMq := (mkOwnBn ((65536 + m)) (by omega) W7).ext (w' := ((W7.alloc (.cells (madeCells (encB 0).toArray (65536 + m)) 5)).alloc (.cells #[.slice none 0 0] 24)).drew) ((Below.refl _ _).alloc (Nat.le_refl _) _).drew
          have rowXq : ((W7.alloc (.cells (madeCells (encB 0).toArray (65536 + m)) 5)).alloc (.cells #[.slice none 0 0] 24)).drew.heap[W7.heap.size + 1]? = some (.cells #[.slice none 0 0] 24 (0, 0)) := by
            have := heap_alloc_new (W7.alloc (.cells (madeCells (encB 0).toArray (65536 + m)) 5)) (.cells #[.slice none 0 0] 24)
            rw [World.size_alloc] at this
            exact this
          refine lexL_e rfl ?_
          go_wp2_with fail
          refine lexL_go vbq ?_
          repeat (first | (refine lexL_q0 rfl ?_; go_big_quiet_step (fail); refine wpQuiet_nil ?_) | (refine lexL_skip0 rfl rfl ?_; simp only [Act.put, List.setIfInBounds_toArray, List.set_cons_succ, List.set_cons_zero]))
          refine lexL_e rfl ?_
          go_wp2_with fail
          have hszVq : ((W7.alloc (.cells (madeCells (encB 0).toArray (65536 + m)) 5)).alloc (.cells #[.slice none 0 0] 24)).drew.heap.size = W7.heap.size + 2 := by show ((W7.alloc (.cells (madeCells (encB 0).toArray (65536 + m)) 5)).alloc (.cells #[.slice none 0 0] 24)).heap.size = _; rw [World.size_alloc, World.size_alloc]
          generalize ((W7.alloc (.cells (madeCells (encB 0).toArray (65536 + m)) 5)).alloc (.cells #[.slice none 0 0] 24)).drew = Vq at *
          have hre := replace_ok A3 1 c3 _ _ Vq ((hD4.ext b47).ext vbq) (by omega) 0 (by omega) (some ⟨W7.heap.size, 0, none⟩) (65536 + m) (65536 + m) _ _ hownMq.recs (by omega)
          rw [show ((0 : Nat) : Int) = 0 from rfl] at hre
          refine hre.mono ?_
          rintro e w6q ⟨A6q, c6q, rfl, hD6q, hb6q⟩
          clear hre
          have b46q := Below.ext vbq hb6q
          go_wp2_with fail
          refine lexL_go (b46q) ?_
          repeat (first | (refine lexL_q0 rfl ?_; go_big_quiet_step (fail); refine wpQuiet_nil ?_) | (refine lexL_skip0 rfl rfl ?_; simp only [Act.put, List.setIfInBounds_toArray, List.set_cons_succ, List.set_cons_zero]))
          have rowX6q := (hb6q.block (W7.heap.size + 1) (by omega)).trans rowXq
          refine lexL_e rfl ?_
          refine wpList_store_row rfl 24 _ _ rfl (W7.heap.size + 1) 24 _ _ rfl rfl rowX6q (by kernel_rfl) rfl (by simp [Value.oneCell']) ?_
          have b47q : Below W7.heap.size W7 (w6q.setRow (W7.heap.size + 1) #[.slice A6q 1 c6q]) := Below.setRow b46q (by omega) _
          refine lexL_go b47q ?_
          simp only [Act.put]
          repeat (first | (refine lexL_q0 rfl ?_; go_big_quiet_step (fail); refine wpQuiet_nil ?_) | (refine lexL_skip0 rfl rfl ?_; simp only [Act.put, List.setIfInBounds_toArray, List.set_cons_succ, List.set_cons_zero]))
          have hr7q := setRow_heap _ _ _ #[.slice A6q 1 c6q] _ _ rowX6q
          generalize w6q.setRow (W7.heap.size + 1) #[.slice A6q 1 c6q] = W10 at *
          have HR7q := Lib.hid hr7q
          have hlt7q : W7.heap.size + 1 < W10.heap.size := (Array.getElem?_eq_some_iff.1 hr7q).1
          clear hr7q
          have b710 := b47q
          have qX : W10.cell? ⟨W4.heap.size + 1, 0, none⟩ = some (.slice A6 1 c6) := by rw [cell_of_row _ _ _ _ _ _ ((b710.block _ hlt7).trans HR7.out)]; rfl
          have hD10 := hD7.ext b710
          obtain ⟨bX, oX, xX, fX, rfl, hbX, hfX, hxX, cX0, cX1⟩ := hD10.at_ (k := 0) (by omega)
          have hfe : fX = ⟨[], ([] ++ List.replicate (65536 - n) 0) ++ List.replicate m 0⟩ := by cases hfX; rfl
          have hln := hxX.p.len.1
          rw [hfe] at hln
          simp at hln
          have dX : ((xX.n2 : Int) == ((65536 - n : Nat) : Int) + (m : Int)) = true := by simp; omega
          rw [Nat.zero_mul, Nat.add_zero] at cX0 cX1
          clear hfe hln hfX
          refine lexL_nil ?_
          go_wp2_with fail
          go_wp2
          go_ret
          exact ⟨rfl, Below.ext b4 (Below.ext b47 b710)⟩
        · repeat (first | (refine lexL_q0 rfl ?_; go_big_quiet_step (fail); refine wpQuiet_nil ?_) | (refine lexL_skip0 rfl rfl ?_; simp only [Act.put, List.setIfInBounds_toArray, List.set_cons_succ, List.set_cons_zero]))
          refine lexL_ld (⟨w2.heap.size, 0, none⟩) (.agg #[.slice A3 1 c3]) rfl rfl rfl (fun w' hS => run_ld_block (((hS.block _ (Nat.lt_of_lt_of_le hlt4 b47.size)).trans (b47.block _ hlt4)).trans HR4.out) Try.underlying24 rfl (by kernel_rfl)) ?_
          simp only [Act.put, List.setIfInBounds_toArray, List.set_cons_succ, List.set_cons_zero]
          repeat (first | (refine lexL_q0 rfl ?_; go_big_quiet_step (fail); refine wpQuiet_nil ?_) | (refine lexL_skip0 rfl rfl ?_; simp only [Act.put, List.setIfInBounds_toArray, List.set_cons_succ, List.set_cons_zero]))
          have vbq : Below W7.heap.size W7 (W7.alloc (.cells (madeCells (encB 0).toArray (65536 + m)) 5)).drew := ((Below.refl _ _).alloc (Nat.le_refl _) _).drew
          have hownMq := (mkOwnBn ((65536 + m)) (by omega) W7).ext (w' := (W7.alloc (.cells (madeCells (encB 0).toArray (65536 + m)) 5)).drew) (Below.refl _ _).drew
          refine lexL_e rfl ?_
          go_wp2_with fail
          refine lexL_go vbq ?_
          repeat (first | (refine lexL_q0 rfl ?_; go_big_quiet_step (fail); refine wpQuiet_nil ?_) | (refine lexL_skip0 rfl rfl ?_; simp only [Act.put, List.setIfInBounds_toArray, List.set_cons_succ, List.set_cons_zero]))
          refine lexL_e rfl ?_
          go_wp2_with fail
          generalize (W7.alloc (.cells (madeCells (encB 0).toArray (65536 + m)) 5)).drew = Vq at *
          have hre := replace_ok A3 1 c3 _ _ Vq ((hD4.ext b47).ext vbq) (by omega) 0 (by omega) (some ⟨W7.heap.size, 0, none⟩) (65536 + m) (65536 + m) _ _ hownMq.recs (by omega)
          rw [show ((0 : Nat) : Int) = 0 from rfl] at hre
          refine hre.mono ?_
          rintro e w6q ⟨A6q, c6q, rfl, hD6q, hb6q⟩
          clear hre
          have b46q := Below.ext vbq hb6q
          go_wp2_with fail
          refine lexL_go (b46q) ?_
          repeat (first | (refine lexL_q0 rfl ?_; go_big_quiet_step (fail); refine wpQuiet_nil ?_) | (refine lexL_skip0 rfl rfl ?_; simp only [Act.put, List.setIfInBounds_toArray, List.set_cons_succ, List.set_cons_zero]))
          have hbXq : Below w6q.heap.size w6q (w6q.alloc (.cells #[.slice none 0 0] 24)) := (Below.refl _ _).alloc (Nat.le_refl _) _
          refine lexL_e rfl ?_
          go_wp2_with fail
          refine lexL_go (Below.ext b46q hbXq) ?_
          repeat (first | (refine lexL_q0 rfl ?_; go_big_quiet_step (fail); refine wpQuiet_nil ?_) | (refine lexL_skip0 rfl rfl ?_; simp only [Act.put, List.setIfInBounds_toArray, List.set_cons_succ, List.set_cons_zero]))
          refine lexL_e rfl ?_
          refine wpList_store_row rfl 24 _ _ rfl w6q.heap.size 24 _ _ rfl rfl (heap_alloc_new w6q _) (by kernel_rfl) rfl (by simp [Value.oneCell']) ?_
          rw [World.setRow_alloc_new]
          have hbX7q : Below w6q.heap.size w6q (w6q.alloc (.cells #[.slice A6q 1 c6q] 24)) := (Below.refl _ _).alloc (Nat.le_refl _) _
          have b47q := Below.ext b46q hbX7q
          refine lexL_go b47q ?_
          simp only [Act.put]
          repeat (first | (refine lexL_q0 rfl ?_; go_big_quiet_step (fail); refine wpQuiet_nil ?_) | (refine lexL_skip0 rfl rfl ?_; simp only [Act.put, List.setIfInBounds_toArray, List.set_cons_succ, List.set_cons_zero]))
          have hr7q : (w6q.alloc (.cells #[.slice A6q 1 c6q] 24)).heap[w6q.heap.size]? = some (.cells #[.slice A6q 1 c6q] 24 (0, 0)) := heap_alloc_new w6q _
          generalize w6q.alloc (.cells #[.slice A6q 1 c6q] 24) = W10 at *
          have HR7q := Lib.hid hr7q
          have hlt7q : w6q.heap.size < W10.heap.size := (Array.getElem?_eq_some_iff.1 hr7q).1
          clear hr7q
          have b710 := b47q
          have qX : W10.cell? ⟨W4.heap.size + 1, 0, none⟩ = some (.slice A6 1 c6) := by rw [cell_of_row _ _ _ _ _ _ ((b710.block _ hlt7).trans HR7.out)]; rfl
          have hD10 := hD7.ext b710
          obtain ⟨bX, oX, xX, fX, rfl, hbX, hfX, hxX, cX0, cX1⟩ := hD10.at_ (k := 0) (by omega)
          have hfe : fX = ⟨[], ([] ++ List.replicate (65536 - n) 0) ++ List.replicate m 0⟩ := by cases hfX; rfl
          have hln := hxX.p.len.1
          rw [hfe] at hln
          simp at hln
          have dX : ((xX.n2 : Int) == ((65536 - n : Nat) : Int) + (m : Int)) = true := by simp; omega
          rw [Nat.zero_mul, Nat.add_zero] at cX0 cX1
          clear hfe hln hfX
          refine lexL_nil ?_
          go_wp2_with fail
          go_wp2
          go_ret
          exact ⟨rfl, Below.ext b4 (Below.ext b47 b710)⟩
      · repeat (first | (refine lexL_q0 rfl ?_; go_big_quiet_step (fail); refine wpQuiet_nil ?_) | (refine lexL_skip0 rfl rfl ?_; simp only [Act.put, List.setIfInBounds_toArray, List.set_cons_succ, List.set_cons_zero]))
        refine lexL_ld (⟨w2.heap.size, 0, none⟩) (.agg #[.slice A3 1 c3]) rfl rfl rfl (fun w' hS => run_ld_block ((hS.block _ hlt4).trans HR4.out) Try.underlying24 rfl (by kernel_rfl)) ?_
        simp only [Act.put, List.setIfInBounds_toArray, List.set_cons_succ, List.set_cons_zero]
        repeat (first | (refine lexL_q0 rfl ?_; go_big_quiet_step (fail); refine wpQuiet_nil ?_) | (refine lexL_skip0 rfl rfl ?_; simp only [Act.put, List.setIfInBounds_toArray, List.set_cons_succ, List.set_cons_zero]))
        have vb : Below W4.heap.size W4 (W4.alloc (.cells (madeCells (encB 0).toArray m) 5)).drew := ((Below.refl _ _).alloc (Nat.le_refl _) _).drew
        have hownM := (mkOwnBn (m) (by omega) W4).ext (w' := (W4.alloc (.cells (madeCells (encB 0).toArray m) 5)).drew) (Below.refl _ _).drew
        refine lexL_e rfl ?_
        go_wp2_with fail
        refine lexL_go vb ?_
        repeat (first | (refine lexL_q0 rfl ?_; go_big_quiet_step (fail); refine wpQuiet_nil ?_) | (refine lexL_skip0 rfl rfl ?_; simp only [Act.put, List.setIfInBounds_toArray, List.set_cons_succ, List.set_cons_zero]))
        refine lexL_e rfl ?_
        go_wp2_with fail
        generalize (W4.alloc (.cells (madeCells (encB 0).toArray m) 5)).drew = V at *
        have hap := append_ok A3 1 c3 _ (fun _ => True) V ((hD4.lo.ext vb).mono (fun _ _ _ => trivial)) (by omega) 0 _ rfl (some ⟨W4.heap.size, 0, none⟩) m m _ (hownM.recs.mono (fun _ _ _ => trivial)) (by show 0 + ([] ++ List.replicate (65536 - n) (0 : UInt8)).length + m ≤ _; simp; omega)
        rw [show ((0 : Nat) : Int) = 0 from rfl] at hap
        refine hap.mono ?_
        rintro e w6 ⟨A6, c6, rfl, hD6, hb6⟩
        clear hap
        have b46 := Below.ext vb hb6
        go_wp2_with fail
        refine lexL_go (b46) ?_
        repeat (first | (refine lexL_q0 rfl ?_; go_big_quiet_step (fail); refine wpQuiet_nil ?_) | (refine lexL_skip0 rfl rfl ?_; simp only [Act.put, List.setIfInBounds_toArray, List.set_cons_succ, List.set_cons_zero]))
        have hbX : Below w6.heap.size w6 (w6.alloc (.cells #[.slice none 0 0] 24)) := (Below.refl _ _).alloc (Nat.le_refl _) _
        refine lexL_e rfl ?_
        go_wp2_with fail
        refine lexL_go (Below.ext b46 hbX) ?_
        repeat (first | (refine lexL_q0 rfl ?_; go_big_quiet_step (fail); refine wpQuiet_nil ?_) | (refine lexL_skip0 rfl rfl ?_; simp only [Act.put, List.setIfInBounds_toArray, List.set_cons_succ, List.set_cons_zero]))
        refine lexL_e rfl ?_
        refine wpList_store_row rfl 24 _ _ rfl w6.heap.size 24 _ _ rfl rfl (heap_alloc_new w6 _) (by kernel_rfl) rfl (by simp [Value.oneCell']) ?_
        rw [World.setRow_alloc_new]
        have hbX7 : Below w6.heap.size w6 (w6.alloc (.cells #[.slice A6 1 c6] 24)) := (Below.refl _ _).alloc (Nat.le_refl _) _
        have b47 := Below.ext b46 hbX7
        refine lexL_go b47 ?_
        simp only [Act.put]
        repeat (first | (refine lexL_q0 rfl ?_; go_big_quiet_step (fail); refine wpQuiet_nil ?_) | (refine lexL_skip0 rfl rfl ?_; simp only [Act.put, List.setIfInBounds_toArray, List.set_cons_succ, List.set_cons_zero]))
        have hr7 : (w6.alloc (.cells #[.slice A6 1 c6] 24)).heap[w6.heap.size]? = some (.cells #[.slice A6 1 c6] 24 (0, 0)) := heap_alloc_new w6 _
        have hD7 := (hD6.ext hbX7).mono (S' := fun _ => True) (fun _ _ _ => trivial)
        generalize w6.alloc (.cells #[.slice A6 1 c6] 24) = W7 at *
        have HR7 := Lib.hid hr7
        have hlt7 : w6.heap.size < W7.heap.size := (Array.getElem?_eq_some_iff.1 hr7).1
        clear hr7
        refine lexL_nil ?_
        go_wp2_with fail
        refine wp_region_three (Below W7.heap.size W7) [0, 1, 2, 3, 9, 4, 5, 6, 7, 8, 10, 11] [0, 1, 2, 3, 4, 9, 5, 6, 7, 8, 10, 11] [0, 1, 2, 3, 4, 5, 6, 7, 8, 9, 10, 11] 9 4 5 (by kernel_rfl) (by kernel_rfl) (by kernel_rfl) (by kernel_rfl) (by kernel_rfl) (by decide) (by decide) (by decide) ((Below.refl _ _).drew) ?_ ?_ ?_
        all_goals simp only [opsOf, List.filterMap_cons, List.filterMap_nil, List.getElem?_cons_zero, List.getElem?_cons_succ]
        · repeat (first | (refine lexL_q0 rfl ?_; go_big_quiet_step (fail); refine wpQuiet_nil ?_) | (refine lexL_skip0 rfl rfl ?_; simp only [Act.put, List.setIfInBounds_toArray, List.set_cons_succ, List.set_cons_zero]))
          refine lexL_ld (⟨w2.heap.size, 0, none⟩) (.agg #[.slice A3 1 c3]) rfl rfl rfl (fun w' hS => run_ld_block (((hS.block _ (Nat.lt_of_lt_of_le hlt4 b47.size)).trans (b47.block _ hlt4)).trans HR4.out) Try.underlying24 rfl (by kernel_rfl)) ?_
          simp only [Act.put, List.setIfInBounds_toArray, List.set_cons_succ, List.set_cons_zero]
          repeat (first | (refine lexL_q0 rfl ?_; go_big_quiet_step (fail); refine wpQuiet_nil ?_) | (refine lexL_skip0 rfl rfl ?_; simp only [Act.put, List.setIfInBounds_toArray, List.set_cons_succ, List.set_cons_zero]))
          have vaq : Below W7.heap.size W7 (W7.alloc (.cells #[.slice none 0 0] 24)).drew := ((Below.refl _ _).alloc (Nat.le_refl _) _).drew
          refine lexL_e rfl ?_
          go_wp2_with fail
          refine lexL_go vaq ?_
          repeat (first | (refine lexL_q0 rfl ?_; go_big_quiet_step (fail); refine wpQuiet_nil ?_) | (refine lexL_skip0 rfl rfl ?_; simp only [Act.put, List.setIfInBounds_toArray, List.set_cons_succ, List.set_cons_zero]))
          have vbq : Below W7.heap.size W7 ((W7.alloc (.cells #[.slice none 0 0] 24)).alloc (.cells (madeCells (encB 0).toArray (65536 + m)) 5)).drew := (((Below.refl _ _).alloc (Nat.le_refl _) _).alloc (by simp) _).drew
          have hownMq := (mkOwnBn ((65536 + m)) (by omega) (W7.alloc (.cells #[.slice none 0 0] 24))).ext (w' := ((W7.alloc (.cells #[.slice none 0 0] 24)).alloc (.cells (madeCells (encB 0).toArray (65536 + m)) 5)).drew) (Below.refl _ _).drew
          have rowXq : ((W7.alloc (.cells #[.slice none 0 0] 24)).alloc (.cells (madeCells (encB 0).toArray (65536 + m)) 5)).drew.heap[W7.heap.size]? = some (.cells #[.slice none 0 0] 24 (0, 0)) := (((Below.refl _ _).alloc (Nat.le_refl _) _).block W7.heap.size (by simp)).trans (heap_alloc_new W7 _)
          rw [World.size_alloc] at hownMq
          refine lexL_e rfl ?_
          go_wp2_with fail
          refine lexL_go vbq ?_
          repeat (first | (refine lexL_q0 rfl ?_; go_big_quiet_step (fail); refine wpQuiet_nil ?_) | (refine lexL_skip0 rfl rfl ?_; simp only [Act.put, List.setIfInBounds_toArray, List.set_cons_succ, List.set_cons_zero]))
          refine lexL_e rfl ?_
          go_wp2_with fail
          have hszVq : ((W7.alloc (.cells #[.slice none 0 0] 24)).alloc (.cells (madeCells (encB 0).toArray (65536 + m)) 5)).drew.heap.size = W7.heap.size + 2 := by show ((W7.alloc (.cells #[.slice none 0 0] 24)).alloc (.cells (madeCells (encB 0).toArray (65536 + m)) 5)).heap.size = _; rw [World.size_alloc, World.size_alloc]
          generalize ((W7.alloc (.cells #[.slice none 0 0] 24)).alloc (.cells (madeCells (encB 0).toArray (65536 + m)) 5)).drew = Vq at *
          have hre := replace_ok A3 1 c3 _ _ Vq ((hD4.ext b47).ext vbq) (by omega) 0 (by omega) (some ⟨W7.heap.size + 1, 0, none⟩) (65536 + m) (65536 + m) _ _ hownMq.recs (by omega)
          rw [show ((0 : Nat) : Int) = 0 from rfl] at hre
          refine hre.mono ?_
          rintro e w6q ⟨A6q, c6q, rfl, hD6q, hb6q⟩
          clear hre
          have b46q := Below.ext vbq hb6q
          go_wp2_with fail
          refine lexL_go (b46q) ?_
          repeat (first | (refine lexL_q0 rfl ?_; go_big_quiet_step (fail); refine wpQuiet_nil ?_) | (refine lexL_skip0 rfl rfl ?_; simp only [Act.put, List.setIfInBounds_toArray, List.set_cons_succ, List.set_cons_zero]))
          have rowX6q := (hb6q.block (W7.heap.size) (by omega)).trans rowXq
          refine lexL_e rfl ?_
          refine wpList_store_row rfl 24 _ _ rfl (W7.heap.size) 24 _ _ rfl rfl rowX6q (by kernel_rfl) rfl (by simp [Value.oneCell']) ?_
          have b47q : Below W7.heap.size W7 (w6q.setRow (W7.heap.size) #[.slice A6q 1 c6q]) := Below.setRow b46q (by omega) _
          refine lexL_go b47q ?_
          simp only [Act.put]
          repeat (first | (refine lexL_q0 rfl ?_; go_big_quiet_step (fail); refine wpQuiet_nil ?_) | (refine lexL_skip0 rfl rfl ?_; simp only [Act.put, List.setIfInBounds_toArray, List.set_cons_succ, List.set_cons_zero]))
          have hr7q := setRow_heap _ _ _ #[.slice A6q 1 c6q] _ _ rowX6q
          generalize w6q.setRow (W7.heap.size) #[.slice A6q 1 c6q] = W10 at *
          have HR7q := Lib.hid hr7q
          have hlt7q : W7.heap.size < W10.heap.size := (Array.getElem?_eq_some_iff.1 hr7q).1
          clear hr7q
          have b710 := b47q
          have qX : W10.cell? ⟨w6.heap.size, 0, none⟩ = some (.slice A6 1 c6) := by rw [cell_of_row _ _ _ _ _ _ ((b710.block _ hlt7).trans HR7.out)]; rfl
          have hD10 := hD7.ext b710
          obtain ⟨bX, oX, xX, fX, rfl, hbX, hfX, hxX, cX0, cX1⟩ := hD10.at_ (k := 0) (by omega)
          have hfe : fX = ⟨[], ([] ++ List.replicate (65536 - n) 0) ++ List.replicate m 0⟩ := by cases hfX; rfl
          have hln := hxX.p.len.1
          rw [hfe] at hln
          simp at hln
          have dX : ((xX.n2 : Int) == ((65536 - n : Nat) : Int) + (m : Int)) = true := by simp; omega
          rw [Nat.zero_mul, Nat.add_zero] at cX0 cX1
          clear hfe hln hfX
          refine lexL_nil ?_
          go_wp2_with fail
          go_wp2
          go_ret
          exact ⟨rfl, Below.ext b4 (Below.ext b47 b710)⟩
        · repeat (first | (refine lexL_q0 rfl ?_; go_big_quiet_step (fail); refine wpQuiet_nil ?_) | (refine lexL_skip0 rfl rfl ?_; simp only [Act.put, List.setIfInBounds_toArray, List.set_cons_succ, List.set_cons_zero]))
          refine lexL_ld (⟨w2.heap.size, 0, none⟩) (.agg #[.slice A3 1 c3]) rfl rfl rfl (fun w' hS => run_ld_block (((hS.block _ (Nat.lt_of_lt_of_le hlt4 b47.size)).trans (b47.block _ hlt4)).trans HR4.out) Try.underlying24 rfl (by kernel_rfl)) ?_
          simp only [Act.put, List.setIfInBounds_toArray, List.set_cons_succ, List.set_cons_zero]
          repeat (first | (refine lexL_q0 rfl ?_; go_big_quiet_step (fail); refine wpQuiet_nil ?_) | (refine lexL_skip0 rfl rfl ?_; simp only [Act.put, List.setIfInBounds_toArray, List.set_cons_succ, List.set_cons_zero]))
          have vaq : Below W7.heap.size W7 (W7.alloc (.cells (madeCells (encB 0).toArray (65536 + m)) 5)).drew := ((Below.refl _ _).alloc (Nat.le_refl _) _).drew
          refine lexL_e rfl ?_
          go_wp2_with fail
          refine lexL_go vaq ?_
          repeat (first | (refine lexL_q0 rfl ?_; go_big_quiet_step (fail); refine wpQuiet_nil ?_) | (refine lexL_skip0 rfl rfl ?_; simp only [Act.put, List.setIfInBounds_toArray, List.set_cons_succ, List.set_cons_zero]))
          have vbq : Below W7.heap.size W7 ((W7.alloc (.cells (madeCells (encB 0).toArray (65536 + m)) 5)).alloc (.cells #[.slice none 0 0] 24)).drew := (((Below.refl _ _).alloc (Nat.le_refl _) _).alloc (by simp) _).drew
          have hownMq := (mkOwnBn ((65536 + m)) (by omega) W7).ext (w' := ((W7.alloc (.cells (madeCells (encB 0).toArray (65536 + m)) 5)).alloc (.cells #[.slice none 0 0] 24)).drew) ((Below.refl _ _).alloc (Nat.le_refl _) _).drew
          have rowXq : ((W7.alloc (.cells (madeCells (encB 0).toArray (65536 + m)) 5)).alloc (.cells #[.slice none 0 0] 24)).drew.heap[W7.heap.size + 1]? = some (.cells #[.slice none 0 0] 24 (0, 0)) := by
            have := heap_alloc_new (W7.alloc (.cells (madeCells (encB 0).toArray (65536 + m)) 5)) (.cells #[.slice none 0 0] 24)
            rw [World.size_alloc] at this
            exact this
          refine lexL_e rfl ?_
          go_wp2_with fail
          refine lexL_go vbq ?_
          repeat (first | (refine lexL_q0 rfl ?_; go_big_quiet_step (fail); refine wpQuiet_nil ?_) | (refine lexL_skip0 rfl rfl ?_; simp only [Act.put, List.setIfInBounds_toArray, List.set_cons_succ, List.set_cons_zero]))
          refine lexL_e rfl ?_
          go_wp2_with fail
          have hszVq : ((W7.alloc (.cells (madeCells (encB 0).toArray (65536 + m)) 5)).alloc (.cells #[.slice none 0 0] 24)).drew.heap.size = W7.heap.size + 2 := by show ((W7.alloc (.cells (madeCells (encB 0).toArray (65536 + m)) 5)).alloc (.cells #[.slice none 0 0] 24)).heap.size = _; rw [World.size_alloc, World.size_alloc]
          generalize ((W7.alloc (.cells (madeCells (encB 0).toArray (65536 + m)) 5)).alloc (.cells #[.slice none 0 0] 24)).drew = Vq at *
          have hre := replace_ok A3 1 c3 _ _ Vq ((hD4.ext b47).ext vbq) (by omega) 0 (by omega) (some ⟨W7.heap.size, 0, none⟩) (65536 + m) (65536 + m) _ _ hownMq.recs (by omega)
          rw [show ((0 : Nat) : Int) = 0 from rfl] at hre
          refine hre.mono ?_
          rintro e w6q ⟨A6q, c6q, rfl, hD6q, hb6q⟩
          clear hre
          have b46q := Below.ext vbq hb6q
          go_wp2_with fail
          refine lexL_go (b46q) ?_
          repeat (first | (refine lexL_q0 rfl ?_; go_big_quiet_step (fail); refine wpQuiet_nil ?_) | (refine lexL_skip0 rfl rfl ?_; simp only [Act.put, List.setIfInBounds_toArray, List.set_cons_succ, List.set_cons_zero]))
          have rowX6q := (hb6q.block (W7.heap.size + 1) (by omega)).trans rowXq
          refine lexL_e rfl ?_
          refine wpList_store_row rfl 24 _ _ rfl (W7.heap.size + 1) 24 _ _ rfl rfl rowX6q (by kernel_rfl) rfl (by simp [Value.oneCell']) ?_
          have b47q : Below W7.heap.size W7 (w6q.setRow (W7.heap.size + 1) #[.slice A6q 1 c6q]) := Below.setRow b46q (by omega) _
          refine lexL_go b47q ?_
          simp only [Act.put]
          repeat (first | (refine lexL_q0 rfl ?_; go_big_quiet_step (fail); refine wpQuiet_nil ?_) | (refine lexL_skip0 rfl rfl ?_; simp only [Act.put, List.setIfInBounds_toArray, List.set_cons_succ, List.set_cons_zero]))
          have hr7q := setRow_heap _ _ _ #[.slice A6q 1 c6q] _ _ rowX6q
          generalize w6q.setRow (W7.heap.size + 1) #[.slice A6q 1 c6q] = W10 at *
          have HR7q := Lib.hid hr7q
          have hlt7q : W7.heap.size + 1 < W10.heap.size := (Array.getElem?_eq_some_iff.1 hr7q).1
          clear hr7q
          have b710 := b47q
          have qX : W10.cell? ⟨w6.heap.size, 0, none⟩ = some (.slice A6 1 c6) := by rw [cell_of_row _ _ _ _ _ _ ((b710.block _ hlt7).trans HR7.out)]; rfl
          have hD10 := hD7.ext b710
          obtain ⟨bX, oX, xX, fX, rfl, hbX, hfX, hxX, cX0, cX1⟩ := hD10.at_ (k := 0) (by omega)
          have hfe : fX = ⟨[], ([] ++ List.replicate (65536 - n) 0) ++ List.replicate m 0⟩ := by cases hfX; rfl
          have hln := hxX.p.len.1
          rw [hfe] at hln
          simp at hln
          have dX : ((xX.n2 : Int) == ((65536 - n : Nat) : Int) + (m : Int)) = true := by simp; omega
          rw [Nat.zero_mul, Nat.add_zero] at cX0 cX1
          clear hfe hln hfX
          refine lexL_nil ?_
          go_wp2_with fail
          go_wp2
          go_ret
          exact ⟨rfl, Below.ext b4 (Below.ext b47 b710)⟩
        · repeat (first | (refine lexL_q0 rfl ?_; go_big_quiet_step (fail); refine wpQuiet_nil ?_) | (refine lexL_skip0 rfl rfl ?_; simp only [Act.put, List.setIfInBounds_toArray, List.set_cons_succ, List.set_cons_zero]))
          refine lexL_ld (⟨w2.heap.size, 0, none⟩) (.agg #[.slice A3 1 c3]) rfl rfl rfl (fun w' hS => run_ld_block (((hS.block _ (Nat.lt_of_lt_of_le hlt4 b47.size)).trans (b47.block _ hlt4)).trans HR4.out) Try.underlying24 rfl (by kernel_rfl)) ?_
          simp only [Act.put, List.setIfInBounds_toArray, List.set_cons_succ, List.set_cons_zero]
          repeat (first | (refine lexL_q0 rfl ?_; go_big_quiet_step (fail); refine wpQuiet_nil ?_) | (refine lexL_skip0 rfl rfl ?_; simp only [Act.put, List.setIfInBounds_toArray, List.set_cons_succ, List.set_cons_zero]))
          have vbq : Below W7.heap.size W7 (W7.alloc (.cells (madeCells (encB 0).toArray (65536 + m)) 5)).drew := ((Below.refl _ _).alloc (Nat.le_refl _) _).drew
          have hownMq := (mkOwnBn ((65536 + m)) (by omega) W7).ext (w' := (W7.alloc (.cells (madeCells (encB 0).toArray (65536 + m)) 5)).drew) (Below.refl _ _).drew
          refine lexL_e rfl ?_
          go_wp2_with fail
          refine lexL_go vbq ?_
          repeat (first | (refine lexL_q0 rfl ?_; go_big_quiet_step (fail); refine wpQuiet_nil ?_) | (refine lexL_skip0 rfl rfl ?_; simp only [Act.put, List.setIfInBounds_toArray, List.set_cons_succ, List.set_cons_zero]))
          refine lexL_e rfl ?_
          go_wp2_with fail
          generalize (W7.alloc (.cells (madeCells (encB 0).toArray (65536 + m)) 5)).drew = Vq at *
          have hre := replace_ok A3 1 c3 _ _ Vq ((hD4.ext b47).ext vbq) (by omega) 0 (by omega) (some ⟨W7.heap.size, 0, none⟩) (65536 + m) (65536 + m) _ _ hownMq.recs (by omega)
          rw [show ((0 : Nat) : Int) = 0 from rfl] at hre
          refine hre.mono ?_
          rintro e w6q ⟨A6q, c6q, rfl, hD6q, hb6q⟩
          clear hre
          have b46q := Below.ext vbq hb6q
          go_wp2_with fail
          refine lexL_go (b46q) ?_
          repeat (first | (refine lexL_q0 rfl ?_; go_big_quiet_step (fail); refine wpQuiet_nil ?_) | (refine lexL_skip0 rfl rfl ?_; simp only [Act.put, List.setIfInBounds_toArray, List.set_cons_succ, List.set_cons_zero]))
          have hbXq : Below w6q.heap.size w6q (w6q.alloc (.cells #[.slice none 0 0] 24)) := (Below.refl _ _).alloc (Nat.le_refl _) _
          refine lexL_e rfl ?_
          go_wp2_with fail
          refine lexL_go (Below.ext b46q hbXq) ?_
          repeat (first | (refine lexL_q0 rfl ?_; go_big_quiet_step (fail); refine wpQuiet_nil ?_) | (refine lexL_skip0 rfl rfl ?_; simp only [Act.put, List.setIfInBounds_toArray, List.set_cons_succ, List.set_cons_zero]))
          refine lexL_e rfl ?_
          refine wpList_store_row rfl 24 _ _ rfl w6q.heap.size 24 _ _ rfl rfl (heap_alloc_new w6q _) (by kernel_rfl) rfl (by simp [Value.oneCell']) ?_
          rw [World.setRow_alloc_new]
          have hbX7q : Below w6q.heap.size w6q (w6q.alloc (.cells #[.slice A6q 1 c6q] 24)) := (Below.refl _ _).alloc (Nat.le_refl _) _
          have b47q := Below.ext b46q hbX7q
          refine lexL_go b47q ?_
          simp only [Act.put]
          repeat (first | (refine lexL_q0 rfl ?_; go_big_quiet_step (fail); refine wpQuiet_nil ?_) | (refine lexL_skip0 rfl rfl ?_; simp only [Act.put, List.setIfInBounds_toArray, List.set_cons_succ, List.set_cons_zero]))
          have hr7q : (w6q.alloc (.cells #[.slice A6q 1 c6q] 24)).heap[w6q.heap.size]? = some (.cells #[.slice A6q 1 c6q] 24 (0, 0)) := heap_alloc_new w6q _
          generalize w6q.alloc (.cells #[.slice A6q 1 c6q] 24) = W10 at *
          have HR7q := Lib.hid hr7q
          have hlt7q : w6q.heap.size < W10.heap.size := (Array.getElem?_eq_some_iff.1 hr7q).1
          clear hr7q
          have b710 := b47q
          have qX : W10.cell? ⟨w6.heap.size, 0, none⟩ = some (.slice A6 1 c6) := by rw [cell_of_row _ _ _ _ _ _ ((b710.block _ hlt7).trans HR7.out)]; rfl
          have hD10 := hD7.ext b710
          obtain ⟨bX, oX, xX, fX, rfl, hbX, hfX, hxX, cX0, cX1⟩ := hD10.at_ (k := 0) (by omega)
          have hfe : fX = ⟨[], ([] ++ List.replicate (65536 - n) 0) ++ List.replicate m 0⟩ := by cases hfX; rfl
          have hln := hxX.p.len.1
          rw [hfe] at hln
          simp at hln
          have dX : ((xX.n2 : Int) == ((65536 - n : Nat) : Int) + (m : Int)) = true := by simp; omega
          rw [Nat.zero_mul, Nat.add_zero] at cX0 cX1
          clear hfe hln hfX
          refine lexL_nil ?_
          go_wp2_with fail
          go_wp2
          go_ret
          exact ⟨rfl, Below.ext b4 (Below.ext b47 b710)⟩
    · have d0 : ((m : Int) == 0) = false := by simpa using hm0
      have hm1 : 1 ≤ m := by omega
      clear hm0
      go_wp2_with fail
      refine wp_region_three (Below W4.heap.size W4) [0, 1, 7, 2, 3, 4, 5, 6, 8, 9] [0, 1, 2, 7, 3, 4, 5, 6, 8, 9] [0, 1, 2, 3, 4, 5, 6, 7, 8, 9] 7 2 3 (by kernel_rfl) (by kernel_rfl) (by kernel_rfl) (by kernel_rfl) (by kernel_rfl) (by decide) (by decide) (by decide) ((Below.refl _ _).drew) ?_ ?_ ?_
      all_goals simp only [opsOf, List.filterMap_cons, List.filterMap_nil, List.getElem?_cons_zero, List.getElem?_cons_succ]
      · repeat (first | (refine lexL_q0 rfl ?_; go_big_quiet_step (fail); refine wpQuiet_nil ?_) | (refine lexL_skip0 rfl rfl ?_; simp only [Act.put, List.setIfInBounds_toArray, List.set_cons_succ, List.set_cons_zero]))
        refine lexL_ld (⟨w2.heap.size, 0, none⟩) (.agg #[.slice A3 1 c3]) rfl rfl rfl (fun w' hS => run_ld_block ((hS.block _ hlt4).trans HR4.out) Try.underlying24 rfl (by kernel_rfl)) ?_
        simp only [Act.put, List.setIfInBounds_toArray, List.set_cons_succ, List.set_cons_zero]
        repeat (first | (refine lexL_q0 rfl ?_; go_big_quiet_step (fail); refine wpQuiet_nil ?_) | (refine lexL_skip0 rfl rfl ?_; simp only [Act.put, List.setIfInBounds_toArray, List.set_cons_succ, List.set_cons_zero]))
        have va : Below W4.heap.size W4 (W4.alloc (.cells #[.slice none 0 0] 24)).drew := ((Below.refl _ _).alloc (Nat.le_refl _) _).drew
        refine lexL_e rfl ?_
        go_wp2_with fail
        refine lexL_go va ?_
        repeat (first | (refine lexL_q0 rfl ?_; go_big_quiet_step (fail); refine wpQuiet_nil ?_) | (refine lexL_skip0 rfl rfl ?_; simp only [Act.put, List.setIfInBounds_toArray, List.set_cons_succ, List.set_cons_zero]))
        have vb : Below W4.heap.size W4 ((W4.alloc (.cells #[.slice none 0 0] 24)).alloc (.cells (madeCells (encB 0).toArray m) 5)).drew := (((Below.refl _ _).alloc (Nat.le_refl _) _).alloc (by simp) _).drew
        have hownM := (mkOwnBn (m) (by omega) (W4.alloc (.cells #[.slice none 0 0] 24))).ext (w' := ((W4.alloc (.cells #[.slice none 0 0] 24)).alloc (.cells (madeCells (encB 0).toArray m) 5)).drew) (Below.refl _ _).drew
        have rowX : ((W4.alloc (.cells #[.slice none 0 0] 24)).alloc (.cells (madeCells (encB 0).toArray m) 5)).drew.heap[W4.heap.size]? = some (.cells #[.slice none 0 0] 24 (0, 0)) := (((Below.refl _ _).alloc (Nat.le_refl _) _).block W4.heap.size (by simp)).trans (heap_alloc_new W4 _)
        rw [World.size_alloc] at hownM
        refine lexL_e rfl ?_
        go_wp2_with fail
        refine lexL_go vb ?_
        repeat (first | (refine lexL_q0 rfl ?_; go_big_quiet_step (fail); refine wpQuiet_nil ?_) | (refine lexL_skip0 rfl rfl ?_; simp only [Act.put, List.setIfInBounds_toArray, List.set_cons_succ, List.set_cons_zero]))
        refine lexL_e rfl ?_
        go_wp2_with fail
        have hszV : ((W4.alloc (.cells #[.slice none 0 0] 24)).alloc (.cells (madeCells (encB 0).toArray m) 5)).drew.heap.size = W4.heap.size + 2 := by show ((W4.alloc (.cells #[.slice none 0 0] 24)).alloc (.cells (madeCells (encB 0).toArray m) 5)).heap.size = _; rw [World.size_alloc, World.size_alloc]
        generalize ((W4.alloc (.cells #[.slice none 0 0] 24)).alloc (.cells (madeCells (encB 0).toArray m) 5)).drew = V at *
        have hap := append_ok A3 1 c3 _ (· ≠ W4.heap.size) V ((hD4.lo.ext vb).mono (fun b hb h => by omega)) (by omega) 0 _ rfl (some ⟨W4.heap.size + 1, 0, none⟩) m m _ (hownM.recs.mono (fun _ _ h => by have := h.1; omega)) (by show 0 + ([] ++ List.replicate (65536 - n) (0 : UInt8)).length + m ≤ _; simp; omega)
        rw [show ((0 : Nat) : Int) = 0 from rfl] at hap
        refine hap.mono ?_
        rintro e w6 ⟨A6, c6, rfl, hD6, hb6⟩
        clear hap
        have b46 := Below.ext vb hb6
        go_wp2_with fail
        refine lexL_go (b46) ?_
        repeat (first | (refine lexL_q0 rfl ?_; go_big_quiet_step (fail); refine wpQuiet_nil ?_) | (refine lexL_skip0 rfl rfl ?_; simp only [Act.put, List.setIfInBounds_toArray, List.set_cons_succ, List.set_cons_zero]))
        have rowX6 := (hb6.block (W4.heap.size) (by omega)).trans rowX
        refine lexL_e rfl ?_
        refine wpList_store_row rfl 24 _ _ rfl (W4.heap.size) 24 _ _ rfl rfl rowX6 (by kernel_rfl) rfl (by simp [Value.oneCell']) ?_
        have b47 : Below W4.heap.size W4 (w6.setRow (W4.heap.size) #[.slice A6 1 c6]) := Below.setRow b46 (by omega) _
        refine lexL_go b47 ?_
        simp only [Act.put]
        repeat (first | (refine lexL_q0 rfl ?_; go_big_quiet_step (fail); refine wpQuiet_nil ?_) | (refine lexL_skip0 rfl rfl ?_; simp only [Act.put, List.setIfInBounds_toArray, List.set_cons_succ, List.set_cons_zero]))
        have hr7 := setRow_heap _ _ _ #[.slice A6 1 c6] _ _ rowX6
        have hD7 : Dsk (fun _ => True) (w6.setRow (W4.heap.size) #[.slice A6 1 c6]) (.slice A6 1 c6) _ := ((hD6.mono (S' := (· ≠ W4.heap.size)) (fun b _ h => by rcases h with h | h; exact h; omega)).keep (Keep.of_grown (grown_setRow _ _ _))).mono (fun _ _ _ => trivial)
        generalize w6.setRow (W4.heap.size) #[.slice A6 1 c6] = W7 at *
        have HR7 := Lib.hid hr7
        have hlt7 : W4.heap.size < W7.heap.size := (Array.getElem?_eq_some_iff.1 hr7).1
        clear hr7
        refine lexL_nil ?_
        go_wp2_with fail
        refine wp_region_three (Below W7.heap.size W7) [0, 1, 2, 3, 9, 4, 5, 6, 7, 8, 10, 11] [0, 1, 2, 3, 4, 9, 5, 6, 7, 8, 10, 11] [0, 1, 2, 3, 4, 5, 6, 7, 8, 9, 10, 11] 9 4 5 (by kernel_rfl) (by kernel_rfl) (by kernel_rfl) (by kernel_rfl) (by kernel_rfl) (by decide) (by decide) (by decide) ((Below.refl _ _).drew) ?_ ?_ ?_
        all_goals simp only [opsOf, List.filterMap_cons, List.filterMap_nil, List.getElem?_cons_zero, List.getElem?_cons_succ]
        · repeat (first | (refine lexL_q0 rfl ?_; go_big_quiet_step (fail); refine wpQuiet_nil ?_) | (refine lexL_skip0 rfl rfl ?_; simp only [Act.put, List.setIfInBounds_toArray, List.set_cons_succ, List.set_cons_zero]))
          refine lexL_ld (⟨w2.heap.size, 0, none⟩) (.agg #[.slice A3 1 c3]) rfl rfl rfl (fun w' hS => run_ld_block (((hS.block _ (Nat.lt_of_lt_of_le hlt4 b47.size)).trans (b47.block _ hlt4)).trans HR4.out) Try.underlying24 rfl (by kernel_rfl)) ?_
          simp only [Act.put, List.setIfInBounds_toArray, List.set_cons_succ, List.set_cons_zero]
          repeat (first | (refine lexL_q0 rfl ?_; go_big_quiet_step (fail); refine wpQuiet_nil ?_) | (refine lexL_skip0 rfl rfl ?_; simp only [Act.put, List.setIfInBounds_toArray, List.set_cons_succ, List.set_cons_zero]))
          have vaq : Below W7.heap.size W7 (W7.alloc (.cells #[.slice none 0 0] 24)).drew := ((Below.refl _ _).alloc (Nat.le_refl _) _).drew
          refine lexL_e rfl ?_
          go_wp2_with fail
          refine lexL_go vaq ?_
          repeat (first | (refine lexL_q0 rfl ?_; go_big_quiet_step (fail); refine wpQuiet_nil ?_) | (refine lexL_skip0 rfl rfl ?_; simp only [Act.put, List.setIfInBounds_toArray, List.set_cons_succ, List.set_cons_zero]))
          have vbq : Below W7.heap.size W7 ((W7.alloc (.cells #[.slice none 0 0] 24)).alloc (.cells (madeCells (encB 0).toArray (65536 + m)) 5)).drew := (((Below.refl _ _).alloc (Nat.le_refl _) _).alloc (by simp) _).drew
          have hownMq := (mkOwnBn ((65536 + m)) (by omega) (W7.alloc (.cells #[.slice none 0 0] 24))).ext (w' := ((W7.alloc (.cells #[.slice none 0 0] 24)).alloc (.cells (madeCells (encB 0).toArray (65536 + m)) 5)).drew) (Below.refl _ _).drew
          have rowXq : ((W7.alloc (.cells #[.slice none 0 0] 24)).alloc (.cells (madeCells (encB 0).toArray (65536 + m)) 5)).drew.heap[W7.heap.size]? = some (.cells #[.slice none 0 0] 24 (0, 0)) := (((Below.refl _ _).alloc (Nat.le_refl _) _).block W7.heap.size (by simp)).trans (heap_alloc_new W7 _)
          rw [World.size_alloc] at hownMq
          refine lexL_e rfl ?_
          go_wp2_with fail
          refine lexL_go vbq ?_
          repeat (first | (refine lexL_q0 rfl ?_; go_big_quiet_step (fail); refine wpQuiet_nil ?_) | (refine lexL_skip0 rfl rfl ?_; simp only [Act.put, List.setIfInBounds_toArray, List.set_cons_succ, List.set_cons_zero]))
          refine lexL_e rfl ?_
          go_wp2_with fail
          have hszVq : ((W7.alloc (.cells #[.slice none 0 0] 24)).alloc (.cells (madeCells (encB 0).toArray (65536 + m)) 5)).drew.heap.size = W7.heap.size + 2 := by show ((W7.alloc (.cells #[.slice none 0 0] 24)).alloc (.cells (madeCells (encB 0).toArray (65536 + m)) 5)).heap.size = _; rw [World.size_alloc, World.size_alloc]
          generalize ((W7.alloc (.cells #[.slice none 0 0] 24)).alloc (.cells (madeCells (encB 0).toArray (65536 + m)) 5)).drew = Vq at *
          have hre := replace_long A3 1 c3 Vq (by omega) 0 (by omega) (some ⟨W7.heap.size + 1, 0, none⟩) (65536 + m) (65536 + m) (by omega) (by omega)
          rw [show ((0 : Nat) : Int) = 0 from rfl] at hre
          refine hre.mono ?_
          rintro e w6q ⟨rfl, hb6q⟩
          clear hre
          have b46q := Below.ext vbq hb6q
          go_wp2_with fail
          refine lexL_go (b46q) ?_
          repeat (first | (refine lexL_q0 rfl ?_; go_big_quiet_step (fail); refine wpQuiet_nil ?_) | (refine lexL_skip0 rfl rfl ?_; simp only [Act.put, List.setIfInBounds_toArray, List.set_cons_succ, List.set_cons_zero]))
          have rowX6q := (hb6q.block (W7.heap.size) (by omega)).trans rowXq
          refine lexL_e rfl ?_
          refine wpList_store_row rfl 24 _ _ rfl (W7.heap.size) 24 _ _ rfl rfl rowX6q (by kernel_rfl) rfl (by simp [Value.oneCell']) ?_
          have b47q : Below W7.heap.size W7 (w6q.setRow (W7.heap.size) #[.slice none 0 0]) := Below.setRow b46q (by omega) _
          refine lexL_go b47q ?_
          simp only [Act.put]
          repeat (first | (refine lexL_q0 rfl ?_; go_big_quiet_step (fail); refine wpQuiet_nil ?_) | (refine lexL_skip0 rfl rfl ?_; simp only [Act.put, List.setIfInBounds_toArray, List.set_cons_succ, List.set_cons_zero]))
          have hr7q := setRow_heap _ _ _ #[.slice none 0 0] _ _ rowX6q
          generalize w6q.setRow (W7.heap.size) #[.slice none 0 0] = W10 at *
          have HR7q := Lib.hid hr7q
          have hlt7q : W7.heap.size < W10.heap.size := (Array.getElem?_eq_some_iff.1 hr7q).1
          clear hr7q
          have b710 := b47q
          have qX : W10.cell? ⟨W4.heap.size, 0, none⟩ = some (.slice A6 1 c6) := by rw [cell_of_row _ _ _ _ _ _ ((b710.block _ hlt7).trans HR7.out)]; rfl
          have hD10 := hD7.ext b710
          obtain ⟨bX, oX, xX, fX, rfl, hbX, hfX, hxX, cX0, cX1⟩ := hD10.at_ (k := 0) (by omega)
          have hfe : fX = ⟨[], ([] ++ List.replicate (65536 - n) 0) ++ List.replicate m 0⟩ := by cases hfX; rfl
          have hln := hxX.p.len.1
          rw [hfe] at hln
          simp at hln
          have dX : ((xX.n2 : Int) == ((65536 - n : Nat) : Int) + (m : Int)) = true := by simp; omega
          rw [Nat.zero_mul, Nat.add_zero] at cX0 cX1
          clear hfe hln hfX
          refine lexL_nil ?_
          go_wp2_with fail
          go_wp2
          go_ret
          exact ⟨rfl, Below.ext b4 (Below.ext b47 b710)⟩
        · repeat (first | (refine lexL_q0 rfl ?_; go_big_quiet_step (fail); refine wpQuiet_nil ?_) | (refine lexL_skip0 rfl rfl ?_; simp only [Act.put, List.setIfInBounds_toArray, List.set_cons_succ, List.set_cons_zero]))
          refine lexL_ld (⟨w2.heap.size, 0, none⟩) (.agg #[.slice A3 1 c3]) rfl rfl rfl (fun w' hS => run_ld_block (((hS.block _ (Nat.lt_of_lt_of_le hlt4 b47.size)).trans (b47.block _ hlt4)).trans HR4.out) Try.underlying24 rfl (by kernel_rfl)) ?_
          simp only [Act.put, List.setIfInBounds_toArray, List.set_cons_succ, List.set_cons_zero]
          repeat (first | (refine lexL_q0 rfl ?_; go_big_quiet_step (fail); refine wpQuiet_nil ?_) | (refine lexL_skip0 rfl rfl ?_; simp only [Act.put, List.setIfInBounds_toArray, List.set_cons_succ, List.set_cons_zero]))
          have vaq : Below W7.heap.size W7 (W7.alloc (.cells (madeCells (encB 0).toArray (65536 + m)) 5)).drew := ((Below.refl _ _).alloc (Nat.le_refl _) _).drew
          refine lexL_e rfl ?_
          go_wp2_with fail
          refine lexL_go vaq ?_
          repeat (first | (refine lexL_q0 rfl ?_; go_big_quiet_step (fail); refine wpQuiet_nil ?_) | (refine lexL_skip0 rfl rfl ?_; simp only [Act.put, List.setIfInBounds_toArray, List.set_cons_succ, List.set_cons_zero]))
          have vbq : Below W7.heap.size W7 ((W7.alloc (.cells (madeCells (encB 0).toArray (65536 + m)) 5)).alloc (.cells #[.slice none 0 0] 24)).drew := (((Below.refl _ _).alloc (Nat.le_refl _) _).alloc (by simp) _).drew
          have hownMq := (mkOwnBn ((65536 + m)) (by omega) W7).ext (w' := ((W7.alloc (.cells (madeCells (encB 0).toArray (65536 + m)) 5)).alloc (.cells #[.slice none 0 0] 24)).drew) ((Below.refl _ _).alloc (Nat.le_refl _) _).drew
          have rowXq : ((W7.alloc (.cells (madeCells (encB 0).toArray (65536 + m)) 5)).alloc (.cells #[.slice none 0 0] 24)).drew.heap[W7.heap.size + 1]? = some (.cells #[.slice none 0 0] 24 (0, 0)) := by
            have := heap_alloc_new (W7.alloc (.cells (madeCells (encB 0).toArray (65536 + m)) 5)) (.cells #[.slice none 0 0] 24)
            rw [World.size_alloc] at this
            exact this
          refine lexL_e rfl ?_
          go_wp2_with fail
          refine lexL_go vbq ?_
          repeat (first | (refine lexL_q0 rfl ?_; go_big_quiet_step (fail); refine wpQuiet_nil ?_) | (refine lexL_skip0 rfl rfl ?_; simp only [Act.put, List.setIfInBounds_toArray, List.set_cons_succ, List.set_cons_zero]))
          refine lexL_e rfl ?_
          go_wp2_with fail
          have hszVq : ((W7.alloc (.cells (madeCells (encB 0).toArray (65536 + m)) 5)).alloc (.cells #[.slice none 0 0] 24)).drew.heap.size = W7.heap.size + 2 := by show ((W7.alloc (.cells (madeCells (encB 0).toArray (65536 + m)) 5)).alloc (.cells #[.slice none 0 0] 24)).heap.size = _; rw [World.size_alloc, World.size_alloc]
          generalize ((W7.alloc (.cells (madeCells (encB 0).toArray (65536 + m)) 5)).alloc (.cells #[.slice none 0 0] 24)).drew = Vq at *
          have hre := replace_long A3 1 c3 Vq (by omega) 0 (by omega) (some ⟨W7.heap.size, 0, none⟩) (65536 + m) (65536 + m) (by omega) (by omega)
          rw [show ((0 : Nat) : Int) = 0 from rfl] at hre
          refine hre.mono ?_
          rintro e w6q ⟨rfl, hb6q⟩
          clear hre
          have b46q := Below.ext vbq hb6q
          go_wp2_with fail
          refine lexL_go (b46q) ?_
          repeat (first | (refine lexL_q0 rfl ?_; go_big_quiet_step (fail); refine wpQuiet_nil ?_) | (refine lexL_skip0 rfl rfl ?_; simp only [Act.put, List.setIfInBounds_toArray, List.set_cons_succ, List.set_cons_zero]))
          have rowX6q := (hb6q.block (W7.heap.size + 1) (by omega)).trans rowXq
          refine lexL_e rfl ?_
          refine wpList_store_row rfl 24 _ _ rfl (W7.heap.size + 1) 24 _ _ rfl rfl rowX6q (by kernel_rfl) rfl (by simp [Value.oneCell']) ?_
          have b47q : Below W7.heap.size W7 (w6q.setRow (W7.heap.size + 1) #[.slice none 0 0]) := Below.setRow b46q (by omega) _
          refine lexL_go b47q ?_
          simp only [Act.put]
          repeat (first | (refine lexL_q0 rfl ?_; go_big_quiet_step (fail); refine wpQuiet_nil ?_) | (refine lexL_skip0 rfl rfl ?_; simp only [Act.put, List.setIfInBounds_toArray, List.set_cons_succ, List.set_cons_zero]))
          have hr7q := setRow_heap _ _ _ #[.slice none 0 0] _ _ rowX6q
          generalize w6q.setRow (W7.heap.size + 1) #[.slice none 0 0] = W10 at *
          have HR7q := Lib.hid hr7q
          have hlt7q : W7.heap.size + 1 < W10.heap.size := (Array.getElem?_eq_some_iff.1 hr7q).1
          clear hr7q
          have b710 := b47q
          have qX : W10.cell? ⟨W4.heap.size, 0, none⟩ = some (.slice A6 1 c6) := by rw [cell_of_row _ _ _ _ _ _ ((b710.block _ hlt7).trans HR7.out)]; rfl
          have hD10 := hD7.ext b710
          obtain ⟨bX, oX, xX, fX, rfl, hbX, hfX, hxX, cX0, cX1⟩ := hD10.at_ (k := 0) (by omega)
          have hfe : fX = ⟨[], ([] ++ List.replicate (65536 - n) 0) ++ List.replicate m 0⟩ := by cases hfX; rfl
          have hln := hxX.p.len.1
          rw [hfe] at hln
          simp at hln
          have dX : ((xX.n2 : Int) == ((65536 - n : Nat) : Int) + (m : Int)) = true := by simp; omega
          rw [Nat.zero_mul, Nat.add_zero] at cX0 cX1
          clear hfe hln hfX
          refine lexL_nil ?_
          go_wp2_with fail
          go_wp2
          go_ret
          exact ⟨rfl, Below.ext b4 (Below.ext b47 b710)⟩
        · repeat (first | (refine lexL_q0 rfl ?_; go_big_quiet_step (fail); refine wpQuiet_nil ?_) | (refine lexL_skip0 rfl rfl ?_; simp only [Act.put, List.setIfInBounds_toArray, List.set_cons_succ, List.set_cons_zero]))
          refine lexL_ld (⟨w2.heap.size, 0, none⟩) (.agg #[.slice A3 1 c3]) rfl rfl rfl (fun w' hS => run_ld_block (((hS.block _ (Nat.lt_of_lt_of_le hlt4 b47.size)).trans (b47.block _ hlt4)).trans HR4.out) Try.underlying24 rfl (by kernel_rfl)) ?_
          simp only [Act.put, List.setIfInBounds_toArray, List.set_cons_succ, List.set_cons_zero]
          repeat (first | (refine lexL_q0 rfl ?_; go_big_quiet_step (fail); refine wpQuiet_nil ?_) | (refine lexL_skip0 rfl rfl ?_; simp only [Act.put, List.setIfInBounds_toArray, List.set_cons_succ, List.set_cons_zero]))
          have vbq : Below W7.heap.size W7 (W7.alloc (.cells (madeCells (encB 0).toArray (65536 + m)) 5)).drew := ((Below.refl _ _).alloc (Nat.le_refl _) _).drew
          have hownMq := (mkOwnBn ((65536 + m)) (by omega) W7).ext (w' := (W7.alloc (.cells (madeCells (encB 0).toArray (65536 + m)) 5)).drew) (Below.refl _ _).drew
          refine lexL_e rfl ?_
          go_wp2_with fail
          refine lexL_go vbq ?_
          repeat (first | (refine lexL_q0 rfl ?_; go_big_quiet_step (fail); refine wpQuiet_nil ?_) | (refine lexL_skip0 rfl rfl ?_; simp only [Act.put, List.setIfInBounds_toArray, List.set_cons_succ, List.set_cons_zero]))
          refine lexL_e rfl ?_
          go_wp2_with fail
          generalize (W7.alloc (.cells (madeCells (encB 0).toArray (65536 + m)) 5)).drew = Vq at *
          have hre := replace_long A3 1 c3 Vq (by omega) 0 (by omega) (some ⟨W7.heap.size, 0, none⟩) (65536 + m) (65536 + m) (by omega) (by omega)
          rw [show ((0 : Nat) : Int) = 0 from rfl] at hre
          refine hre.mono ?_
          rintro e w6q ⟨rfl, hb6q⟩
          clear hre
          have b46q := Below.ext vbq hb6q
          go_wp2_with fail
          refine lexL_go (b46q) ?_
          repeat (first | (refine lexL_q0 rfl ?_; go_big_quiet_step (fail); refine wpQuiet_nil ?_) | (refine lexL_skip0 rfl rfl ?_; simp only [Act.put, List.setIfInBounds_toArray, List.set_cons_succ, List.set_cons_zero]))
          have hbXq : Below w6q.heap.size w6q (w6q.alloc (.cells #[.slice none 0 0] 24)) := (Below.refl _ _).alloc (Nat.le_refl _) _
          refine lexL_e rfl ?_
          go_wp2_with fail
          refine lexL_go (Below.ext b46q hbXq) ?_
          repeat (first | (refine lexL_q0 rfl ?_; go_big_quiet_step (fail); refine wpQuiet_nil ?_) | (refine lexL_skip0 rfl rfl ?_; simp only [Act.put, List.setIfInBounds_toArray, List.set_cons_succ, List.set_cons_zero]))
          refine lexL_e rfl ?_
          refine wpList_store_row rfl 24 _ _ rfl w6q.heap.size 24 _ _ rfl rfl (heap_alloc_new w6q _) (by kernel_rfl) rfl (by simp [Value.oneCell']) ?_
          rw [World.setRow_alloc_new]
          have hbX7q : Below w6q.heap.size w6q (w6q.alloc (.cells #[.slice none 0 0] 24)) := (Below.refl _ _).alloc (Nat.le_refl _) _
          have b47q := Below.ext b46q hbX7q
          refine lexL_go b47q ?_
          simp only [Act.put]
          repeat (first | (refine lexL_q0 rfl ?_; go_big_quiet_step (fail); refine wpQuiet_nil ?_) | (refine lexL_skip0 rfl rfl ?_; simp only [Act.put, List.setIfInBounds_toArray, List.set_cons_succ, List.set_cons_zero]))
          have hr7q : (w6q.alloc (.cells #[.slice none 0 0] 24)).heap[w6q.heap.size]? = some (.cells #[.slice none 0 0] 24 (0, 0)) := heap_alloc_new w6q _
          generalize w6q.alloc (.cells #[.slice none 0 0] 24) = W10 at *
          have HR7q := Lib.hid hr7q
          have hlt7q : w6q.heap.size < W10.heap.size := (Array.getElem?_eq_some_iff.1 hr7q).1
          clear hr7q
          have b710 := b47q
          have qX : W10.cell? ⟨W4.heap.size, 0, none⟩ = some (.slice A6 1 c6) := by rw [cell_of_row _ _ _ _ _ _ ((b710.block _ hlt7).trans HR7.out)]; rfl
          have hD10 := hD7.ext b710
          obtain ⟨bX, oX, xX, fX, rfl, hbX, hfX, hxX, cX0, cX1⟩ := hD10.at_ (k := 0) (by omega)
          have hfe : fX = ⟨[], ([] ++ List.replicate (65536 - n) 0) ++ List.replicate m 0⟩ := by cases hfX; rfl
          have hln := hxX.p.len.1
          rw [hfe] at hln
          simp at hln
          have dX : ((xX.n2 : Int) == ((65536 - n : Nat) : Int) + (m : Int)) = true := by simp; omega
          rw [Nat.zero_mul, Nat.add_zero] at cX0 cX1
          clear hfe hln hfX
          refine lexL_nil ?_
          go_wp2_with fail
          go_wp2
          go_ret
          exact ⟨rfl, Below.ext b4 (Below.ext b47 b710)⟩
      · repeat (first | (refine lexL_q0 rfl ?_; go_big_quiet_step (fail); refine wpQuiet_nil ?_) | (refine lexL_skip0 rfl rfl ?_; simp only [Act.put, List.setIfInBounds_toArray, List.set_cons_succ, List.set_cons_zero]))
        refine lexL_ld (⟨w2.heap.size, 0, none⟩) (.agg #[.slice A3 1 c3]) rfl rfl rfl (fun w' hS => run_ld_block ((hS.block _ hlt4).trans HR4.out) Try.underlying24 rfl (by kernel_rfl)) ?_
        simp only [Act.put, List.setIfInBounds_toArray, List.set_cons_succ, List.set_cons_zero]
        repeat (first | (refine lexL_q0 rfl ?_; go_big_quiet_step (fail); refine wpQuiet_nil ?_) | (refine lexL_skip0 rfl rfl ?_; simp only [Act.put, List.setIfInBounds_toArray, List.set_cons_succ, List.set_cons_zero]))
        have va : Below W4.heap.size W4 (W4.alloc (.cells (madeCells (encB 0).toArray m) 5)).drew := ((Below.refl _ _).alloc (Nat.le_refl _) _).drew
        refine lexL_e rfl ?_
        go_wp2_with fail
        refine lexL_go va ?_
        repeat (first | (refine lexL_q0 rfl ?_; go_big_quiet_step (fail); refine wpQuiet_nil ?_) | (refine lexL_skip0 rfl rfl ?_; simp only [Act.put, List.setIfInBounds_toArray, List.set_cons_succ, List.set_cons_zero]))
        have vb : Below W4.heap.size W4 ((W4.alloc (.cells (madeCells (encB 0).toArray m) 5)).alloc (.cells #[.slice none 0 0] 24)).drew := (((Below.refl _ _).alloc (Nat.le_refl _) _).alloc (by simp) _).drew
        have hownM := (mkOwnBn (m) (by omega) W4).ext (w' := ((W4.alloc (.cells (madeCells (encB 0).toArray m) 5)).alloc (.cells #[.slice none 0 0] 24)).drew) ((Below.refl _ _).alloc (Nat.le_refl _) _).drew
        have rowX : ((W4.alloc (.cells (madeCells (encB 0).toArray m) 5)).alloc (.cells #[.slice none 0 0] 24)).drew.heap[W4.heap.size + 1]? = some (.cells #[.slice none 0 0] 24 (0, 0)) := by
          have := heap_alloc_new (W4.alloc (.cells (madeCells (encB 0).toArray m) 5)) (.cells #[.slice none 0 0] 24)
          rw [World.size_alloc] at this
          exact this
        refine lexL_e rfl ?_
        go_wp2_with fail
        refine lexL_go vb ?_
        repeat (first | (refine lexL_q0 rfl ?_; go_big_quiet_step (fail); refine wpQuiet_nil ?_) | (refine lexL_skip0 rfl rfl ?_; simp only [Act.put, List.setIfInBounds_toArray, List.set_cons_succ, List.set_cons_zero]))
        refine lexL_e rfl ?_
        go_wp2_with fail
        have hszV : ((W4.alloc (.cells (madeCells (encB 0).toArray m) 5)).alloc (.cells #[.slice none 0 0] 24)).drew.heap.size = W4.heap.size + 2 := by show ((W4.alloc (.cells (madeCells (encB 0).toArray m) 5)).alloc (.cells #[.slice none 0 0] 24)).heap.size = _; rw [World.size_alloc, World.size_alloc]
        generalize ((W4.alloc (.cells (madeCells (encB 0).toArray m) 5)).alloc (.cells #[.slice none 0 0] 24)).drew = V at *
        have hap := append_ok A3 1 c3 _ (· ≠ W4.heap.size + 1) V ((hD4.lo.ext vb).mono (fun b hb h => by omega)) (by omega) 0 _ rfl (some ⟨W4.heap.size, 0, none⟩) m m _ (hownM.recs.mono (fun b _ h => by have h2 := h.2; simp [Value.ownBlock] at h2; omega)) (by show 0 + ([] ++ List.replicate (65536 - n) (0 : UInt8)).length + m ≤ _; simp; omega)
        rw [show ((0 : Nat) : Int) = 0 from rfl] at hap
        refine hap.mono ?_
        rintro e w6 ⟨A6, c6, rfl, hD6, hb6⟩
        clear hap
        have b46 := Below.ext vb hb6
        go_wp2_with fail
        refine lexL_go (b46) ?_
        repeat (first | (refine lexL_q0 rfl ?_; go_big_quiet_step (fail); refine wpQuiet_nil ?_) | (refine lexL_skip0 rfl rfl ?_; simp only [Act.put, List.setIfInBounds_toArray, List.set_cons_succ, List.set_cons_zero]))
        have rowX6 := (hb6.block (W4.heap.size + 1) (by omega)).trans rowX
        refine lexL_e rfl ?_
        refine wpList_store_row rfl 24 _ _ rfl (W4.heap.size + 1) 24 _ _ rfl rfl rowX6 (by kernel_rfl) rfl (by simp [Value.oneCell']) ?_
        have b47 : Below W4.heap.size W4 (w6.setRow (W4.heap.size + 1) #[.slice A6 1 c6]) := Below.setRow b46 (by omega) _
        refine lexL_go b47 ?_
        simp only [Act.put]
        repeat (first | (refine lexL_q0 rfl ?_; go_big_quiet_step (fail); refine wpQuiet_nil ?_) | (refine lexL_skip0 rfl rfl ?_; simp only [Act.put, List.setIfInBounds_toArray, List.set_cons_succ, List.set_cons_zero]))
        have hr7 := setRow_heap _ _ _ #[.slice A6 1 c6] _ _ rowX6
        have hD7 : Dsk (fun _ => True) (w6.setRow (W4.heap.size + 1) #[.slice A6 1 c6]) (.slice A6 1 c6) _ := ((hD6.mono (S' := (· ≠ W4.heap.size + 1)) (fun b _ h => by rcases h with h | h; exact h; omega)).keep (Keep.of_grown (grown_setRow _ _ _))).mono (fun _ _ _ => trivial)
        generalize w6.setRow (W4.heap.size + 1) #[.slice A6 1 c6] = W7 at *
        have HR7 := Lib.hid hr7
        have hlt7 : W4.heap.size + 1 < W7.heap.size := (Array.getElem?_eq_some_iff.1 hr7).1
        clear hr7
        refine lexL_nil ?_
        go_wp2_with fail
        refine wp_region_three (Below W7.heap.size W7) [0, 1, 2, 3, 9, 4, 5, 6, 7, 8, 10, 11] [0, 1, 2, 3, 4, 9, 5, 6, 7, 8, 10, 11] [0, 1, 2, 3, 4, 5, 6, 7, 8, 9, 10, 11] 9 4 5 (by kernel_rfl) (by kernel_rfl) (by kernel_rfl) (by kernel_rfl) (by kernel_rfl) (by decide) (by decide) (by decide) ((Below.refl _ _).drew) ?_ ?_ ?_
        all_goals simp only [opsOf, List.filterMap_cons, List.filterMap_nil, List.getElem?_cons_zero, List.getElem?_cons_succ]
        · repeat (first | (refine lexL_q0 rfl ?_; go_big_quiet_step (fail); refine wpQuiet_nil ?_) | (refine lexL_skip0 rfl rfl ?_; simp only [Act.put, List.setIfInBounds_toArray, List.set_cons_succ, List.set_cons_zero]))
          refine lexL_ld (⟨w2.heap.size, 0, none⟩) (.agg #[.slice A3 1 c3]) rfl rfl rfl (fun w' hS => run_ld_block (((hS.block _ (Nat.lt_of_lt_of_le hlt4 b47.size)).trans (b47.block _ hlt4)).trans HR4.out) Try.underlying24 rfl (by kernel_rfl)) ?_
          simp only [Act.put, List.setIfInBounds_toArray, List.set_cons_succ, List.set_cons_zero]
          repeat (first | (refine lexL_q0 rfl ?_; go_big_quiet_step (fail); refine wpQuiet_nil ?_) | (refine lexL_skip0 rfl rfl ?_; simp only [Act.put, List.setIfInBounds_toArray, List.set_cons_succ, List.set_cons_zero]))
          have vaq : Below W7.heap.size W7 (W7.alloc (.cells #[.slice none 0 0] 24)).drew := ((Below.refl _ _).alloc (Nat.le_refl _) _).drew
          refine lexL_e rfl ?_
          go_wp2_with fail
          refine lexL_go vaq ?_
          repeat (first | (refine lexL_q0 rfl ?_; go_big_quiet_step (fail); refine wpQuiet_nil ?_) | (refine lexL_skip0 rfl rfl ?_; simp only [Act.put, List.setIfInBounds_toArray, List.set_cons_succ, List.set_cons_zero]))
          have vbq : Below W7.heap.size W7 ((W7.alloc (.cells #[.slice none 0 0] 24)).alloc (.cells (madeCells (encB 0).toArray (65536 + m)) 5)).drew := (((Below.refl _ _).alloc (Nat.le_refl _) _).alloc (by simp) _).drew
          have hownMq := (mkOwnBn ((65536 + m)) (by omega) (W7.alloc (.cells #[.slice none 0 0] 24))).ext (w' := ((W7.alloc (.cells #[.slice none 0 0] 24)).alloc (.cells (madeCells (encB 0).toArray (65536 + m)) 5)).drew) (Below.refl _ _).drew
          have rowXq : ((W7.alloc (.cells #[.slice none 0 0] 24)).alloc (.cells (madeCells (encB 0).toArray (65536 + m)) 5)).drew.heap[W7.heap.size]? = some (.cells #[.slice none 0 0] 24 (0, 0)) := (((Below.refl _ _).alloc (Nat.le_refl _) _).block W7.heap.size (by simp)).trans (heap_alloc_new W7 _)
          rw [World.size_alloc] at hownMq
          refine lexL_e rfl ?_
          go_wp2_with fail
          refine lexL_go vbq ?_
          repeat (first | (refine lexL_q0 rfl ?_; go_big_quiet_step (fail); refine wpQuiet_nil ?_) | (refine lexL_skip0 rfl rfl ?_; simp only [Act.put, List.setIfInBounds_toArray, List.set_cons_succ, List.set_cons_zero]))
          refine lexL_e rfl ?_
          go_wp2_with fail
          have hszVq : ((W7.alloc (.cells #[.slice none 0 0] 24)).alloc (.cells (madeCells (encB 0).toArray (65536 + m)) 5)).drew.heap.size = W7.heap.size + 2 := by show ((W7.alloc (.cells #[.slice none 0 0] 24)).alloc (.cells (madeCells (encB 0).toArray (65536 + m)) 5)).heap.size = _; rw [World.size_alloc, World.size_alloc]
          generalize ((W7.alloc (.cells #[.slice none 0 0] 24)).alloc (.cells (madeCells (encB 0).toArray (65536 + m)) 5)).drew = Vq at *
          have hre := replace_long A3 1 c3 Vq (by omega) 0 (by omega) (some ⟨W7.heap.size + 1, 0, none⟩) (65536 + m) (65536 + m) (by omega) (by omega)
          rw [show ((0 : Nat) : Int) = 0 from rfl] at hre
          refine hre.mono ?_
          rintro e w6q ⟨rfl, hb6q⟩
          clear hre
          have b46q := Below.ext vbq hb6q
          go_wp2_with fail
          refine lexL_go (b46q) ?_
          repeat (first | (refine lexL_q0 rfl ?_; go_big_quiet_step (fail); refine wpQuiet_nil ?_) | (refine lexL_skip0 rfl rfl ?_; simp only [Act.put, List.setIfInBounds_toArray, List.set_cons_succ, List.set_cons_zero]))
          have rowX6q := (hb6q.block (W7.heap.size) (by omega)).trans rowXq
          refine lexL_e rfl ?_
          refine wpList_store_row rfl 24 _ _ rfl (W7.heap.size) 24 _ _ rfl rfl rowX6q (by kernel_rfl) rfl (by simp [Value.oneCell']) ?_
          have b47q : Below W7.heap.size W7 (w6q.setRow (W7.heap.size) #[.slice none 0 0]) := Below.setRow b46q (by omega) _
          refine lexL_go b47q ?_
          simp only [Act.put]
          repeat (first | (refine lexL_q0 rfl ?_; go_big_quiet_step (fail); refine wpQuiet_nil ?_) | (refine lexL_skip0 rfl rfl ?_; simp only [Act.put, List.setIfInBounds_toArray, List.set_cons_succ, List.set_cons_zero]))
          have hr7q := setRow_heap _ _ _ #[.slice none 0 0] _ _ rowX6q
          generalize w6q.setRow (W7.heap.size) #[.slice none 0 0] = W10 at *
          have HR7q := Lib.hid hr7q
          have hlt7q : W7.heap.size < W10.heap.size := (Array.getElem?_eq_some_iff.1 hr7q).1
          clear hr7q
          have b710 := b47q
          have qX : W10.cell? ⟨W4.heap.size + 1, 0, none⟩ = some (.slice A6 1 c6) := by rw [cell_of_row _ _ _ _ _ _ ((b710.block _ hlt7).trans HR7.out)]; rfl
          have hD10 := hD7.ext b710
          obtain ⟨bX, oX, xX, fX, rfl, hbX, hfX, hxX, cX0, cX1⟩ := hD10.at_ (k := 0) (by omega)
          have hfe : fX = ⟨[], ([] ++ List.replicate (65536 - n) 0) ++ List.replicate m 0⟩ := by cases hfX; rfl
          have hln := hxX.p.len.1
          rw [hfe] at hln
          simp at hln
          have dX : ((xX.n2 : Int) == ((65536 - n : Nat) : Int) + (m : Int)) = true := by simp; omega
          rw [Nat.zero_mul, Nat.add_zero] at cX0 cX1
          clear hfe hln hfX
          refine lexL_nil ?_
          go_wp2_with fail
          go_wp2
          go_ret
          exact ⟨rfl, Below.ext b4 (Below.ext b47 b710)⟩
        · repeat (first | (refine lexL_q0 rfl ?_; go_big_quiet_step (fail); refine wpQuiet_nil ?_) | (refine lexL_skip0 rfl rfl ?_; simp only [Act.put, List.setIfInBounds_toArray, List.set_cons_succ, List.set_cons_zero]))
          refine lexL_ld (⟨w2.heap.size, 0, none⟩) (.agg #[.slice A3 1 c3]) rfl rfl rfl (fun w' hS => run_ld_block (((hS.block _ (Nat.lt_of_lt_of_le hlt4 b47.size)).trans (b47.block _ hlt4)).trans HR4.out) Try.underlying24 rfl (by kernel_rfl)) ?_
          simp only [Act.put, List.setIfInBounds_toArray, List.set_cons_succ, List.set_cons_zero]
          repeat (first | (refine lexL_q0 rfl ?_; go_big_quiet_step (fail); refine wpQuiet_nil ?_) | (refine lexL_skip0 rfl rfl ?_; simp only [Act.put, List.setIfInBounds_toArray, List.set_cons_succ, List.set_cons_zero]))
          have vaq : Below W7.heap.size W7 (W7.alloc (.cells (madeCells (encB 0).toArray (65536 + m)) 5)).drew := ((Below.refl _ _).alloc (Nat.le_refl _) _).drew
          refine lexL_e rfl ?_
          go_wp2_with fail
          refine lexL_go vaq ?_
          repeat (first | (refine lexL_q0 rfl ?_; go_big_quiet_step (fail); refine wpQuiet_nil ?_) | (refine lexL_skip0 rfl rfl ?_; simp only [Act.put, List.setIfInBounds_toArray, List.set_cons_succ, List.set_cons_zero]))
          have vbq : Below W7.heap.size W7 ((W7.alloc (.cells (madeCells (encB 0).toArray (65536 + m)) 5)).alloc (.cells #[.slice none 0 0] 24)).drew := (((Below.refl _ _).alloc (Nat.le_refl _) _).alloc (by simp) _).drew
          have hownMq := (mkOwnBn ((65536 + m)) (by omega) W7).ext (w' := ((W7.alloc (.cells (madeCells (encB 0).toArray (65536 + m)) 5)).alloc (.cells #[.slice none 0 0] 24)).drew) ((Below.refl _ _).alloc (Nat.le_refl _) _).drew
          have rowXq : ((W7.alloc (.cells (madeCells (encB 0).toArray (65536 + m)) 5)).alloc (.cells #[.slice none 0 0] 24)).drew.heap[W7.heap.size + 1]? = some (.cells #[.slice none 0 0] 24 (0, 0)) := by
            have := heap_alloc_new (W7.alloc (.cells (madeCells (encB 0).toArray (65536 + m)) 5)) (.cells #[.slice none 0 0] 24)
            rw [World.size_alloc] at this
            exact this
          refine lexL_e rfl ?_
          go_wp2_with fail
          refine lexL_go vbq ?_
          repeat (first | (refine lexL_q0 rfl ?_; go_big_quiet_step (fail); refine wpQuiet_nil ?_) | (refine lexL_skip0 rfl rfl ?_; simp only [Act.put, List.setIfInBounds_toArray, List.set_cons_succ, List.set_cons_zero]))
          refine lexL_e rfl ?_
          go_wp2_with fail
          have hszVq : ((W7.alloc (.cells (madeCells (encB 0).toArray (65536 + m)) 5)).alloc (.cells #[.slice none 0 0] 24)).drew.heap.size = W7.heap.size + 2 := by show ((W7.alloc (.cells (madeCells (encB 0).toArray (65536 + m)) 5)).alloc (.cells #[.slice none 0 0] 24)).heap.size = _; rw [World.size_alloc, World.size_alloc]
          generalize ((W7.alloc (.cells (madeCells (encB 0).toArray (65536 + m)) 5)).alloc (.cells #[.slice none 0 0] 24)).drew = Vq at *
          have hre := replace_long A3 1 c3 Vq (by omega) 0 (by omega) (some ⟨W7.heap.size, 0, none⟩) (65536 + m) (65536 + m) (by omega) (by omega)
          rw [show ((0 : Nat) : Int) = 0 from rfl] at hre
          refine hre.mono ?_
          rintro e w6q ⟨rfl, hb6q⟩
          clear hre
          have b46q := Below.ext vbq hb6q
          go_wp2_with fail
          refine lexL_go (b46q) ?_
          repeat (first | (refine lexL_q0 rfl ?_; go_big_quiet_step (fail); refine wpQuiet_nil ?_) | (refine lexL_skip0 rfl rfl ?_; simp only [Act.put, List.setIfInBounds_toArray, List.set_cons_succ, List.set_cons_zero]))
          have rowX6q := (hb6q.block (W7.heap.size + 1) (by omega)).trans rowXq
          refine lexL_e rfl ?_
          refine wpList_store_row rfl 24 _ _ rfl (W7.heap.size + 1) 24 _ _ rfl rfl rowX6q (by kernel_rfl) rfl (by simp [Value.oneCell']) ?_
          have b47q : Below W7.heap.size W7 (w6q.setRow (W7.heap.size + 1) #[.slice none 0 0]) := Below.setRow b46q (by omega) _
          refine lexL_go b47q ?_
          simp only [Act.put]
          repeat (first | (refine lexL_q0 rfl ?_; go_big_quiet_step (fail); refine wpQuiet_nil ?_) | (refine lexL_skip0 rfl rfl ?_; simp only [Act.put, List.setIfInBounds_toArray, List.set_cons_succ, List.set_cons_zero]))
          have hr7q := setRow_heap _ _ _ #[.slice none 0 0] _ _ rowX6q
          generalize w6q.setRow (W7.heap.size + 1) #[.slice none 0 0] = W10 at *
          have HR7q := Lib.hid hr7q
          have hlt7q : W7.heap.size + 1 < W10.heap.size := (Array.getElem?_eq_some_iff.1 hr7q).1
          clear hr7q
          have b710 := b47q
          have qX : W10.cell? ⟨W4.heap.size + 1, 0, none⟩ = some (.slice A6 1 c6) := by rw [cell_of_row _ _ _ _ _ _ ((b710.block _ hlt7).trans HR7.out)]; rfl
          have hD10 := hD7.ext b710
          obtain ⟨bX, oX, xX, fX, rfl, hbX, hfX, hxX, cX0, cX1⟩ := hD10.at_ (k := 0) (by omega)
          have hfe : fX = ⟨[], ([] ++ List.replicate (65536 - n) 0) ++ List.replicate m 0⟩ := by cases hfX; rfl
          have hln := hxX.p.len.1
          rw [hfe] at hln
          simp at hln
          have dX : ((xX.n2 : Int) == ((65536 - n : Nat) : Int) + (m : Int)) = true := by simp; omega
          rw [Nat.zero_mul, Nat.add_zero] at cX0 cX1
          clear hfe hln hfX
          refine lexL_nil ?_
          go_wp2_with fail
          go_wp2
          go_ret
          exact ⟨rfl, Below.ext b4 (Below.ext b47 b710)⟩
        · repeat (first | (refine lexL_q0 rfl ?_; go_big_quiet_step (fail); refine wpQuiet_nil ?_) | (refine lexL_skip0 rfl rfl ?_; simp only [Act.put, List.setIfInBounds_toArray, List.set_cons_succ, List.set_cons_zero]))
          refine lexL_ld (⟨w2.heap.size, 0, none⟩) (.agg #[.slice A3 1 c3]) rfl rfl rfl (fun w' hS => run_ld_block (((hS.block _ (Nat.lt_of_lt_of_le hlt4 b47.size)).trans (b47.block _ hlt4)).trans HR4.out) Try.underlying24 rfl (by kernel_rfl)) ?_
          simp only [Act.put, List.setIfInBounds_toArray, List.set_cons_succ, List.set_cons_zero]
          repeat (first | (refine lexL_q0 rfl ?_; go_big_quiet_step (fail); refine wpQuiet_nil ?_) | (refine lexL_skip0 rfl rfl ?_; simp only [Act.put, List.setIfInBounds_toArray, List.set_cons_succ, List.set_cons_zero]))
          have vbq : Below W7.heap.size W7 (W7.alloc (.cells (madeCells (encB 0).toArray (65536 + m)) 5)).drew := ((Below.refl _ _).alloc (Nat.le_refl _) _).drew
          have hownMq := (mkOwnBn ((65536 + m)) (by omega) W7).ext (w' := (W7.alloc (.cells (madeCells (encB 0).toArray (65536 + m)) 5)).drew) (Below.refl _ _).drew
          refine lexL_e rfl ?_
          go_wp2_with fail
          refine lexL_go vbq ?_
          repeat (first | (refine lexL_q0 rfl ?_; go_big_quiet_step (fail); refine wpQuiet_nil ?_) | (refine lexL_skip0 rfl rfl ?_; simp only [Act.put, List.setIfInBounds_toArray, List.set_cons_succ, List.set_cons_zero]))
          refine lexL_e rfl ?_
          go_wp2_with fail
          generalize (W7.alloc (.cells (madeCells (encB 0).toArray (65536 + m)) 5)).drew = Vq at *
          have hre := replace_long A3 1 c3 Vq (by omega) 0 (by omega) (some ⟨W7.heap.size, 0, none⟩) (65536 + m) (65536 + m) (by omega) (by omega)
          rw [show ((0 : Nat) : Int) = 0 from rfl] at hre
          refine hre.mono ?_
          rintro e w6q ⟨rfl, hb6q⟩
          clear hre
          have b46q := Below.ext vbq hb6q
          go_wp2_with fail
          refine lexL_go (b46q) ?_
          repeat (first | (refine lexL_q0 rfl ?_; go_big_quiet_step (fail); refine wpQuiet_nil ?_) | (refine lexL_skip0 rfl rfl ?_; simp only [Act.put, List.setIfInBounds_toArray, List.set_cons_succ, List.set_cons_zero]))
          have hbXq : Below w6q.heap.size w6q (w6q.alloc (.cells #[.slice none 0 0] 24)) := (Below.refl _ _).alloc (Nat.le_refl _) _
          refine lexL_e rfl ?_
          go_wp2_with fail
          refine lexL_go (Below.ext b46q hbXq) ?_
          repeat (first | (refine lexL_q0 rfl ?_; go_big_quiet_step (fail); refine wpQuiet_nil ?_) | (refine lexL_skip0 rfl rfl ?_; simp only [Act.put, List.setIfInBounds_toArray, List.set_cons_succ, List.set_cons_zero]))
          refine lexL_e rfl ?_
          refine wpList_store_row rfl 24 _ _ rfl w6q.heap.size 24 _ _ rfl rfl (heap_alloc_new w6q _) (by kernel_rfl) rfl (by simp [Value.oneCell']) ?_
          rw [World.setRow_alloc_new]
          have hbX7q : Below w6q.heap.size w6q (w6q.alloc (.cells #[.slice none 0 0] 24)) := (Below.refl _ _).alloc (Nat.le_refl _) _
          have b47q := Below.ext b46q hbX7q
          refine lexL_go b47q ?_
          simp only [Act.put]
          repeat (first | (refine lexL_q0 rfl ?_; go_big_quiet_step (fail); refine wpQuiet_nil ?_) | (refine lexL_skip0 rfl rfl ?_; simp only [Act.put, List.setIfInBounds_toArray, List.set_cons_succ, List.set_cons_zero]))
          have hr7q : (w6q.alloc (.cells #[.slice none 0 0] 24)).heap[w6q.heap.size]? = some (.cells #[.slice none 0 0] 24 (0, 0)) := heap_alloc_new w6q _
          generalize w6q.alloc (.cells #[.slice none 0 0] 24) = W10 at *
          have HR7q := Lib.hid hr7q
          have hlt7q : w6q.heap.size < W10.heap.size := (Array.getElem?_eq_some_iff.1 hr7q).1
          clear hr7q
          have b710 := b47q
          have qX : W10.cell? ⟨W4.heap.size + 1, 0, none⟩ = some (.slice A6 1 c6) := by rw [cell_of_row _ _ _ _ _ _ ((b710.block _ hlt7).trans HR7.out)]; rfl
          have hD10 := hD7.ext b710
          obtain ⟨bX, oX, xX, fX, rfl, hbX, hfX, hxX, cX0, cX1⟩ := hD10.at_ (k := 0) (by omega)
          have hfe : fX = ⟨[], ([] ++ List.replicate (65536 - n) 0) ++ List.replicate m 0⟩ := by cases hfX; rfl
          have hln := hxX.p.len.1
          rw [hfe] at hln
          simp at hln
          have dX : ((xX.n2 : Int) == ((65536 - n : Nat) : Int) + (m : Int)) = true := by simp; omega
          rw [Nat.zero_mul, Nat.add_zero] at cX0 cX1
          clear hfe hln hfX
          refine lexL_nil ?_
          go_wp2_with fail
          go_wp2
          go_ret
          exact ⟨rfl, Below.ext b4 (Below.ext b47 b710)⟩
      · repeat (first | (refine lexL_q0 rfl ?_; go_big_quiet_step (fail); refine wpQuiet_nil ?_) | (refine lexL_skip0 rfl rfl ?_; simp only [Act.put, List.setIfInBounds_toArray, List.set_cons_succ, List.set_cons_zero]))
        refine lexL_ld (⟨w2.heap.size, 0, none⟩) (.agg #[.slice A3 1 c3]) rfl rfl rfl (fun w' hS => run_ld_block ((hS.block _ hlt4).trans HR4.out) Try.underlying24 rfl (by kernel_rfl)) ?_
        simp only [Act.put, List.setIfInBounds_toArray, List.set_cons_succ, List.set_cons_zero]
        repeat (first | (refine lexL_q0 rfl ?_; go_big_quiet_step (fail); refine wpQuiet_nil ?_) | (refine lexL_skip0 rfl rfl ?_; simp only [Act.put, List.setIfInBounds_toArray, List.set_cons_succ, List.set_cons_zero]))
        have vb : Below W4.heap.size W4 (W4.alloc (.cells (madeCells (encB 0).toArray m) 5)).drew := ((Below.refl _ _).alloc (Nat.le_refl _) _).drew
        have hownM := (mkOwnBn (m) (by omega) W4).ext (w' := (W4.alloc (.cells (madeCells (encB 0).toArray m) 5)).drew) (Below.refl _ _).drew
        refine lexL_e rfl ?_
        go_wp2_with fail
        refine lexL_go vb ?_
        repeat (first | (refine lexL_q0 rfl ?_; go_big_quiet_step (fail); refine wpQuiet_nil ?_) | (refine lexL_skip0 rfl rfl ?_; simp only [Act.put, List.setIfInBounds_toArray, List.set_cons_succ, List.set_cons_zero]))
        refine lexL_e rfl ?_
        go_wp2_with fail
        generalize (W4.alloc (.cells (madeCells (encB 0).toArray m) 5)).drew = V at *
        have hap := append_ok A3 1 c3 _ (fun _ => True) V ((hD4.lo.ext vb).mono (fun _ _ _ => trivial)) (by omega) 0 _ rfl (some ⟨W4.heap.size, 0, none⟩) m m _ (hownM.recs.mono (fun _ _ _ => trivial)) (by show 0 + ([] ++ List.replicate (65536 - n) (0 : UInt8)).length + m ≤ _; simp; omega)
        rw [show ((0 : Nat) : Int) = 0 from rfl] at hap
        refine hap.mono ?_
        rintro e w6 ⟨A6, c6, rfl, hD6, hb6⟩
        clear hap
        have b46 := Below.ext vb hb6
        go_wp2_with fail
        refine lexL_go (b46) ?_
        repeat (first | (refine lexL_q0 rfl ?_; go_big_quiet_step (fail); refine wpQuiet_nil ?_) | (refine lexL_skip0 rfl rfl ?_; simp only [Act.put, List.setIfInBounds_toArray, List.set_cons_succ, List.set_cons_zero]))
        have hbX : Below w6.heap.size w6 (w6.alloc (.cells #[.slice none 0 0] 24)) := (Below.refl _ _).alloc (Nat.le_refl _) _
        refine lexL_e rfl ?_
        go_wp2_with fail
        refine lexL_go (Below.ext b46 hbX) ?_
        repeat (first | (refine lexL_q0 rfl ?_; go_big_quiet_step (fail); refine wpQuiet_nil ?_) | (refine lexL_skip0 rfl rfl ?_; simp only [Act.put, List.setIfInBounds_toArray, List.set_cons_succ, List.set_cons_zero]))
        refine lexL_e rfl ?_
        refine wpList_store_row rfl 24 _ _ rfl w6.heap.size 24 _ _ rfl rfl (heap_alloc_new w6 _) (by kernel_rfl) rfl (by simp [Value.oneCell']) ?_
        rw [World.setRow_alloc_new]
        have hbX7 : Below w6.heap.size w6 (w6.alloc (.cells #[.slice A6 1 c6] 24)) := (Below.refl _ _).alloc (Nat.le_refl _) _
        have b47 := Below.ext b46 hbX7
        refine lexL_go b47 ?_
        simp only [Act.put]
        repeat (first | (refine lexL_q0 rfl ?_; go_big_quiet_step (fail); refine wpQuiet_nil ?_) | (refine lexL_skip0 rfl rfl ?_; simp only [Act.put, List.setIfInBounds_toArray, List.set_cons_succ, List.set_cons_zero]))
        have hr7 : (w6.alloc (.cells #[.slice A6 1 c6] 24)).heap[w6.heap.size]? = some (.cells #[.slice A6 1 c6] 24 (0, 0)) := heap_alloc_new w6 _
        have hD7 := (hD6.ext hbX7).mono (S' := fun _ => True) (fun _ _ _ => trivial)
        generalize w6.alloc (.cells #[.slice A6 1 c6] 24) = W7 at *
        have HR7 := Lib.hid hr7
        have hlt7 : w6.heap.size < W7.heap.size := (Array.getElem?_eq_some_iff.1 hr7).1
        clear hr7
        refine lexL_nil ?_
        go_wp2_with fail
        refine wp_region_three (Below W7.heap.size W7) [0, 1, 2, 3, 9, 4, 5, 6, 7, 8, 10, 11] [0, 1, 2, 3, 4, 9, 5, 6, 7, 8, 10, 11] [0, 1, 2, 3, 4, 5, 6, 7, 8, 9, 10, 11] 9 4 5 (by kernel_rfl) (by kernel_rfl) (by kernel_rfl) (by kernel_rfl) (by kernel_rfl) (by decide) (by decide) (by decide) ((Below.refl _ _).drew) ?_ ?_ ?_
        all_goals simp only [opsOf, List.filterMap_cons, List.filterMap_nil, List.getElem?_cons_zero, List.getElem?_cons_succ]
        · repeat (first | (refine lexL_q0 rfl ?_; go_big_quiet_step (fail); refine wpQuiet_nil ?_) | (refine lexL_skip0 rfl rfl ?_; simp only [Act.put, List.setIfInBounds_toArray, List.set_cons_succ, List.set_cons_zero]))
          refine lexL_ld (⟨w2.heap.size, 0, none⟩) (.agg #[.slice A3 1 c3]) rfl rfl rfl (fun w' hS => run_ld_block (((hS.block _ (Nat.lt_of_lt_of_le hlt4 b47.size)).trans (b47.block _ hlt4)).trans HR4.out) Try.underlying24 rfl (by kernel_rfl)) ?_
          simp only [Act.put, List.setIfInBounds_toArray, List.set_cons_succ, List.set_cons_zero]
          repeat (first | (refine lexL_q0 rfl ?_; go_big_quiet_step (fail); refine wpQuiet_nil ?_) | (refine lexL_skip0 rfl rfl ?_; simp only [Act.put, List.setIfInBounds_toArray, List.set_cons_succ, List.set_cons_zero]))
          have vaq : Below W7.heap.size W7 (W7.alloc (.cells #[.slice none 0 0] 24)).drew := ((Below.refl _ _).alloc (Nat.le_refl _) _).drew
          refine lexL_e rfl ?_
          go_wp2_with fail
          refine lexL_go vaq ?_
          repeat (first | (refine lexL_q0 rfl ?_; go_big_quiet_step (fail); refine wpQuiet_nil ?_) | (refine lexL_skip0 rfl rfl ?_; simp only [Act.put, List.setIfInBounds_toArray, List.set_cons_succ, List.set_cons_zero]))
          have vbq : Below W7.heap.size W7 ((W7.alloc (.cells #[.slice none 0 0] 24)).alloc (.cells (madeCells (encB 0).toArray (65536 + m)) 5)).drew := (((Below.refl _ _).alloc (Nat.le_refl _) _).alloc (by simp) _).drew
          have hownMq := (mkOwnBn ((65536 + m)) (by omega) (W7.alloc (.cells #[.slice none 0 0] 24))).ext (w' := ((W7.alloc (.cells #[.slice none 0 0] 24)).alloc (.cells (madeCells (encB 0).toArray (65536 + m)) 5)).drew) (Below.refl _ _).drew
          have rowXq : ((W7.alloc (.cells #[.slice none 0 0] 24)).alloc (.cells (madeCells (encB 0).toArray (65536 + m)) 5)).drew.heap[W7.heap.size]? = some (.cells #[.slice none 0 0] 24 (0, 0)) := (((Below.refl _ _).alloc (Nat.le_refl _) _).block W7.heap.size (by simp)).trans (heap_alloc_new W7 _)
          rw [World.size_alloc] at hownMq
          refine lexL_e rfl ?_
          go_wp2_with fail
          refine lexL_go vbq ?_
          repeat (first | (refine lexL_q0 rfl ?_; go_big_quiet_step (fail); refine wpQuiet_nil ?_) | (refine lexL_skip0 rfl rfl ?_; simp only [Act.put, List.setIfInBounds_toArray, List.set_cons_succ, List.set_cons_zero]))
          refine lexL_e rfl ?_
          go_wp2_with fail
          have hszVq : ((W7.alloc (.cells #[.slice none 0 0] 24)).alloc (.cells (madeCells (encB 0).toArray (65536 + m)) 5)).drew.heap.size = W7.heap.size + 2 := by show ((W7.alloc (.cells #[.slice none 0 0] 24)).alloc (.cells (madeCells (encB 0).toArray (65536 + m)) 5)).heap.size = _; rw [World.size_alloc, World.size_alloc]
          generalize ((W7.alloc (.cells #[.slice none 0 0] 24)).alloc (.cells (madeCells (encB 0).toArray (65536 + m)) 5)).drew = Vq at *
          have hre := replace_long A3 1 c3 Vq (by omega) 0 (by omega) (some ⟨W7.heap.size + 1, 0, none⟩) (65536 + m) (65536 + m) (by omega) (by omega)
          rw [show ((0 : Nat) : Int) = 0 from rfl] at hre
          refine hre.mono ?_
          rintro e w6q ⟨rfl, hb6q⟩
          clear hre
          have b46q := Below.ext vbq hb6q
          go_wp2_with fail
          refine lexL_go (b46q) ?_
          repeat (first | (refine lexL_q0 rfl ?_; go_big_quiet_step (fail); refine wpQuiet_nil ?_) | (refine lexL_skip0 rfl rfl ?_; simp only [Act.put, List.setIfInBounds_toArray, List.set_cons_succ, List.set_cons_zero]))
          have rowX6q := (hb6q.block (W7.heap.size) (by omega)).trans rowXq
          refine lexL_e rfl ?_
          refine wpList_store_row rfl 24 _ _ rfl (W7.heap.size) 24 _ _ rfl rfl rowX6q (by kernel_rfl) rfl (by simp [Value.oneCell']) ?_
          have b47q : Below W7.heap.size W7 (w6q.setRow (W7.heap.size) #[.slice none 0 0]) := Below.setRow b46q (by omega) _
          refine lexL_go b47q ?_
          simp only [Act.put]
          repeat (first | (refine lexL_q0 rfl ?_; go_big_quiet_step (fail); refine wpQuiet_nil ?_) | (refine lexL_skip0 rfl rfl ?_; simp only [Act.put, List.setIfInBounds_toArray, List.set_cons_succ, List.set_cons_zero]))
          have hr7q := setRow_heap _ _ _ #[.slice none 0 0] _ _ rowX6q
          generalize w6q.setRow (W7.heap.size) #[.slice none 0 0] = W10 at *
          have HR7q := Lib.hid hr7q
          have hlt7q : W7.heap.size < W10.heap.size := (Array.getElem?_eq_some_iff.1 hr7q).1
          clear hr7q
          have b710 := b47q
          have qX : W10.cell? ⟨w6.heap.size, 0, none⟩ = some (.slice A6 1 c6) := by rw [cell_of_row _ _ _ _ _ _ ((b710.block _ hlt7).trans HR7.out)]; rfl
          have hD10 := hD7.ext b710
          obtain ⟨bX, oX, xX, fX, rfl, hbX, hfX, hxX, cX0, cX1⟩ := hD10.at_ (k := 0) (by omega)
          have hfe : fX = ⟨[], ([] ++ List.replicate (65536 - n) 0) ++ List.replicate m 0⟩ := by cases hfX; rfl
          have hln := hxX.p.len.1
          rw [hfe] at hln
          simp at hln
          have dX : ((xX.n2 : Int) == ((65536 - n : Nat) : Int) + (m : Int)) = true := by simp; omega
          rw [Nat.zero_mul, Nat.add_zero] at cX0 cX1
          clear hfe hln hfX
          refine lexL_nil ?_
          go_wp2_with fail
          go_wp2
          go_ret
          exact ⟨rfl, Below.ext b4 (Below.ext b47 b710)⟩
        · repeat (first | (refine lexL_q0 rfl ?_; go_big_quiet_step (fail); refine wpQuiet_nil ?_) | (refine lexL_skip0 rfl rfl ?_; simp only [Act.put, List.setIfInBounds_toArray, List.set_cons_succ, List.set_cons_zero]))
          refine lexL_ld (⟨w2.heap.size, 0, none⟩) (.agg #[.slice A3 1 c3]) rfl rfl rfl (fun w' hS => run_ld_block (((hS.block _ (Nat.lt_of_lt_of_le hlt4 b47.size)).trans (b47.block _ hlt4)).trans HR4.out) Try.underlying24 rfl (by kernel_rfl)) ?_
          simp only [Act.put, List.setIfInBounds_toArray, List.set_cons_succ, List.set_cons_zero]
          repeat (first | (refine lexL_q0 rfl ?_; go_big_quiet_step (fail); refine wpQuiet_nil ?_) | (refine lexL_skip0 rfl rfl ?_; simp only [Act.put, List.setIfInBounds_toArray, List.set_cons_succ, List.set_cons_zero]))
          have vaq : Below W7.heap.size W7 (W7.alloc (.cells (madeCells (encB 0).toArray (65536 + m)) 5)).drew := ((Below.refl _ _).alloc (Nat.le_refl _) _).drew
          refine lexL_e rfl ?_
          go_wp2_with fail
          refine lexL_go vaq ?_
          repeat (first | (refine lexL_q0 rfl ?_; go_big_quiet_step (fail); refine wpQuiet_nil ?_) | (refine lexL_skip0 rfl rfl ?_; simp only [Act.put, List.setIfInBounds_toArray, List.set_cons_succ, List.set_cons_zero]))
          have vbq : Below W7.heap.size W7 ((W7.alloc (.cells (madeCells (encB 0).toArray (65536 + m)) 5)).alloc (.cells #[.slice none 0 0] 24)).drew := (((Below.refl _ _).alloc (Nat.le_refl _) _).alloc (by simp) _).drew
          have hownMq := (mkOwnBn ((65536 + m)) (by omega) W7).ext (w' := ((W7.alloc (.cells (madeCells (encB 0).toArray (65536 + m)) 5)).alloc (.cells #[.slice none 0 0] 24)).drew) ((Below.refl _ _).alloc (Nat.le_refl _) _).drew
          have rowXq : ((W7.alloc (.cells (madeCells (encB 0).toArray (65536 + m)) 5)).alloc (.cells #[.slice none 0 0] 24)).drew.heap[W7.heap.size + 1]? = some (.cells #[.slice none 0 0] 24 (0, 0)) := by
            have := heap_alloc_new (W7.alloc (.cells (madeCells (encB 0).toArray (65536 + m)) 5)) (.cells #[.slice none 0 0] 24)
            rw [World.size_alloc] at this
            exact this
          refine lexL_e rfl ?_
          go_wp2_with fail
          refine lexL_go vbq ?_
          repeat (first | (refine lexL_q0 rfl ?_; go_big_quiet_step (fail); refine wpQuiet_nil ?_) | (refine lexL_skip0 rfl rfl ?_; simp only [Act.put, List.setIfInBounds_toArray, List.set_cons_succ, List.set_cons_zero]))
          refine lexL_e rfl ?_
          go_wp2_with fail
          have hszVq : ((W7.alloc (.cells (madeCells (encB 0).toArray (65536 + m)) 5)).alloc (.cells #[.slice none 0 0] 24)).drew.heap.size = W7.heap.size + 2 := by show ((W7.alloc (.cells (madeCells (encB 0).toArray (65536 + m)) 5)).alloc (.cells #[.slice none 0 0] 24)).heap.size = _; rw [World.size_alloc, World.size_alloc]
          generalize ((W7.alloc (.cells (madeCells (encB 0).toArray (65536 + m)) 5)).alloc (.cells #[.slice none 0 0] 24)).drew = Vq at *
          have hre := replace_long A3 1 c3 Vq (by omega) 0 (by omega) (some ⟨W7.heap.size, 0, none⟩) (65536 + m) (65536 + m) (by omega) (by omega)
          rw [show ((0 : Nat) : Int) = 0 from rfl] at hre
          refine hre.mono ?_
          rintro e w6q ⟨rfl, hb6q⟩
          clear hre
          have b46q := Below.ext vbq hb6q
          go_wp2_with fail
          refine lexL_go (b46q) ?_
          repeat (first | (refine lexL_q0 rfl ?_; go_big_quiet_step (fail); refine wpQuiet_nil ?_) | (refine lexL_skip0 rfl rfl ?_; simp only [Act.put, List.setIfInBounds_toArray, List.set_cons_succ, List.set_cons_zero]))
          have rowX6q := (hb6q.block (W7.heap.size + 1) (by omega)).trans rowXq
          refine lexL_e rfl ?_
          refine wpList_store_row rfl 24 _ _ rfl (W7.heap.size + 1) 24 _ _ rfl rfl rowX6q (by kernel_rfl) rfl (by simp [Value.oneCell']) ?_
          have b47q : Below W7.heap.size W7 (w6q.setRow (W7.heap.size + 1) #[.slice none 0 0]) := Below.setRow b46q (by omega) _
          refine lexL_go b47q ?_
          simp only [Act.put]
          repeat (first | (refine lexL_q0 rfl ?_; go_big_quiet_step (fail); refine wpQuiet_nil ?_) | (refine lexL_skip0 rfl rfl ?_; simp only [Act.put, List.setIfInBounds_toArray, List.set_cons_succ, List.set_cons_zero]))
          have hr7q := setRow_heap _ _ _ #[.slice none 0 0] _ _ rowX6q
          generalize w6q.setRow (W7.heap.size + 1) #[.slice none 0 0] = W10 at *
          have HR7q := Lib.hid hr7q
          have hlt7q : W7.heap.size + 1 < W10.heap.size := (Array.getElem?_eq_some_iff.1 hr7q).1
          clear hr7q
          have b710 := b47q
          have qX : W10.cell? ⟨w6.heap.size, 0, none⟩ = some (.slice A6 1 c6) := by rw [cell_of_row _ _ _ _ _ _ ((b710.block _ hlt7).trans HR7.out)]; rfl
          have hD10 := hD7.ext b710
          obtain ⟨bX, oX, xX, fX, rfl, hbX, hfX, hxX, cX0, cX1⟩ := hD10.at_ (k := 0) (by omega)
          have hfe : fX = ⟨[], ([] ++ List.replicate (65536 - n) 0) ++ List.replicate m 0⟩ := by cases hfX; rfl
          have hln := hxX.p.len.1
          rw [hfe] at hln
          simp at hln
          have dX : ((xX.n2 : Int) == ((65536 - n : Nat) : Int) + (m : Int)) = true := by simp; omega
          rw [Nat.zero_mul, Nat.add_zero] at cX0 cX1
          clear hfe hln hfX
          refine lexL_nil ?_
          go_wp2_with fail
          go_wp2
          go_ret
          exact ⟨rfl, Below.ext b4 (Below.ext b47 b710)⟩
        · repeat (first | (refine lexL_q0 rfl ?_; go_big_quiet_step (fail); refine wpQuiet_nil ?_) | (refine lexL_skip0 rfl rfl ?_; simp only [Act.put, List.setIfInBounds_toArray, List.set_cons_succ, List.set_cons_zero]))
          refine lexL_ld (⟨w2.heap.size, 0, none⟩) (.agg #[.slice A3 1 c3]) rfl rfl rfl (fun w' hS => run_ld_block (((hS.block _ (Nat.lt_of_lt_of_le hlt4 b47.size)).trans (b47.block _ hlt4)).trans HR4.out) Try.underlying24 rfl (by kernel_rfl)) ?_
          simp only [Act.put, List.setIfInBounds_toArray, List.set_cons_succ, List.set_cons_zero]
          repeat (first | (refine lexL_q0 rfl ?_; go_big_quiet_step (fail); refine wpQuiet_nil ?_) | (refine lexL_skip0 rfl rfl ?_; simp only [Act.put, List.setIfInBounds_toArray, List.set_cons_succ, List.set_cons_zero]))
          have vbq : Below W7.heap.size W7 (W7.alloc (.cells (madeCells (encB 0).toArray (65536 + m)) 5)).drew := ((Below.refl _ _).alloc (Nat.le_refl _) _).drew
          have hownMq := (mkOwnBn ((65536 + m)) (by omega) W7).ext (w' := (W7.alloc (.cells (madeCells (encB 0).toArray (65536 + m)) 5)).drew) (Below.refl _ _).drew
          refine lexL_e rfl ?_
          go_wp2_with fail
          refine lexL_go vbq ?_
          repeat (first | (refine lexL_q0 rfl ?_; go_big_quiet_step (fail); refine wpQuiet_nil ?_) | (refine lexL_skip0 rfl rfl ?_; simp only [Act.put, List.setIfInBounds_toArray, List.set_cons_succ, List.set_cons_zero]))
          refine lexL_e rfl ?_
          go_wp2_with fail
          generalize (W7.alloc (.cells (madeCells (encB 0).toArray (65536 + m)) 5)).drew = Vq at *
          have hre := replace_long A3 1 c3 Vq (by omega) 0 (by omega) (some ⟨W7.heap.size, 0, none⟩) (65536 + m) (65536 + m) (by omega) (by omega)
          rw [show ((0 : Nat) : Int) = 0 from rfl] at hre
          refine hre.mono ?_
          rintro e w6q ⟨rfl, hb6q⟩
          clear hre
          have b46q := Below.ext vbq hb6q
          go_wp2_with fail
          refine lexL_go (b46q) ?_
          repeat (first | (refine lexL_q0 rfl ?_; go_big_quiet_step (fail); refine wpQuiet_nil ?_) | (refine lexL_skip0 rfl rfl ?_; simp only [Act.put, List.setIfInBounds_toArray, List.set_cons_succ, List.set_cons_zero]))
          have hbXq : Below w6q.heap.size w6q (w6q.alloc (.cells #[.slice none 0 0] 24)) := (Below.refl _ _).alloc (Nat.le_refl _) _
          refine lexL_e rfl ?_
          go_wp2_with fail
          refine lexL_go (Below.ext b46q hbXq) ?_
          repeat (first | (refine lexL_q0 rfl ?_; go_big_quiet_step (fail); refine wpQuiet_nil ?_) | (refine lexL_skip0 rfl rfl ?_; simp only [Act.put, List.setIfInBounds_toArray, List.set_cons_succ, List.set_cons_zero]))
          refine lexL_e rfl ?_
          refine wpList_store_row rfl 24 _ _ rfl w6q.heap.size 24 _ _ rfl rfl (heap_alloc_new w6q _) (by kernel_rfl) rfl (by simp [Value.oneCell']) ?_
          rw [World.setRow_alloc_new]
          have hbX7q : Below w6q.heap.size w6q (w6q.alloc (.cells #[.slice none 0 0] 24)) := (Below.refl _ _).alloc (Nat.le_refl _) _
          have b47q := Below.ext b46q hbX7q
          refine lexL_go b47q ?_
          simp only [Act.put]
          repeat (first | (refine lexL_q0 rfl ?_; go_big_quiet_step (fail); refine wpQuiet_nil ?_) | (refine lexL_skip0 rfl rfl ?_; simp only [Act.put, List.setIfInBounds_toArray, List.set_cons_succ, List.set_cons_zero]))
          have hr7q : (w6q.alloc (.cells #[.slice none 0 0] 24)).heap[w6q.heap.size]? = some (.cells #[.slice none 0 0] 24 (0, 0)) := heap_alloc_new w6q _
          generalize w6q.alloc (.cells #[.slice none 0 0] 24) = W10 at *
          have HR7q := Lib.hid hr7q
          have hlt7q : w6q.heap.size < W10.heap.size := (Array.getElem?_eq_some_iff.1 hr7q).1
          clear hr7q
          have b710 := b47q
          have qX : W10.cell? ⟨w6.heap.size, 0, none⟩ = some (.slice A6 1 c6) := by rw [cell_of_row _ _ _ _ _ _ ((b710.block _ hlt7).trans HR7.out)]; rfl
          have hD10 := hD7.ext b710
          obtain ⟨bX, oX, xX, fX, rfl, hbX, hfX, hxX, cX0, cX1⟩ := hD10.at_ (k := 0) (by omega)
          have hfe : fX = ⟨[], ([] ++ List.replicate (65536 - n) 0) ++ List.replicate m 0⟩ := by cases hfX; rfl
          have hln := hxX.p.len.1
          rw [hfe] at hln
          simp at hln
          have dX : ((xX.n2 : Int) == ((65536 - n : Nat) : Int) + (m : Int)) = true := by simp; omega
          rw [Nat.zero_mul, Nat.add_zero] at cX0 cX1
          clear hfe hln hfX
          refine lexL_nil ?_
          go_wp2_with fail
          go_wp2
          go_ret
          exact ⟨rfl, Below.ext b4 (Below.ext b47 b710)⟩
end Go.Proofs.Ytmbbngdhdhgliaa.diskLimits
