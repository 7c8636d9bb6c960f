/-
  The walk of the law DiskPlays: it returns true and writes nothing that was there. Conditions: what the row says of its arguments.
-/
import Derived.Test.YtmbbngdhdhgliaaPlay
import Derived.WalkKit
import Derived.ProofKit
import Derived.OpenShut
import Derived.ShutString
import Derived.Below
namespace Go.Proofs.Ytmbbngdhdhgliaa.diskPlays
open Go.ChangeShapes Go.WideShapes Go.ChangeAt Go.RowKit
open Go.ChangeMaps (open_string shut_string)
set_option linter.unusedVariables false
set_option maxRecDepth 100000

set_option maxHeartbeats 4000000 in
theorem walk (a0 : Int) (a1 : Option Addr) (len1 cap1 : Nat) (z1 : List Int) (w : World) (w0 : (Lit.int .i64 a0).wf = true) (w1 : IsRow .u8 w a1 len1 cap1 z1) :
    Calls Try.prog 7 #[.int .i64 a0, .slice a1 len1 cap1] w fun e w' => e = .returned (.bool true) ∧ Below w.heap.size w w' := by
  obtain ⟨codes, hk1, hk2, hk3, hkB⟩ := IsRow.bytes w1
  clear w1
  clear hk1
  have HK := Lib.hid hkB
  go_enter Try.func7, Try.ntmps7
  go_wp2_with fail
  refine (awake_any _).mono ?_
  rintro e w1 ⟨rfl, hb1⟩
  obtain ⟨n, er, hN⟩ := NewR.ex a0
  have hns := hN.spec
  go_wp2_with fail
  refine (new_go a0 n er hN w1).mono ?_
  rintro e w2 ⟨A2, c2, rfl, hD2, hb2⟩
  obtain ⟨P, hP⟩ : ∃ P, P = w2.heap.size := ⟨_, rfl⟩
  obtain ⟨W, hW⟩ : ∃ W, W = w2.alloc (.cells #[.slice A2 n c2] 24) := ⟨_, rfl⟩
  have hbW : Below w2.heap.size w2 W := by rw [hW]; exact (Below.refl _ _).alloc (Nat.le_refl _) _
  have hrP : W.heap[P]? = some (.cells #[.slice A2 n c2] 24 (0, 0)) := by rw [hW, hP]; exact heap_alloc_new _ _
  have hsW : W.heap.size = P + 1 := by rw [hW, hP]; simp
  have s1 := hb1.size
  have s2 := hb2.size
  have b2 := Below.ext hb1 hb2
  have bW := Below.ext b2 hbW
  have HrP := Lib.hid hrP
  have HsW := Lib.hid hsW
  have HP := Lib.hid hP
  go_wp2_with fail
  rw [← hW, ← hP]
  clear hW hP hrP hsW
  refine (refnew_go a0 n er hN W).mono ?_
  rintro e w3 ⟨A3, c3, rfl, hD3, hb3⟩
  obtain ⟨R, hR⟩ : ∃ R, R = w3.heap.size := ⟨_, rfl⟩
  obtain ⟨W4, hW4⟩ : ∃ W4, W4 = w3.alloc (.cells #[.slice A3 n c3] 24) := ⟨_, rfl⟩
  have hb4 : Below w3.heap.size w3 W4 := by rw [hW4]; exact (Below.refl _ _).alloc (Nat.le_refl _) _
  have hrR : W4.heap[R]? = some (.cells #[.slice A3 n c3] 24 (0, 0)) := by rw [hW4, hR]; exact heap_alloc_new _ _
  have s3 := hb3.size
  have hsW4 : W4.heap.size = R + 1 := by rw [hW4, hR]; simp
  have hPR : P < R := by have := HsW.out; omega
  have bb := Below.ext hb3 hb4
  have hrP4 := (bb.block P (by have := HsW.out; omega)).trans HrP.out
  have hD24 := (hD2.ext hbW).ext bb
  have hD34 := hD3.ext hb4
  have b4 := Below.ext bW bb
  have HR := Lib.hid hR
  have q1 : (w3.alloc (.cells #[.slice A3 n c3] 24)).cell? ⟨P, 0, none⟩ = some (.slice A2 n c2) := by rw [← hW4, cell_of_row _ _ _ _ _ _ hrP4]; rfl
  have q2 : (w3.alloc (.cells #[.slice A3 n c3] 24)).cell? ⟨R, 0, none⟩ = some (.slice A3 n c3) := by rw [← hW4, cell_of_row _ _ _ _ _ _ hrR]; rfl
  have HrP4 := Lib.hid hrP4
  have HrR := Lib.hid hrR
  have HsW4 := Lib.hid hsW4
  clear hrP4 hrR hD2 hD3 bW b2 hsW4
  rcases hns with ⟨hn16, rfl | rfl⟩
  · go_wp2_with fail
    rw [← hW4, ← hR]
    clear hW4 q1 q2 hR hN
    refine (samedisk_eq A2 A3 n c2 c3 _ _ _ W4 hD24 hD34 (by omega)).mono ?_
    rintro e w5 ⟨rfl, hb5⟩
    have s5 := hb5.size
    have b5 := Below.ext b4 hb5
    have s05 := b5.size
    go_wp2_with fail
    refine (codnew_at _ codes w.heap.size w5 s05 200 (by omega) (HK.out.ext b5)).mono ?_
    rintro e w6 ⟨g, rfl, hC6, hg1, hb6⟩
    have hg2 := hC6.lt
    have b46 := Below.ext hb5 hb6
    have hnew := new_go 3 3 0 (.inl ⟨rfl, by omega, rfl⟩) w6
    have Hnew := Lib.hid hnew
    clear hnew
    go_wp2_with fail
    refine (Hnew.out).mono ?_
    rintro e w7 ⟨A7, c7, rfl, hD7, hb7⟩
    have b47 := Below.ext b46 hb7
    have s67 := hb7.size
    have s7 := b47.size
    have s6 := hb6.size
    have hrP7 := (b47.block P (by have := HsW4.out; omega)).trans HrP4.out
    have hrR7 := (b47.block R (by have := HsW4.out; omega)).trans HrR.out
    have b7 := Below.ext b4 b47
    have hC7 := hC6.ext hb7
    obtain ⟨W8, hW8⟩ : ∃ W8, W8 = w7.setRow P #[.slice A7 3 c7] := ⟨_, rfl⟩
    have HrP7 := Lib.hid hrP7
    have hg8 : w7.grownBy W8 (some P) := by rw [hW8]; exact grown_setRow _ _ _
    have hs8 : W8.heap.size = w7.heap.size := by rw [hW8]; exact setRow_size _ _ _
    have hrP8 : W8.heap[P]? = some (.cells #[.slice A7 3 c7] 24 (0, 0)) := by rw [hW8]; exact setRow_heap _ _ _ _ _ _ HrP7.out
    have hP4 := HsW4.out
    have hrR8 := (hg8.block R (by omega) (by simp; omega)).trans hrR7
    have hwP : w.heap.size ≤ P := by have := HP.out; have := hb1.size; have := hb2.size; omega
    have b8 := below_of_grown b7 hg8 hwP
    have hC8 := hC7.grown hg8 (fun m hm => by cases hm; omega)
    have hnew2 := refnew_go 3 3 0 (.inl ⟨rfl, by omega, rfl⟩) W8
    have Hnew2 := Lib.hid hnew2
    have HrR8 := Lib.hid hrR8
    have HrP8 := Lib.hid hrP8
    have hD8 : Dsk (fun b => b ≠ g ∧ b ≠ P ∧ b ≠ R) W8 (.slice A7 3 c7) (List.replicate 3 zFil) := (hD7.mono (S' := fun b => b ≠ g ∧ b ≠ P ∧ b ≠ R) (fun b _ h => ⟨by omega, by omega, by omega⟩)).keep (fun b hb hs => hg8.block b hb (by simpa using hs.2.1))
    clear hnew2 hrR8 hrP8 hD7 hC7 hC6 hrP7 hrR7 b47 b46 b7 hb7
    go_wp2_with (refine wpList_store_row rfl 24 _ _ rfl P 24 _ _ rfl rfl HrP7.out (by kernel_rfl) rfl (by simp [Value.oneCell']) ?_)
    rw [← hW8]
    clear hW8
    refine Hnew2.out.mono ?_
    rintro e w9 ⟨A9, c9, rfl, hD9, hb9⟩
    have s9 := hb9.size
    have hrP9 := (hb9.block P (by omega)).trans HrP8.out
    have hrR9 := (hb9.block R (by omega)).trans HrR8.out
    have HrR9 := Lib.hid hrR9
    have hg10 : w9.grownBy (w9.setRow R #[.slice A9 3 c9]) (some R) := grown_setRow _ _ _
    have hk10 : Keep (fun b => b ≠ g ∧ b ≠ P ∧ b ≠ R) w9 (w9.setRow R #[.slice A9 3 c9]) := fun b hb hs => hg10.block b hb (by simpa using hs.2.2)
    have hD10 := (hD8.ext hb9).keep hk10
    have hE10 := (hD9.mono (S' := fun b => b ≠ g ∧ b ≠ P ∧ b ≠ R) (fun b _ h => ⟨by omega, by omega, by omega⟩)).keep hk10
    have hC10 := (hC8.ext hb9).grown hg10 (fun m hm => by cases hm; omega)
    have b10 := below_of_grown (Below.ext b8 hb9) hg10 (by omega : w.heap.size ≤ R)
    have hrP10 := (setRow_other w9 R P #[.slice A9 3 c9] (by omega)).trans hrP9
    have hrR10 : (w9.setRow R #[.slice A9 3 c9]).heap[R]? = some (.cells #[.slice A9 3 c9] 24 (0, 0)) := setRow_heap _ _ _ _ _ _ HrR9.out
    have s10 : g < (w9.setRow R #[.slice A9 3 c9]).heap.size := by rw [setRow_size]; omega
    have HE := Lib.hid (And.intro hD10 (And.intro hE10 (And.intro hC10 (And.intro b10 (And.intro hrP10 hrR10)))))
    clear hD10 hE10 hC10 b10 hrP10 hrR10 hD8 hD9 hg10 hk10 hrP9 hrR9 hC8 b8 hb9
    go_wp2_with (refine wpList_store_row rfl 24 _ _ rfl R 24 _ _ rfl rfl HrR9.out (by kernel_rfl) rfl (by simp [Value.oneCell']) ?_)
    go_loopw [10] (fun i wr => ∃ (k : Nat) (A1 : Option Addr) (c1 : Nat) (A2 : Option Addr) (c2 : Nat) (fs : List Fil), i = .int .i64 k ∧ k ≤ 20 ∧ Dsk (fun b => b ≠ g ∧ b ≠ P ∧ b ≠ R) wr (.slice A1 3 c1) fs ∧ Dsk (fun b => b ≠ g ∧ b ≠ P ∧ b ≠ R) wr (.slice A2 3 c2) fs ∧ Cod w.heap.size wr g ∧ Below w.heap.size w wr ∧ wr.heap[P]? = some (.cells #[.slice A1 3 c1] 24 (0, 0)) ∧ wr.heap[R]? = some (.cells #[.slice A2 3 c2] 24 (0, 0)) ∧ (∀ f ∈ fs, flen f ≤ 40 * k)) (fun i _ => 20 - (intOf i).toNat)
    case atStart => exact ⟨0, A7, c7, A9, c9, _, rfl, by omega, HE.out.1, HE.out.2.1, HE.out.2.2.1, HE.out.2.2.2.1, HE.out.2.2.2.2.1, HE.out.2.2.2.2.2, by intro f hf; rw [List.eq_of_mem_replicate hf]; decide⟩
    case round =>
      clear HE
      obtain ⟨k, A1, c1, A2, c2, fs, rfl, hk, hD1, hD2, hC, hbr, hrP, hrR, hfl⟩ := hrel
      by_cases hlt : k < 20
      · have dk : decide ((k : Int) < 20) = true := by simp; omega
        have dk' : decide (k < 20) = true := by simp; omega
        have qP : wr.cell? ⟨P, 0, none⟩ = some (.slice A1 3 c1) := by rw [cell_of_row _ _ _ _ _ _ hrP]; rfl
        have qR : wr.cell? ⟨R, 0, none⟩ = some (.slice A2 3 c2) := by rw [cell_of_row _ _ _ _ _ _ hrR]; rfl
        have lP := (Array.getElem?_eq_some_iff.1 hrP).1
        have lR := (Array.getElem?_eq_some_iff.1 hrR).1
        have HP1 := Lib.hid hrP
        have HR1 := Lib.hid hrR
        have hgl := hC.lt
        clear hrP hrR
        go_wp2_with fail
        refine (step_any w.heap.size g wr hC A1 c1 A2 c2 fs _ (fun b h => h.1) (40 * k) (by omega) hfl hD1 hD2).mono ?_
        rintro e w5 ⟨A5, c5, A6, c6, fs', rfl, hC5, hg5, hD5, hD6, hfl5⟩
        have s5 := hg5.size
        have hD5' := hD5.mono (S' := fun b => b ≠ g ∧ b ≠ P ∧ b ≠ R) (fun b _ h => by rcases h with h | h; exact h; exact ⟨by omega, by omega, by omega⟩)
        have hD6' := hD6.mono (S' := fun b => b ≠ g ∧ b ≠ P ∧ b ≠ R) (fun b _ h => by rcases h with h | h; exact h; exact ⟨by omega, by omega, by omega⟩)
        have HP5 := Lib.hid ((hg5.block P lP (by simp; omega)).trans HP1.out)
        have HR5 := Lib.hid ((hg5.block R lR (by simp; omega)).trans HR1.out)
        have b5 := below_of_grown hbr hg5 (by omega)
        clear hD1 hD2 hC hD5 hD6 hg5 qP qR hbr
        obtain ⟨W6, hW6⟩ : ∃ W6, W6 = (w5.alloc (.cells #[.slice A5 3 c5] 24)).alloc (.cells #[.slice A6 3 c6] 24) := ⟨_, rfl⟩
        have hb6 : Below w5.heap.size w5 W6 := by rw [hW6]; exact ((Below.refl _ _).alloc (Nat.le_refl _) _).alloc (by simp) _
        have hs6 : W6.heap.size = w5.heap.size + 2 := by rw [hW6]; simp
        have x6 : W6.heap[w5.heap.size]? = some (.cells #[.slice A5 3 c5] 24 (0, 0)) := by rw [hW6]; exact row_alloc' (heap_alloc_new _ _) _
        have y6 : W6.heap[w5.heap.size + 1]? = some (.cells #[.slice A6 3 c6] 24 (0, 0)) := by rw [hW6]; exact heap_new' _ _ _ (by simp)
        have HX6 := Lib.hid x6
        have HY6 := Lib.hid y6
        have HP6 := Lib.hid ((hb6.block P (by omega)).trans HP5.out)
        have HR6 := Lib.hid ((hb6.block R (by omega)).trans HR5.out)
        have hC6 := hC5.ext hb6
        have hDa := hD5'.ext hb6
        have hDb := hD6'.ext hb6
        have b6 := Below.ext b5 hb6
        clear x6 y6 hC5 hD5' hD6' b5 hb6
        go_wp2_with fail
        first | rw [← hW6] | (trace_state; fail)
        clear hW6
        refine wp_region_lexL (fun w' => w'.heap[w5.heap.size]? = some (.cells #[.slice A5 3 c5] 24 (0, 0)) ∧ w'.heap[w5.heap.size + 1]? = some (.cells #[.slice A6 3 c6] 24 (0, 0))) (by kernel_rfl) (by kernel_rfl) ⟨HX6.out, HY6.out⟩ ?_
        repeat (first | (refine lexL_q0 rfl ?_; go_big_quiet_step (fail); refine wpQuiet_nil ?_) | (refine lexL_skip0 rfl rfl ?_; simp only [Act.put, List.setIfInBounds_toArray, List.set_cons_succ, List.set_cons_zero]))
        refine lexL_ld (⟨w5.heap.size, 0, none⟩) (.agg #[.slice A5 3 c5]) rfl rfl rfl (fun w' hS => run_ld_block hS.1 Try.underlying24 rfl (by kernel_rfl)) ?_
        simp only [Act.put, List.setIfInBounds_toArray, List.set_cons_succ, List.set_cons_zero]
        repeat (first | (refine lexL_q0 rfl ?_; go_big_quiet_step (fail); refine wpQuiet_nil ?_) | (refine lexL_skip0 rfl rfl ?_; simp only [Act.put, List.setIfInBounds_toArray, List.set_cons_succ, List.set_cons_zero]))
        refine lexL_ld (⟨w5.heap.size + 1, 0, none⟩) (.agg #[.slice A6 3 c6]) rfl rfl rfl (fun w' hS => run_ld_block hS.2 Try.underlying24 rfl (by kernel_rfl)) ?_
        simp only [Act.put, List.setIfInBounds_toArray, List.set_cons_succ, List.set_cons_zero]
        repeat (first | (refine lexL_q0 rfl ?_; go_big_quiet_step (fail); refine wpQuiet_nil ?_) | (refine lexL_skip0 rfl rfl ?_; simp only [Act.put, List.setIfInBounds_toArray, List.set_cons_succ, List.set_cons_zero]))
        have hDa' := hDa.ext (Below.refl _ _).drew
        have hDb' := hDb.ext (Below.refl _ _).drew
        have HP6' : RowKit.Hid (W6.drew.heap[P]? = some (.cells #[.slice A1 3 c1] 24 (0, 0))) := Lib.hid HP6.out
        have HR6' : RowKit.Hid (W6.drew.heap[R]? = some (.cells #[.slice A2 3 c2] 24 (0, 0))) := Lib.hid HR6.out
        have HX6' : RowKit.Hid (W6.drew.heap[w5.heap.size]? = some (.cells #[.slice A5 3 c5] 24 (0, 0))) := Lib.hid HX6.out
        have HY6' : RowKit.Hid (W6.drew.heap[w5.heap.size + 1]? = some (.cells #[.slice A6 3 c6] 24 (0, 0))) := Lib.hid HY6.out
        have hC6' := hC6.drew
        have b6' : Below w.heap.size w W6.drew := b6.drew
        have hs6' : W6.drew.heap.size = w5.heap.size + 2 := hs6
        clear hDa hDb HP6 HR6 HX6 HY6 hC6 b6 hs6
        generalize W6.drew = W7 at *
        refine lexL_e rfl ?_
        refine wpList_store_row rfl 24 _ _ rfl P 24 _ _ rfl rfl HP6'.out (by kernel_rfl) rfl (by simp [Value.oneCell']) ?_
        have hg8 : W7.grownBy (W7.setRow P #[.slice A5 3 c5]) (some P) := grown_setRow _ _ _
        have hk8 : Keep (fun b => b ≠ g ∧ b ≠ P ∧ b ≠ R) W7 (W7.setRow P #[.slice A5 3 c5]) := fun b hb hs => hg8.block b hb (by simpa using hs.2.1)
        have hDa8 := hDa'.keep hk8
        have hDb8 := hDb'.keep hk8
        have hC8 := hC6'.grown hg8 (fun m hm => by cases hm; omega)
        have b8 := below_of_grown b6' hg8 (by omega : w.heap.size ≤ P)
        have hP8 : (W7.setRow P #[.slice A5 3 c5]).heap[P]? = some (.cells #[.slice A5 3 c5] 24 (0, 0)) := setRow_heap _ _ _ _ _ _ HP6'.out
        have hR8 := (setRow_other W7 P R #[.slice A5 3 c5] (by omega)).trans HR6'.out
        have hX8 := (setRow_other W7 P w5.heap.size #[.slice A5 3 c5] (by omega)).trans HX6'.out
        have hY8 := (setRow_other W7 P (w5.heap.size + 1) #[.slice A5 3 c5] (by omega)).trans HY6'.out
        clear hDa' hDb' hC6' b6' hg8 hk8 HP6' HR6' HX6' HY6'
        generalize W7.setRow P #[.slice A5 3 c5] = W8 at *
        have HR8 := Lib.hid hR8
        have HX8 := Lib.hid hX8
        have HY8 := Lib.hid hY8
        have HP8 := Lib.hid hP8
        clear hR8 hX8 hY8 hP8
        refine lexL_go ⟨HX8.out, HY8.out⟩ ?_
        simp only [Act.put]
        repeat (first | (refine lexL_q0 rfl ?_; go_big_quiet_step (fail); refine wpQuiet_nil ?_) | (refine lexL_skip0 rfl rfl ?_; simp only [Act.put, List.setIfInBounds_toArray, List.set_cons_succ, List.set_cons_zero]))
        refine lexL_e rfl ?_
        refine wpList_store_row rfl 24 _ _ rfl R 24 _ _ rfl rfl HR8.out (by kernel_rfl) rfl (by simp [Value.oneCell']) ?_
        have hg9 : W8.grownBy (W8.setRow R #[.slice A6 3 c6]) (some R) := grown_setRow _ _ _
        have hk9 : Keep (fun b => b ≠ g ∧ b ≠ P ∧ b ≠ R) W8 (W8.setRow R #[.slice A6 3 c6]) := fun b hb hs => hg9.block b hb (by simpa using hs.2.2)
        have hDa9 := hDa8.keep hk9
        have hDb9 := hDb8.keep hk9
        have hC9 := hC8.grown hg9 (fun m hm => by cases hm; omega)
        have b9 := below_of_grown b8 hg9 (by omega : w.heap.size ≤ R)
        have hR9 : (W8.setRow R #[.slice A6 3 c6]).heap[R]? = some (.cells #[.slice A6 3 c6] 24 (0, 0)) := setRow_heap _ _ _ _ _ _ HR8.out
        have hP9 := (setRow_other W8 R P #[.slice A6 3 c6] (by omega)).trans HP8.out
        have hX9 := (setRow_other W8 R w5.heap.size #[.slice A6 3 c6] (by omega)).trans HX8.out
        have hY9 := (setRow_other W8 R (w5.heap.size + 1) #[.slice A6 3 c6] (by omega)).trans HY8.out
        have HE := Lib.hid (And.intro hDa9 (And.intro hDb9 (And.intro hC9 (And.intro b9 (And.intro hP9 hR9)))))
        have HXY := Lib.hid (And.intro hX9 hY9)
        clear hDa8 hDb8 hC8 b8 hg9 hk9 hDa9 hDb9 hC9 b9 hR9 hP9 hX9 hY9
        generalize W8.setRow R #[.slice A6 3 c6] = W9 at *
        refine lexL_go HXY.out ?_
        simp only [Act.put]
        refine lexL_nil ?_
        go_wp2_with fail
        go_wp2
        go_roundw
        case rel => exact ⟨k + 1, A5, c5, A6, c6, fs', by congr 1, by omega, HE.out.1, HE.out.2.1, HE.out.2.2.1, HE.out.2.2.2.1, HE.out.2.2.2.2.1, HE.out.2.2.2.2.2, fun f hf => by have := hfl5 f hf; omega⟩
        case measure => simp [intOf]; omega
      · obtain rfl : k = 20 := by omega
        go_wp2
        go_ret
        exact ⟨rfl, hbr⟩
  · go_wp2_with fail
    rw [← hW4, ← hR]
    clear hW4 q1 q2 hR hN
    refine (samedisk_eq A2 A3 n c2 c3 _ _ _ W4 hD24 hD34 (by omega)).mono ?_
    rintro e w5 ⟨rfl, hb5⟩
    have s5 := hb5.size
    have b5 := Below.ext b4 hb5
    have s05 := b5.size
    go_wp2_with fail
    refine (codnew_at _ codes w.heap.size w5 s05 200 (by omega) (HK.out.ext b5)).mono ?_
    rintro e w6 ⟨g, rfl, hC6, hg1, hb6⟩
    have hg2 := hC6.lt
    have b46 := Below.ext hb5 hb6
    have hnew := new_go 3 3 0 (.inl ⟨rfl, by omega, rfl⟩) w6
    have Hnew := Lib.hid hnew
    clear hnew
    go_wp2_with fail
    refine (Hnew.out).mono ?_
    rintro e w7 ⟨A7, c7, rfl, hD7, hb7⟩
    have b47 := Below.ext b46 hb7
    have s67 := hb7.size
    have s7 := b47.size
    have s6 := hb6.size
    have hrP7 := (b47.block P (by have := HsW4.out; omega)).trans HrP4.out
    have hrR7 := (b47.block R (by have := HsW4.out; omega)).trans HrR.out
    have b7 := Below.ext b4 b47
    have hC7 := hC6.ext hb7
    obtain ⟨W8, hW8⟩ : ∃ W8, W8 = w7.setRow P #[.slice A7 3 c7] := ⟨_, rfl⟩
    have HrP7 := Lib.hid hrP7
    have hg8 : w7.grownBy W8 (some P) := by rw [hW8]; exact grown_setRow _ _ _
    have hs8 : W8.heap.size = w7.heap.size := by rw [hW8]; exact setRow_size _ _ _
    have hrP8 : W8.heap[P]? = some (.cells #[.slice A7 3 c7] 24 (0, 0)) := by rw [hW8]; exact setRow_heap _ _ _ _ _ _ HrP7.out
    have hP4 := HsW4.out
    have hrR8 := (hg8.block R (by omega) (by simp; omega)).trans hrR7
    have hwP : w.heap.size ≤ P := by have := HP.out; have := hb1.size; have := hb2.size; omega
    have b8 := below_of_grown b7 hg8 hwP
    have hC8 := hC7.grown hg8 (fun m hm => by cases hm; omega)
    have hnew2 := refnew_go 3 3 0 (.inl ⟨rfl, by omega, rfl⟩) W8
    have Hnew2 := Lib.hid hnew2
    have HrR8 := Lib.hid hrR8
    have HrP8 := Lib.hid hrP8
    have hD8 : Dsk (fun b => b ≠ g ∧ b ≠ P ∧ b ≠ R) W8 (.slice A7 3 c7) (List.replicate 3 zFil) := (hD7.mono (S' := fun b => b ≠ g ∧ b ≠ P ∧ b ≠ R) (fun b _ h => ⟨by omega, by omega, by omega⟩)).keep (fun b hb hs => hg8.block b hb (by simpa using hs.2.1))
    clear hnew2 hrR8 hrP8 hD7 hC7 hC6 hrP7 hrR7 b47 b46 b7 hb7
    go_wp2_with (refine wpList_store_row rfl 24 _ _ rfl P 24 _ _ rfl rfl HrP7.out (by kernel_rfl) rfl (by simp [Value.oneCell']) ?_)
    rw [← hW8]
    clear hW8
    refine Hnew2.out.mono ?_
    rintro e w9 ⟨A9, c9, rfl, hD9, hb9⟩
    have s9 := hb9.size
    have hrP9 := (hb9.block P (by omega)).trans HrP8.out
    have hrR9 := (hb9.block R (by omega)).trans HrR8.out
    have HrR9 := Lib.hid hrR9
    have hg10 : w9.grownBy (w9.setRow R #[.slice A9 3 c9]) (some R) := grown_setRow _ _ _
    have hk10 : Keep (fun b => b ≠ g ∧ b ≠ P ∧ b ≠ R) w9 (w9.setRow R #[.slice A9 3 c9]) := fun b hb hs => hg10.block b hb (by simpa using hs.2.2)
    have hD10 := (hD8.ext hb9).keep hk10
    have hE10 := (hD9.mono (S' := fun b => b ≠ g ∧ b ≠ P ∧ b ≠ R) (fun b _ h => ⟨by omega, by omega, by omega⟩)).keep hk10
    have hC10 := (hC8.ext hb9).grown hg10 (fun m hm => by cases hm; omega)
    have b10 := below_of_grown (Below.ext b8 hb9) hg10 (by omega : w.heap.size ≤ R)
    have hrP10 := (setRow_other w9 R P #[.slice A9 3 c9] (by omega)).trans hrP9
    have hrR10 : (w9.setRow R #[.slice A9 3 c9]).heap[R]? = some (.cells #[.slice A9 3 c9] 24 (0, 0)) := setRow_heap _ _ _ _ _ _ HrR9.out
    have s10 : g < (w9.setRow R #[.slice A9 3 c9]).heap.size := by rw [setRow_size]; omega
    have HE := Lib.hid (And.intro hD10 (And.intro hE10 (And.intro hC10 (And.intro b10 (And.intro hrP10 hrR10)))))
    clear hD10 hE10 hC10 b10 hrP10 hrR10 hD8 hD9 hg10 hk10 hrP9 hrR9 hC8 b8 hb9
    go_wp2_with (refine wpList_store_row rfl 24 _ _ rfl R 24 _ _ rfl rfl HrR9.out (by kernel_rfl) rfl (by simp [Value.oneCell']) ?_)
    go_loopw [10] (fun i wr => ∃ (k : Nat) (A1 : Option Addr) (c1 : Nat) (A2 : Option Addr) (c2 : Nat) (fs : List Fil), i = .int .i64 k ∧ k ≤ 20 ∧ Dsk (fun b => b ≠ g ∧ b ≠ P ∧ b ≠ R) wr (.slice A1 3 c1) fs ∧ Dsk (fun b => b ≠ g ∧ b ≠ P ∧ b ≠ R) wr (.slice A2 3 c2) fs ∧ Cod w.heap.size wr g ∧ Below w.heap.size w wr ∧ wr.heap[P]? = some (.cells #[.slice A1 3 c1] 24 (0, 0)) ∧ wr.heap[R]? = some (.cells #[.slice A2 3 c2] 24 (0, 0)) ∧ (∀ f ∈ fs, flen f ≤ 40 * k)) (fun i _ => 20 - (intOf i).toNat)
    case atStart => exact ⟨0, A7, c7, A9, c9, _, rfl, by omega, HE.out.1, HE.out.2.1, HE.out.2.2.1, HE.out.2.2.2.1, HE.out.2.2.2.2.1, HE.out.2.2.2.2.2, by intro f hf; rw [List.eq_of_mem_replicate hf]; decide⟩
    case round =>
      clear HE
      obtain ⟨k, A1, c1, A2, c2, fs, rfl, hk, hD1, hD2, hC, hbr, hrP, hrR, hfl⟩ := hrel
      by_cases hlt : k < 20
      · have dk : decide ((k : Int) < 20) = true := by simp; omega
        have dk' : decide (k < 20) = true := by simp; omega
        have qP : wr.cell? ⟨P, 0, none⟩ = some (.slice A1 3 c1) := by rw [cell_of_row _ _ _ _ _ _ hrP]; rfl
        have qR : wr.cell? ⟨R, 0, none⟩ = some (.slice A2 3 c2) := by rw [cell_of_row _ _ _ _ _ _ hrR]; rfl
        have lP := (Array.getElem?_eq_some_iff.1 hrP).1
        have lR := (Array.getElem?_eq_some_iff.1 hrR).1
        have HP1 := Lib.hid hrP
        have HR1 := Lib.hid hrR
        have hgl := hC.lt
        clear hrP hrR
        go_wp2_with fail
        refine (step_any w.heap.size g wr hC A1 c1 A2 c2 fs _ (fun b h => h.1) (40 * k) (by omega) hfl hD1 hD2).mono ?_
        rintro e w5 ⟨A5, c5, A6, c6, fs', rfl, hC5, hg5, hD5, hD6, hfl5⟩
        have s5 := hg5.size
        have hD5' := hD5.mono (S' := fun b => b ≠ g ∧ b ≠ P ∧ b ≠ R) (fun b _ h => by rcases h with h | h; exact h; exact ⟨by omega, by omega, by omega⟩)
        have hD6' := hD6.mono (S' := fun b => b ≠ g ∧ b ≠ P ∧ b ≠ R) (fun b _ h => by rcases h with h | h; exact h; exact ⟨by omega, by omega, by omega⟩)
        have HP5 := Lib.hid ((hg5.block P lP (by simp; omega)).trans HP1.out)
        have HR5 := Lib.hid ((hg5.block R lR (by simp; omega)).trans HR1.out)
        have b5 := below_of_grown hbr hg5 (by omega)
        clear hD1 hD2 hC hD5 hD6 hg5 qP qR hbr
        obtain ⟨W6, hW6⟩ : ∃ W6, W6 = (w5.alloc (.cells #[.slice A5 3 c5] 24)).alloc (.cells #[.slice A6 3 c6] 24) := ⟨_, rfl⟩
        have hb6 : Below w5.heap.size w5 W6 := by rw [hW6]; exact ((Below.refl _ _).alloc (Nat.le_refl _) _).alloc (by simp) _
        have hs6 : W6.heap.size = w5.heap.size + 2 := by rw [hW6]; simp
        have x6 : W6.heap[w5.heap.size]? = some (.cells #[.slice A5 3 c5] 24 (0, 0)) := by rw [hW6]; exact row_alloc' (heap_alloc_new _ _) _
        have y6 : W6.heap[w5.heap.size + 1]? = some (.cells #[.slice A6 3 c6] 24 (0, 0)) := by rw [hW6]; exact heap_new' _ _ _ (by simp)
        have HX6 := Lib.hid x6
        have HY6 := Lib.hid y6
        have HP6 := Lib.hid ((hb6.block P (by omega)).trans HP5.out)
        have HR6 := Lib.hid ((hb6.block R (by omega)).trans HR5.out)
        have hC6 := hC5.ext hb6
        have hDa := hD5'.ext hb6
        have hDb := hD6'.ext hb6
        have b6 := Below.ext b5 hb6
        clear x6 y6 hC5 hD5' hD6' b5 hb6
        go_wp2_with fail
        first | rw [← hW6] | (trace_state; fail)
        clear hW6
        refine wp_region_lexL (fun w' => w'.heap[w5.heap.size]? = some (.cells #[.slice A5 3 c5] 24 (0, 0)) ∧ w'.heap[w5.heap.size + 1]? = some (.cells #[.slice A6 3 c6] 24 (0, 0))) (by kernel_rfl) (by kernel_rfl) ⟨HX6.out, HY6.out⟩ ?_
        repeat (first | (refine lexL_q0 rfl ?_; go_big_quiet_step (fail); refine wpQuiet_nil ?_) | (refine lexL_skip0 rfl rfl ?_; simp only [Act.put, List.setIfInBounds_toArray, List.set_cons_succ, List.set_cons_zero]))
        refine lexL_ld (⟨w5.heap.size, 0, none⟩) (.agg #[.slice A5 3 c5]) rfl rfl rfl (fun w' hS => run_ld_block hS.1 Try.underlying24 rfl (by kernel_rfl)) ?_
        simp only [Act.put, List.setIfInBounds_toArray, List.set_cons_succ, List.set_cons_zero]
        repeat (first | (refine lexL_q0 rfl ?_; go_big_quiet_step (fail); refine wpQuiet_nil ?_) | (refine lexL_skip0 rfl rfl ?_; simp only [Act.put, List.setIfInBounds_toArray, List.set_cons_succ, List.set_cons_zero]))
        refine lexL_ld (⟨w5.heap.size + 1, 0, none⟩) (.agg #[.slice A6 3 c6]) rfl rfl rfl (fun w' hS => run_ld_block hS.2 Try.underlying24 rfl (by kernel_rfl)) ?_
        simp only [Act.put, List.setIfInBounds_toArray, List.set_cons_succ, List.set_cons_zero]
        repeat (first | (refine lexL_q0 rfl ?_; go_big_quiet_step (fail); refine wpQuiet_nil ?_) | (refine lexL_skip0 rfl rfl ?_; simp only [Act.put, List.setIfInBounds_toArray, List.set_cons_succ, List.set_cons_zero]))
        have hDa' := hDa.ext (Below.refl _ _).drew
        have hDb' := hDb.ext (Below.refl _ _).drew
        have HP6' : RowKit.Hid (W6.drew.heap[P]? = some (.cells #[.slice A1 3 c1] 24 (0, 0))) := Lib.hid HP6.out
        have HR6' : RowKit.Hid (W6.drew.heap[R]? = some (.cells #[.slice A2 3 c2] 24 (0, 0))) := Lib.hid HR6.out
        have HX6' : RowKit.Hid (W6.drew.heap[w5.heap.size]? = some (.cells #[.slice A5 3 c5] 24 (0, 0))) := Lib.hid HX6.out
        have HY6' : RowKit.Hid (W6.drew.heap[w5.heap.size + 1]? = some (.cells #[.slice A6 3 c6] 24 (0, 0))) := Lib.hid HY6.out
        have hC6' := hC6.drew
        have b6' : Below w.heap.size w W6.drew := b6.drew
        have hs6' : W6.drew.heap.size = w5.heap.size + 2 := hs6
        clear hDa hDb HP6 HR6 HX6 HY6 hC6 b6 hs6
        generalize W6.drew = W7 at *
        refine lexL_e rfl ?_
        refine wpList_store_row rfl 24 _ _ rfl P 24 _ _ rfl rfl HP6'.out (by kernel_rfl) rfl (by simp [Value.oneCell']) ?_
        have hg8 : W7.grownBy (W7.setRow P #[.slice A5 3 c5]) (some P) := grown_setRow _ _ _
        have hk8 : Keep (fun b => b ≠ g ∧ b ≠ P ∧ b ≠ R) W7 (W7.setRow P #[.slice A5 3 c5]) := fun b hb hs => hg8.block b hb (by simpa using hs.2.1)
        have hDa8 := hDa'.keep hk8
        have hDb8 := hDb'.keep hk8
        have hC8 := hC6'.grown hg8 (fun m hm => by cases hm; omega)
        have b8 := below_of_grown b6' hg8 (by omega : w.heap.size ≤ P)
        have hP8 : (W7.setRow P #[.slice A5 3 c5]).heap[P]? = some (.cells #[.slice A5 3 c5] 24 (0, 0)) := setRow_heap _ _ _ _ _ _ HP6'.out
        have hR8 := (setRow_other W7 P R #[.slice A5 3 c5] (by omega)).trans HR6'.out
        have hX8 := (setRow_other W7 P w5.heap.size #[.slice A5 3 c5] (by omega)).trans HX6'.out
        have hY8 := (setRow_other W7 P (w5.heap.size + 1) #[.slice A5 3 c5] (by omega)).trans HY6'.out
        clear hDa' hDb' hC6' b6' hg8 hk8 HP6' HR6' HX6' HY6'
        generalize W7.setRow P #[.slice A5 3 c5] = W8 at *
        have HR8 := Lib.hid hR8
        have HX8 := Lib.hid hX8
        have HY8 := Lib.hid hY8
        have HP8 := Lib.hid hP8
        clear hR8 hX8 hY8 hP8
        refine lexL_go ⟨HX8.out, HY8.out⟩ ?_
        simp only [Act.put]
        repeat (first | (refine lexL_q0 rfl ?_; go_big_quiet_step (fail); refine wpQuiet_nil ?_) | (refine lexL_skip0 rfl rfl ?_; simp only [Act.put, List.setIfInBounds_toArray, List.set_cons_succ, List.set_cons_zero]))
        refine lexL_e rfl ?_
        refine wpList_store_row rfl 24 _ _ rfl R 24 _ _ rfl rfl HR8.out (by kernel_rfl) rfl (by simp [Value.oneCell']) ?_
        have hg9 : W8.grownBy (W8.setRow R #[.slice A6 3 c6]) (some R) := grown_setRow _ _ _
        have hk9 : Keep (fun b => b ≠ g ∧ b ≠ P ∧ b ≠ R) W8 (W8.setRow R #[.slice A6 3 c6]) := fun b hb hs => hg9.block b hb (by simpa using hs.2.2)
        have hDa9 := hDa8.keep hk9
        have hDb9 := hDb8.keep hk9
        have hC9 := hC8.grown hg9 (fun m hm => by cases hm; omega)
        have b9 := below_of_grown b8 hg9 (by omega : w.heap.size ≤ R)
        have hR9 : (W8.setRow R #[.slice A6 3 c6]).heap[R]? = some (.cells #[.slice A6 3 c6] 24 (0, 0)) := setRow_heap _ _ _ _ _ _ HR8.out
        have hP9 := (setRow_other W8 R P #[.slice A6 3 c6] (by omega)).trans HP8.out
        have hX9 := (setRow_other W8 R w5.heap.size #[.slice A6 3 c6] (by omega)).trans HX8.out
        have hY9 := (setRow_other W8 R (w5.heap.size + 1) #[.slice A6 3 c6] (by omega)).trans HY8.out
        have HE := Lib.hid (And.intro hDa9 (And.intro hDb9 (And.intro hC9 (And.intro b9 (And.intro hP9 hR9)))))
        have HXY := Lib.hid (And.intro hX9 hY9)
        clear hDa8 hDb8 hC8 b8 hg9 hk9 hDa9 hDb9 hC9 b9 hR9 hP9 hX9 hY9
        generalize W8.setRow R #[.slice A6 3 c6] = W9 at *
        refine lexL_go HXY.out ?_
        simp only [Act.put]
        refine lexL_nil ?_
        go_wp2_with fail
        go_wp2
        go_roundw
        case rel => exact ⟨k + 1, A5, c5, A6, c6, fs', by congr 1, by omega, HE.out.1, HE.out.2.1, HE.out.2.2.1, HE.out.2.2.2.1, HE.out.2.2.2.2.1, HE.out.2.2.2.2.2, fun f hf => by have := hfl5 f hf; omega⟩
        case measure => simp [intOf]; omega
      · obtain rfl : k = 20 := by omega
        go_wp2
        go_ret
        exact ⟨rfl, hbr⟩
end Go.Proofs.Ytmbbngdhdhgliaa.diskPlays
