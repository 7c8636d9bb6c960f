/-
  The reference's changes: Drop, Duplicate, Take.
-/
import Derived.Test.YtfnafdncbbjolaaChangeC
import Derived.Test.YtfnafdncbbjolaaLexR
import Derived.Test.YtfnafdncbbjolaaLexTwo
namespace Go.Proofs.Ytfnafdncbbjolaa
open Go.RowKit
set_option maxRecDepth 100000
set_option linter.unusedVariables false

set_option maxHeartbeats 1000000 in
theorem refdrop_no (A : Option Addr) (n c : Nat) (w : World) (k : Int) (hk : k < 0 ∨ (n : Int) ≤ k) (hn : n ≤ 1000) :
    Calls Try.prog 21 #[.slice A n c, .int .i64 k] w fun e w' => e = .returned (.tuple #[.slice none 0 0, .int .i64 11]) ∧ w = w' := by
  have hh := has_any A n c k w hn
  rw [decide_eq_false (by omega)] at hh
  have Hh := Lib.hid hh
  clear hh
  go_enter Try.func21, Try.ntmps21
  go_wp2_with fail
  refine (Hh.out).mono ?_
  rintro e w1 ⟨rfl, rfl⟩
  go_wp2
  go_ret2
  exact ⟨rfl, rfl⟩

set_option maxHeartbeats 2000000 in
theorem refdrop_ok (A : Option Addr) (n c : Nat) (ms : List Msg) (S : Nat → Prop) (w : World) (hv : Recs encM S w (.slice A n c) ms) (hlen : n ≤ 1000) (k : Nat) (m : Msg) (hk : ms[k]? = some m) :
    Calls Try.prog 21 #[.slice A n c, .int .i64 (k : Int)] w fun e w' => ∃ A' c', e = .returned (.tuple #[.slice A' (n - 1) c', .int .i64 0]) ∧ OwnR encM 9 w' w.heap.size 32 (.slice A' (n - 1) c') (ms.take k ++ ms.drop (k + 1)) ∧ Below w.heap.size w w' := by
  obtain ⟨hl1, hl2, hl3⟩ := hv.len
  have hlt : k < n := by have := (List.getElem?_eq_some_iff.1 hk).1; omega
  have hh := has_any A n c k w hlen
  rw [decide_eq_true ⟨by omega, by omega⟩] at hh
  have Hh := Lib.hid hh
  have e1 : ms.take k = (ms.drop 0).take (k - 0) := by simp
  have e2 : ms.drop (k + 1) = (ms.drop (k + 1)).take (n - (k + 1)) := by rw [List.take_of_length_le (by rw [List.length_drop]; omega)]
  have tl : (ms.take k).length = k := by rw [List.length_take]; omega
  have E1 := Lib.hid e1
  have E2 := Lib.hid e2
  have TL := Lib.hid tl
  clear hh hk hl1 e1 e2 tl
  go_enter Try.func21, Try.ntmps21
  go_wp2_with fail
  refine (Hh.out).mono ?_
  rintro e w1 ⟨rfl, rfl⟩
  go_wp2_with fail
  refine wp_region_lexL (Below w.heap.size w) (by kernel_rfl) (by kernel_rfl) ((Below.refl _ _).drew) ?_
  repeat (first | (refine lexL_q1 rfl ?_; go_big_quiet_step (fail); refine wpQuiet_nil ?_) | (refine lexL_skip0 rfl rfl ?_; simp only [Act.put, List.setIfInBounds_toArray, List.set_cons_succ, List.set_cons_zero]))
  refine lexL_slR encM_len 0 k c k c (ms.take k) rfl rfl rfl Try.underlying26 (by kernel_rfl) (.inl ⟨rfl, rfl⟩) (.inr ⟨_, _, _, rfl, rfl, rfl⟩) (.inl ⟨rfl, rfl⟩) hv (by omega) (by omega) (by omega) (by omega) (by omega) (by omega) E1.out ?_
  intro B1 g1 _
  simp only [Act.put, List.setIfInBounds_toArray, List.set_cons_succ, List.set_cons_zero]
  repeat (first | (refine lexL_q1 rfl ?_; go_big_quiet_step (fail); refine wpQuiet_nil ?_) | (refine lexL_skip0 rfl rfl ?_; simp only [Act.put, List.setIfInBounds_toArray, List.set_cons_succ, List.set_cons_zero]))
  refine lexL_e rfl ?_
  refine wpList_appR encM_len encM_one zeroM 104 _ _ 26 32 w.heap.size [] (ms.take k) B1 k c (.slice none 0 0) k rfl rfl Try.underlying26 infoM rfl (by omega) rfl rfl (OwnR.nil_ _ _ _) g1.drew (by simp) (by simp; omega) (by simp; omega) (Nat.le_refl _) ?_
  intro A2 c2 w2 hown2 hgr2 hat2 hc21 hc22
  have hb2 : Below w.heap.size w w2 := (OwnR.nil_ (enc := encM) (k := 9) w.drew w.heap.size 32).grow hgr2 (Below.refl _ _).drew (Nat.le_refl _) (Nat.le_refl _)
  refine lexL_go hb2 ?_
  simp only [Act.put, List.setIfInBounds_toArray, List.set_cons_succ, List.set_cons_zero]
  repeat (first | (refine lexL_q1 rfl ?_; go_big_quiet_step (fail); refine wpQuiet_nil ?_) | (refine lexL_skip0 rfl rfl ?_; simp only [Act.put, List.setIfInBounds_toArray, List.set_cons_succ, List.set_cons_zero]))
  refine lexL_slR encM_len (k + 1) n c (n - (k + 1)) (c - (k + 1)) (ms.drop (k + 1)) rfl rfl rfl Try.underlying26 (by kernel_rfl) (.inr ⟨_, _, _, rfl, rfl, by omega⟩) (.inl ⟨rfl, rfl, rfl⟩) (.inl ⟨rfl, rfl⟩) hv (by omega) (by omega) (by omega) (by omega) (by omega) (by omega) E2.out ?_
  intro B2 g2 _
  simp only [Act.put, List.setIfInBounds_toArray, List.set_cons_succ, List.set_cons_zero]
  repeat (first | (refine lexL_q1 rfl ?_; go_big_quiet_step (fail); refine wpQuiet_nil ?_) | (refine lexL_skip0 rfl rfl ?_; simp only [Act.put, List.setIfInBounds_toArray, List.set_cons_succ, List.set_cons_zero]))
  refine lexL_e rfl ?_
  rw [List.nil_append] at hown2
  refine wpList_appR encM_len encM_one zeroM 104 _ _ 26 32 w.heap.size (ms.take k) (ms.drop (k + 1)) B2 (n - (k + 1)) (c - (k + 1)) (.slice A2 k c2) (n - 1) rfl rfl Try.underlying26 infoM rfl (by omega) rfl rfl hown2 (g2.ext hb2) (by rw [TL.out]; omega) (by rw [TL.out]; omega) (by rw [TL.out]; omega) hb2.size ?_
  intro A3 c3 w3 hown3 hgr3 hat3 hc31 hc32
  have hb3 : Below w.heap.size w w3 := hown2.grow hgr3 hb2 (Nat.le_refl _) hb2.size
  refine lexL_go hb3 ?_
  simp only [Act.put, List.setIfInBounds_toArray, List.set_cons_succ, List.set_cons_zero]
  repeat (first | (refine lexL_q1 rfl ?_; go_big_quiet_step (fail); refine wpQuiet_nil ?_) | (refine lexL_skip0 rfl rfl ?_; simp only [Act.put, List.setIfInBounds_toArray, List.set_cons_succ, List.set_cons_zero]))
  refine lexL_nil ?_
  go_wp2_with fail
  go_wp2
  go_ret2
  exact ⟨A3, c3, rfl, hown3, hb3⟩

theorem lit_one (m : Msg) (w : World) : Recs encM (fun _ => True) (w.alloc (.cells #[.int .i64 m.f, .int .i64 m.t, .int .i64 m.i, .int .i64 m.x, .int .i64 m.o, .int .i64 m.v, .int .i64 0, .slice none 0 0, .slice none 0 0] 32)) (.slice (some ⟨w.heap.size, 0, none⟩) 1 1) [m] := ⟨_, 1, rfl, by simp, by simp [maxLen], by
  rw [List.flatMap_singleton]
  exact Cs.lit _ _ _ _ _ trivial rfl⟩

set_option maxHeartbeats 1000000 in
theorem refdup_no (A : Option Addr) (n c : Nat) (w : World) (k : Int) (hk : k < 0 ∨ (n : Int) ≤ k) (hn : n ≤ 1000) :
    Calls Try.prog 22 #[.slice A n c, .int .i64 k] w fun e w' => e = .returned (.tuple #[.slice none 0 0, .int .i64 11]) ∧ w = w' := by
  have hh := has_any A n c k w hn
  rw [decide_eq_false (by omega)] at hh
  have Hh := Lib.hid hh
  clear hh
  go_enter Try.func22, Try.ntmps22
  go_wp2_with fail
  refine (Hh.out).mono ?_
  rintro e w1 ⟨rfl, rfl⟩
  go_wp2
  go_ret2
  exact ⟨rfl, rfl⟩

set_option maxHeartbeats 2000000 in
theorem refdup_ok (A : Option Addr) (n c : Nat) (ms : List Msg) (S : Nat → Prop) (w : World) (hv : Recs encM S w (.slice A n c) ms) (hlen : n ≤ 255) (k : Nat) (m : Msg) (hk : ms[k]? = some m) :
    Calls Try.prog 22 #[.slice A n c, .int .i64 (k : Int)] w fun e w' => ∃ A' c', e = .returned (.tuple #[.slice A' (n + 1) c', .int .i64 0]) ∧ OwnR encM 9 w' w.heap.size 32 (.slice A' (n + 1) c') (ms ++ [m]) ∧ Below w.heap.size w w' := by
  obtain ⟨hl1, hl2, hl3⟩ := hv.len
  have hlt : k < n := by have := (List.getElem?_eq_some_iff.1 hk).1; omega
  have hh := has_any A n c k w (by omega)
  rw [decide_eq_true ⟨by omega, by omega⟩] at hh
  have Hh := Lib.hid hh
  have d1 : decide (256 ≤ n) = false := by simp; omega
  obtain ⟨b, off, rfl, hb, hld⟩ := run_ldM hv hk
  have Hld := Lib.hid hld
  have HL := Lib.hid hl1
  clear hh hk hl1 hld
  go_enter Try.func22, Try.ntmps22
  go_wp2_with fail
  refine (Hh.out).mono ?_
  rintro e w1 ⟨rfl, rfl⟩
  go_wp2_with fail
  refine wp_region_two (Below w.heap.size w) [0, 2, 3, 4, 5, 1, 6, 7, 8, 9] [0, 2, 3, 4, 5, 6, 1, 7, 8, 9] 1 6 (by kernel_rfl) (by kernel_rfl) (by kernel_rfl) (by kernel_rfl) (by decide) (by decide) (by decide) (by decide) ((Below.refl _ _).drew) ?_ ?_
  all_goals simp only [opsOf, List.filterMap_cons, List.filterMap_nil, List.getElem?_cons_zero, List.getElem?_cons_succ]
  · repeat (first | (refine lexL_q1 rfl ?_; go_big_quiet_step (fail); refine wpQuiet_nil ?_) | (refine lexL_skip0 rfl rfl ?_; simp only [Act.put, List.setIfInBounds_toArray, List.set_cons_succ, List.set_cons_zero]))
    refine lexL_ld (⟨b, off + k * 9, none⟩) (aggM m) rfl rfl rfl (Hld.out) ?_
    simp only [Act.put, List.setIfInBounds_toArray, List.set_cons_succ, List.set_cons_zero]
    repeat (first | (refine lexL_q1 rfl ?_; go_big_quiet_step (fail); refine wpQuiet_nil ?_) | (refine lexL_skip0 rfl rfl ?_; simp only [Act.put, List.setIfInBounds_toArray, List.set_cons_succ, List.set_cons_zero]))
    unfold aggM
    refine lexL_e rfl ?_
    refine wpList_appR encM_len encM_one zeroM 104 _ _ 26 32 w.heap.size [] ms (some ⟨b, off, none⟩) n c (.slice none 0 0) n rfl rfl Try.underlying26 infoM rfl (by omega) rfl rfl (OwnR.nil_ _ _ _) hv.drew (by simp) (by simp; omega) (by simp; omega) (Nat.le_refl _) ?_
    intro A2 c2 w2 hown2 hgr2 hat2 hc21 hc22
    have hb2 : Below w.heap.size w w2 := (OwnR.nil_ (enc := encM) (k := 9) w.drew w.heap.size 32).grow hgr2 (Below.refl _ _).drew (Nat.le_refl _) (Nat.le_refl _)
    refine lexL_go hb2 ?_
    simp only [Act.put, List.setIfInBounds_toArray, List.set_cons_succ, List.set_cons_zero]
    repeat (first | (refine lexL_q1 rfl ?_; go_big_quiet_step (fail); refine wpQuiet_nil ?_) | (refine lexL_skip0 rfl rfl ?_; simp only [Act.put, List.setIfInBounds_toArray, List.set_cons_succ, List.set_cons_zero]))
    have ha : Below w2.heap.size w2 (w2.alloc (.cells #[.int .i64 m.f, .int .i64 m.t, .int .i64 m.i, .int .i64 m.x, .int .i64 m.o, .int .i64 m.v, .int .i64 0, .slice none 0 0, .slice none 0 0] 32)) := (Below.refl _ _).alloc (Nat.le_refl _) _
    refine lexL_e rfl ?_
    go_wp2_with fail
    refine lexL_go (Below.ext hb2 ha) ?_
    repeat (first | (refine lexL_q1 rfl ?_; go_big_quiet_step (fail); refine wpQuiet_nil ?_) | (refine lexL_skip0 rfl rfl ?_; simp only [Act.put, List.setIfInBounds_toArray, List.set_cons_succ, List.set_cons_zero]))
    rw [List.nil_append] at hown2
    refine lexL_e rfl ?_
    refine wpList_appR encM_len encM_one zeroM 104 _ _ 26 32 w.heap.size ms [m] (some ⟨w2.heap.size, 0, none⟩) 1 1 (.slice A2 n c2) (n + 1) rfl rfl Try.underlying26 infoM rfl (by omega) rfl rfl (hown2.ext ha) (lit_one m _) (by rw [HL.out]) (by rw [HL.out]; omega) (by rw [HL.out]; omega) (by simp; exact Nat.le_succ_of_le hb2.size) ?_
    intro A3 c3 w3 hown3 hgr3 hat3 hc31 hc32
    have hb3 : Below w.heap.size w w3 := (hown2.ext ha).grow hgr3 (Below.ext hb2 ha) (Nat.le_refl _) (by simp; exact Nat.le_succ_of_le hb2.size)
    refine lexL_go hb3 ?_
    simp only [Act.put, List.setIfInBounds_toArray, List.set_cons_succ, List.set_cons_zero]
    repeat (first | (refine lexL_q1 rfl ?_; go_big_quiet_step (fail); refine wpQuiet_nil ?_) | (refine lexL_skip0 rfl rfl ?_; simp only [Act.put, List.setIfInBounds_toArray, List.set_cons_succ, List.set_cons_zero]))
    refine lexL_nil ?_
    go_wp2_with fail
    go_wp2
    go_ret2
    exact ⟨A3, c3, rfl, hown3, hb3⟩
  · repeat (first | (refine lexL_q1 rfl ?_; go_big_quiet_step (fail); refine wpQuiet_nil ?_) | (refine lexL_skip0 rfl rfl ?_; simp only [Act.put, List.setIfInBounds_toArray, List.set_cons_succ, List.set_cons_zero]))
    refine lexL_ld (⟨b, off + k * 9, none⟩) (aggM m) rfl rfl rfl (Hld.out) ?_
    simp only [Act.put, List.setIfInBounds_toArray, List.set_cons_succ, List.set_cons_zero]
    repeat (first | (refine lexL_q1 rfl ?_; go_big_quiet_step (fail); refine wpQuiet_nil ?_) | (refine lexL_skip0 rfl rfl ?_; simp only [Act.put, List.setIfInBounds_toArray, List.set_cons_succ, List.set_cons_zero]))
    unfold aggM
    have ha : Below w.heap.size w (w.alloc (.cells #[.int .i64 m.f, .int .i64 m.t, .int .i64 m.i, .int .i64 m.x, .int .i64 m.o, .int .i64 m.v, .int .i64 0, .slice none 0 0, .slice none 0 0] 32)).drew := ((Below.refl _ _).alloc (Nat.le_refl _) _).drew
    refine lexL_e rfl ?_
    go_wp2_with fail
    refine lexL_go ha ?_
    repeat (first | (refine lexL_q1 rfl ?_; go_big_quiet_step (fail); refine wpQuiet_nil ?_) | (refine lexL_skip0 rfl rfl ?_; simp only [Act.put, List.setIfInBounds_toArray, List.set_cons_succ, List.set_cons_zero]))
    have hone := (lit_one m w).drew
    obtain ⟨W, hW⟩ : ∃ W, W = (w.alloc (.cells #[.int .i64 m.f, .int .i64 m.t, .int .i64 m.i, .int .i64 m.x, .int .i64 m.o, .int .i64 m.v, .int .i64 0, .slice none 0 0, .slice none 0 0] 32)).drew := ⟨_, rfl⟩
    have hszW : W.heap.size = w.heap.size + 1 := by rw [hW]; simp
    rw [← hW] at ha hone
    rw [← hW]
    clear hW
    refine lexL_e rfl ?_
    refine wpList_appR encM_len encM_one zeroM 104 _ _ 26 32 w.heap.size [] ms (some ⟨b, off, none⟩) n c (.slice none 0 0) n rfl rfl Try.underlying26 infoM rfl (by omega) rfl rfl (OwnR.nil_ _ _ _) (hv.ext ha) (by simp) (by simp; omega) (by simp; omega) ha.size ?_
    intro A2 c2 w2 hown2 hgr2 hat2 hc21 hc22
    have hb2' : Below W.heap.size W w2 := ⟨hgr2.os, hgr2.tape, hgr2.output, hgr2.size, fun k hk => hgr2.block k hk (by simp [Value.ownBlock])⟩
    have hb2 : Below w.heap.size w w2 := Below.ext ha hb2'
    refine lexL_go hb2 ?_
    simp only [Act.put, List.setIfInBounds_toArray, List.set_cons_succ, List.set_cons_zero]
    repeat (first | (refine lexL_q1 rfl ?_; go_big_quiet_step (fail); refine wpQuiet_nil ?_) | (refine lexL_skip0 rfl rfl ?_; simp only [Act.put, List.setIfInBounds_toArray, List.set_cons_succ, List.set_cons_zero]))
    rw [List.nil_append] at hown2
    refine lexL_e rfl ?_
    refine wpList_appR encM_len encM_one zeroM 104 _ _ 26 32 w.heap.size ms [m] (some ⟨w.heap.size, 0, none⟩) 1 1 (.slice A2 n c2) (n + 1) rfl rfl Try.underlying26 infoM rfl (by omega) rfl rfl hown2 (hone.ext hb2') (by rw [HL.out]) (by rw [HL.out]; omega) (by rw [HL.out]; omega) hb2.size ?_
    intro A3 c3 w3 hown3 hgr3 hat3 hc31 hc32
    have hb3 : Below w.heap.size w w3 := hown2.grow hgr3 hb2 (Nat.le_refl _) hb2.size
    refine lexL_go hb3 ?_
    simp only [Act.put, List.setIfInBounds_toArray, List.set_cons_succ, List.set_cons_zero]
    repeat (first | (refine lexL_q1 rfl ?_; go_big_quiet_step (fail); refine wpQuiet_nil ?_) | (refine lexL_skip0 rfl rfl ?_; simp only [Act.put, List.setIfInBounds_toArray, List.set_cons_succ, List.set_cons_zero]))
    refine lexL_nil ?_
    go_wp2_with fail
    go_wp2
    go_ret2
    exact ⟨A3, c3, rfl, hown3, hb3⟩

set_option maxHeartbeats 1000000 in
theorem reftake_no (A : Option Addr) (n c : Nat) (w : World) (k : Int) (hk : k < 0 ∨ (n : Int) ≤ k) (hn : n ≤ 1000) :
    Calls Try.prog 24 #[.slice A n c, .int .i64 k] w fun e w' => e = .returned (.tuple #[aggM zM, .slice none 0 0, .int .i64 11]) ∧ Below w.heap.size w w' := by
  go_enter Try.func24, Try.ntmps24
  go_wp2_with fail
  refine (refdrop_no A n c _ k hk hn).mono ?_
  rintro e w1 ⟨rfl, rfl⟩
  go_wp2
  refine bodyPost_ret (v := .tuple #[aggM zM, .slice none 0 0, .int .i64 11]) (by simp [results, Try.results24, go_sem, aggM, zM]) rfl ⟨rfl, ?_⟩
  exact (Below.refl _ w).alloc (Nat.le_refl _) _

set_option maxHeartbeats 2000000 in
theorem reftake_ok (A : Option Addr) (n c : Nat) (ms : List Msg) (S : Nat → Prop) (w : World) (hv : Recs encM S w (.slice A n c) ms) (hlen : n ≤ 1000) (k : Nat) (m : Msg) (hk : ms[k]? = some m) :
    Calls Try.prog 24 #[.slice A n c, .int .i64 (k : Int)] w fun e w' => ∃ A' c', e = .returned (.tuple #[aggM m, .slice A' (n - 1) c', .int .i64 0]) ∧ OwnR encM 9 w' w.heap.size 32 (.slice A' (n - 1) c') (ms.take k ++ ms.drop (k + 1)) ∧ Below w.heap.size w w' := by
  have hlt : k < n := by have := (List.getElem?_eq_some_iff.1 hk).1; have := hv.len; omega
  have Hk := Lib.hid hk
  clear hk
  go_enter Try.func24, Try.ntmps24
  go_wp2_with fail
  have hz0 : (w.alloc (.cells #[.int .i64 0, .int .i64 0, .int .i64 0, .int .i64 0, .int .i64 0, .int .i64 0, .int .i64 0, .slice none 0 0, .slice none 0 0] 32)).heap[w.heap.size]? = some (.cells #[.int .i64 0, .int .i64 0, .int .i64 0, .int .i64 0, .int .i64 0, .int .i64 0, .int .i64 0, .slice none 0 0, .slice none 0 0] 32 (0, 0)) := heap_alloc_new w _
  have hW0 : Below w.heap.size w (w.alloc (.cells #[.int .i64 0, .int .i64 0, .int .i64 0, .int .i64 0, .int .i64 0, .int .i64 0, .int .i64 0, .slice none 0 0, .slice none 0 0] 32)) := (Below.refl _ w).alloc (Nat.le_refl _) _
  generalize w.alloc (.cells #[.int .i64 0, .int .i64 0, .int .i64 0, .int .i64 0, .int .i64 0, .int .i64 0, .int .i64 0, .slice none 0 0, .slice none 0 0] 32) = W at *
  have hWlt : w.heap.size < W.heap.size := (Array.getElem?_eq_some_iff.1 hz0).1
  refine (refdrop_ok A n c ms S W (hv.ext hW0) hlen k m Hk.out).mono ?_
  rintro e w1 ⟨A', c', rfl, hown, hb1⟩
  have hz1 := (hb1.block _ hWlt).trans hz0
  clear hz0
  obtain ⟨b, off, m', rfl, hblt, hmk, q0, q1, q2, q3, q4, q5, q6, q7, q8⟩ := msg_cells ((hv.ext hW0).ext hb1) (k := k) (by have := (hv.ext hW0).len; omega)
  obtain rfl : m' = m := by have := Hk.out; rw [this] at hmk; cases hmk; rfl
  clear hmk
  have hlz := run_ld_block (P := Try.prog) (t := 32) (setRow_heap _ _ _ #[.int .i64 m'.f, .int .i64 m'.t, .int .i64 m'.i, .int .i64 m'.x, .int .i64 m'.o, .int .i64 m'.v, .int .i64 0, .slice none 0 0, .slice none 0 0] _ _ hz1) Try.underlying32 rfl (by kernel_rfl)
  have Hlz := Lib.hid hlz
  have Hz1 := Lib.hid hz1
  clear hlz hz1
  go_wp2_with (refine wpList_store_row rfl 32 _ _ rfl w.heap.size 32 _ _ rfl rfl Hz1.out (by kernel_rfl) rfl (by simp [Value.oneCell']) ?_)
  refine bodyPost_ret (results_ctt rfl rfl Hlz.out) rfl ?_
  refine ⟨A', c', rfl, ?_, Below.setRow (Below.ext hW0 hb1) (Nat.le_refl _) _⟩
  refine (hown.weak (base' := w.heap.size) (by omega)).kept (row := some w.heap.size) ⟨rfl, rfl, rfl, by simp, fun j hj hne => setRow_other _ _ _ _ (by simpa using hne)⟩ (.inr (fun e => ?_))
  have := (World.ownsRow.lt hown _ e).1
  omega

/-- a load in a plain region, its run known -/
theorem wpList_ldv {P : Program} {ops : Array Oper} {Q : Exit → Act → World → Prop} {o : Oper} {a : Act} {w : World} {rest : List Oper} {t : TypeId} {x : Operand} {A : Addr} {v : Value} (hw : Region.wanted o (yielded ops a.tmps) = true) (ho : o.op = .load t x) (hx : a.eval x = .pointer (some A))
    (hl : (loadVar t A).run P w = .ok v w) (h : wpList P ops Q rest (a.put o.dst v) w) : wpList P ops Q (o :: rest) a w := by
  simp only [wpList, hw, if_true]
  refine .inl ?_
  unfold Oper.wp execOp
  simp only [ho, hx, Instr.loadAt, Instr.sureAddr, Sem.run_bind, Sem.run_pure, Result.andThen_ok, hl, Oper.upon]
  exact h
theorem box_msg (m : Msg) (w : World) : ∀ w', Below (w.alloc (.cells #[.int .i64 m.f, .int .i64 m.t, .int .i64 m.i, .int .i64 m.x, .int .i64 m.o, .int .i64 m.v, .int .i64 0, .slice none 0 0, .slice none 0 0] 32)).heap.size (w.alloc (.cells #[.int .i64 m.f, .int .i64 m.t, .int .i64 m.i, .int .i64 m.x, .int .i64 m.o, .int .i64 m.v, .int .i64 0, .slice none 0 0, .slice none 0 0] 32)) w' → (loadVar 32 ⟨w.heap.size, 0, none⟩).run Try.prog w' = .ok (aggM m) w' := fun w' hw' =>
  run_ld_block ((hw'.block _ (by simp)).trans (heap_alloc_new w _)) Try.underlying32 rfl (by kernel_rfl)

/-- append of records, under a guard that holds -/
theorem wpList_appRw {α : Type} {enc : α → List Value} {k : Nat} {P : Program} {w : World} {D : Nat → Prop} {ops : Array Oper} {rest : List Oper} {o : Oper} {a : Act} {Q : Exit → Act → World → Prop} (hk : ∀ x, (enc x).length = k) (h1 : ∀ x, ∀ u ∈ enc x, u.oneCell' = true) (z : Value) (bytes : Nat) (s x : Operand) (t e : TypeId) (base : Nat) (l r : List α) (A : Option Addr) (m c : Nat) (v : Value) (N : Nat)
    (hgd : Region.wanted o (yielded ops a.tmps) = true) (ho : o.op = .call { callee := .builtin .append, args := #[s, x], argTypes := #[t, t] }) (ht : P.underlying t = some (.slice e)) (hinfo : (P.info? e).map (fun i => (i.zero, i.size, i.bytes)) = some (some z, k, bytes)) (hzs : z.cells.size = k) (hk0 : 0 < k)
    (hs : a.eval s = v) (hx : a.eval x = .slice A m c) (hown : OwnR enc k w base e v l) (hr : Recs enc D w (.slice A m c) r) (hN : N = l.length + m) (hbytes : (l.length + m) * bytes ≤ 140737488355328) (h63 : l.length + m ≤ 9223372036854775807) (hbase : base ≤ w.heap.size)
    (K : ∀ A' c' w', OwnR enc k w' base e (.slice A' N c') (l ++ r) → w.grownBy w' v.ownBlock → ((Value.slice A' N c').ownBlock = v.ownBlock ∨ (Value.slice A' N c').ownBlock = some w.heap.size) → N ≤ c' → c' ≤ 9223372036854775807 → wpList P ops Q rest (a.put o.dst (.slice A' N c')) w') :
    wpList P ops Q (o :: rest) a w := by
  obtain ⟨A2, c2, e2, g1, g2, g3⟩ := hr
  cases e2
  subst hN
  obtain ⟨A', c', w', a1, a2, a3, a4, a5, a6⟩ := run_app (P := P) base t o.type e z k bytes ht hinfo hzs hk0 v l.length (l.flatMap enc) hown A r.length c (r.flatMap enc) (flat_length hk r) g3 (fun u hu => by
    obtain ⟨y, _, hy⟩ := List.mem_flatMap.1 hu
    exact h1 y u hy) hbytes (by unfold maxLen; exact h63) hbase
  simp only [wpList, hgd, if_true]
  refine .inl ?_
  unfold Oper.wp execOp
  simp only [ho, resolve, invoke, builtin, Sem.run_bind, Sem.run_pure, Result.andThen_ok, List.map_toArray, List.map_cons, List.map_nil, hs, hx, a1]
  refine K A' c' w' ?_ a3 a4 a5 (by unfold maxLen at a6; exact a6)
  unfold OwnR
  rw [List.length_append, List.flatMap_append]
  exact a2
end Go.Proofs.Ytfnafdncbbjolaa
