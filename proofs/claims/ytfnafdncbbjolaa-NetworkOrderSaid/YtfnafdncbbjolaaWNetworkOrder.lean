/-
  The walk of the law NetworkOrder: it returns true and writes nothing that was there. Conditions: what the row says of its arguments.
-/
import Derived.Test.YtfnafdncbbjolaaChangeC
import Derived.Test.YtfnafdncbbjolaaLexR
import Derived.WalkKit
import Derived.ProofKit
import Derived.OpenShut
import Derived.ShutString
import Derived.Below
namespace Go.Proofs.Ytfnafdncbbjolaa.networkOrder
open Go.ChangeShapes Go.WideShapes Go.ChangeAt Go.RowKit
open Go.ChangeMaps (open_string shut_string)
set_option linter.unusedVariables false
set_option maxRecDepth 100000

set_option maxHeartbeats 4000000 in
theorem walk (a0 : Option Addr) (len0 cap0 : Nat) (z0 : List Int) (a1 : Int) (w : World) (w0 : IsRow .u8 w a0 len0 cap0 z0) (w1 : (Lit.int .i64 a1).wf = true) :
    Calls Try.prog 7 #[.slice a0 len0 cap0, .int .i64 a1] w fun e w' => e = .returned (.bool true) ∧ Below w.heap.size w w' := by
  obtain ⟨lc, hlc, hcapc, hmaxc, hbc⟩ := IsRow.bytes w0
  have hpl := wf_i64 w1
  clear w0 w1
  go_enter Try.func7, Try.ntmps7
  go_wp2_with fail
  refine (awake_any _).mono ?_
  rintro e w1 ⟨rfl, hb1⟩
  go_wp2_with fail
  refine (messages_any _ lc _ _ 20 (by omega) (hbc.ext hb1)).mono ?_
  rintro e w2 ⟨v2, ms, rfl, hms, hrng, hR2, hb2⟩
  have hR := hR2
  obtain ⟨A, c, rfl, hc1, hc2, _⟩ := hR2
  unfold maxLen at hc2
  have hb12 := Below.ext hb1 hb2
  clear hrng hb1 hb2
  by_cases h0 : ms.length = 0
  · have d0 : ((ms.length : Int) == 0) = true := by simpa using h0
    clear h0
    go_wp2
    go_ret
    exact ⟨rfl, hb12⟩
  · have d0 : ((ms.length : Int) == 0) = false := by simpa using h0
    have hpos : 1 ≤ ms.length := by omega
    clear h0
    go_wp2_with fail
    refine (mod_any _ _ _ (by omega) (by omega) hpl.1 hpl.2).mono ?_
    rintro e w3 ⟨rfl, rfl⟩
    have hk1 := Int.emod_nonneg a1 (b := (ms.length : Int)) (by omega)
    have hk2 := Int.emod_lt_of_pos a1 (b := (ms.length : Int)) (by omega)
    obtain ⟨k, hk⟩ := Int.eq_ofNat_of_zero_le hk1
    rw [hk] at hk2 ⊢
    clear hk hk1
    have hkl : k < ms.length := by omega
    obtain ⟨m, hm⟩ : ∃ m, ms[k]? = some m := ⟨_, List.getElem?_eq_getElem hkl⟩
    have Hm := Lib.hid hm
    clear hm hk2
    go_wp2_with fail
    refine (take_ok A ms.length c ms _ w2 hR (by omega) k m Hm.out).mono ?_
    rintro e w3 ⟨A3, c3, rfl, hown3, hb3⟩
    unfold aggM
    have hl3 := hown3.len
    have Hl3 := Lib.hid hl3.1
    have hl32 := hl3.2.1
    have hl33 := hl3.2.2
    clear hl3
    have d1 : (((ms.length - 1 : Nat) : Int) != (ms.length : Int) - 1) = false := by simp; omega
    obtain ⟨W, hW⟩ : ∃ W, W = (w3.alloc (.cells #[.int .i64 m.f, .int .i64 m.t, .int .i64 m.i, .int .i64 m.x, .int .i64 m.o, .int .i64 m.v, .int .i64 0, .slice none 0 0, .slice none 0 0] 32)) := ⟨_, rfl⟩
    have hbW : Below w3.heap.size w3 W := by rw [hW]; exact (Below.refl _ _).alloc (Nat.le_refl _) _
    have hrowW : W.heap[w3.heap.size]? = some (.cells #[.int .i64 m.f, .int .i64 m.t, .int .i64 m.i, .int .i64 m.x, .int .i64 m.o, .int .i64 m.v, .int .i64 0, .slice none 0 0, .slice none 0 0] 32 (0, 0)) := by rw [hW]; exact heap_alloc_new _ _
    have hltW : w3.heap.size < W.heap.size := (Array.getElem?_eq_some_iff.1 hrowW).1
    have hldx : ∀ w', Below W.heap.size W w' → (loadVar 32 ⟨w3.heap.size, 0, none⟩).run Try.prog w' = .ok (aggM m) w' := fun w' hw' =>
      run_ld_block ((hw'.block _ hltW).trans hrowW) Try.underlying32 rfl (by kernel_rfl)
    have Hldx := Lib.hid hldx
    have hRW := (hR.ext hb3).ext hbW
    have hOW := hown3.ext hbW
    clear hldx hrowW
    go_wp2_with fail
    rw [← hW]
    clear hW
    have tl : (ms.take k).length = k := by rw [List.length_take]; omega
    have e1 : ms.take k = ((ms.take k ++ ms.drop (k + 1)).drop 0).take (k - 0) := by rw [List.drop_zero, Nat.sub_zero, List.take_left' tl]
    have e2 : ms.take k = (ms.drop 0).take (k - 0) := by simp
    have e3 : ms.drop (k + 1) = ((ms.take k ++ ms.drop (k + 1)).drop k).take (ms.length - 1 - k) := by rw [List.drop_left' tl, List.take_of_length_le (by rw [List.length_drop]; omega)]
    have e4 : ms.drop (k + 1) = (ms.drop (k + 1)).take (ms.length - (k + 1)) := by rw [List.take_of_length_le (by rw [List.length_drop]; omega)]
    have E1 := Lib.hid e1
    have E2 := Lib.hid e2
    have E3 := Lib.hid e3
    have E4 := Lib.hid e4
    obtain ⟨b, off, rfl, hblt, hldm⟩ := run_ldM hRW Hm.out
    have Hldm := Lib.hid hldm
    have hrec := hOW.recs
    clear tl hldm e1 e2 e3 e4
    refine wp_region_lexL (Below W.heap.size W) (by kernel_rfl) (by kernel_rfl) ((Below.refl _ _).drew) ?_
    repeat (first | (refine lexL_q1 rfl ?_; go_big_quiet_step (fail); refine wpQuiet_nil ?_) | (refine lexL_skip0 rfl rfl ?_; simp only [Act.put, List.setIfInBounds_toArray, List.set_cons_succ, List.set_cons_zero]))
    refine lexL_slR encM_len 0 k c3 k c3 (ms.take k) rfl rfl rfl Try.underlying26 (by kernel_rfl) (.inl ⟨rfl, rfl⟩) (.inr ⟨_, _, _, rfl, rfl, rfl⟩) (.inl ⟨rfl, rfl⟩) hrec (by omega) (by omega) (by omega) (by omega) (by omega) (by omega) E1.out ?_
    intro B1 g1 _
    simp only [Act.put, List.setIfInBounds_toArray, List.set_cons_succ, List.set_cons_zero]
    repeat (first | (refine lexL_q1 rfl ?_; go_big_quiet_step (fail); refine wpQuiet_nil ?_) | (refine lexL_skip0 rfl rfl ?_; simp only [Act.put, List.setIfInBounds_toArray, List.set_cons_succ, List.set_cons_zero]))
    refine lexL_slR encM_len 0 k c k c (ms.take k) rfl rfl rfl Try.underlying26 (by kernel_rfl) (.inl ⟨rfl, rfl⟩) (.inr ⟨_, _, _, rfl, rfl, rfl⟩) (.inl ⟨rfl, rfl⟩) hRW (by omega) (by omega) (by omega) (by omega) (by omega) (by omega) E2.out ?_
    intro B2 g2 _
    simp only [Act.put, List.setIfInBounds_toArray, List.set_cons_succ, List.set_cons_zero]
    repeat (first | (refine lexL_q1 rfl ?_; go_big_quiet_step (fail); refine wpQuiet_nil ?_) | (refine lexL_skip0 rfl rfl ?_; simp only [Act.put, List.setIfInBounds_toArray, List.set_cons_succ, List.set_cons_zero]))
    refine lexL_e rfl ?_
    go_wp2_with fail
    refine (same_eq _ _ (ms.take k) _ _ _ g1.drew g2.drew).mono ?_
    rintro e w4 ⟨rfl, hb4⟩
    have hb4' : Below W.heap.size W w4 := Below.ext (Below.refl _ W).drew hb4
    go_wp2_with fail
    refine lexL_go (hb4') ?_
    repeat (first | (refine lexL_q1 rfl ?_; go_big_quiet_step (fail); refine wpQuiet_nil ?_) | (refine lexL_skip0 rfl rfl ?_; simp only [Act.put, List.setIfInBounds_toArray, List.set_cons_succ, List.set_cons_zero]))
    refine lexL_slR encM_len k (ms.length - 1) c3 (ms.length - 1 - k) (c3 - k) (ms.drop (k + 1)) rfl rfl rfl Try.underlying26 (by kernel_rfl) (.inr ⟨_, _, _, rfl, rfl, rfl⟩) (.inl ⟨rfl, rfl, rfl⟩) (.inl ⟨rfl, rfl⟩) hrec (by omega) (by omega) (by omega) (by omega) (by omega) (by omega) E3.out ?_
    intro B3 g3 _
    simp only [Act.put, List.setIfInBounds_toArray, List.set_cons_succ, List.set_cons_zero]
    repeat (first | (refine lexL_q1 rfl ?_; go_big_quiet_step (fail); refine wpQuiet_nil ?_) | (refine lexL_skip0 rfl rfl ?_; simp only [Act.put, List.setIfInBounds_toArray, List.set_cons_succ, List.set_cons_zero]))
    refine lexL_slR encM_len (k + 1) ms.length c (ms.length - (k + 1)) (c - (k + 1)) (ms.drop (k + 1)) rfl rfl rfl Try.underlying26 (by kernel_rfl) (.inr ⟨_, _, _, rfl, rfl, by omega⟩) (.inl ⟨rfl, rfl, rfl⟩) (.inl ⟨rfl, rfl⟩) hRW (by omega) (by omega) (by omega) (by omega) (by omega) (by omega) E4.out ?_
    intro B4 g4 _
    simp only [Act.put, List.setIfInBounds_toArray, List.set_cons_succ, List.set_cons_zero]
    repeat (first | (refine lexL_q1 rfl ?_; go_big_quiet_step (fail); refine wpQuiet_nil ?_) | (refine lexL_skip0 rfl rfl ?_; simp only [Act.put, List.setIfInBounds_toArray, List.set_cons_succ, List.set_cons_zero]))
    refine lexL_e rfl ?_
    go_wp2_with fail
    rw [show ms.length - 1 - k = ms.length - (k + 1) by omega] at g3 ⊢
    refine (same_eq _ _ (ms.drop (k + 1)) _ _ _ (g3.ext hb4') (g4.ext hb4')).mono ?_
    rintro e w5 ⟨rfl, hb5⟩
    have hb5' : Below W.heap.size W w5 := Below.ext hb4' hb5
    go_wp2_with fail
    refine lexL_go (hb5') ?_
    repeat (first | (refine lexL_q1 rfl ?_; go_big_quiet_step (fail); refine wpQuiet_nil ?_) | (refine lexL_skip0 rfl rfl ?_; simp only [Act.put, List.setIfInBounds_toArray, List.set_cons_succ, List.set_cons_zero]))
    refine lexL_ld (⟨w3.heap.size, 0, none⟩) (aggM m) rfl rfl rfl (Hldx.out) ?_
    simp only [Act.put, List.setIfInBounds_toArray, List.set_cons_succ, List.set_cons_zero]
    repeat (first | (refine lexL_q1 rfl ?_; go_big_quiet_step (fail); refine wpQuiet_nil ?_) | (refine lexL_skip0 rfl rfl ?_; simp only [Act.put, List.setIfInBounds_toArray, List.set_cons_succ, List.set_cons_zero]))
    refine lexL_ld (⟨b, off + k * 9, none⟩) (aggM m) rfl rfl rfl (Hldm.out) ?_
    simp only [Act.put, List.setIfInBounds_toArray, List.set_cons_succ, List.set_cons_zero]
    repeat (first | (refine lexL_q1 rfl ?_; go_big_quiet_step (fail); refine wpQuiet_nil ?_) | (refine lexL_skip0 rfl rfl ?_; simp only [Act.put, List.setIfInBounds_toArray, List.set_cons_succ, List.set_cons_zero]))
    refine lexL_e rfl ?_
    go_wp2_with fail
    refine (samemsg_eq m _).mono ?_
    rintro e w6 ⟨rfl, hb6⟩
    have hb6' : Below W.heap.size W w6 := Below.ext hb5' hb6
    go_wp2_with fail
    refine lexL_go (hb6') ?_
    repeat (first | (refine lexL_q1 rfl ?_; go_big_quiet_step (fail); refine wpQuiet_nil ?_) | (refine lexL_skip0 rfl rfl ?_; simp only [Act.put, List.setIfInBounds_toArray, List.set_cons_succ, List.set_cons_zero]))
    refine lexL_nil ?_
    go_wp2_with fail
    refine (dup_ok _ ms.length c ms _ _ (hRW.ext hb6') (by omega) k m Hm.out).mono ?_
    rintro e w7 ⟨A7, c7, rfl, hown7, hb7⟩
    have hm7 : (ms ++ [m])[ms.length]? = some m := by simp
    have HM7 := Lib.hid hm7
    have hl7 : (ms ++ [m]).take ms.length ++ (ms ++ [m]).drop (ms.length + 1) = ms := by simp
    have HL7 := Lib.hid hl7
    clear hm7 hl7
    go_wp2_with fail
    refine (drop_ok _ (ms.length + 1) c7 (ms ++ [m]) _ _ hown7.recs (by omega) ms.length m HM7.out).mono ?_
    rintro e w8 ⟨A8, c8, rfl, hown8, hb8⟩
    rw [HL7.out, Nat.add_sub_cancel] at hown8
    rw [Nat.add_sub_cancel]
    go_wp2_with fail
    refine (same_eq _ _ ms _ _ _ hown8.recs (((hRW.ext hb6').ext hb7).ext hb8)).mono ?_
    rintro e w9 ⟨rfl, hb9⟩
    go_wp2
    go_ret
    exact ⟨rfl, Below.ext (Below.ext (Below.ext (Below.ext (Below.ext (Below.ext hb12 hb3) hbW) hb6') hb7) hb8) hb9⟩
end Go.Proofs.Ytfnafdncbbjolaa.networkOrder
