/-
  The changes of the messages in flight: Add, Take, Drop, Duplicate and the reference's; Same.
-/
import Derived.Test.YtfnafdncbbjolaaConcatM
import Derived.Test.YtfnafdncbbjolaaLexL
namespace Go.Proofs.Ytfnafdncbbjolaa
open Go.RowKit
set_option maxRecDepth 100000
set_option linter.unusedVariables false

def aggM (m : Msg) : Value := .agg #[.int .i64 m.f, .int .i64 m.t, .int .i64 m.i, .int .i64 m.x, .int .i64 m.o, .int .i64 m.v, .int .i64 0, .slice none 0 0, .slice none 0 0]
theorem run_ldM {S : Nat → Prop} {w : World} {A : Option Addr} {n c : Nat} {ms : List Msg} {k : Nat} {m : Msg} (h : Recs encM S w (.slice A n c) ms) (hk : ms[k]? = some m) :
    ∃ b off, A = some ⟨b, off, none⟩ ∧ b < w.heap.size ∧ ∀ w', Below w.heap.size w w' → (loadVar 32 ⟨b, off + k * 9, none⟩).run Try.prog w' = .ok (aggM m) w' := by
  obtain ⟨b, off, m', rfl, _, hb, hm, hc⟩ := h.at_ encM_len (List.getElem?_eq_some_iff.1 hk).1 (by omega)
  rw [hk] at hm
  cases hm
  refine ⟨b, off, rfl, hb, fun w' hw' => ?_⟩
  exact run_loadVar_mid w' b (off + k * 9) 32 (encM m) _ (fun j v hv => (hw'.cell (p := ⟨b, off + k * 9 + j, none⟩) hb).trans (hc j v hv)) Try.underlying32 rfl (by kernel_rfl)

set_option maxHeartbeats 2000000 in
theorem samemsg_eq (m : Msg) (w : World) :
    Calls Try.prog 26 #[aggM m, aggM m] w fun e w' => e = .returned (.bool true) ∧ Below w.heap.size w w' := by
  obtain ⟨mf, mt, mi, mx, mo, mv⟩ := m
  unfold aggM
  dsimp only
  go_enter Try.func26, Try.ntmps26
  go_wp2_with fail
  obtain ⟨W, hW⟩ : ∃ W, W = (w.alloc (.cells #[.int .i64 mf, .int .i64 mt, .int .i64 mi, .int .i64 mx, .int .i64 mo, .int .i64 mv, .int .i64 0, .slice none 0 0, .slice none 0 0] 32)).alloc (.cells #[.int .i64 mf, .int .i64 mt, .int .i64 mi, .int .i64 mx, .int .i64 mo, .int .i64 mv, .int .i64 0, .slice none 0 0, .slice none 0 0] 32) := ⟨_, rfl⟩
  have hb : Below w.heap.size w W := by rw [hW]; exact ((Below.refl _ w).alloc (Nat.le_refl _) _).alloc (by simp) _
  have q1 : W.cell? ⟨w.heap.size, 8, none⟩ = some (.slice none 0 0) := by rw [hW]; go_simp
  have q2 : W.cell? ⟨w.heap.size + 1, 8, none⟩ = some (.slice none 0 0) := by rw [hW]; go_simp
  rw [← hW]
  clear hW
  refine (sameints_eq _ _ [] (fun _ => True) (fun _ => True) W (Recs.nil_ _ _) (Recs.nil_ _ _)).mono ?_
  rintro e w1 ⟨rfl, hb1⟩
  have q1' := (hb1.cell (p := ⟨w.heap.size, 8, none⟩) (block_lt_of_cell q1)).trans q1
  have q2' := (hb1.cell (p := ⟨w.heap.size + 1, 8, none⟩) (block_lt_of_cell q2)).trans q2
  clear q1 q2
  go_wp2
  go_loop [5] (fun i => i = .int .i64 0) (fun _ => 0)
  case atStart => rfl
  case round =>
    subst hrel
    go_wp2
    go_ret
    exact ⟨rfl, Below.ext hb hb1⟩

set_option maxHeartbeats 2000000 in
theorem same_eq (v1 v2 : Value) (ms : List Msg) (S1 S2 : Nat → Prop) (w : World) (hv1 : Recs encM S1 w v1 ms) (hv2 : Recs encM S2 w v2 ms) :
    Calls Try.prog 25 #[v1, v2] w fun e w' => e = .returned (.bool true) ∧ Below w.heap.size w w' := by
  have h1 := hv1
  have h2 := hv2
  obtain ⟨A1, c1, rfl, hc1, hm1, _⟩ := hv1
  obtain ⟨A2, c2, rfl, _⟩ := hv2
  unfold maxLen at hm1
  go_enter Try.func25, Try.ntmps25
  go_wp2
  go_loopw [5] (fun a wr => ∃ k : Nat, a = .int .i64 k ∧ k ≤ ms.length ∧ Below w.heap.size w wr) (fun a _ => ms.length - (intOf a).toNat)
  case atStart => exact ⟨0, rfl, by omega, Below.refl _ _⟩
  case round =>
    obtain ⟨k, rfl, hk, hbr⟩ := hrel
    by_cases hlt : k < ms.length
    · obtain ⟨m, hm⟩ : ∃ m, ms[k]? = some m := ⟨_, List.getElem?_eq_getElem hlt⟩
      obtain ⟨b1, o1, rfl, hb1, hr1⟩ := run_ldM (h1.ext hbr) hm
      obtain ⟨b2, o2, rfl, hb2, hr2⟩ := run_ldM (h2.ext hbr) hm
      have Hr1 := Lib.hid hr1
      have Hr2 := Lib.hid hr2
      clear hm hr1 hr2
      go_wp2_with fail
      refine wp_region_lexL (Below wr.heap.size wr) (by kernel_rfl) (by kernel_rfl) ((Below.refl _ wr).drew) ?_
      repeat (first | (refine lexL_q0 rfl ?_; go_big_quiet_step (fail); refine wpQuiet_nil ?_) | (refine lexL_skip0 rfl rfl ?_; simp only [Act.put, List.setIfInBounds_toArray, List.set_cons_succ, List.set_cons_zero]))
      refine lexL_ld (⟨b1, o1 + k * 9, none⟩) (aggM m) rfl rfl rfl (Hr1.out) ?_
      simp only [Act.put, List.setIfInBounds_toArray, List.set_cons_succ, List.set_cons_zero]
      repeat (first | (refine lexL_q0 rfl ?_; go_big_quiet_step (fail); refine wpQuiet_nil ?_) | (refine lexL_skip0 rfl rfl ?_; simp only [Act.put, List.setIfInBounds_toArray, List.set_cons_succ, List.set_cons_zero]))
      refine lexL_ld (⟨b2, o2 + k * 9, none⟩) (aggM m) rfl rfl rfl (Hr2.out) ?_
      simp only [Act.put, List.setIfInBounds_toArray, List.set_cons_succ, List.set_cons_zero]
      repeat (first | (refine lexL_q0 rfl ?_; go_big_quiet_step (fail); refine wpQuiet_nil ?_) | (refine lexL_skip0 rfl rfl ?_; simp only [Act.put, List.setIfInBounds_toArray, List.set_cons_succ, List.set_cons_zero]))
      refine lexL_e rfl ?_
      go_wp2_with fail
      refine (samemsg_eq m _).mono ?_
      rintro e w1 ⟨rfl, hb3⟩
      have hb3' : Below wr.heap.size wr w1 := Below.ext (Below.refl _ wr).drew hb3
      go_wp2_with fail
      refine lexL_go (hb3') ?_
      repeat (first | (refine lexL_q0 rfl ?_; go_big_quiet_step (fail); refine wpQuiet_nil ?_) | (refine lexL_skip0 rfl rfl ?_; simp only [Act.put, List.setIfInBounds_toArray, List.set_cons_succ, List.set_cons_zero]))
      refine lexL_nil ?_
      go_wp2_with fail
      go_wp2
      go_roundw
      case rel => exact ⟨k + 1, by go_num, by omega, Below.ext hbr hb3'⟩
      case measure => simp [intOf]; omega
    · obtain rfl : k = ms.length := by omega
      go_wp2
      go_ret
      exact ⟨rfl, hbr⟩
end Go.Proofs.Ytfnafdncbbjolaa
