/-
  The document's comparisons of lists: equal lists are found equal.
-/
import Derived.Test.YtgjjfjibfleonaaRfD
namespace Go.Proofs.Ytgjjfjibfleonaa
open Go.RowKit
set_option maxRecDepth 100000
set_option linter.unusedVariables false

set_option maxHeartbeats 1000000 in
theorem sameints_eq (A1 A2 : Option Addr) (n c1 c2 : Nat) (l : List Int) (S1 S2 : Nat → Prop) (w : World) (h1 : Recs encZ S1 w (.slice A1 n c1) l) (h2 : Recs encZ S2 w (.slice A2 n c2) l) :
    Calls Try.prog 54 #[.slice A1 n c1, .slice A2 n c2] w fun e w' => e = .returned (.bool true) ∧ Below w.heap.size w w' := by
  have hl1 := h1.len
  go_enter Try.func54, Try.ntmps54
  go_wp2
  go_loopw [5] (fun a wr => ∃ k : Nat, a = .int .i64 k ∧ k ≤ n ∧ Below w.heap.size w wr) (fun a _ => n - (intOf a).toNat)
  case atStart => exact ⟨0, rfl, by omega, Below.refl _ _⟩
  case round =>
    obtain ⟨k, rfl, hk, hbr⟩ := hrel
    by_cases hlt : k < n
    · obtain ⟨b1, o1, x1, rfl, _, hb1, hx1, hc1⟩ := (h1.ext hbr).at_ encZ_len (j := k) (by omega) (by omega)
      obtain ⟨b2, o2, x2, rfl, _, hb2, hx2, hc2⟩ := (h2.ext hbr).at_ encZ_len (j := k) (by omega) (by omega)
      obtain rfl : x1 = x2 := by rw [hx1] at hx2; cases hx2; rfl
      have p0 : wr.cell? ⟨b1, o1 + k, none⟩ = some (.int .i64 x1) := by have := hc1 0 _ rfl; rw [Nat.mul_one] at this; exact this
      have q0 : wr.cell? ⟨b2, o2 + k, none⟩ = some (.int .i64 x1) := by have := hc2 0 _ rfl; rw [Nat.mul_one] at this; exact this
      clear hx1 hx2 hc1 hc2
      go_wp2_with fail
      refine wp_region_lex (fun _ => True) (by kernel_rfl) (by kernel_rfl) trivial ?_
      repeat (first | (refine lex_q rfl ⟨default, trivial⟩ ?_; go_big_quiet_step (fail); refine wpQuiet_nil ?_) | (refine lex_skip rfl rfl trivial ?_; simp only [Act.put, List.setIfInBounds_toArray, List.set_cons_succ, List.set_cons_zero]) | (refine lex_e rfl ?_; go_wp2_with fail; refine lex_go trivial ?_))
      refine lex_nil ?_
      go_wp2_with fail
      go_wp2
      go_roundw
      case rel => exact ⟨k + 1, by go_num, by omega, hbr.drew⟩
      case measure => simp [intOf]; omega
    · obtain rfl : k = n := by omega
      go_wp2
      go_ret
      exact ⟨rfl, hbr⟩
set_option maxHeartbeats 1000000 in
theorem sameevents_eq (A1 A2 : Option Addr) (n c1 c2 : Nat) (l : List Ev) (S1 S2 : Nat → Prop) (w : World) (h1 : Recs encEv S1 w (.slice A1 n c1) l) (h2 : Recs encEv S2 w (.slice A2 n c2) l) :
    Calls Try.prog 55 #[.slice A1 n c1, .slice A2 n c2] w fun e w' => e = .returned (.bool true) ∧ Below w.heap.size w w' := by
  have hl1 := h1.len
  go_enter Try.func55, Try.ntmps55
  go_wp2
  go_loopw [5] (fun a wr => ∃ k : Nat, a = .int .i64 k ∧ k ≤ n ∧ Below w.heap.size w wr) (fun a _ => n - (intOf a).toNat)
  case atStart => exact ⟨0, rfl, by omega, Below.refl _ _⟩
  case round =>
    obtain ⟨k, rfl, hk, hbr⟩ := hrel
    by_cases hlt : k < n
    · obtain ⟨b1, o1, x1, rfl, _, hb1, hx1, hc1⟩ := (h1.ext hbr).at_ encEv_len (j := k) (by omega) (by omega)
      obtain ⟨b2, o2, x2, rfl, _, hb2, hx2, hc2⟩ := (h2.ext hbr).at_ encEv_len (j := k) (by omega) (by omega)
      obtain rfl : x1 = x2 := by rw [hx1] at hx2; cases hx2; rfl
      have p0 : wr.cell? ⟨b1, o1 + k * 7, none⟩ = some (.int .i64 x1.k0) := hc1 0 _ rfl
      have q0 : wr.cell? ⟨b2, o2 + k * 7, none⟩ = some (.int .i64 x1.k0) := hc2 0 _ rfl
      have p1 : wr.cell? ⟨b1, o1 + k * 7 + 1, none⟩ = some (.int .i64 x1.k1) := hc1 1 _ rfl
      have q1 : wr.cell? ⟨b2, o2 + k * 7 + 1, none⟩ = some (.int .i64 x1.k1) := hc2 1 _ rfl
      have p2 : wr.cell? ⟨b1, o1 + k * 7 + 2, none⟩ = some (.int .i64 x1.k2) := hc1 2 _ rfl
      have q2 : wr.cell? ⟨b2, o2 + k * 7 + 2, none⟩ = some (.int .i64 x1.k2) := hc2 2 _ rfl
      have p3 : wr.cell? ⟨b1, o1 + k * 7 + 3, none⟩ = some (.int .i64 x1.k3) := hc1 3 _ rfl
      have q3 : wr.cell? ⟨b2, o2 + k * 7 + 3, none⟩ = some (.int .i64 x1.k3) := hc2 3 _ rfl
      have p4 : wr.cell? ⟨b1, o1 + k * 7 + 4, none⟩ = some (.int .i64 x1.k4) := hc1 4 _ rfl
      have q4 : wr.cell? ⟨b2, o2 + k * 7 + 4, none⟩ = some (.int .i64 x1.k4) := hc2 4 _ rfl
      have p5 : wr.cell? ⟨b1, o1 + k * 7 + 5, none⟩ = some (.int .i64 x1.k5) := hc1 5 _ rfl
      have q5 : wr.cell? ⟨b2, o2 + k * 7 + 5, none⟩ = some (.int .i64 x1.k5) := hc2 5 _ rfl
      have p6 : wr.cell? ⟨b1, o1 + k * 7 + 6, none⟩ = some (.int .i64 x1.k6) := hc1 6 _ rfl
      have q6 : wr.cell? ⟨b2, o2 + k * 7 + 6, none⟩ = some (.int .i64 x1.k6) := hc2 6 _ rfl
      clear hx1 hx2 hc1 hc2
      go_wp2_with fail
      refine wp_region_lex (fun _ => True) (by kernel_rfl) (by kernel_rfl) trivial ?_
      repeat (first | (refine lex_q rfl ⟨default, trivial⟩ ?_; go_big_quiet_step (fail); refine wpQuiet_nil ?_) | (refine lex_skip rfl rfl trivial ?_; simp only [Act.put, List.setIfInBounds_toArray, List.set_cons_succ, List.set_cons_zero]) | (refine lex_e rfl ?_; go_wp2_with fail; refine lex_go trivial ?_))
      refine lex_nil ?_
      go_wp2_with fail
      go_wp2
      go_roundw
      case rel => exact ⟨k + 1, by go_num, by omega, hbr.drew⟩
      case measure => simp [intOf]; omega
    · obtain rfl : k = n := by omega
      go_wp2
      go_ret
      exact ⟨rfl, hbr⟩
set_option maxHeartbeats 1000000 in
theorem samesends_eq (A1 A2 : Option Addr) (n c1 c2 : Nat) (l : List Snd) (S1 S2 : Nat → Prop) (w : World) (h1 : Recs encSn S1 w (.slice A1 n c1) l) (h2 : Recs encSn S2 w (.slice A2 n c2) l) :
    Calls Try.prog 56 #[.slice A1 n c1, .slice A2 n c2] w fun e w' => e = .returned (.bool true) ∧ Below w.heap.size w w' := by
  have hl1 := h1.len
  go_enter Try.func56, Try.ntmps56
  go_wp2
  go_loopw [5] (fun a wr => ∃ k : Nat, a = .int .i64 k ∧ k ≤ n ∧ Below w.heap.size w wr) (fun a _ => n - (intOf a).toNat)
  case atStart => exact ⟨0, rfl, by omega, Below.refl _ _⟩
  case round =>
    obtain ⟨k, rfl, hk, hbr⟩ := hrel
    by_cases hlt : k < n
    · obtain ⟨b1, o1, x1, rfl, _, hb1, hx1, hc1⟩ := (h1.ext hbr).at_ encSn_len (j := k) (by omega) (by omega)
      obtain ⟨b2, o2, x2, rfl, _, hb2, hx2, hc2⟩ := (h2.ext hbr).at_ encSn_len (j := k) (by omega) (by omega)
      obtain rfl : x1 = x2 := by rw [hx1] at hx2; cases hx2; rfl
      have p0 : wr.cell? ⟨b1, o1 + k * 4, none⟩ = some (.int .i64 x1.a) := hc1 0 _ rfl
      have q0 : wr.cell? ⟨b2, o2 + k * 4, none⟩ = some (.int .i64 x1.a) := hc2 0 _ rfl
      have p1 : wr.cell? ⟨b1, o1 + k * 4 + 1, none⟩ = some (.int .i64 x1.b) := hc1 1 _ rfl
      have q1 : wr.cell? ⟨b2, o2 + k * 4 + 1, none⟩ = some (.int .i64 x1.b) := hc2 1 _ rfl
      have p2 : wr.cell? ⟨b1, o1 + k * 4 + 2, none⟩ = some (.int .i64 x1.c) := hc1 2 _ rfl
      have q2 : wr.cell? ⟨b2, o2 + k * 4 + 2, none⟩ = some (.int .i64 x1.c) := hc2 2 _ rfl
      have p3 : wr.cell? ⟨b1, o1 + k * 4 + 3, none⟩ = some (.int .i64 x1.d) := hc1 3 _ rfl
      have q3 : wr.cell? ⟨b2, o2 + k * 4 + 3, none⟩ = some (.int .i64 x1.d) := hc2 3 _ rfl
      clear hx1 hx2 hc1 hc2
      go_wp2_with fail
      refine wp_region_lex (fun _ => True) (by kernel_rfl) (by kernel_rfl) trivial ?_
      repeat (first | (refine lex_q rfl ⟨default, trivial⟩ ?_; go_big_quiet_step (fail); refine wpQuiet_nil ?_) | (refine lex_skip rfl rfl trivial ?_; simp only [Act.put, List.setIfInBounds_toArray, List.set_cons_succ, List.set_cons_zero]) | (refine lex_e rfl ?_; go_wp2_with fail; refine lex_go trivial ?_))
      refine lex_nil ?_
      go_wp2_with fail
      go_wp2
      go_roundw
      case rel => exact ⟨k + 1, by go_num, by omega, hbr.drew⟩
      case measure => simp [intOf]; omega
    · obtain rfl : k = n := by omega
      go_wp2
      go_ret
      exact ⟨rfl, hbr⟩
set_option maxHeartbeats 1000000 in
theorem sameouts_eq (A1 A2 : Option Addr) (n c1 c2 : Nat) (l : List Ou) (S1 S2 : Nat → Prop) (w : World) (h1 : Recs encOu S1 w (.slice A1 n c1) l) (h2 : Recs encOu S2 w (.slice A2 n c2) l) :
    Calls Try.prog 57 #[.slice A1 n c1, .slice A2 n c2] w fun e w' => e = .returned (.bool true) ∧ Below w.heap.size w w' := by
  have hl1 := h1.len
  go_enter Try.func57, Try.ntmps57
  go_wp2
  go_loopw [5] (fun a wr => ∃ k : Nat, a = .int .i64 k ∧ k ≤ n ∧ Below w.heap.size w wr) (fun a _ => n - (intOf a).toNat)
  case atStart => exact ⟨0, rfl, by omega, Below.refl _ _⟩
  case round =>
    obtain ⟨k, rfl, hk, hbr⟩ := hrel
    by_cases hlt : k < n
    · obtain ⟨b1, o1, x1, rfl, _, hb1, hx1, hc1⟩ := (h1.ext hbr).at_ encOu_len (j := k) (by omega) (by omega)
      obtain ⟨b2, o2, x2, rfl, _, hb2, hx2, hc2⟩ := (h2.ext hbr).at_ encOu_len (j := k) (by omega) (by omega)
      obtain rfl : x1 = x2 := by rw [hx1] at hx2; cases hx2; rfl
      have p0 : wr.cell? ⟨b1, o1 + k * 2, none⟩ = some (.int .i64 x1.a) := hc1 0 _ rfl
      have q0 : wr.cell? ⟨b2, o2 + k * 2, none⟩ = some (.int .i64 x1.a) := hc2 0 _ rfl
      have p1 : wr.cell? ⟨b1, o1 + k * 2 + 1, none⟩ = some (.int .i64 x1.b) := hc1 1 _ rfl
      have q1 : wr.cell? ⟨b2, o2 + k * 2 + 1, none⟩ = some (.int .i64 x1.b) := hc2 1 _ rfl
      clear hx1 hx2 hc1 hc2
      go_wp2_with fail
      refine wp_region_lex (fun _ => True) (by kernel_rfl) (by kernel_rfl) trivial ?_
      repeat (first | (refine lex_q rfl ⟨default, trivial⟩ ?_; go_big_quiet_step (fail); refine wpQuiet_nil ?_) | (refine lex_skip rfl rfl trivial ?_; simp only [Act.put, List.setIfInBounds_toArray, List.set_cons_succ, List.set_cons_zero]) | (refine lex_e rfl ?_; go_wp2_with fail; refine lex_go trivial ?_))
      refine lex_nil ?_
      go_wp2_with fail
      go_wp2
      go_roundw
      case rel => exact ⟨k + 1, by go_num, by omega, hbr.drew⟩
      case measure => simp [intOf]; omega
    · obtain rfl : k = n := by omega
      go_wp2
      go_ret
      exact ⟨rfl, hbr⟩
end Go.Proofs.Ytgjjfjibfleonaa
