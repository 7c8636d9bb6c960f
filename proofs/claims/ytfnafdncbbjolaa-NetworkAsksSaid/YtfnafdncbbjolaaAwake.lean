/-
  The reference's Oldest and the sanity check.
-/
import Derived.Test.YtfnafdncbbjolaaRefNet
namespace Go.Proofs.Ytfnafdncbbjolaa
open Go.RowKit Go.Shelf
set_option maxRecDepth 100000
set_option linter.unusedVariables false

set_option maxHeartbeats 1000000 in
theorem refoldest_no (v : Value) (ms : List Msg) (S : Nat → Prop) (w : World) (hv : Recs encM S w v ms) (hlen : ms.length ≤ 1000) (k : Int) (hk : k < 0 ∨ (ms.length : Int) ≤ k) :
    Calls Try.prog 17 #[v, .int .i64 k] w fun e w' => e = .returned (.int .i64 (-1)) ∧ Below w.heap.size w w' := by
  obtain ⟨A, c, rfl, _⟩ := hv
  have hh := has_any A ms.length c k w hlen
  rw [decide_eq_false (by omega)] at hh
  have Hh := Lib.hid hh
  clear hh
  go_enter Try.func17, Try.ntmps17
  go_wp2_with fail
  refine (Hh.out).mono ?_
  rintro e w1 ⟨rfl, rfl⟩
  go_wp2
  go_ret
  exact ⟨rfl, Below.refl _ _⟩

set_option maxHeartbeats 2000000 in
theorem refoldest_any (v : Value) (ms : List Msg) (S : Nat → Prop) (w : World) (hv : Recs encM S w v ms) (hlen : ms.length ≤ 1000) (k : Nat) (m : Msg) (hk : ms[k]? = some m) :
    Calls Try.prog 17 #[v, .int .i64 (k : Int)] w fun e w' => e = .returned (.int .i64 (firstZ (chZ ms m.f m.t))) ∧ Below w.heap.size w w' := by
  have hlt := (List.getElem?_eq_some_iff.1 hk).1
  have hv' := hv
  obtain ⟨A, c, rfl, _⟩ := hv
  obtain ⟨b, off, m', rfl, hblt, hmk, q0, q1, _⟩ := msg_cells hv' hlt
  obtain rfl : m' = m := by rw [hk] at hmk; cases hmk; rfl
  have hh := has_any (some ⟨b, off, none⟩) ms.length c k w hlen
  rw [decide_eq_true ⟨by omega, by omega⟩] at hh
  have Hh := Lib.hid hh
  have hne : chN ms m'.f m'.t ms.length ≠ [] := fun h => chN_self hk hlt h
  obtain ⟨y, ys, hys⟩ := List.exists_cons_of_ne_nil hne
  have hz : chZ ms m'.f m'.t = (y : Int) :: ys.map (fun k : Nat => (k : Int)) := by unfold chZ; rw [hys]; rfl
  have Hz := Lib.hid hz
  clear hh hk hmk hne hys hz
  go_enter Try.func17, Try.ntmps17
  go_wp2_with fail
  refine (Hh.out).mono ?_
  rintro e w1 ⟨rfl, rfl⟩
  go_wp2_with fail
  refine wp_region_lex (fun _ => True) (by kernel_rfl) (by kernel_rfl) trivial ?_
  repeat (first | (refine lex_q rfl ⟨default, trivial⟩ ?_; go_big_quiet_step (fail); refine wpQuiet_nil ?_) | (refine lex_skip rfl rfl trivial ?_; simp only [Act.put, List.setIfInBounds_toArray, List.set_cons_succ, List.set_cons_zero]) | (refine lex_e rfl ?_; go_wp2_with fail; refine lex_go trivial ?_))
  refine lex_e rfl ?_
  go_wp2_with fail
  refine (refchannel_any (.slice (some ⟨b, off, none⟩) ms.length c) ms S _ hv'.drew hlen m'.f m'.t).mono ?_
  rintro e w2 ⟨v', rfl, hown, hb2⟩
  have hr := hown.recs
  rw [Hz.out] at hr
  obtain ⟨A', c', rfl, hcl, hcm, hcs⟩ := hr
  obtain ⟨b2, off2, rfl, _, hcell⟩ := hcs (by simp [encZ])
  have hq := hcell 0 (.int .i64 (y : Int)) (by simp [encZ])
  clear hcell hcs
  rw [Nat.add_zero] at hq
  go_wp2_with fail
  refine lex_go trivial ?_
  repeat (first | (refine lex_q rfl ⟨default, trivial⟩ ?_; go_big_quiet_step (fail); refine wpQuiet_nil ?_) | (refine lex_skip rfl rfl trivial ?_; simp only [Act.put, List.setIfInBounds_toArray, List.set_cons_succ, List.set_cons_zero]) | (refine lex_e rfl ?_; go_wp2_with fail; refine lex_go trivial ?_))
  refine lex_nil ?_
  go_wp2_with fail
  go_wp2
  go_ret
  refine ⟨ret_int ?_, ?_⟩
  · rw [Hz.out]; rfl
  · exact Below.ext (Below.refl _ w).drew hb2

def ms0 : List Msg := [⟨0, 1, 0, 0, 0, 0⟩, ⟨1, 0, 0, 0, 0, 0⟩, ⟨0, 1, 0, 0, 1, 0⟩]
def row0 : Array Value := #[.int .i64 0, .int .i64 1, .int .i64 0, .int .i64 0, .int .i64 0, .int .i64 0, .int .i64 0, .slice none 0 0, .slice none 0 0,
  .int .i64 1, .int .i64 0, .int .i64 0, .int .i64 0, .int .i64 0, .int .i64 0, .int .i64 0, .slice none 0 0, .slice none 0 0,
  .int .i64 0, .int .i64 1, .int .i64 0, .int .i64 0, .int .i64 1, .int .i64 0, .int .i64 0, .slice none 0 0, .slice none 0 0]
theorem ms0_ch : chZ ms0 0 1 = [0, 2] := by decide
theorem ms0_find : findZ (isF 0 0 0 1) ms0 = 2 := by decide

set_option maxHeartbeats 2000000 in
theorem awake_any (w : World) : Calls Try.prog 8 #[] w fun e w' => e = .returned (.bool true) ∧ Below w.heap.size w w' := by
  go_enter Try.func8, Try.ntmps8
  go_wp2_with fail
  obtain ⟨W, hW⟩ : ∃ W, W = w.alloc (.cells row0 32) := ⟨_, rfl⟩
  have hb0 : Below w.heap.size w W := by rw [hW]; exact (Below.refl _ w).alloc (Nat.le_refl _) _
  have hr : Recs encM (fun _ => True) W (.slice (some ⟨w.heap.size, 0, none⟩) 3 3) ms0 := by
    rw [hW]
    exact ⟨_, 3, rfl, by decide, by simp [maxLen], Cs.lit _ _ _ _ _ trivial rfl⟩
  unfold row0 at hW
  rw [← hW]
  clear hW
  refine (channel_any _ ms0 _ _ hr (by decide) 0 1).mono ?_
  rintro e w1 ⟨v1, rfl, hown, hb1⟩
  have hr1 := hown.recs
  rw [ms0_ch] at hr1
  obtain ⟨A', c', rfl, hcl, hcm, hcs⟩ := hr1
  obtain ⟨b2, off2, rfl, _, hcell⟩ := hcs (by simp [encZ])
  have hq := hcell 1 (.int .i64 2) (by simp [encZ])
  clear hcell hcs
  go_wp2_with fail
  refine (oldest_any _ ms0 _ _ (hr.ext hb1) (by decide) 2 ⟨0, 1, 0, 0, 1, 0⟩ rfl).mono ?_
  rintro e w2 ⟨rfl, hb2⟩
  rw [show firstZ (chZ ms0 0 1) = 0 by decide]
  go_wp2_with fail
  refine (find_any _ ms0 _ _ ((hr.ext hb1).ext hb2) (by decide) 0 0 0 1).mono ?_
  rintro e w3 ⟨rfl, hb3⟩
  rw [ms0_find]
  go_wp2
  go_ret
  exact ⟨rfl, Below.ext (Below.ext (Below.ext hb0 hb1) hb2) hb3⟩
end Go.Proofs.Ytfnafdncbbjolaa
