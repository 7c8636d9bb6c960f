/-
  For the laws of numbers: the document's Int, the sanity check, Mod.
-/
import Derived.Test.YtgjjfjibfleonaaPut
import Derived.Test.YtgjjfjibfleonaaByte
namespace Go.Proofs.Ytgjjfjibfleonaa
open Go.RowKit
set_option maxRecDepth 100000
set_option linter.unusedVariables false

theorem modC_lem (x n : Int) (hn : 1 ≤ n) : (0 ≤ x.tmod n → x.tmod n = x % n) ∧ (x.tmod n < 0 → x.tmod n + n = x % n) := by
  have e := Int.tmod_eq_emod (a := x) (b := n)
  have h1 := Int.emod_nonneg x (b := n) (by omega)
  have h2 := Int.emod_lt_of_pos x (b := n) (by omega)
  split at e
  · constructor <;> intros <;> omega
  · constructor <;> intros <;> omega
set_option maxHeartbeats 400000 in
theorem modC_any (x n : Int) (w : World) (hn : 1 ≤ n) (hn2 : n ≤ 9223372036854775807) (hx1 : -9223372036854775808 ≤ x) (hx2 : x ≤ 9223372036854775807):
    Calls Try.prog 8 #[.int .i64 x, .int .i64 n] w fun e w' => e = .returned (.int .i64 (x % n)) ∧ w' = w := by
  have hm := Lib.hid (modC_lem x n hn)
  have h1 := Int.emod_nonneg x (b := n) (by omega)
  have h2 := Int.emod_lt_of_pos x (b := n) (by omega)
  go_enter Try.func8, Try.ntmps8
  go_wp2
  · go_ret
    have h : x.tmod n < 0 := by assumption
    have e := hm.out.2 h
    refine ⟨ret_int ?_, rfl⟩
    rw [e]
    exact IntWalk.wrap64_in _ ⟨by omega, by omega⟩
  · go_ret
    have h : 0 ≤ x.tmod n := by assumption
    exact ⟨ret_int (hm.out.1 h), rfl⟩

/-- where a reader begins -/
def stB (L : List UInt8) (k : Int) : Except Nat Nat := if k < 0 ∨ (L.length : Int) < k then .error 3 else .ok k.toNat
set_option maxHeartbeats 400000 in
theorem begin_any (A : Option Addr) (n c : Nat) (k : Int) (L : List UInt8) (S : Nat → Prop) (w : World) (hb : Bytes S w (.slice A n c) L) (hn : n ≤ 100000000) :
    Calls Try.prog 28 #[.slice A n c, .int .i64 k] w fun e w' => e = .returned (.pointer (some ⟨w.heap.size, 0, none⟩)) ∧ RS w.heap.size w' w.heap.size L (stB L k) ∧ Below w.heap.size w w' := by
  have hl := hb.len
  have ha : ∀ o, Below w.heap.size w (w.alloc o) := fun o => (Below.refl _ _).alloc (Nat.le_refl _) o
  have hnew := fun o => heap_alloc_new w o
  by_cases hk : k < 0 ∨ (L.length : Int) < k
  · have hst : stB L k = .error 3 := if_pos hk
    rw [hst]
    by_cases h0 : k < 0
    · have d0 : decide (k < 0) = true := by simpa using h0
      go_enter Try.func28, Try.ntmps28
      go_wp2
      go_ret
      exact ⟨rfl, ⟨by omega, _, _, hnew _⟩, ha _⟩
    · have d0 : decide (k < 0) = false := by simpa using h0
      have d1 : decide ((n : Int) < k) = true := by simp; omega
      go_enter Try.func28, Try.ntmps28
      go_wp2
      go_ret
      exact ⟨rfl, ⟨by omega, _, _, hnew _⟩, ha _⟩
  · obtain ⟨p, rfl⟩ := Int.eq_ofNat_of_zero_le (show 0 ≤ k by omega)
    have hp : p ≤ n := by omega
    have hst : stB L (p : Int) = .ok p := (if_neg hk).trans (by rw [Int.toNat_natCast])
    rw [hst]
    have d0 : decide ((p : Int) < 0) = false := by simp
    have d1 : decide ((n : Int) < (p : Int)) = false := by simp; omega
    have d2 : decide (n < p) = false := by simp; omega
    have hl1 := hl.1
    have HL := Lib.hid hl1
    clear hl1 hst hk
    go_enter Try.func28, Try.ntmps28
    go_wp2
    go_ret
    refine ⟨rfl, ⟨Nat.le_refl _, A, c, ?_, ?_, ?_, ?_⟩, ha _⟩
    · rw [HL.out]; exact hnew _
    · rw [HL.out]; exact (hb.mono (fun _ h _ => h)).ext (ha _)
    · rw [HL.out]; omega
    · rw [HL.out]; omega
theorem st_int (L : List UInt8) (k : Int) : rdOut iv (iv 0) (rdAt rdInt L k) = match stI L (stB L k) with | (v, .ok q) => .tuple #[iv v, .int .i64 (q : Int), .int .i64 0] | (_, .error x) => .tuple #[iv 0, .int .i64 0, .int .i64 (x : Int)] := by
  unfold stB rdAt
  by_cases hk : k < 0 ∨ (L.length : Int) < k
  · rw [if_pos hk, if_pos hk]; rfl
  · rw [if_neg hk, if_neg hk]
    show rdOut iv (iv 0) (rdInt L k.toNat) = match (match rdInt L k.toNat with | .ok (v, q) => (v, Except.ok q) | .error k => ((0 : Int), Except.error k)) with | (v, .ok q) => _ | (_, .error x) => _
    cases rdInt L k.toNat with
    | ok p => rfl
    | error x => rfl

set_option maxHeartbeats 400000 in
theorem refInt_any (A : Option Addr) (n c : Nat) (k : Int) (L : List UInt8) (S : Nat → Prop) (w : World) (hb : Bytes S w (.slice A n c) L) (hn : n ≤ 100000000) :
    Calls Try.prog 10 #[.slice A n c, .int .i64 k] w fun e w' => e = .returned (rdOut iv (iv 0) (rdAt rdInt L k)) ∧ Below w.heap.size w w' := by
  have hst := st_int L k
  have HST := Lib.hid hst
  clear hst
  have hbeg := begin_any A n c k L S w hb hn
  have Hbeg := Lib.hid hbeg
  clear hbeg
  go_enter Try.func10, Try.ntmps10
  go_wp2_with fail
  refine (Hbeg.out).mono ?_
  rintro e w1 ⟨rfl, hR1, hb1⟩
  go_wp2_with fail
  refine (refint_any w.heap.size w.heap.size (stB L k) L w1 hR1).mono ?_
  rintro e w2 ⟨rfl, hR2, hg2⟩
  have b2 := Below.grow hb1 hg2 (Nat.le_refl _)
  cases hx : stI L (stB L k) with
  | mk v s =>
    rw [hx] at hR2
    have h2 := HST.out
    rw [hx] at h2
    have H2 := Lib.hid h2
    clear h2
    cases s with
    | ok q =>
      obtain ⟨_, A', c', hrow, _⟩ := hR2
      have q1 : w2.cell? ⟨w.heap.size, 1, none⟩ = some (.int .i64 (q : Int)) := by rw [cell_of_row _ _ _ _ _ _ hrow]; rfl
      have q2 : w2.cell? ⟨w.heap.size, 2, none⟩ = some (.int .i64 0) := by rw [cell_of_row _ _ _ _ _ _ hrow]; rfl
      clear hrow
      go_wp2_with fail
      refine wp_region_lex (fun _ => True) (by kernel_rfl) (by kernel_rfl) trivial ?_
      repeat (first | (refine lex_q rfl ⟨default, trivial⟩ ?_; go_big_quiet_step (fail); refine wpQuiet_nil ?_) | (refine lex_skip rfl rfl trivial ?_; simp only [Act.put, List.setIfInBounds_toArray, List.set_cons_succ, List.set_cons_zero]) | (refine lex_e rfl ?_; go_wp2_with fail; refine lex_go trivial ?_))
      refine lex_nil ?_
      go_wp2_with fail
      go_wp2
      refine bodyPost_ret (results_tmp3 rfl _ _ _) rfl ?_
      refine ⟨?_, b2.drew⟩
      rw [H2.out]
      rfl
    | error x =>
      obtain ⟨h0, v', p', hrow⟩ := hR2
      have q2 : w2.cell? ⟨w.heap.size, 2, none⟩ = some (.int .i64 (x : Int)) := by rw [cell_of_row _ _ _ _ _ _ hrow]; rfl
      have dx : ((x : Int) != 0) = true := by simp; omega
      clear hrow
      go_wp2_with fail
      refine wp_region_lex (fun _ => True) (by kernel_rfl) (by kernel_rfl) trivial ?_
      repeat (first | (refine lex_q rfl ⟨default, trivial⟩ ?_; go_big_quiet_step (fail); refine wpQuiet_nil ?_) | (refine lex_skip rfl rfl trivial ?_; simp only [Act.put, List.setIfInBounds_toArray, List.set_cons_succ, List.set_cons_zero]) | (refine lex_e rfl ?_; go_wp2_with fail; refine lex_go trivial ?_))
      refine lex_nil ?_
      go_wp2_with fail
      go_wp2
      refine bodyPost_ret (results_tmp3 rfl _ _ _) rfl ?_
      refine ⟨?_, b2.drew⟩
      rw [H2.out]
      rfl

theorem rd_a : rdAt rdInt [128, 0] 0 = .error 9 := by rfl
theorem rd_b : rdAt rdInt [128, 1] 0 = .ok (64, 2) := by rfl
theorem enc_a : encI (-1) = [1] := by
  show encU 1 = [1]
  exact encU_lt (by omega)
set_option maxHeartbeats 400000 in
theorem awakeC_any (w : World) : Calls Try.prog 7 #[] w fun e w' => e = .returned (.bool true) ∧ Below w.heap.size w w' := by
  have hput := putint_any none 0 0 (-1) [] (fun _ => True) w (Bytes.nil_ _ _) (by omega) (by omega) (by omega)
  have Hput := Lib.hid hput
  clear hput
  go_enter Try.func7, Try.ntmps7
  go_wp2_with fail
  refine (Hput.out).mono ?_
  rintro e w1 ⟨v1, rfl, hv1, hb1⟩
  rw [List.nil_append, enc_a] at hv1
  obtain ⟨A1, c1, rfl, hc1, hc2, hcs1⟩ := hv1
  obtain ⟨W1, hW1⟩ : ∃ W1, W1 = w1.alloc (.cells #[.int .u8 128, .int .u8 0] 5) := ⟨_, rfl⟩
  have ha1 : Below w1.heap.size w1 W1 := by rw [hW1]; exact (Below.refl _ _).alloc (Nat.le_refl _) _
  have hl1 : Bytes (fun _ => True) W1 (.slice (some ⟨w1.heap.size, 0, none⟩) 2 2) [128, 0] := by rw [hW1]; exact Bytes.lit (S := fun _ => True) w1 _ _ _ _ 2 2 trivial rfl (by omega) (by simp [maxLen]) rfl
  have hi1 := codecInt_any _ 2 2 0 [128, 0] _ W1 hl1 (by omega)
  rw [rd_a] at hi1
  have Hi1 := Lib.hid hi1
  clear hi1 hl1
  go_wp2_with fail
  rw [← hW1]
  clear hW1
  refine Hi1.out.mono ?_
  rintro e w2 ⟨rfl, hb2⟩
  obtain ⟨W2, hW2⟩ : ∃ W2, W2 = w2.alloc (.cells #[.int .u8 128, .int .u8 1] 5) := ⟨_, rfl⟩
  have ha2 : Below w2.heap.size w2 W2 := by rw [hW2]; exact (Below.refl _ _).alloc (Nat.le_refl _) _
  have hl2 : Bytes (fun _ => True) W2 (.slice (some ⟨w2.heap.size, 0, none⟩) 2 2) [128, 1] := by rw [hW2]; exact Bytes.lit (S := fun _ => True) w2 _ _ _ _ 2 2 trivial rfl (by omega) (by simp [maxLen]) rfl
  have hi2 := codecInt_any _ 2 2 0 [128, 1] _ W2 hl2 (by omega)
  rw [rd_b] at hi2
  have Hi2 := Lib.hid hi2
  clear hi2 hl2
  unfold rdOut iv
  go_wp2_with fail
  rw [← hW2]
  clear hW2
  refine Hi2.out.mono ?_
  rintro e w3 ⟨rfl, hb3⟩
  unfold rdOut iv
  have b13 := Below.ext (Below.ext ha1 hb2) (Below.ext ha2 hb3)
  obtain ⟨b, off, x, rfl, _, hbl, hx, hcx⟩ := (hcs1.keep (Keep.of_below b13)).byte (k := 0) (by simp)
  rw [Nat.add_zero] at hcx
  simp at hx
  subst hx
  rw [show (((1 : UInt8).toNat : Nat) : Int) = 1 from rfl] at hcx
  go_wp2
  go_ret
  exact ⟨rfl, Below.ext hb1 b13⟩
end Go.Proofs.Ytgjjfjibfleonaa
