/-
  The walks of package frame's reading half and of the document's.
-/
import Derived.Test.YtmakcggmaphanaaFrameWalk
namespace Go.Proofs.Ytmakcggmaphanaa
open Go.RowKit
attribute [local irreducible] upd inv le4 putN byteOf z8 sumL headL sealL brow num nextL
set_option maxRecDepth 100000
set_option linter.unusedVariables false

/-- the slice of a body, by its place -/
def bodyV (v : Value) (k n : Nat) : Value :=
  match v with
  | .slice A _ c => .slice (if c = k + 8 then A else Option.map (fun x => x.add (k + 8)) A) n n
  | _ => undef
theorem bodyV_slice (A : Option Addr) (m c k n : Nat) : bodyV (.slice A m c) k n = .slice (if c = k + 8 then A else Option.map (fun x => x.add (k + 8)) A) n n := rfl

set_option maxHeartbeats 400000 in
theorem word_any (v : Value) (l : List UInt8) (S : Nat → Prop) (w : World) (hv : Bytes S w v l) (hl : 4 ≤ l.length) :
    Calls Try.prog 36 #[v] w fun e w' => e = .returned (.int .u32 (num (l.take 4) : Nat)) ∧ Below w.heap.size w w' := by
  obtain ⟨A, c, rfl, hc1, hc2, hcs⟩ := hv
  unfold maxLen at hc2
  obtain ⟨b0, o0, x0, rfl, _, _, hx0, hc0⟩ := hcs.byte (k := 0) (by omega)
  obtain ⟨_, _, x1, e1, _, _, hx1, hc1'⟩ := hcs.byte (k := 1) (by omega)
  cases e1
  obtain ⟨_, _, x2, e2, _, _, hx2, hc2'⟩ := hcs.byte (k := 2) (by omega)
  cases e2
  obtain ⟨_, _, x3, e3, _, _, hx3, hc3'⟩ := hcs.byte (k := 3) (by omega)
  cases e3
  have h0 := u8_lt x0
  have h1 := u8_lt x1
  have h2 := u8_lt x2
  have h3 := u8_lt x3
  simp only [Nat.add_zero] at hc0
  have Hx0 := Lib.hid hx0
  have Hx1 := Lib.hid hx1
  have Hx2 := Lib.hid hx2
  have Hx3 := Lib.hid hx3
  clear hx0 hx1 hx2 hx3 hcs
  go_enter Try.func36, Try.ntmps36
  go_wp2_with fail
  refine wp_region_lex (fun _ => True) (by kernel_rfl) (by kernel_rfl) trivial ?_
  repeat (refine lex_q rfl ⟨default, trivial⟩ ?_; go_big_quiet_step (fail); refine wpQuiet_nil ?_)
  refine lex_e rfl ?_
  go_wp2_with fail
  refine lex_go trivial ?_
  repeat (refine lex_q rfl ⟨default, trivial⟩ ?_; go_big_quiet_step (fail); refine wpQuiet_nil ?_)
  refine lex_e rfl ?_
  go_wp2_with fail
  refine lex_go trivial ?_
  repeat (refine lex_q rfl ⟨default, trivial⟩ ?_; go_big_quiet_step (fail); refine wpQuiet_nil ?_)
  refine lex_e rfl ?_
  go_wp2_with fail
  refine lex_go trivial ?_
  repeat (refine lex_q rfl ⟨default, trivial⟩ ?_; go_big_quiet_step (fail); refine wpQuiet_nil ?_)
  refine lex_e rfl ?_
  go_wp2_with fail
  refine lex_go trivial ?_
  repeat (refine lex_q rfl ⟨default, trivial⟩ ?_; go_big_quiet_step (fail); refine wpQuiet_nil ?_)
  refine lex_nil ?_
  go_wp2_with fail
  go_ret
  refine ⟨ret_int ?_, (Below.refl _ _).drew⟩
  rw [or4_u32 _ _ _ _ h0 h1 h2 h3, take4 Hx0.out Hx1.out Hx2.out Hx3.out, num4]

set_option maxHeartbeats 1000000 in
theorem next_det (v : Value) (b : List UInt8) (S : Nat → Prop) (w : World) (at_ : Int) (hv : Bytes S w v b) (hb : b.length ≤ 140737488355328) :
    Calls Try.prog 26 #[v, .int .i64 at_] w fun e w' => ∃ v', e = .returned (.tuple #[v', .int .i64 ((nextL b at_).2.1 : Nat), .int .i64 ((nextL b at_).2.2 : Nat)]) ∧ Bytes S w' v' (nextL b at_).1 ∧ Below w.heap.size w w' ∧ ((nextL b at_).2.2 = 0 → v' = bodyV v at_.toNat (num ((b.drop at_.toNat).take 4))) := by
  have hB := hv
  obtain ⟨A, c, rfl, hc1, hc2, hcs⟩ := hv
  unfold maxLen at hc2
  by_cases h1 : at_ < 0
  · have d1 : decide (at_ < 0) = true := by simpa using h1
    have hfin := Lib.hid (nextL_range (b := b) (at_ := at_) (.inl h1))
    go_enter Try.func26, Try.ntmps26
    go_wp2
    go_ret3
    rw [hfin.out]
    exact ⟨_, rfl, Bytes.nil_ _ _, Below.refl _ _, fun h => absurd h (by decide)⟩
  · have d1 : decide (at_ < 0) = false := by simpa using h1
    obtain ⟨k, rfl⟩ := Int.eq_ofNat_of_zero_le (by omega : 0 ≤ at_)
    clear d1
    by_cases h2 : b.length < k
    · have d2 : decide (b.length < k) = true := by simpa using h2
      have hfin := Lib.hid (nextL_range (b := b) (at_ := k) (.inr (by omega)))
      go_enter Try.func26, Try.ntmps26
      go_wp2
      go_ret3
      rw [hfin.out]
      exact ⟨_, rfl, Bytes.nil_ _ _, Below.refl _ _, fun h => absurd h (by decide)⟩
    · have d2 : decide (b.length < k) = false := by simpa using h2
      by_cases h3 : k = b.length
      · have hfin := Lib.hid (nextL_end h3)
        have d3 : ((k : Int) == (b.length : Int)) = true := beq_iff_eq.2 (by omega)
        clear h3
        go_enter Try.func26, Try.ntmps26
        go_wp2
        go_ret3
        rw [hfin.out]
        exact ⟨_, rfl, Bytes.nil_ _ _, Below.refl _ _, fun h => absurd h (by decide)⟩
      · have d3 : ((k : Int) == (b.length : Int)) = false := by simp; omega
        by_cases h4 : b.length - k < 8
        · have hfin := Lib.hid (nextL_short1 (b := b) (k := k) (by omega) h4)
          have d4 : decide ((b.length : Int) - (k : Int) < 8) = true := by simp; omega
          go_enter Try.func26, Try.ntmps26
          go_wp2
          go_ret3
          rw [hfin.out]
          exact ⟨_, rfl, Bytes.nil_ _ _, Below.refl _ _, fun h => absurd h (by decide)⟩
        · have d4 : decide ((b.length : Int) - (k : Int) < 8) = false := by simp; omega
          have hk8 : k + 8 ≤ b.length := by omega
          go_enter Try.func26, Try.ntmps26
          go_wp2_with fail
          refine wp_region_lex (fun _ => True) (by kernel_rfl) (by kernel_rfl) trivial ?_
          repeat (refine lex_q rfl ⟨default, trivial⟩ ?_; go_big_quiet_step (fail); refine wpQuiet_nil ?_)
          have hH := hB.part (l := k) (h := k + 8) (m := c) (by omega) (by omega) hk8 (Nat.le_refl _)
          rw [if_neg (by omega), Nat.mul_one, show k + 8 - k = 8 by omega] at hH
          rw [show k + 8 - k = 8 by omega]
          generalize (Option.map (fun x => x.add k) A) = A1 at hH ⊢
          have hR := hB.drop_ (k := k + 8) hk8 (q := c = k + 8) (by omega)
          generalize hA2 : (if c = k + 8 then A else Option.map (fun x => x.add (k + 8)) A) = A2 at hR ⊢
          have HA2 := Lib.hid hA2
          clear hA2
          clear d2 d3 d4 hcs
          refine lex_nil ?_
          go_wp2_with fail
          refine (word_any _ _ _ _ hH.drew (by simp; omega)).mono ?_
          rintro e w1 ⟨rfl, hb1⟩
          rw [List.take_take, show min 4 8 = 4 from rfl]
          obtain ⟨n, hn⟩ : ∃ n, num ((b.drop k).take 4) = n := ⟨_, rfl⟩
          have hn32 : n < 4294967296 := by
            rw [← hn]
            have := num_lt ((b.drop k).take 4)
            have e : ((b.drop k).take 4).length = 4 := by simp; omega
            rw [e] at this
            omega
          rw [hn]
          by_cases h5 : 4096 < n
          · have hfin := Lib.hid (nextL_long hk8 (by rw [hn]; exact h5))
            clear hn
            go_wp2
            go_ret3
            rw [hfin.out]
            exact ⟨_, rfl, Bytes.nil_ _ _, (Below.refl _ _).drew.trans hb1, fun h => absurd h (by decide)⟩
          · by_cases h6 : b.length - k - 8 < n
            · have hfin := Lib.hid (nextL_short2 hk8 (by rw [hn]; omega) (by rw [hn]; exact h6))
              have d6 : decide (b.length - (k + 8) < n) = true := by simp; omega
              clear hn
              go_wp2
              go_ret3
              rw [hfin.out]
              exact ⟨_, rfl, Bytes.nil_ _ _, (Below.refl _ _).drew.trans hb1, fun h => absurd h (by decide)⟩
            · have d6 : decide (b.length - (k + 8) < n) = false := by simp; omega
              have Hn := Lib.hid hn
              clear hn
              have hH1 := (hH.drew.ext hb1).drew
              have hR1 := (hR.drew.ext hb1).drew
              have h52 := hH1.drop_ (k := 4) (by omega) (q := False) (fun x => x.elim)
              rw [if_neg (fun x => x)] at h52
              have h55 := hH1.take_ (k := 4) (by omega)
              rw [List.take_take, show min 4 8 = 4 from rfl] at h55
              have h59 := hR1.take_ (k := n) (by omega)
              go_wp2_with fail
              refine wp_region_lex (fun _ => True) (by kernel_rfl) (by kernel_rfl) trivial ?_
              repeat (refine lex_q rfl ⟨default, trivial⟩ ?_; go_big_quiet_step (fail); refine wpQuiet_nil ?_)
              refine lex_e rfl ?_
              go_wp2_with fail
              refine (word_any _ _ _ _ h52 (by simp; omega)).mono ?_
              rintro e w2 ⟨rfl, hb2⟩
              rw [head_second]
              go_wp2_with fail
              refine lex_go trivial ?_
              repeat (refine lex_q rfl ⟨default, trivial⟩ ?_; go_big_quiet_step (fail); refine wpQuiet_nil ?_)
              refine lex_e rfl ?_
              go_wp2_with fail
              refine (of_any _ _ _ _ (h55.ext hb2)).mono ?_
              rintro e w3 ⟨rfl, hb3⟩
              go_wp2_with fail
              refine lex_go trivial ?_
              repeat (refine lex_q rfl ⟨default, trivial⟩ ?_; go_big_quiet_step (fail); refine wpQuiet_nil ?_)
              refine lex_e rfl ?_
              go_wp2_with fail
              refine (update_any _ _ _ _ _ (upd_lt (by omega) _) ((h59.ext hb2).ext hb3)).mono ?_
              rintro e w4 ⟨rfl, hb4⟩
              rw [sum_of_head b k n (by omega) Hn.out]
              go_wp2_with fail
              refine lex_go trivial ?_
              repeat (refine lex_q rfl ⟨default, trivial⟩ ?_; go_big_quiet_step (fail); refine wpQuiet_nil ?_)
              have hbw : Below w.heap.size w w4 := Below.ext (Below.ext (Below.ext (Below.ext (Below.refl _ _).drew hb1).drew hb2) hb3) hb4
              have h59' := ((h59.ext hb2).ext hb3).ext hb4
              by_cases h7 : num ((b.drop (k + 4)).take 4) = sumL ((b.drop (k + 8)).take n)
              · have hfin := Lib.hid (nextL_ok hk8 (by rw [Hn.out]; omega) (by rw [Hn.out]; omega) (by rw [Hn.out]; exact h7))
                rw [h7]
                clear h7 h52 h55 h59
                refine lex_nil ?_
                go_wp2_with fail
                go_ret3
                rw [hfin.out, Hn.out]
                refine ⟨_, ?_, h59'.clip (c' := n) (Nat.le_refl _) (by unfold maxLen; omega), hbw, fun _ => ?_⟩
                rotate_left
                · rw [Int.toNat_natCast, Hn.out, bodyV_slice, HA2.out]
                show Ending.returned (Value.tuple #[.slice A2 n n, .int .i64 ((k : Int) + 8 + (n : Int)), .int .i64 0]) = _
                rw [show (k : Int) + 8 + (n : Int) = ((k + 8 + n : Nat) : Int) by omega]
                rfl
              · have hfin := Lib.hid (nextL_sum hk8 (by rw [Hn.out]; omega) (by rw [Hn.out]; omega) (by rw [Hn.out]; exact h7))
                have d7 : ((num ((b.drop (k + 4)).take 4) : Int) != (sumL ((b.drop (k + 8)).take n) : Int)) = true := by rw [bne_iff_ne]; omega
                clear h7 h52 h55 h59
                refine lex_nil ?_
                go_wp2_with fail
                go_ret3
                rw [hfin.out]
                exact ⟨_, rfl, Bytes.nil_ _ _, hbw, fun h => absurd h (by decide)⟩
theorem next_any (v : Value) (b : List UInt8) (S : Nat → Prop) (w : World) (at_ : Int) (hv : Bytes S w v b) (hb : b.length ≤ 140737488355328) :
    Calls Try.prog 26 #[v, .int .i64 at_] w fun e w' => ∃ v', e = .returned (.tuple #[v', .int .i64 ((nextL b at_).2.1 : Nat), .int .i64 ((nextL b at_).2.2 : Nat)]) ∧ Bytes S w' v' (nextL b at_).1 ∧ Below w.heap.size w w' :=
  (next_det v b S w at_ hv hb).mono fun _ _ ⟨v', h1, h2, h3, _⟩ => ⟨v', h1, h2, h3⟩
end Go.Proofs.Ytmakcggmaphanaa
