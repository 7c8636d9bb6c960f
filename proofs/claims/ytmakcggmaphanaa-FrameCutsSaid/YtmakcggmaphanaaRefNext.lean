/-
  The walk of the document's Next.
-/
import Derived.Test.YtmakcggmaphanaaNextWalk
namespace Go.Proofs.Ytmakcggmaphanaa
open Go.RowKit
attribute [local irreducible] upd inv le4 putN byteOf z8 sumL headL sealL brow num nextL
set_option maxRecDepth 100000
set_option linter.unusedVariables false


set_option maxHeartbeats 1000000 in
theorem refnext_any (v : Value) (b : List UInt8) (S : Nat → Prop) (w : World) (at_ : Int) (hv : Bytes S w v b) (hb : b.length ≤ 140737488355328) :
    Calls Try.prog 35 #[v, .int .i64 at_] w fun e w' => ∃ v', e = .returned (.tuple #[v', .int .i64 ((nextL b at_).2.1 : Nat), .int .i64 ((nextL b at_).2.2 : Nat)]) ∧ OwnB w' w.heap.size 5 v' (nextL b at_).1 ∧ Below w.heap.size w w' := by
  have hB := hv
  obtain ⟨A, c, rfl, hc1, hc2, hcs⟩ := hv
  unfold maxLen at hc2
  by_cases h1 : at_ < 0
  · have d1 : decide (at_ < 0) = true := by simpa using h1
    have hfin := Lib.hid (nextL_range (b := b) (at_ := at_) (.inl h1))
    go_enter Try.func35, Try.ntmps35
    go_wp2
    go_ret3
    rw [hfin.out]
    exact ⟨_, rfl, OwnB.nil_ _ _ _, Below.refl _ _⟩
  · have d1 : decide (at_ < 0) = false := by simpa using h1
    obtain ⟨k, rfl⟩ := Int.eq_ofNat_of_zero_le (by omega : 0 ≤ at_)
    clear d1
    by_cases h2 : b.length < k
    · have d2 : decide (b.length < k) = true := by simpa using h2
      have hfin := Lib.hid (nextL_range (b := b) (at_ := k) (.inr (by omega)))
      go_enter Try.func35, Try.ntmps35
      go_wp2
      go_ret3
      rw [hfin.out]
      exact ⟨_, rfl, OwnB.nil_ _ _ _, Below.refl _ _⟩
    · have d2 : decide (b.length < k) = false := by simpa using h2
      by_cases h3 : k = b.length
      · have hfin := Lib.hid (nextL_end h3)
        have d3 : ((k : Int) == (b.length : Int)) = true := beq_iff_eq.2 (by omega)
        clear h3
        go_enter Try.func35, Try.ntmps35
        go_wp2
        go_ret3
        rw [hfin.out]
        exact ⟨_, rfl, OwnB.nil_ _ _ _, Below.refl _ _⟩
      · have d3 : ((k : Int) == (b.length : Int)) = false := by simp; omega
        by_cases h4 : b.length - k < 8
        · have hfin := Lib.hid (nextL_short1 (b := b) (k := k) (by omega) h4)
          have d4 : decide ((b.length : Int) - (k : Int) < 8) = true := by simp; omega
          go_enter Try.func35, Try.ntmps35
          go_wp2
          go_ret3
          rw [hfin.out]
          exact ⟨_, rfl, OwnB.nil_ _ _ _, Below.refl _ _⟩
        · have d4 : decide ((b.length : Int) - (k : Int) < 8) = false := by simp; omega
          have hk8 : k + 8 ≤ b.length := by omega
          obtain ⟨b0, o0, x0, rfl, _, _, hx0, hc0⟩ := hcs.byte (k := k) (by omega)
          obtain ⟨_, _, x1, e1, _, _, hx1, hc1'⟩ := hcs.byte (k := k + 1) (by omega)
          cases e1
          obtain ⟨_, _, x2, e2, _, _, hx2, hc2'⟩ := hcs.byte (k := k + 2) (by omega)
          cases e2
          obtain ⟨_, _, x3, e3, _, _, hx3, hc3'⟩ := hcs.byte (k := k + 3) (by omega)
          cases e3
          have g0 := u8_lt x0
          have g1 := u8_lt x1
          have g2 := u8_lt x2
          have g3 := u8_lt x3
          have hor := or4_i64 _ _ _ _ g0 g1 g2 g3
          obtain ⟨n, hn'⟩ : ∃ n, x0.toNat + 256 * x1.toNat + 65536 * x2.toNat + 16777216 * x3.toNat = n := ⟨_, rfl⟩
          rw [hn'] at hor
          have hn : num ((b.drop k).take 4) = n := by
            rw [take4 (a := x0) (b := x1) (c := x2) (d := x3) (by simpa using hx0) (by simpa using hx1) (by simpa using hx2) (by simpa using hx3), num4, hn']
          have hn32 : n < 4294967296 := by omega
          have Hn := Lib.hid hn
          clear hn hn' hx0 hx1 hx2 hx3
          go_enter Try.func35, Try.ntmps35
          go_wp2_with fail
          refine wp_region_lex (fun _ => True) (by kernel_rfl) (by kernel_rfl) trivial ?_
          repeat (refine lex_q rfl ⟨default, trivial⟩ ?_; go_big_quiet_step (fail); refine wpQuiet_nil ?_)
          refine lex_e rfl ?_
          go_wp2_with fail
          refine lex_go trivial ?_
          repeat (refine lex_q rfl ⟨default, trivial⟩ ?_; go_big_quiet_step (fail); refine wpQuiet_nil ?_)
          refine lex_e rfl ?_
          go_wp2_with fail
          refine lex_go trivial ?_
          repeat (refine lex_q rfl ⟨default, trivial⟩ ?_; go_big_quiet_step (fail); refine wpQuiet_nil ?_)
          refine lex_e rfl ?_
          go_wp2_with fail
          refine lex_go trivial ?_
          repeat (refine lex_q rfl ⟨default, trivial⟩ ?_; go_big_quiet_step (fail); refine wpQuiet_nil ?_)
          refine lex_e rfl ?_
          go_wp2_with fail
          refine lex_go trivial ?_
          repeat (refine lex_q rfl ⟨default, trivial⟩ ?_; go_big_quiet_step (fail); refine wpQuiet_nil ?_)
          refine lex_nil ?_
          by_cases h5 : 4096 < n
          · have hfin := Lib.hid (nextL_long hk8 (by rw [Hn.out]; exact h5))
            go_wp2
            go_ret3
            rw [hfin.out]
            exact ⟨_, rfl, OwnB.nil_ _ _ _, (Below.refl _ _).drew⟩
          · by_cases h6 : b.length - k - 8 < n
            · have hfin := Lib.hid (nextL_short2 hk8 (by rw [Hn.out]; omega) (by rw [Hn.out]; exact h6))
              have d6 : decide ((b.length : Int) - (k : Int) - 8 < (n : Int)) = true := by simp; omega
              go_wp2
              go_ret3
              rw [hfin.out]
              exact ⟨_, rfl, OwnB.nil_ _ _ _, (Below.refl _ _).drew⟩
            · have d6 : decide ((b.length : Int) - (k : Int) - 8 < (n : Int)) = false := by simp; omega
              go_wp2_with (refine wpList_slB (o := ⟨some 76, _, _, _, _, _⟩) (k + 8) (k + 8 + n) c n (c - (k + 8)) ((b.drop (k + 8)).take n) rfl rfl rfl Try.underlying23 (by kernel_rfl) (.inr ⟨_, _, _, rfl, rfl, by omega⟩) (.inr ⟨_, _, _, rfl, rfl, by omega⟩) (.inl ⟨rfl, rfl⟩) hB.drew (by omega) (by omega) (by omega) (Nat.le_refl _) (by omega) rfl (by rw [Nat.add_sub_cancel_left]) ?_; intro A2 hA2 hA2c)
              have hlb : ((b.drop (k + 8)).take n).length = n := by simp; omega
              refine (refhead_any _ _ _ _ hA2 (by rw [hlb]; omega)).mono ?_
              rintro e w1 ⟨vh, rfl, hown1, hb1⟩
              obtain ⟨Ah, ch, rfl, _, _, hcsh⟩ := hown1.bytes
              have hhl : (headL ((b.drop (k + 8)).take n)).length = 8 := headL_length _
              have hiff := head_iff b k n (by omega) Hn.out
              generalize hbody : (b.drop (k + 8)).take n = body at *
              have Hbody := Lib.hid hbody
              have Hiff := Lib.hid hiff
              have Hlb := Lib.hid hlb
              clear hbody hiff hlb hor
              rw [hhl]
              have Hhl := Lib.hid hhl
              clear hhl
              have hb01 : Below w.heap.size w w1 := (Below.refl _ _).drew.trans hb1
              go_wp2
              go_loopw [10] (fun i wr => ∃ j : Nat, j ≤ 8 ∧ i = .int .i64 j ∧ (headL body).take j = ((b.drop k).take 8).take j ∧ Below w1.heap.size w1 wr) (fun i _ => 8 - (intOf i).toNat)
              case atStart => exact ⟨0, by omega, rfl, rfl, Below.refl _ _⟩
              case round =>
                obtain ⟨j, hj, rfl, htk, hbw⟩ := hrel
                have Htk := Lib.hid htk
                clear htk
                by_cases hlt : j < 8
                · obtain ⟨bh, oh, x, rfl, _, _, hx, hcx⟩ := (hcsh.keep (Keep.of_below hbw)).byte (k := j) (by rw [Hhl.out]; exact hlt)
                  obtain ⟨_, _, y, e4, _, _, hy, hcy⟩ := ((hcs.keep (Keep.of_below hb01)).keep (Keep.of_below hbw)).byte (k := k + j) (by omega)
                  cases e4
                  have Hx := Lib.hid hx
                  have Hy : Hid (((b.drop k).take 8)[j]? = some y) := by rw [List.getElem?_take_of_lt hlt, List.getElem?_drop]; exact hy
                  clear hx hy hc0 hc1' hc2' hc3'
                  by_cases hxy : x = y
                  · subst hxy
                    have hne2 : (((x.toNat : Nat) : Int) != ((x.toNat : Nat) : Int)) = false := by simp
                    go_wp2_with fail
                    refine wp_region_lex (fun _ => True) (by kernel_rfl) (by kernel_rfl) trivial ?_
                    repeat (refine lex_q rfl ⟨default, trivial⟩ ?_; go_big_quiet_step (fail); refine wpQuiet_nil ?_)
                    refine lex_e rfl ?_
                    go_wp2_with fail
                    refine lex_go trivial ?_
                    repeat (refine lex_q rfl ⟨default, trivial⟩ ?_; go_big_quiet_step (fail); refine wpQuiet_nil ?_)
                    refine lex_e rfl ?_
                    go_wp2_with fail
                    refine lex_go trivial ?_
                    repeat (refine lex_q rfl ⟨default, trivial⟩ ?_; go_big_quiet_step (fail); refine wpQuiet_nil ?_)
                    refine lex_nil ?_
                    go_wp2_with fail
                    go_roundw
                    case rel => exact ⟨j + 1, by omega, by go_num, take_eq_succ Htk.out Hx.out Hy.out, hbw.drew⟩
                    case measure => simp [intOf]; omega
                  · have hne2 : (((x.toNat : Nat) : Int) != ((y.toNat : Nat) : Int)) = true := by
                      rw [bne_iff_ne]; intro h; exact hxy (UInt8.toNat_inj.1 (by omega))
                    have hfin := Lib.hid (nextL_sum hk8 (by rw [Hn.out]; omega) (by rw [Hn.out]; omega) (by
                      rw [Hn.out, Hbody.out]
                      intro h
                      have e := Hiff.out.2 h
                      have h1 := Hx.out
                      rw [e] at h1
                      have := h1.symm.trans Hy.out
                      simp at this
                      exact hxy this))
                    go_wp2_with fail
                    refine wp_region_lex (fun _ => True) (by kernel_rfl) (by kernel_rfl) trivial ?_
                    repeat (refine lex_q rfl ⟨default, trivial⟩ ?_; go_big_quiet_step (fail); refine wpQuiet_nil ?_)
                    refine lex_e rfl ?_
                    go_wp2_with fail
                    refine lex_go trivial ?_
                    repeat (refine lex_q rfl ⟨default, trivial⟩ ?_; go_big_quiet_step (fail); refine wpQuiet_nil ?_)
                    refine lex_e rfl ?_
                    go_wp2_with fail
                    refine lex_go trivial ?_
                    repeat (refine lex_q rfl ⟨default, trivial⟩ ?_; go_big_quiet_step (fail); refine wpQuiet_nil ?_)
                    refine lex_nil ?_
                    go_wp2_with fail
                    go_ret3
                    rw [hfin.out]
                    exact ⟨_, rfl, OwnB.nil_ _ _ _, (Below.ext hb01 hbw).drew⟩
                · obtain rfl : j = 8 := by omega
                  have heq : headL body = (b.drop k).take 8 := by
                    have h1 := Htk.out
                    rw [List.take_of_length_le (by rw [Hhl.out]; omega), List.take_take] at h1
                    exact h1
                  have hfin := Lib.hid (nextL_ok hk8 (by rw [Hn.out]; omega) (by rw [Hn.out]; omega) (by rw [Hn.out, Hbody.out]; exact Hiff.out.1 heq))
                  clear heq
                  have hAr := ((hA2.ext hb1).ext hbw)
                  have hs0 := (Below.ext hb01 hbw).size
                  go_wp2_with (refine wpList_appB (o := ⟨some 95, _, _, _, _, _⟩) _ _ 23 5 w.heap.size [] body A2 n (c - (k + 8)) (.slice none 0 0) n rfl rfl Try.underlying23 (by kernel_rfl) rfl rfl (OwnB.nil_ _ _ _) hAr (by simp) (by simp; omega) hs0 ?_; intro A5 c5 w5 hown5 hgr5 hat5 hc51 hc52)
                  go_ret3
                  rw [hfin.out, Hn.out, Hbody.out]
                  refine ⟨_, ?_, hown5, OwnB.grow (OwnB.nil_ wr w.heap.size 5) hgr5 (Below.ext hb01 hbw) (Nat.le_refl _) hs0⟩
                  show Ending.returned (Value.tuple #[.slice A5 n c5, .int .i64 ((k : Int) + 8 + (n : Int)), .int .i64 0]) = _
                  rw [show (k : Int) + 8 + (n : Int) = ((k + 8 + n : Nat) : Int) by omega]
                  rfl
end Go.Proofs.Ytmakcggmaphanaa
