/-
  The drawer of choices: a list of bytes.
-/
import Derived.Test.YtmbbngdhdhgliaaDraw
namespace Go.Proofs.Ytmbbngdhdhgliaa
open Go.RowKit
set_option maxRecDepth 100000
set_option linter.unusedVariables false
theorem one_byte (w : World) (t : TypeId) (x : Nat) (hx : x < 256) : Bytes (fun _ => True) (w.alloc (.cells #[.int .u8 (x : Int)] t)) (.slice (some ⟨w.heap.size, 0, none⟩) 1 1) [UInt8.ofNat x] :=
  Bytes.lit (S := fun _ => True) w _ _ _ _ 1 1 trivial rfl (by omega) (by simp [maxLen]) (by simp [bv_def]; omega)

set_option maxHeartbeats 400000 in
theorem codbytes_any (B g most : Nat) (w : World) (h : Cod B w g) (hm : most ≤ 1000) :
    Calls Try.prog 23 #[.pointer (some ⟨g, 0, none⟩), .int .i64 (most : Int)] w fun e w' => ∃ v l, e = .returned v ∧ l.length ≤ most ∧ OwnB w' w.heap.size 5 v l ∧ Cod B w' g ∧ w.grownBy w' (some g) := by
  have hglt := h.lt
  go_enter Try.func23, Try.ntmps23
  go_wp2_with fail
  refine (codnext_any B g (most + 1) _ h (by omega) (by omega)).mono ?_
  rintro e w1 ⟨n, rfl, hn, hC1, hg1⟩
  clear h
  go_wp2
  go_loopw [5, 6] (fun v i wr => ∃ (j : Nat) (A : Option Addr) (c : Nat) (l : List UInt8), i = .int .i64 j ∧ v = .slice A l.length c ∧ l.length + j = n ∧ OwnB wr w.heap.size 5 (.slice A l.length c) l ∧ Cod B wr g ∧ w.grownBy wr (some g)) (fun _ i _ => (intOf i).toNat)
  case atStart => exact ⟨n, none, 0, [], rfl, rfl, by simp, OwnB.nil_ _ _ _, hC1, hg1⟩
  case round =>
    obtain ⟨j, A, c, l, rfl, rfl, hlj, hown, hC, hgr⟩ := hrel
    have hlj' : l.length + j ≤ n := by omega
    have Hlj := Lib.hid hlj
    clear hlj
    by_cases hlt : 0 < j
    · go_wp2_with fail
      refine (codnext_any B g 256 _ hC (by omega) (by omega)).mono ?_
      rintro e w2 ⟨x, rfl, hx, hC2, hg2⟩
      have hsz := hgr.size
      have hown2 := hown.kept hg2 (by
        rcases Option.eq_none_or_eq_some (Value.slice A l.length c).ownBlock with h0 | ⟨m, h0⟩
        · exact .inl h0
        · refine .inr (fun e => ?_)
          rw [h0] at e
          cases e
          have := (World.ownsRow.lt hown _ h0).1
          omega)
      go_wp2_with (refine wpList_appB (D := fun _ => True) (o := ⟨some 20, _, _, _, _, _⟩) _ _ 30 5 w.heap.size l [UInt8.ofNat x] (some ⟨w2.heap.size, 0, none⟩) 1 1 (.slice A l.length c) (l.length + 1) rfl rfl Try.underlying30 (by kernel_rfl) rfl rfl (hown2.ext ((Below.refl _ _).alloc (Nat.le_refl _) _)) ?c1 rfl (by omega) ?c2 ?_; rotate_left; rotate_left; intro A5 c5 w5 hown5 hgr5 hat5 hc51 hc52)
      case c1 => exact one_byte w2 _ x hx
      case c2 => have := hg2.size; simp; omega
      obtain ⟨hC5, hg5⟩ := app_step _ hglt hgr hg2 hC2 hgr5 (fun m hm => (World.ownsRow.lt hown2 m hm).1)
      have e : (l ++ [UInt8.ofNat x]).length = l.length + 1 := by simp
      go_roundw
      case rel => exact ⟨j - 1, A5, c5, l ++ [UInt8.ofNat x], by congr 1; omega, by rw [e], by have := Hlj.out; omega, by rw [e]; exact hown5, hC5, hg5⟩
      case measure => simp [intOf]; omega
    · obtain rfl : j = 0 := by omega
      go_wp2
      go_ret
      exact ⟨_, l, rfl, by omega, hown, hC, hgr⟩
end Go.Proofs.Ytmbbngdhdhgliaa
