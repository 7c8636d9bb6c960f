/-
  disk.survivors.
-/
import Derived.Test.YtmbbngdhdhgliaaTorn
import Derived.Test.YtmbbngdhdhgliaaCloneB
namespace Go.Proofs.Ytmbbngdhdhgliaa
open Go.RowKit
set_option maxRecDepth 100000
set_option linter.unusedVariables false

def encZ (z : Int) : List Value := [.int .i64 z]
theorem encZ_len (z : Int) : (encZ z).length = 1 := rfl
theorem encZ_one (z : Int) : ∀ u ∈ encZ z, u.oneCell' = true := by
  intro u hu
  simp [encZ] at hu
  subst hu
  rfl

set_option maxHeartbeats 4000000 in
theorem survivors_any (Ap : Option Addr) (np cp : Nat) (p : List UInt8) (Sp : Nat → Prop) (keep : Int) (Al : Option Addr) (nl cl : Nat) (lost : List Int) (Sl : Nat → Prop) (w : World) (hp : By Sp w (.slice Ap np cp) p) (hl : Recs encZ Sl w (.slice Al nl cl) lost) (hn : np ≤ 10000000) :
    Calls Try.prog 25 #[.slice Ap np cp, .agg #[.int .i64 keep, .slice Al nl cl]] w fun e w' => ∃ A' c', e = .returned (.slice A' (keepN p keep) c') ∧ OwnR encB 1 w' w.heap.size 5 (.slice A' (keepN p keep) c') (tornL p keep lost) ∧ Below w.heap.size w w' := by
  obtain ⟨hp1, hp2, hp3⟩ := hp.len
  obtain ⟨hl1, hl2, hl3⟩ := hl.len
  have hN := keepN_le p keep
  obtain ⟨N, hNe⟩ : ∃ N, keepN p keep = N := ⟨_, rfl⟩
  have hNN : (min (max keep 0) (np : Int)) = (N : Int) := by rw [← hNe, ← hp1]; unfold keepN; omega
  unfold tornL
  rw [hNe] at hN ⊢
  have htl : (p.take N).length = N := by rw [List.length_take]; omega
  have hNp : N ≤ np := by omega
  have HL := Lib.hid hl1
  have HTL := Lib.hid htl
  clear hp1 hl1 hNe htl hN
  have hmax := fun w => run_max2 (P := Try.prog) w #[3, 3] 3 keep 0
  have hmin := fun w => run_min2 (P := Try.prog) w #[3, 3] 3 (max keep 0) (np : Int)
  rw [hNN] at hmin
  clear hNN
  have hba : Below w.heap.size w (w.alloc (.cells #[.int .i64 keep, .slice Al nl cl] 39)) := (Below.refl _ w).alloc (Nat.le_refl _) _
  go_enter Try.func25, Try.ntmps25
  go_wp2_with fail
  clear hmax hmin
  obtain ⟨W, hW⟩ : ∃ W, W = w.alloc (.cells #[.int .i64 keep, .slice Al nl cl] 39) := ⟨_, rfl⟩
  have q1 : W.cell? ⟨w.heap.size, 1, none⟩ = some (.slice Al nl cl) := by rw [hW]; go_simp
  rw [← hW] at hba
  rw [← hW]
  clear hW
  refine (cloneB Ap N cp (p.take N) _ W ((hp.ext hba).take_ encB_len hNp) (by omega)).mono ?_
  rintro e w1 ⟨A1, c1, rfl, hown1, hb1⟩
  have q1' := (hb1.cell (p := ⟨w.heap.size, 1, none⟩) (block_lt_of_cell q1)).trans q1
  clear q1
  have hbb := Below.ext hba hb1
  have hlo := hown1.len
  have hszb := hba.size
  have hown1' := hown1.weak hszb
  have hsz1 := hbb.size
  obtain ⟨lo2, lo3⟩ := hlo.2
  clear hlo hown1
  go_wp2
  go_loopw [26] (fun v wr => ∃ j : Nat, v = .int .i64 j ∧ j ≤ nl ∧ OwnR encB 1 wr w.heap.size 5 (.slice A1 N c1) (maskL (p.take N) (lost.take j)) ∧ Below w.heap.size w wr) (fun v _ => nl - (intOf v).toNat)
  case atStart => exact ⟨0, rfl, by omega, by rw [List.take_zero, maskL_nil]; exact hown1', hbb⟩
  case round =>
    obtain ⟨j, rfl, hj, hown, hbr⟩ := hrel
    clear q1' hown1'
    by_cases hlt : j < nl
    · obtain ⟨b, off, z, rfl, _, hb, hz, hc⟩ := (hl.ext hbr).at_ encZ_len (j := j) (by have := HL.out; omega) (by omega)
      have q0 := hc 0 _ rfl
      rw [Nat.mul_one, Nat.add_zero] at q0
      have htk : lost.take (j + 1) = lost.take j ++ [z] := by rw [List.take_add_one, hz]; rfl
      have Htk := Lib.hid htk
      clear hc hz htk
      by_cases hz0 : 0 ≤ z
      · have d0 : decide (0 ≤ z) = true := by simpa using hz0
        by_cases hz1 : z < ((N : Int) + 16 - 1) / 16
        · have d1 : decide (z < ((N : Int) + 16 - 1) / 16) = true := by simpa using hz1
          obtain ⟨n, rfl⟩ := Int.eq_ofNat_of_zero_le hz0
          have hnN : n * 16 < N := by omega
          obtain ⟨g, rfl, hg1, hg2⟩ := hown.some_ (by rw [maskL_len, HTL.out]; omega)
          obtain ⟨e, he⟩ : ∃ e, e = min ((n + 1) * 16) N := ⟨_, rfl⟩
          have he1 : n * 16 < e := by omega
          have he2 : e ≤ N := by omega
          have hmin := fun w => run_min2 (P := Try.prog) w #[3, 3] 3 (((n : Int) + 1) * 16) (N : Int)
          rw [show min (((n : Int) + 1) * 16) (N : Int) = (e : Int) by omega] at hmin
          have hcl := run_clearB hown (n * 16) (e - n * 16) (c1 - n * 16) (by omega) (by omega)
          have hown2 := OwnR.zr_ (e - n * 16) wr _ (n * 16) hown
          rw [mask_step (p.take N) (lost.take j) n e (by rw [HTL.out]; exact he) (by rw [HTL.out]; omega)] at hown2
          have hb2 : Below w.heap.size w (wr.setCells g (n * 16) (List.replicate (e - n * 16) (.int .u8 0))) := Below.grow hbr (grown_cells g _ _ _) hg1
          have Hown2 := Lib.hid hown2
          have hcn : ¬ c1 = n * 16 := by omega
          clear he hown2 hz1
          go_wp2
          go_roundw
          case rel => exact ⟨j + 1, by go_num, by omega, by rw [Htk.out]; exact Hown2.out, hb2⟩
          case measure => simp [intOf]; omega
        · have d1 : decide (z < ((N : Int) + 16 - 1) / 16) = false := by simpa using hz1
          have hsm : maskL (p.take N) (lost.take j ++ [z]) = maskL (p.take N) (lost.take j) := mask_same _ _ _ (.inr (by rw [HTL.out]; omega))
          have Hsm := Lib.hid hsm
          clear hsm hz1
          go_wp2
          go_roundw
          case rel => exact ⟨j + 1, by go_num, by omega, by rw [Htk.out, Hsm.out]; exact hown, hbr⟩
          case measure => simp [intOf]; omega
      · have d0 : decide (0 ≤ z) = false := by simpa using hz0
        have hsm : maskL (p.take N) (lost.take j ++ [z]) = maskL (p.take N) (lost.take j) := mask_same _ _ _ (.inl (by omega))
        have Hsm := Lib.hid hsm
        clear hsm
        go_wp2
        go_roundw
        case rel => exact ⟨j + 1, by go_num, by omega, by rw [Htk.out, Hsm.out]; exact hown, hbr⟩
        case measure => simp [intOf]; omega
    · obtain rfl : j = nl := by omega
      go_wp2
      go_ret
      rw [← HL.out, List.take_length] at hown
      exact ⟨_, _, rfl, hown, hbr⟩
end Go.Proofs.Ytmbbngdhdhgliaa
