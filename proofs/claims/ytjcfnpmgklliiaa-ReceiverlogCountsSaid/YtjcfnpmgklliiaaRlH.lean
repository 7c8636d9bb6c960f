/-
  Law 30's sanity check.
-/
import Derived.Test.YtjcfnpmgklliiaaRlG
namespace Go.Proofs.Ytjcfnpmgklliiaa
open Go.RowKit
set_option maxRecDepth 100000
set_option linter.unusedVariables false
set_option linter.unusedSimpArgs false

theorem ld_jrn {w : World} {b : Nat} {x y : Value} (h : w.heap[b]? = some (.cells #[x, y] 70 (0, 0))) : (loadVar 70 ⟨b, 0, none⟩).run Try.prog w = .ok (.agg #[x, y]) w := run_ld_block h Try.underlying70 rfl (by kernel_rfl)
def ixDt (i : Int) : Dt := ⟨0, i, 0, 0, 0, 0, 0, 0, 0⟩
theorem ixDt_in (i : Int) (h : 0 ≤ i ∧ i ≤ 5) : DtIn (ixDt i) := by
  intro z hz
  simp [ixDt, Dt.l, Ev.l] at hz
  unfold InR
  omega
theorem whole_nil : WholeR ([] : List UInt8) [] := whole_frL [] (fun d hd => by cases hd)
set_option maxHeartbeats 8000000 in
theorem awake30_any (w : World) : Calls Try.prog 35 #[] w fun e w' => e = .returned (.bool true) ∧ Below w.heap.size w w' := by
  have h1in := ixDt_in 1 ⟨by omega, by omega⟩
  have h2in := ixDt_in 2 ⟨by omega, by omega⟩
  have HNEW := Lib.hid (rlnew_any w)
  go_enter Try.func35, Try.ntmps35
  go_wp2_with fail
  refine HNEW.out.mono ?_
  rintro e v1 ⟨A1, c1, rfl, J1, hb1⟩
  obtain ⟨W1, hW1, bW1, kW1, SW1, R1⟩ := boxD w v1 #[.slice A1 1 c1, .slice none 0 0] 70 hb1
  go_upto_region 2 with (refine wpList_store_new rfl 70 _ _ rfl 70 _ #[.slice A1 1 c1, .slice none 0 0] rfl rfl (by kernel_rfl) rfl (by simp [Value.oneCell']) ?_)
  rw [← hW1]
  clear hW1
  obtain ⟨p1, hp1⟩ : ∃ p1, p1 = v1.heap.size := ⟨_, rfl⟩
  rw [← hp1] at R1 SW1 ⊢
  have lt1 : p1 < W1.heap.size := by have := SW1.out; omega
  clear hp1 SW1
  have j1 := J1.ext kW1
  clear J1
  have hc := rlappend_any A1 c1 none 0 0 [] [] [] 0 _ W1 j1 (ixDt 1) h1in (by omega)
  have Hc2 := Lib.hid hc
  clear hc
  go_wp2_with (refine wpList_load_row rfl 70 _ rfl _ rfl 70 _ (0,0) _ R1.out Try.underlying70 rfl (by kernel_rfl) ?_)
  refine Hc2.out.mono ?_
  rintro e v2 ⟨A2, c2, B2, d2, rfl, J2, hb2⟩
  have z2 := hb2.size
  obtain ⟨W2, hW2, bW2, kW2, SW2, R2⟩ := boxD w v2 #[.slice A2 1 c2, .slice B2 1 d2] 70 (Below.ext bW1 hb2)
  go_upto_region 3 with (refine wpList_store_new rfl 70 _ _ rfl 70 _ #[.slice A2 1 c2, .slice B2 1 d2] rfl rfl (by kernel_rfl) rfl (by simp [Value.oneCell']) ?_)
  rw [← hW2]
  clear hW2
  obtain ⟨p2, hp2⟩ : ∃ p2, p2 = v2.heap.size := ⟨_, rfl⟩
  rw [← hp2] at R2 SW2 ⊢
  have lt2 : p2 < W2.heap.size := by have := SW2.out; omega
  clear hp2 SW2
  have y2 := Below.ext hb2 kW2
  have s2 := y2.size
  have R1_2 := Lib.hid ((y2.block p1 (by omega)).trans R1.out)
  have j1_2 := j1.ext y2
  have j2 := J2.ext kW2
  clear J2
  have hc := rlappend_any A2 c2 B2 1 d2 [] [] [ixDt 1] 1 _ W2 j2 (ixDt 2) h2in (by omega)
  have Hc3 := Lib.hid hc
  clear hc
  go_wp2_with (refine wpList_load_row rfl 70 _ rfl _ rfl 70 _ (0,0) _ R2.out Try.underlying70 rfl (by kernel_rfl) ?_)
  refine Hc3.out.mono ?_
  rintro e v3 ⟨A3, c3, B3, d3, rfl, J3, hb3⟩
  have z3 := hb3.size
  obtain ⟨W3, hW3, bW3, kW3, SW3, R3⟩ := boxD w v3 #[.slice A3 1 c3, .slice B3 2 d3] 70 (Below.ext bW2 hb3)
  go_upto_region 4 with (refine wpList_store_new rfl 70 _ _ rfl 70 _ #[.slice A3 1 c3, .slice B3 2 d3] rfl rfl (by kernel_rfl) rfl (by simp [Value.oneCell']) ?_)
  rw [← hW3]
  clear hW3
  obtain ⟨p3, hp3⟩ : ∃ p3, p3 = v3.heap.size := ⟨_, rfl⟩
  rw [← hp3] at R3 SW3 ⊢
  have lt3 : p3 < W3.heap.size := by have := SW3.out; omega
  clear hp3 SW3
  have y3 := Below.ext hb3 kW3
  have s3 := y3.size
  have R1_3 := Lib.hid ((y3.block p1 (by omega)).trans R1_2.out)
  have j1_3 := j1_2.ext y3
  have R2_3 := Lib.hid ((y3.block p2 (by omega)).trans R2.out)
  have j2_3 := j2.ext y3
  have j3 := J3.ext kW3
  clear J3
  have hc := rlwrite_any A3 c3 B3 2 d3 [] [] [ixDt 1, ixDt 2] 2 _ W3 1 j3
  rw [show wrN 1 2 = 1 from rfl] at hc
  have Hc4 := Lib.hid hc
  clear hc
  go_wp2_with (refine wpList_load_row rfl 70 _ rfl _ rfl 70 _ (0,0) _ R3.out Try.underlying70 rfl (by kernel_rfl) ?_)
  refine Hc4.out.mono ?_
  rintro e v4 ⟨A4, c4, B4, d4, rfl, J4, hb4⟩
  have z4 := hb4.size
  obtain ⟨W4, hW4, bW4, kW4, SW4, R4⟩ := boxD w v4 #[.slice A4 1 c4, .slice B4 1 d4] 70 (Below.ext bW3 hb4)
  go_upto_region 5 with (refine wpList_store_new rfl 70 _ _ rfl 70 _ #[.slice A4 1 c4, .slice B4 1 d4] rfl rfl (by kernel_rfl) rfl (by simp [Value.oneCell']) ?_)
  rw [← hW4]
  clear hW4
  obtain ⟨p4, hp4⟩ : ∃ p4, p4 = v4.heap.size := ⟨_, rfl⟩
  rw [← hp4] at R4 SW4 ⊢
  have lt4 : p4 < W4.heap.size := by have := SW4.out; omega
  clear hp4 SW4
  have y4 := Below.ext hb4 kW4
  have s4 := y4.size
  have R1_4 := Lib.hid ((y4.block p1 (by omega)).trans R1_3.out)
  have j1_4 := j1_3.ext y4
  have R2_4 := Lib.hid ((y4.block p2 (by omega)).trans R2_3.out)
  have j2_4 := j2_3.ext y4
  have R3_4 := Lib.hid ((y4.block p3 (by omega)).trans R3.out)
  have j3_4 := j3.ext y4
  have j4 := J4.ext kW4
  clear J4
  have w5 : WholeR (frL [] ++ tornL (frL [ixDt 1]) 0 []) [] := by
    have e : tornL (frL [ixDt 1]) 0 [] = [] := by unfold tornL; rw [maskL_nil]; rw [show keepN (frL [ixDt 1]) 0 = 0 by unfold keepN; omega]; rfl
    rw [e]
    exact whole_nil
  have hc := rlcrash_any A4 c4 B4 1 d4 [] [ixDt 1] [ixDt 2] 2 _ W4 j4 0 none 0 0 [] (fun _ => True) (Recs.nil_ _ _) (by omega) [] w5
  have Hc5 := Lib.hid hc
  clear hc
  go_wp2_with (refine wpList_load_row rfl 70 _ rfl _ rfl 70 _ (0,0) _ R4.out Try.underlying70 rfl (by kernel_rfl) ?_)
  refine Hc5.out.mono ?_
  rintro e v5 ⟨A5, c5, rfl, J5, hb5⟩
  have z5 := hb5.size
  obtain ⟨W5, hW5, bW5, kW5, SW5, R5⟩ := boxD w v5 #[.slice A5 1 c5, .slice none 0 0] 70 (Below.ext bW4 hb5)
  go_upto_region 6 with (refine wpList_store_new rfl 70 _ _ rfl 70 _ #[.slice A5 1 c5, .slice none 0 0] rfl rfl (by kernel_rfl) rfl (by simp [Value.oneCell']) ?_)
  rw [← hW5]
  clear hW5
  obtain ⟨p5, hp5⟩ : ∃ p5, p5 = v5.heap.size := ⟨_, rfl⟩
  rw [← hp5] at R5 SW5 ⊢
  have lt5 : p5 < W5.heap.size := by have := SW5.out; omega
  clear hp5 SW5
  have y5 := Below.ext hb5 kW5
  have s5 := y5.size
  have R1_5 := Lib.hid ((y5.block p1 (by omega)).trans R1_4.out)
  have j1_5 := j1_4.ext y5
  have R2_5 := Lib.hid ((y5.block p2 (by omega)).trans R2_4.out)
  have j2_5 := j2_4.ext y5
  have R3_5 := Lib.hid ((y5.block p3 (by omega)).trans R3_4.out)
  have j3_5 := j3_4.ext y5
  have R4_5 := Lib.hid ((y5.block p4 (by omega)).trans R4.out)
  have j4_5 := j4.ext y5
  have j5 := J5.ext kW5
  clear J5
  have hc := rlflush_any A4 c4 B4 1 d4 [] [ixDt 1] [ixDt 2] 2 _ W5 j4_5
  have Hc6 := Lib.hid hc
  clear hc
  go_wp2_with (refine wpList_load_row rfl 70 _ rfl _ rfl 70 _ (0,0) _ R4_5.out Try.underlying70 rfl (by kernel_rfl) ?_)
  refine Hc6.out.mono ?_
  rintro e v6 ⟨A6, c6, B6, d6, rfl, J6, hb6⟩
  have z6 := hb6.size
  obtain ⟨W6, hW6, bW6, kW6, SW6, R6⟩ := boxD w v6 #[.slice A6 1 c6, .slice B6 0 d6] 70 (Below.ext bW5 hb6)
  go_upto_region 7 with (refine wpList_store_new rfl 70 _ _ rfl 70 _ #[.slice A6 1 c6, .slice B6 0 d6] rfl rfl (by kernel_rfl) rfl (by simp [Value.oneCell']) ?_)
  rw [← hW6]
  clear hW6
  obtain ⟨p6, hp6⟩ : ∃ p6, p6 = v6.heap.size := ⟨_, rfl⟩
  rw [← hp6] at R6 SW6 ⊢
  have lt6 : p6 < W6.heap.size := by have := SW6.out; omega
  clear hp6 SW6
  have y6 := Below.ext hb6 kW6
  have s6 := y6.size
  have R1_6 := Lib.hid ((y6.block p1 (by omega)).trans R1_5.out)
  have j1_6 := j1_5.ext y6
  have R2_6 := Lib.hid ((y6.block p2 (by omega)).trans R2_5.out)
  have j2_6 := j2_5.ext y6
  have R3_6 := Lib.hid ((y6.block p3 (by omega)).trans R3_5.out)
  have j3_6 := j3_5.ext y6
  have R4_6 := Lib.hid ((y6.block p4 (by omega)).trans R4_5.out)
  have j4_6 := j4_5.ext y6
  have R5_6 := Lib.hid ((y6.block p5 (by omega)).trans R5.out)
  have j5_6 := j5.ext y6
  have j6 := J6.ext kW6
  clear J6
  have w7 : WholeR (frL [ixDt 1, ixDt 2] ++ tornL (frL []) 0 []) [ixDt 1, ixDt 2] := by
    have e : tornL (frL []) 0 [] = [] := by unfold tornL; rw [maskL_nil]; simp [frL]
    rw [e, List.append_nil]
    exact whole_frL _ (fun d hd => by simp at hd; rcases hd with h | h <;> subst h <;> assumption)
  have hc := rlcrash_any A6 c6 B6 0 d6 [ixDt 1, ixDt 2] [] [] 2 _ W6 j6 0 none 0 0 [] (fun _ => True) (Recs.nil_ _ _) (by omega) [ixDt 1, ixDt 2] w7
  have Hc7 := Lib.hid hc
  clear hc
  go_wp2_with (refine wpList_load_row rfl 70 _ rfl _ rfl 70 _ (0,0) _ R6.out Try.underlying70 rfl (by kernel_rfl) ?_)
  refine Hc7.out.mono ?_
  rintro e v7 ⟨A7, c7, rfl, J7, hb7⟩
  have z7 := hb7.size
  obtain ⟨W7, hW7, bW7, kW7, SW7, R7⟩ := boxD w v7 #[.slice A7 1 c7, .slice none 0 0] 70 (Below.ext bW6 hb7)
  go_upto_region 8 with (refine wpList_store_new rfl 70 _ _ rfl 70 _ #[.slice A7 1 c7, .slice none 0 0] rfl rfl (by kernel_rfl) rfl (by simp [Value.oneCell']) ?_)
  rw [← hW7]
  clear hW7
  obtain ⟨p7, hp7⟩ : ∃ p7, p7 = v7.heap.size := ⟨_, rfl⟩
  rw [← hp7] at R7 SW7 ⊢
  have lt7 : p7 < W7.heap.size := by have := SW7.out; omega
  clear hp7 SW7
  have y7 := Below.ext hb7 kW7
  have s7 := y7.size
  have R1_7 := Lib.hid ((y7.block p1 (by omega)).trans R1_6.out)
  have j1_7 := j1_6.ext y7
  have R2_7 := Lib.hid ((y7.block p2 (by omega)).trans R2_6.out)
  have j2_7 := j2_6.ext y7
  have R3_7 := Lib.hid ((y7.block p3 (by omega)).trans R3_6.out)
  have j3_7 := j3_6.ext y7
  have R4_7 := Lib.hid ((y7.block p4 (by omega)).trans R4_6.out)
  have j4_7 := j4_6.ext y7
  have R5_7 := Lib.hid ((y7.block p5 (by omega)).trans R5_6.out)
  have j5_7 := j5_6.ext y7
  have R6_7 := Lib.hid ((y7.block p6 (by omega)).trans R6.out)
  have j6_7 := j6.ext y7
  have j7 := J7.ext kW7
  clear J7
  have hc := rlcontents_any A3 c3 B3 2 d3 [] [] [ixDt 1, ixDt 2] 2 _ W7 j3_7 0 rfl
  have H8 := Lib.hid hc
  clear hc
  go_wp2_with (refine wpList_ldv (t := 70) (A := ⟨p3, 0, none⟩) rfl rfl rfl (ld_jrn R3_7.out) ?_)
  refine H8.out.mono ?_
  rintro e v8 ⟨A8, c8, rfl, _, hb8⟩
  have r5 := Lib.hid ((hb8.block p5 (by omega)).trans R5_7.out)
  have hc := rlcontents_any A5 c5 none 0 0 [] [] [] 2 _ v8 (j5_7.ext hb8) 0 rfl
  have H9 := Lib.hid hc
  clear hc
  have z8 := hb8.size
  go_wp2_with (refine wpList_ldv (t := 70) (A := ⟨p5, 0, none⟩) rfl rfl rfl (ld_jrn r5.out) ?_)
  refine H9.out.mono ?_
  rintro e v9 ⟨A9, c9, rfl, _, hb9⟩
  have r7 := Lib.hid ((hb9.block p7 (by omega)).trans ((hb8.block p7 (by omega)).trans R7.out))
  have hc := rlcontents_any A7 c7 none 0 0 [ixDt 1, ixDt 2] [] [] 2 _ v9 ((j7.ext hb8).ext hb9) 2 rfl
  have H10 := Lib.hid hc
  clear hc
  go_wp2_with (refine wpList_ldv (t := 70) (A := ⟨p7, 0, none⟩) rfl rfl rfl (ld_jrn r7.out) ?_)
  refine H10.out.mono ?_
  rintro e v10 ⟨A10, c10, rfl, _, hb10⟩
  go_wp2
  go_ret
  exact ⟨rfl, Below.ext bW7 (Below.ext hb8 (Below.ext hb9 hb10))⟩
end Go.Proofs.Ytjcfnpmgklliiaa
