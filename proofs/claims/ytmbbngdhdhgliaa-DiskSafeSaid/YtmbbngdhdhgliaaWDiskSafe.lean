/-
  The walk of the law DiskSafe: it returns true and writes nothing that was there. Conditions: what the row says of its arguments.
-/
import Derived.Test.YtmbbngdhdhgliaaDiskLaw
import Derived.Test.YtmbbngdhdhgliaaTears
import Derived.WalkKit
import Derived.ProofKit
import Derived.OpenShut
import Derived.ShutString
import Derived.Below
namespace Go.Proofs.Ytmbbngdhdhgliaa.diskSafe
open Go.ChangeShapes Go.WideShapes Go.ChangeAt Go.RowKit
open Go.ChangeMaps (open_string shut_string)
set_option linter.unusedVariables false
set_option maxRecDepth 100000

set_option maxHeartbeats 4000000 in
theorem walk (a0 : Option Addr) (len0 cap0 : Nat) (z0 : List Int) (a1 : Option Addr) (len1 cap1 : Nat) (z1 : List Int) (a2 : Option Addr) (len2 cap2 : Nat) (z2 : List Int) (w : World) (w0 : IsRow .u8 w a0 len0 cap0 z0) (w1 : IsRow .u8 w a1 len1 cap1 z1) (w2 : IsRow .u8 w a2 len2 cap2 z2) :
    Calls Try.prog 5 #[.slice a0 len0 cap0, .slice a1 len1 cap1, .slice a2 len2 cap2] w fun e w' => e = .returned (.bool true) ∧ Below w.heap.size w w' := by
  obtain ⟨codes, hk1, hk2, hk3, hkB⟩ := IsRow.bytes w0
  obtain ⟨safe, hs1, hs2, hs3, hsB⟩ := IsRow.bytes w1
  obtain ⟨more, hm1, hm2, hm3, hmB⟩ := IsRow.bytes w2
  clear w0 w1 w2
  have HS := Lib.hid hs1
  have HM := Lib.hid hm1
  clear hs1 hm1 hk1
  go_enter Try.func5, Try.ntmps5
  go_wp2_with fail
  refine (awake_any _).mono ?_
  rintro e w1 ⟨rfl, hb1⟩
  by_cases hlen : len1 ≤ 500
  · have dl : decide (500 < len1) = false := by simpa using hlen
    have dl' : decide ((500 : Int) < (len1 : Int)) = false := by simp; omega
    by_cases hlen2 : len2 ≤ 500
    · have dm : decide (500 < len2) = false := by simpa using hlen2
      have dm' : decide ((500 : Int) < (len2 : Int)) = false := by simp; omega
      go_wp2_with fail
      refine (codnew_any _ codes _ w1 100 (by omega) (hkB.ext hb1)).mono ?_
      rintro e w2 ⟨g, rfl, hC2, hb2⟩
      have hg1 := hC2.1
      have hg2 := hC2.lt
      have hnew := new_ok 2 (by omega) w2
      rw [show ((2 : Nat) : Int) = 2 from rfl] at hnew
      have Hnew := Lib.hid hnew
      clear hnew
      go_wp2_with fail
      refine (Hnew.out).mono ?_
      rintro e w3 ⟨A3, c3, rfl, hD3, hb3⟩
      have b3 := Below.ext hb1 (Below.ext hb2 hb3)
      have s1 := hb1.size
      have s2 := hb2.size
      have s3 := hb3.size
      have hC3 := hC2.ext hb3
      obtain ⟨D, hDd⟩ : ∃ D, D = w3.heap.size := ⟨_, rfl⟩
      obtain ⟨W, hW⟩ : ∃ W, W = w3.alloc (.cells #[.slice A3 2 c3] 24) := ⟨_, rfl⟩
      have hbW : Below w3.heap.size w3 W := by rw [hW]; exact (Below.refl _ _).alloc (Nat.le_refl _) _
      have hrD : W.heap[D]? = some (.cells #[.slice A3 2 c3] 24 (0, 0)) := by rw [hW, hDd]; exact heap_alloc_new _ _
      have hsW : W.heap.size = D + 1 := by rw [hW, hDd]; simp
      have hgD : g < D := by omega
      have hwg : w.heap.size ≤ g := by omega
      have hDW : Dsk (fun b => b ≠ g ∧ b ≠ D) W (.slice A3 2 c3) [zFil, zFil] := (hD3.mono (fun b hb h => ⟨by omega, by omega⟩)).ext hbW
      have hsW1 : By (fun b => b ≠ g ∧ b ≠ D) W (.slice a1 len1 cap1) safe := ((hsB.by_.ext b3).mono (fun b _ h => ⟨by omega, by omega⟩)).ext hbW
      have hap := append_ok A3 2 c3 [zFil, zFil] _ W hDW (by omega) 1 zFil rfl a1 len1 cap1 safe hsW1 (by show 0 + 0 + len1 ≤ _; omega)
      rw [show ((1 : Nat) : Int) = 1 from rfl] at hap
      have Hap := Lib.hid hap
      have bW := Below.ext b3 hbW
      have hCW := hC3.ext hbW
      have HrD := Lib.hid hrD
      have HD := Lib.hid hDd
      go_wp2_with fail
      rw [← hW, ← hDd]
      clear hap hDW hsW1 hD3 hW hrD hDd hC2 hC3 hb1 hb2 hb3 b3 hbW
      refine Hap.out.mono ?_
      rintro e w4 ⟨A4, c4, rfl, hD4, hb4⟩
      have hr4 := (hb4.block D (by omega)).trans HrD.out
      have Hr4 := Lib.hid hr4
      have s4 := hb4.size
      clear hr4
      obtain ⟨W5, hW5⟩ : ∃ W5, W5 = w4.setRow D #[.slice A4 2 c4] := ⟨_, rfl⟩
      have hr5 : W5.heap[D]? = some (.cells #[.slice A4 2 c4] 24 (0, 0)) := by rw [hW5]; exact setRow_heap _ _ _ _ _ _ Hr4.out
      have hg5 : w4.grownBy W5 (some D) := by rw [hW5]; exact grown_setRow _ _ _
      have b5 : Below w.heap.size w W5 := below_of_grown (Below.ext bW hb4) hg5 (by omega)
      have hs5 : W5.heap.size = w4.heap.size := by rw [hW5]; exact setRow_size _ _ _
      have hD5 : Dsk (fun b => b ≠ g ∧ b ≠ D) W5 (.slice A4 2 c4) [zFil, ⟨[], [] ++ safe⟩] := (hD4.mono (S' := fun b => b ≠ g ∧ b ≠ D) (fun b _ h => by rcases h with h | h; exact h; omega)).keep (fun b hb hs => hg5.block b hb (by simpa using hs.2))
      have hC5 := (hCW.ext hb4).grown hg5 (fun m hm => by cases hm; omega)
      have q5 : (w4.setRow D #[.slice A4 2 c4]).cell? ⟨D, 0, none⟩ = some (.slice A4 2 c4) := by rw [← hW5, cell_of_row _ _ _ _ _ _ hr5]; rfl
      go_wp2_with (refine wpList_store_row rfl 24 _ _ rfl D 24 _ _ rfl rfl Hr4.out (by kernel_rfl) rfl (by simp [Value.oneCell']) ?_)
      have hsy := sync_ok A4 2 c4 _ _ W5 hD5 (by omega) 1 ⟨[], [] ++ safe⟩ rfl (by have := HS.out; simp; omega)
      rw [show ((1 : Nat) : Int) = 1 from rfl] at hsy
      have Hsy := Lib.hid hsy
      have HR5 := Lib.hid hr5
      clear hsy hD4 hD5 hCW hr5
      rw [← hW5]
      clear hW5 q5
      refine Hsy.out.mono ?_
      rintro e w6 ⟨A6, c6, rfl, hD6, hb6⟩
      have s6 := hb6.size
      obtain ⟨E, hE⟩ : ∃ E, E = w6.heap.size := ⟨_, rfl⟩
      obtain ⟨W7, hW7⟩ : ∃ W7, W7 = w6.alloc (.cells #[.slice A6 2 c6] 24) := ⟨_, rfl⟩
      have hbW7 : Below w6.heap.size w6 W7 := by rw [hW7]; exact (Below.refl _ _).alloc (Nat.le_refl _) _
      have hrE : W7.heap[E]? = some (.cells #[.slice A6 2 c6] 24 (0, 0)) := by rw [hW7, hE]; exact heap_alloc_new _ _
      have hs7 : W7.heap.size = E + 1 := by rw [hW7, hE]; simp
      have b57 := Below.ext hb6 hbW7
      have b7 := Below.ext b5 b57
      have hC7 := hC5.ext b57
      have hD7 : Dsk (fun b => b ≠ g ∧ b ≠ D) W7 (.slice A6 2 c6) [zFil, ⟨[] ++ ([] ++ safe), []⟩] := (hD6.mono (S' := fun b => b ≠ g ∧ b ≠ D) (fun b _ h => by rcases h with h | h; exact h; omega)).ext hbW7
      have hDE : D < E := by omega
      have hr7 := (b57.block D (by omega)).trans HR5.out
      have Hr7 := Lib.hid hr7
      have HrE := Lib.hid hrE
      go_wp2_with fail
      rw [← hW7, ← hE]
      clear hW7 hE hr7 hrE hD6 hC5 b5 b57 hb6 hb4
      have htr := tears_any w1.heap.size g 2 W7 hC7 (by omega)
      rw [show ((2 : Nat) : Int) = 2 from rfl] at htr
      refine htr.mono ?_
      rintro e w8 ⟨A8, c8, ts, rfl, hT8, hC8, hg8⟩
      have s8 := hg8.size
      have b8 : Below w.heap.size w w8 := below_of_grown b7 hg8 hwg
      have hD8 : Dsk (fun b => b ≠ g ∧ b ≠ D) w8 (.slice A6 2 c6) [zFil, ⟨[] ++ ([] ++ safe), []⟩] := hD7.keep (fun b hb hs => hg8.block b hb (by simpa using hs.1))
      have hrE8 := (hg8.block E (by omega) (by simp; omega)).trans HrE.out
      have hrD8 := (hg8.block D (by omega) (by simp; omega)).trans Hr7.out
      have qE8 : w8.cell? ⟨E, 0, none⟩ = some (.slice A6 2 c6) := by rw [cell_of_row _ _ _ _ _ _ hrE8]; rfl
      have HrE8 := Lib.hid hrE8
      have HrD8 := Lib.hid hrD8
      clear hrE8 hrD8 hD7 hC7 htr
      go_wp2_with fail
      refine (crash_any A6 2 c6 _ _ w8 hD8 (by omega) _ 2 c8 ts _ hT8 (by intro f hf; have := HS.out; simp [zFil] at hf; rcases hf with rfl | rfl <;> simp; omega)).mono ?_
      rintro e w9 ⟨A9, c9, rfl, hD9, hb9⟩
      rw [crash_two, tornL_nil, List.append_nil, List.nil_append, List.nil_append] at hD9
      have hrd := read_ok A9 2 c9 _ _ w9 hD9 (by omega) 1 ⟨safe, []⟩ rfl (by have := HS.out; simp; omega)
      rw [show ((1 : Nat) : Int) = 1 from rfl] at hrd
      simp only [List.append_nil, List.length_nil, Nat.add_zero, HS.out] at hrd
      have Hrd := Lib.hid hrd
      clear hrd
      go_wp2_with fail
      refine (Hrd.out).mono ?_
      rintro e w10 ⟨A10, c10, rfl, hx10, hb10⟩
      have b810 := Below.ext hb9 hb10
      have s10 := b810.size
      have s89 := hb9.size
      have hX := hx10.recs.mono (S' := fun b => b ≠ g ∧ b ≠ D) (fun b _ h => ⟨by omega, by omega⟩)
      have hD10 := hD8.ext b810
      have hT10 := (hT8.mono (S' := fun b => b ≠ g ∧ b ≠ D) (fun b _ h => ⟨by omega, by omega⟩)).ext b810
      have hC10 := hC8.ext b810
      have b10 := Below.ext b8 b810
      have hrE10 := (b810.block E (by omega)).trans HrE8.out
      have hrD10 := (b810.block D (by omega)).trans HrD8.out
      have qE10 : w10.cell? ⟨E, 0, none⟩ = some (.slice A6 2 c6) := by rw [cell_of_row _ _ _ _ _ _ hrE10]; rfl
      have HrE10 := Lib.hid hrE10
      have HrD10 := Lib.hid hrD10
      have hmW1 : By (fun b => b ≠ g ∧ b ≠ D) w10 (.slice a2 len2 cap2) more := (hmB.by_.ext b10).mono (fun b _ h => ⟨by omega, by omega⟩)
      have hap2 := append_ok A6 2 c6 _ _ w10 hD10 (by omega) 1 _ rfl a2 len2 cap2 more hmW1 (by have := HS.out; simp; omega)
      rw [show ((1 : Nat) : Int) = 1 from rfl] at hap2
      have Hap2 := Lib.hid hap2
      clear hap2 hD8 hD9 hD10 hT8 hC8 hrE10 hrD10 hx10 hb9 hb10 b8 hmW1 qE8
      go_wp2_with fail
      refine Hap2.out.mono ?_
      rintro e w11 ⟨A11, c11, rfl, hD11, hb11⟩
      have hr11 := (hb11.block D (by omega)).trans HrD10.out
      have Hr11 := Lib.hid hr11
      have s11 := hb11.size
      clear hr11 qE10
      obtain ⟨W12, hW12⟩ : ∃ W12, W12 = w11.setRow D #[.slice A11 2 c11] := ⟨_, rfl⟩
      have hr12 : W12.heap[D]? = some (.cells #[.slice A11 2 c11] 24 (0, 0)) := by rw [hW12]; exact setRow_heap _ _ _ _ _ _ Hr11.out
      have hg12 : w11.grownBy W12 (some D) := by rw [hW12]; exact grown_setRow _ _ _
      have b12 : Below w.heap.size w W12 := below_of_grown (Below.ext b10 hb11) hg12 (by omega)
      have hs12 : W12.heap.size = w11.heap.size := by rw [hW12]; exact setRow_size _ _ _
      have hk12 : Keep (fun b => b ≠ g ∧ b ≠ D) w11 W12 := fun b hb hs => hg12.block b hb (by simpa using hs.2)
      have hD12 : Dsk (fun b => b ≠ g ∧ b ≠ D) W12 (.slice A11 2 c11) [zFil, ⟨[] ++ ([] ++ safe), [] ++ more⟩] := (hD11.mono (S' := fun b => b ≠ g ∧ b ≠ D) (fun b _ h => by rcases h with h | h; exact h; omega)).keep hk12
      have hC12 := (hC10.ext hb11).grown hg12 (fun m hm => by cases hm; omega)
      have hX12 := (hX.ext hb11).keep hk12
      have hT12 := (hT10.ext hb11).keep hk12
      have q12 : (w11.setRow D #[.slice A11 2 c11]).cell? ⟨D, 0, none⟩ = some (.slice A11 2 c11) := by rw [← hW12, cell_of_row _ _ _ _ _ _ hr12]; rfl
      clear hr12 hD11 hC10 hX hT10 hb11 b10
      go_wp2_with (refine wpList_store_row rfl 24 _ _ rfl D 24 _ _ rfl rfl Hr11.out (by kernel_rfl) rfl (by simp [Value.oneCell']) ?_)
      rw [← hW12]
      clear hW12 q12
      refine (crash_any A11 2 c11 _ _ W12 hD12 (by omega) _ 2 c8 ts _ hT12 (by intro f hf; have := HS.out; have := HM.out; simp [zFil] at hf; rcases hf with rfl | rfl <;> simp; omega)).mono ?_
      rintro e w13 ⟨A13, c13, rfl, hD13, hb13⟩
      rw [crash_two, List.nil_append, List.nil_append, List.nil_append] at hD13
      have hto : (tornL more (tearOf ts 1).keep (tearOf ts 1).lost).length ≤ len2 := by rw [tornL_len, ← HM.out]; exact keepN_le _ _
      generalize tornL more (tearOf ts 1).keep (tearOf ts 1).lost = T at *
      have s13 := hb13.size
      obtain ⟨F, hF⟩ : ∃ F, F = w13.heap.size := ⟨_, rfl⟩
      obtain ⟨W14, hW14⟩ : ∃ W14, W14 = w13.alloc (.cells #[.slice A13 2 c13] 24) := ⟨_, rfl⟩
      have hb14 : Below w13.heap.size w13 W14 := by rw [hW14]; exact (Below.refl _ _).alloc (Nat.le_refl _) _
      have hrF : W14.heap[F]? = some (.cells #[.slice A13 2 c13] 24 (0, 0)) := by rw [hW14, hF]; exact heap_alloc_new _ _
      have hs14 : W14.heap.size = F + 1 := by rw [hW14, hF]; simp
      have hgF : g < F := by omega
      have b1214 := Below.ext hb13 hb14
      have b14 := Below.ext b12 b1214
      have hC14 := hC12.ext b1214
      have hX14 := hX12.ext b1214
      have hD14 : Dsk (fun b => b ≠ g) W14 (.slice A13 2 c13) [zFil, ⟨safe ++ T, []⟩] := (hD13.mono (S' := fun b => b ≠ g) (fun b _ h => by omega)).ext hb14
      have HrF := Lib.hid hrF
      have hrd2 := read_ok A13 2 c13 _ _ W14 hD14 (by omega) 1 ⟨safe ++ T, []⟩ rfl (by have := HS.out; simp; omega)
      rw [show ((1 : Nat) : Int) = 1 from rfl] at hrd2
      simp only [List.append_nil, List.length_nil, Nat.add_zero, List.length_append, HS.out] at hrd2
      have Hrd2 := Lib.hid hrd2
      go_wp2_with fail
      rw [← hW14, ← hF]
      clear hW14 hF hrF hrd2 hD13 hD12 hT12 hC12 hX12 hb13 hb14 b12
      refine Hrd2.out.mono ?_
      rintro e w15 ⟨A15, c15, rfl, hy15, hb15⟩
      have s15 := hb15.size
      have hY15 := hy15.recs.mono (S' := fun b => b ≠ g) (fun b _ h => by omega)
      have b15 := Below.ext b14 hb15
      have hC15 := hC14.ext hb15
      have hX15 := (hX14.mono (S' := fun b => b ≠ g) (fun b _ h => h.1)).ext hb15
      have hD15 := hD14.ext hb15
      have hrF15 := (hb15.block F (by omega)).trans HrF.out
      have HrF15 := Lib.hid hrF15
      clear hrF15 hb15 hC14 hX14 hD14 b14 hy15
      go_wp2_with fail
      refine wp_region_lexL (fun w' => w'.heap[F]? = some (.cells #[.slice A13 2 c13] 24 (0, 0))) (by kernel_rfl) (by kernel_rfl) HrF15.out ?_
      repeat (first | (refine lexL_q0 rfl ?_; go_big_quiet_step (fail); refine wpQuiet_nil ?_) | (refine lexL_skip0 rfl rfl ?_; simp only [Act.put, List.setIfInBounds_toArray, List.set_cons_succ, List.set_cons_zero]))
      refine lexL_ld (⟨F, 0, none⟩) (.agg #[.slice A13 2 c13]) rfl rfl rfl (fun w' hw' => run_ld_block hw' Try.underlying24 rfl (by kernel_rfl)) ?_
      simp only [Act.put, List.setIfInBounds_toArray, List.set_cons_succ, List.set_cons_zero]
      repeat (first | (refine lexL_q0 rfl ?_; go_big_quiet_step (fail); refine wpQuiet_nil ?_) | (refine lexL_skip0 rfl rfl ?_; simp only [Act.put, List.setIfInBounds_toArray, List.set_cons_succ, List.set_cons_zero]))
      refine lexL_e rfl ?_
      go_wp2_with fail
      have htr2 := tears_any w1.heap.size g 2 w15.drew hC15.drew (by omega)
      rw [show ((2 : Nat) : Int) = 2 from rfl] at htr2
      refine htr2.mono ?_
      rintro e w16 ⟨A16, c16, ts2, rfl, hT16, hC16, hg16'⟩
      have hg16 : w15.grownBy w16 (some g) := ⟨hg16'.os, hg16'.tape, hg16'.output, hg16'.size, hg16'.block⟩
      have s16 := hg16.size
      have b16 : Below w.heap.size w w16 := below_of_grown b15 hg16 hwg
      have hk16 : Keep (fun b => b ≠ g) w15 w16 := fun b hb hs => hg16.block b hb (by simpa using hs)
      have hX16 := hX15.keep hk16
      have hY16 := hY15.keep hk16
      have hD16 := hD15.keep hk16
      have hF16 := (hg16.block F (by omega) (by simp; omega)).trans HrF15.out
      have HF16 := Lib.hid hF16
      clear htr2 hF16 hg16' hX15 hY15 hD15 hC15 hk16
      go_wp2_with fail
      refine lexL_go (HF16.out) ?_
      repeat (first | (refine lexL_q0 rfl ?_; go_big_quiet_step (fail); refine wpQuiet_nil ?_) | (refine lexL_skip0 rfl rfl ?_; simp only [Act.put, List.setIfInBounds_toArray, List.set_cons_succ, List.set_cons_zero]))
      refine lexL_e rfl ?_
      go_wp2_with fail
      refine (crash_any A13 2 c13 _ _ w16 hD16 (by omega) _ 2 c16 ts2 _ hT16 (by intro f hf; have := HS.out; simp [zFil] at hf; rcases hf with rfl | rfl <;> simp; omega)).mono ?_
      rintro e w17 ⟨A17, c17, rfl, hD17, hb17⟩
      rw [crash_two, tornL_nil, List.append_nil] at hD17
      have s17 := hb17.size
      have hrd3 := read_ok A17 2 c17 _ _ w17 hD17 (by omega) 1 ⟨safe ++ T, []⟩ rfl (by have := HS.out; simp; omega)
      rw [show ((1 : Nat) : Int) = 1 from rfl] at hrd3
      simp only [List.append_nil, List.length_nil, Nat.add_zero, List.length_append, HS.out] at hrd3
      have Hrd3 := Lib.hid hrd3
      clear hrd3
      go_wp2_with fail
      refine lexL_go ((hb17.block F (by omega)).trans HF16.out) ?_
      repeat (first | (refine lexL_q0 rfl ?_; go_big_quiet_step (fail); refine wpQuiet_nil ?_) | (refine lexL_skip0 rfl rfl ?_; simp only [Act.put, List.setIfInBounds_toArray, List.set_cons_succ, List.set_cons_zero]))
      refine lexL_e rfl ?_
      go_wp2_with fail
      refine Hrd3.out.mono ?_
      rintro e w18 ⟨A18, c18, rfl, hz18, hb18⟩
      have s18 := hb18.size
      have b1618 := Below.ext hb17 hb18
      have b18 := Below.ext b16 b1618
      have hX18 := hX16.ext b1618
      have hY18 := hY16.ext b1618
      go_wp2_with fail
      refine lexL_go ((b1618.block F (by omega)).trans HF16.out) ?_
      repeat (first | (refine lexL_q0 rfl ?_; go_big_quiet_step (fail); refine wpQuiet_nil ?_) | (refine lexL_skip0 rfl rfl ?_; simp only [Act.put, List.setIfInBounds_toArray, List.set_cons_succ, List.set_cons_zero]))
      refine lexL_nil ?_
      go_wp2_with fail
      clear hX16 hY16 hD16 hT16 hC16 hb17 hb18 hD17 b16
      have hZ18 := hz18.recs
      have hly := hY18.len
      have d3 : decide (len1 ≤ len1 + T.length) = true := by simp
      have d4 : decide (len1 + T.length ≤ len1 + len2) = true := by simp; omega
      have hyt := hY18.take_ encB_len (j := len1) (by omega)
      rw [← HS.out, List.take_left, HS.out] at hyt
      have hsafe := hsB.by_.ext b18
      go_wp2_with fail
      refine (samebytes_eq _ _ safe _ _ w18 hX18 hsafe).mono ?_
      rintro e w19 ⟨rfl, hb19⟩
      go_wp2_with fail
      refine (samebytes_eq _ _ safe _ _ w19 (hyt.ext hb19) (hsafe.ext hb19)).mono ?_
      rintro e w20 ⟨rfl, hb20⟩
      have b1820 := Below.ext hb19 hb20
      go_wp2_with fail
      refine (samebytes_eq _ _ (safe ++ T) _ _ w20 (hY18.ext b1820) (hZ18.ext b1820)).mono ?_
      rintro e w21 ⟨rfl, hb21⟩
      go_wp2
      go_ret
      exact ⟨rfl, Below.ext b18 (Below.ext b1820 hb21)⟩
    · have dm : decide (500 < len2) = true := by simp; omega
      have dm' : decide ((500 : Int) < (len2 : Int)) = true := by simp; omega
      go_wp2
      go_ret
      exact ⟨rfl, hb1⟩
  · have dl : decide (500 < len1) = true := by simp; omega
    have dl' : decide ((500 : Int) < (len1 : Int)) = true := by simp; omega
    go_wp2
    go_ret
    exact ⟨rfl, hb1⟩
end Go.Proofs.Ytmbbngdhdhgliaa.diskSafe
