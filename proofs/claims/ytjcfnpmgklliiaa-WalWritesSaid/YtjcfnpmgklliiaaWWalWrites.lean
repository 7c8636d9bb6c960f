/-
  The walk of the law WalWrites: it returns true and writes nothing that was there. Conditions: what the row says of its arguments.
-/
import Derived.Test.YtjcfnpmgklliiaaWalH
namespace Go.Proofs.Ytjcfnpmgklliiaa.walWrites
open Go.RowKit
set_option maxRecDepth 100000
set_option linter.unusedVariables false

set_option maxHeartbeats 8000000 in
theorem walk (A0 : Option Addr) (n0 c0 : Nat) (l : List Dt) (file : Int) (a2 : Option Addr) (len2 cap2 : Nat) (old : List UInt8) (S0 S2 : Nat → Prop) (w : World) (hl : Recs encDt S0 w (.slice A0 n0 c0) l) (hin : ∀ d ∈ l, DtIn d) (hfile : InR file) (ho : Bytes S2 w (.slice a2 len2 cap2) old) :
    Calls Try.prog 4 #[.slice A0 n0 c0, .int .i64 file, .slice a2 len2 cap2] w fun e w' => e = .returned (.bool true) ∧ Below w.heap.size w w' := by
  have HL := Lib.hid hl.len
  have HO := Lib.hid ho.len
  have HIN := Lib.hid hin
  clear hin
  go_enter Try.func4, Try.ntmps4
  go_wp2_with fail
  refine (awake12_any _).mono ?_
  rintro e w1 ⟨rfl, hb1⟩
  by_cases h1 : n0 ≤ 60
  · have d1 : decide (60 < n0) = false := by simpa using h1
    have d1' : decide ((60 : Int) < (n0 : Int)) = false := by simp; omega
    by_cases h2 : len2 ≤ 1000
    · have d2 : decide (1000 < len2) = false := by simpa using h2
      have d2' : decide ((1000 : Int) < (len2 : Int)) = false := by simp; omega
      have hfl := frL_len l HIN.out
      have hfl2 : (frL l).length ≤ 30000 := by have := HL.out.1; omega
      have HFL := Lib.hid hfl2
      clear hfl hfl2
      have hO1 : By (fun _ => True) w1 (.slice a2 len2 cap2) old := ((ho.ext hb1).by_).mono (fun _ _ _ => trivial)
      have hf1 : FOk (fun _ => True) w1 ⟨a2, len2, cap2, none, 0, 0⟩ ⟨old, []⟩ := ⟨hO1, Recs.nil_ _ _⟩
      have hf2 : FOk (fun _ => True) w1 ⟨none, 0, 0, a2, len2, cap2⟩ ⟨[], old⟩ := ⟨Recs.nil_ _ _, hO1⟩
      have hD2 := lit_files2 w1 _ _ _ _ _ hf1 hf2
      obtain ⟨W2, hW2, b2, k2, S2', r2⟩ := boxD w w1 #[.slice a2 len2 cap2, .slice none 0 0, .slice none 0 0, .slice a2 len2 cap2] 42 hb1
      rw [← hW2] at hD2
      obtain ⟨W3, hW3, b3, k3, S3, r3⟩ := boxD w W2 #[.slice (some ⟨w1.heap.size, 0, none⟩) 2 2] 45 b2
      have hD3 := hD2.ext k3
      rw [S2'.out] at r3
      rw [hW2] at hW3
      go_upto_region 6 with (refine wpList_store_new rfl 45 _ _ rfl 45 _ #[.slice (some ⟨w1.heap.size, 0, none⟩) 2 2] rfl rfl (by kernel_rfl) rfl (by simp [Value.oneCell']) ?_)
      rw [← hW3]
      clear hW3 hW2 r2
      have hmz := Int.emod_nonneg file (b := 2) (by omega)
      go_wp2_with fail
      refine (mod_any file 2 W3 (by omega) (by omega) hfile.1 hfile.2).mono ?_
      rintro e w4 ⟨rfl, rfl⟩
      obtain ⟨W4, hW4, b4, k4, S4, r4⟩ := boxD w W3 #[.int .i64 file, .int .i64 (file % 2)] 3 b3
      have hZ := lit_two W3 file (file % 2)
      rw [← hW4] at hZ
      have hD4 := hD3.ext k4
      have hl4 := hl.ext b4
      have HBX := Lib.hid ((k4.block _ (by have := S2'.out; have := S3.out; omega)).trans r3.out)
      have lbx : w1.heap.size + 1 < W4.heap.size := by have := S2'.out; have := S3.out; have := S4.out; omega
      obtain ⟨GG, hGG⟩ : ∃ GG, [(⟨old, []⟩ : Fil), ⟨[], old⟩] = GG := ⟨_, rfl⟩
      have hgl : ∀ f ∈ GG, flen f ≤ 30000 := by
        rw [← hGG]
        intro f hf
        have := HO.out.1
        simp only [List.mem_cons, List.not_mem_nil, or_false] at hf
        rcases hf with rfl | rfl <;> simp only [flen, List.length_nil] <;> omega
      have HGL := Lib.hid hgl
      have hg2 : GG.length = 2 := by rw [← hGG]; rfl
      have HG2 := Lib.hid hg2
      rw [hGG] at hD4
      clear hGG hgl hg2 r3 r4 hD3 hD2 hf1 hf2 hmz
      go_wp2_with fail
      rw [← hW4]
      clear hW4
      go_loopw [39] (fun i wr => ∃ k : Nat, i = .int .i64 k ∧ k ≤ 2 ∧ Below W4.heap.size W4 wr) (fun i _ => 2 - (intOf i).toNat)
      case atStart => exact ⟨0, rfl, by omega, Below.refl _ _⟩
      case round =>
        obtain ⟨k, rfl, hk, kr0⟩ := hrel
        by_cases hlt : k < 2
        · obtain ⟨bz, oz, z, hA, _, hbz, hzz, hcz⟩ := (hZ.ext kr0).at_ encZ_len (j := k) (by simpa using hlt) (by omega)
          cases hA
          have cz := hcz 0 _ rfl
          rw [Nat.mul_one, Nat.add_zero, Nat.zero_add] at cz
          clear hcz hzz
          have dk : decide ((k : Int) < 2) = true := by simp; omega
          obtain ⟨r1, rn1, er1, hR1⟩ := OpR.ex (fun f => ⟨f.s, f.p ++ frL l⟩) GG 2 z HG2.out
          obtain ⟨r2, rn2, er2, hR2⟩ := OpR.ex (fun _ => ⟨frL l, []⟩) GG 2 z HG2.out
          have HR1 := Lib.hid hR1
          have HR2 := Lib.hid hR2
          have sm1 : rn1 ≤ 1000 := by rcases hR1 with ⟨j, f, _, _, _, rfl, _⟩ | ⟨_, _, rfl, _⟩ <;> omega
          have sm2 : rn2 ≤ 1000 := by rcases hR2 with ⟨j, f, _, _, _, rfl, _⟩ | ⟨_, _, rfl, _⟩ <;> omega
          have s0 := kr0.size
          clear hR1 hR2
          have P0 := Lib.hid ((kr0.block _ lbx).trans HBX.out)
          go_wp2_with (refine wpList_load_row rfl 45 _ rfl _ rfl 45 _ (0,0) _ P0.out Try.underlying45 rfl (by kernel_rfl) ?_)
          refine (walappend_go _ 2 2 GG _ wr (hD4.ext kr0) (by omega) z A0 n0 c0 l _ (hl4.ext kr0) HIN.out HFL.out HGL.out r1 rn1 er1 HR1.out).mono ?_
          rintro e v0 ⟨A10, c10, rfl, hX0, hv0⟩
          have sv0 := hv0.size
          obtain ⟨V0, hV0, kr1, kV0, SV0, rV0⟩ := boxD W4 v0 #[.slice A10 rn1 c10] 45 (Below.ext kr0 hv0)
          go_upto_region 10 with (refine wpList_store_new rfl 45 _ _ rfl 45 _ #[.slice A10 rn1 c10] rfl rfl (by kernel_rfl) rfl (by simp [Value.oneCell']) ?_)
          rw [← hV0]
          clear hV0
          have P1 := Lib.hid ((kr1.block _ lbx).trans HBX.out)
          go_wp2_with (refine wpList_load_row rfl 45 _ rfl _ rfl 45 _ (0,0) _ P1.out Try.underlying45 rfl (by kernel_rfl) ?_)
          refine (refwalappend_go _ 2 2 GG _ V0 (hD4.ext kr1) (by omega) z A0 n0 c0 l _ (hl4.ext kr1) HIN.out HFL.out HGL.out r1 rn1 er1 HR1.out).mono ?_
          rintro e v1 ⟨A11, c11, rfl, hX1, hv1⟩
          have sv1 := hv1.size
          obtain ⟨V1, hV1, kr2, kV1, SV1, rV1⟩ := boxD W4 v1 #[.slice A11 rn1 c11] 45 (Below.ext kr1 hv1)
          go_upto_region 11 with (refine wpList_store_new rfl 45 _ _ rfl 45 _ #[.slice A11 rn1 c11] rfl rfl (by kernel_rfl) rfl (by simp [Value.oneCell']) ?_)
          rw [← hV1]
          clear hV1
          have P2 := Lib.hid ((kr2.block _ lbx).trans HBX.out)
          go_wp2_with (refine wpList_load_row rfl 45 _ rfl _ rfl 45 _ (0,0) _ P2.out Try.underlying45 rfl (by kernel_rfl) ?_)
          refine (walrewrite_go _ 2 2 GG _ V1 (hD4.ext kr2) (by omega) z A0 n0 c0 l _ (hl4.ext kr2) HIN.out HFL.out HGL.out r2 rn2 er2 HR2.out).mono ?_
          rintro e v2 ⟨A12, c12, rfl, hX2, hv2⟩
          have sv2 := hv2.size
          obtain ⟨V2, hV2, kr3, kV2, SV2, rV2⟩ := boxD W4 v2 #[.slice A12 rn2 c12] 45 (Below.ext kr2 hv2)
          go_upto_region 12 with (refine wpList_store_new rfl 45 _ _ rfl 45 _ #[.slice A12 rn2 c12] rfl rfl (by kernel_rfl) rfl (by simp [Value.oneCell']) ?_)
          rw [← hV2]
          clear hV2
          have P3 := Lib.hid ((kr3.block _ lbx).trans HBX.out)
          go_wp2_with (refine wpList_load_row rfl 45 _ rfl _ rfl 45 _ (0,0) _ P3.out Try.underlying45 rfl (by kernel_rfl) ?_)
          refine (refwalrewrite_go _ 2 2 GG _ V2 (hD4.ext kr3) (by omega) z A0 n0 c0 l _ (hl4.ext kr3) HIN.out HFL.out HGL.out r2 rn2 er2 HR2.out).mono ?_
          rintro e v3 ⟨A13, c13, rfl, hX3, hv3⟩
          have sv3 := hv3.size
          obtain ⟨V3, hV3, kr4, kV3, SV3, rV3⟩ := boxD W4 v3 #[.slice A13 rn2 c13] 45 (Below.ext kr3 hv3)
          go_upto_region 13 with (refine wpList_store_new rfl 45 _ _ rfl 45 _ #[.slice A13 rn2 c13] rfl rfl (by kernel_rfl) rfl (by simp [Value.oneCell']) ?_)
          rw [← hV3]
          clear hV3
          have q1 : (er1 != er1) = false := by simp
          have q2 : (er2 != er2) = false := by simp
          have e01 := Below.ext hv1 kV1
          have e12 := Below.ext hv2 kV2
          have e23 := Below.ext hv3 kV3
          have X0 := Lib.hid ((e23.block _ (by have := SV0.out; have := SV1.out; have := SV2.out; omega)).trans ((e12.block _ (by have := SV0.out; have := SV1.out; omega)).trans ((e01.block _ (by have := SV0.out; omega)).trans rV0.out)))
          have X1 := Lib.hid ((e23.block _ (by have := SV1.out; have := SV2.out; omega)).trans ((e12.block _ (by have := SV1.out; omega)).trans rV1.out))
          have X2 := Lib.hid ((e23.block _ (by have := SV2.out; omega)).trans rV2.out)
          have x0 : V3.cell? ⟨v0.heap.size, 0, none⟩ = some (.slice A10 rn1 c10) := row_cell X0.out 0 _ rfl
          have x1 : V3.cell? ⟨v1.heap.size, 0, none⟩ = some (.slice A11 rn1 c11) := row_cell X1.out 0 _ rfl
          go_wp2_with fail
          refine (samedisk_eq _ _ rn1 _ _ r1 _ _ V3 ((((hX0.ext kV0).ext e01).ext e12).ext e23) (((hX1.ext kV1).ext e12).ext e23) (by omega)).mono ?_
          rintro e w28 ⟨rfl, hb28⟩
          have Y2 := Lib.hid ((hb28.block _ (by have := SV2.out; have := SV3.out; omega)).trans X2.out)
          have Y3 := Lib.hid ((hb28.block _ (by have := SV3.out; omega)).trans rV3.out)
          have y2 : w28.cell? ⟨v2.heap.size, 0, none⟩ = some (.slice A12 rn2 c12) := row_cell Y2.out 0 _ rfl
          have y3 : w28.cell? ⟨v3.heap.size, 0, none⟩ = some (.slice A13 rn2 c13) := row_cell Y3.out 0 _ rfl
          go_wp2_with fail
          refine (samedisk_eq _ _ rn2 _ _ r2 _ _ w28 (((hX2.ext kV2).ext e23).ext hb28) ((hX3.ext kV3).ext hb28) (by omega)).mono ?_
          rintro e w29 ⟨rfl, hb29⟩
          go_wp2
          go_roundw
          case rel => exact ⟨k + 1, by go_num, by omega, Below.ext (Below.ext kr4 hb28) hb29⟩
          case measure => simp [intOf]; omega
        · obtain rfl : k = 2 := by omega
          go_wp2
          go_ret
          exact ⟨rfl, Below.ext b4 kr0⟩
    · have d2 : decide (1000 < len2) = true := by simp; omega
      have d2' : decide ((1000 : Int) < (len2 : Int)) = true := by simp; omega
      go_wp2
      go_ret
      exact ⟨rfl, hb1⟩
  · have d1 : decide (60 < n0) = true := by simp; omega
    have d1' : decide ((60 : Int) < (n0 : Int)) = true := by simp; omega
    go_wp2
    go_ret
    exact ⟨rfl, hb1⟩
end Go.Proofs.Ytjcfnpmgklliiaa.walWrites
