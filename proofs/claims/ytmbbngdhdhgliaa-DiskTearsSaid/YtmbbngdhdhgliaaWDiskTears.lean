/-
  The walk of the law DiskTears: it returns true and writes nothing that was there. Conditions: what the row says of its arguments.
-/
import Derived.Test.YtmbbngdhdhgliaaDiskLaw
import Derived.WalkKit
import Derived.ProofKit
import Derived.OpenShut
import Derived.ShutString
import Derived.Below
namespace Go.Proofs.Ytmbbngdhdhgliaa.diskTears
open Go.ChangeShapes Go.WideShapes Go.ChangeAt Go.RowKit
open Go.ChangeMaps (open_string shut_string)
set_option linter.unusedVariables false
set_option maxRecDepth 100000

set_option maxHeartbeats 4000000 in
theorem walk (a0 : Option Addr) (len0 cap0 : Nat) (z0 : List Int) (a1 : Int) (a2 : Option Addr) (len2 cap2 : Nat) (z2 : List Int) (w : World) (w0 : IsRow .u8 w a0 len0 cap0 z0) (w1 : (Lit.int .i64 a1).wf = true) (w2 : IsRow .i64 w a2 len2 cap2 z2) :
    Calls Try.prog 4 #[.slice a0 len0 cap0, .int .i64 a1, .slice a2 len2 cap2] w fun e w' => e = .returned (.bool true) ∧ Below w.heap.size w w' := by
  obtain ⟨more, hm1, hm2, hm3, hmB⟩ := IsRow.bytes w0
  obtain ⟨lost, hl1, hl2, hl3, hlZ⟩ := IsRow.zs_ w2
  clear w0 w1 w2
  have HM := Lib.hid hm1
  have HL := Lib.hid hl1
  clear hm1 hl1
  go_enter Try.func4, Try.ntmps4
  go_wp2_with fail
  refine (awake_any _).mono ?_
  rintro e w1 ⟨rfl, hb1⟩
  by_cases hlen : len0 ≤ 500
  · have dl : decide (500 < len0) = false := by simpa using hlen
    have dl' : decide ((500 : Int) < (len0 : Int)) = false := by simp; omega
    by_cases hlen2 : len2 ≤ 50
    · have dm : decide (50 < len2) = false := by simpa using hlen2
      have dm' : decide ((50 : Int) < (len2 : Int)) = false := by simp; omega
      have hnew := new_ok 1 (by omega) w1
      rw [show ((1 : Nat) : Int) = 1 from rfl] at hnew
      have Hnew := Lib.hid hnew
      clear hnew
      go_wp2_with fail
      refine (Hnew.out).mono ?_
      rintro e w2 ⟨A2, c2, rfl, hD2, hb2⟩
      obtain ⟨W, hW⟩ : ∃ W, W = w2.alloc (.cells #[.slice A2 1 c2] 24) := ⟨_, rfl⟩
      have hbW : Below w2.heap.size w2 W := by rw [hW]; exact (Below.refl _ _).alloc (Nat.le_refl _) _
      have hrD : W.heap[w2.heap.size]? = some (.cells #[.slice A2 1 c2] 24 (0, 0)) := by rw [hW]; exact heap_alloc_new _ _
      have b2 := Below.ext hb1 hb2
      have bW := Below.ext b2 hbW
      have hww := b2.size
      have hD3 : Dsk (· < w2.heap.size) W (.slice A2 1 c2) [zFil] := (hD2.mono (fun _ h _ => h)).ext hbW
      have hmW : By (· < w2.heap.size) W (.slice a0 len0 cap0) more := (hmB.by_.ext bW).mono (fun _ _ h => by omega)
      have hap := append_ok A2 1 c2 [zFil] _ W hD3 (by omega) 0 zFil rfl a0 len0 cap0 more hmW (by show 0 + 0 + len0 ≤ _; omega)
      rw [show ((0 : Nat) : Int) = 0 from rfl] at hap
      have Hap := Lib.hid hap
      have HrD := Lib.hid hrD
      have hltD : w2.heap.size < W.heap.size := (Array.getElem?_eq_some_iff.1 hrD).1
      clear hap hrD hD3 hD2
      go_wp2_with fail
      rw [← hW]
      clear hW
      refine Hap.out.mono ?_
      rintro e w3 ⟨A3, c3, rfl, hD3, hb3⟩
      have hr3 := (hb3.block _ hltD).trans HrD.out
      have Hr3 := Lib.hid hr3
      clear hr3
      obtain ⟨W4, hW4⟩ : ∃ W4, W4 = w3.setRow w2.heap.size #[.slice A3 1 c3] := ⟨_, rfl⟩
      have q4 : (w3.setRow w2.heap.size #[.slice A3 1 c3]).cell? ⟨w2.heap.size, 0, none⟩ = some (.slice A3 1 c3) := by rw [cell_setRow_same _ _ _ _ _ _ _ Hr3.out]; rfl
      have hs4 : (w3.setRow w2.heap.size #[.slice A3 1 c3]).heap.size = w3.heap.size := setRow_size _ _ _
      have b4 : Below w.heap.size w W4 := by rw [hW4]; exact Below.setRow (Below.ext bW hb3) hww _
      have hD4 : Dsk (· ≠ w2.heap.size) W4 (.slice A3 1 c3) [⟨[], [] ++ more⟩] := by
        rw [hW4]
        exact (hD3.mono (S' := (· ≠ w2.heap.size)) (fun b _ h => by rcases h with h | h <;> omega)).keep (Keep.of_grown (grown_setRow _ _ _))
      go_wp2_with (refine wpList_store_row rfl 24 _ _ rfl w2.heap.size 24 _ _ rfl rfl Hr3.out (by kernel_rfl) rfl (by simp [Value.oneCell']) ?_)
      rw [← hW4]
      rw [← hW4] at hs4
      clear q4 hW4
      obtain ⟨W6, hW6⟩ : ∃ W6, W6 = W4.alloc (.cells #[.int .i64 a1, .slice a2 len2 cap2] 39) := ⟨_, rfl⟩
      have hb6 : Below W4.heap.size W4 W6 := by rw [hW6]; exact (Below.refl _ _).alloc (Nat.le_refl _) _
      have b6 := Below.ext b4 hb6
      have hrt : Recs encT (fun _ => True) W6 (.slice (some ⟨w3.heap.size, 0, none⟩) 1 1) [⟨a1, a2, len2, cap2⟩] := by
        rw [hW6, ← hs4]
        exact ⟨_, 1, rfl, by simp, by simp [maxLen], Cs.lit _ _ _ _ _ trivial rfl⟩
      have hT : Trs (fun _ => True) W6 (.slice (some ⟨w3.heap.size, 0, none⟩) 1 1) [⟨a1, lost⟩] := ⟨_, hrt, rfl, fun i x t hx ht => by
        match i, hx, ht with
        | 0, hx, ht =>
          cases hx
          cases ht
          exact ⟨rfl, (hlZ.ext b6).mono (fun _ _ _ => trivial)⟩
        | i + 1, hx, ht => simp at hx⟩
      rw [← hW6]
      clear hW6 hrt
      refine (crash_any A3 1 c3 _ _ W6 (hD4.ext hb6) (by omega) _ 1 1 _ _ hT (by intro f hf; simp at hf; subst hf; have := HM.out; simp; omega)).mono ?_
      rintro e w7 ⟨A7, c7, rfl, hD7, hb7⟩
      rw [crash_one] at hD7
      have hN := keepN_le more a1
      have hrd := read_ok A7 1 c7 _ _ w7 hD7 (by omega) 0 ⟨[] ++ tornL more a1 lost, []⟩ rfl (by have := HM.out; simp [tornL_len]; omega)
      rw [show ((0 : Nat) : Int) = 0 from rfl] at hrd
      simp only [List.nil_append, List.append_nil, List.length_nil, Nat.add_zero, tornL_len] at hrd
      have Hrd := Lib.hid hrd
      clear hrd
      go_wp2_with fail
      refine (Hrd.out).mono ?_
      rintro e w8 ⟨A8, c8, rfl, hown8, hb8⟩
      have hNN : min (max a1 0) (len0 : Int) = (keepN more a1 : Int) := by rw [← HM.out]; unfold keepN; omega
      have hmax := fun w => run_max2 (P := Try.prog) w #[3, 3] 3 a1 0
      have hmin := fun w => run_min2 (P := Try.prog) w #[3, 3] 3 (max a1 0) (len0 : Int)
      rw [hNN] at hmin
      have hNl : keepN more a1 ≤ len0 := by have := HM.out; omega
      have b8 := Below.ext (Below.ext b6 hb7) hb8
      have hr8 := hown8.recs
      have hg : ∀ (i : Nat) (x : UInt8), i < keepN more a1 → more[i]? = some x → (tornL more a1 lost)[i]? = some (wantB x i lost) := fun i x hi hx => torn_get more a1 lost i x hi hx
      have HG := Lib.hid hg
      clear hg hNN hN hown8
      generalize keepN more a1 = N at *
      go_wp2
      clear hmax hmin
      go_loop [64] (fun v => ∃ j : Nat, v = .int .i64 j ∧ j ≤ N) (fun v => N - (intOf v).toNat)
      case atStart => exact ⟨0, rfl, by omega⟩
      case round =>
        obtain ⟨j, rfl, hj⟩ := hrel
        by_cases hlt : j < N
        · obtain ⟨bm, om, x, rfl, hbm, hx, qx⟩ := (hmB.by_.ext b8).byte (k := j) (by omega)
          obtain ⟨br, o_r, y, rfl, hbr, hy, qy⟩ := hr8.byte (k := j) hlt
          have hyx : y = wantB x j lost := by have := HG.out j x hlt hx; rw [hy] at this; cases this; rfl
          have HY := Lib.hid hyx
          clear hyx hx hy
          have dj : decide (j < N) = true := by simpa using hlt
          go_wp2
          go_loop [13, 73] (fun u v => ∃ m : Nat, v = .int .i64 m ∧ m ≤ len2 ∧ u = .int .u8 ((wantB x j (lost.take m)).toNat : Int)) (fun _ v => len2 - (intOf v).toNat)
          case atStart => exact ⟨0, rfl, by omega, by simp [wantB]⟩
          case round =>
            obtain ⟨m, rfl, hm, rfl⟩ := hrel
            by_cases hlm : m < len2
            · obtain ⟨bl, ol, z, rfl, _, hbl, hz, hc⟩ := (hlZ.ext b8).at_ encZ_len (j := m) (by have := HL.out; omega) (by omega)
              have qz := hc 0 _ rfl
              rw [Nat.mul_one, Nat.add_zero] at qz
              have htk : lost.take (m + 1) = lost.take m ++ [z] := by rw [List.take_add_one, hz]; rfl
              have Htk := Lib.hid htk
              clear htk hc hz
              by_cases hze : z = (j : Int) / 16
              · have dz : (z == (j : Int) / 16) = true := by simpa using hze
                have hw := want_yes x j (lost.take m) z (by omega)
                have Hw := Lib.hid hw
                clear hw hze
                go_wp2
                go_round
                case rel => exact ⟨m + 1, by go_num, by omega, by rw [Htk.out, Hw.out]; rfl⟩
                case measure => simp [intOf]; omega
              · have dz : (z == (j : Int) / 16) = false := by simpa using hze
                have hw := want_no x j (lost.take m) z (by omega)
                have Hw := Lib.hid hw
                clear hw hze
                go_wp2
                go_round
                case rel => exact ⟨m + 1, by go_num, by omega, by rw [Htk.out, Hw.out]⟩
                case measure => simp [intOf]; omega
            · obtain rfl : m = len2 := by omega
              have hty : wantB x j (lost.take m) = y := by rw [← HL.out, List.take_length, HY.out]
              rw [hty]
              clear hty
              go_wp2
              go_round
              case rel => exact ⟨j + 1, by go_num, by omega⟩
              case measure => simp [intOf]; omega
        · obtain rfl : j = N := by omega
          go_wp2
          go_ret
          exact ⟨rfl, b8⟩
    · have dm : decide (50 < len2) = true := by simp; omega
      have dm' : decide ((50 : Int) < (len2 : Int)) = true := by simp; omega
      go_wp2
      go_ret
      exact ⟨rfl, hb1⟩
  · have dl : decide (500 < len0) = true := by simp; omega
    have dl' : decide ((500 : Int) < (len0 : Int)) = true := by simp; omega
    go_wp2
    go_ret
    exact ⟨rfl, hb1⟩
end Go.Proofs.Ytmbbngdhdhgliaa.diskTears
