/-
  The walk of the law NetworkChannels: it returns true and writes nothing that was there. Conditions: what the row says of its arguments.
-/
import Derived.Test.YtfnafdncbbjolaaNetLaw
import Derived.WalkKit
import Derived.ProofKit
import Derived.OpenShut
import Derived.ShutString
import Derived.Below
namespace Go.Proofs.Ytfnafdncbbjolaa.networkChannels
open Go.ChangeShapes Go.WideShapes Go.ChangeAt Go.RowKit
open Go.ChangeMaps (open_string shut_string)
set_option linter.unusedVariables false
set_option maxRecDepth 100000

theorem walk (a0 : Option Addr) (len0 cap0 : Nat) (z0 : List Int) (w : World) (w0 : IsRow .u8 w a0 len0 cap0 z0) :
    Calls Try.prog 4 #[.slice a0 len0 cap0] w fun e w' => e = .returned (.bool true) ∧ Below w.heap.size w w' := by
  obtain ⟨lc, hlc, hcapc, hmaxc, hbc⟩ := IsRow.bytes w0
  clear w0
  go_enter Try.func4, Try.ntmps4
  go_wp2_with fail
  refine (awake_any _).mono ?_
  rintro e w1 ⟨rfl, hb1⟩
  go_wp2_with fail
  refine (messages_any _ lc _ _ 20 (by omega) (hbc.ext hb1)).mono ?_
  rintro e w2 ⟨v2, ms, rfl, hms, hrng, hR2, hb2⟩
  have hR2' := hR2
  obtain ⟨A, c, rfl, hc1, hc2, _⟩ := hR2
  have hb12 := Below.ext hb1 hb2
  have Hrng := Lib.hid hrng
  clear hrng
  have hmk := mkInts ms.length (by omega)
  go_wp2_with fail
  clear hmk
  obtain ⟨W, hW⟩ : ∃ W, W = w2.alloc (.cells (irow ms.length (fun _ => 0)) 3) := ⟨_, rfl⟩
  have hbW : Below w2.heap.size w2 W := by rw [hW]; exact (Below.refl _ _).alloc (Nat.le_refl _) _
  have hs0 : Seen W w2.heap.size ms 0 0 0 := ⟨fun _ => 0, by rw [hW]; exact heap_alloc_new _ _, fun i _ => (specJ_start ms Hrng.out i).symm⟩
  have hRW : Recs encM (· < w2.heap.size) W (.slice A ms.length c) ms := (hR2'.mono (fun b hb _ => hb)).ext hbW
  rw [← hW]
  clear hW
  have hbw : Below w.heap.size w W := Below.ext hb12 hbW
  have hgw : w.heap.size ≤ w2.heap.size := hb12.size
  clear hR2' hb1 hb2 hbW hb12
  obtain ⟨g, hg⟩ : ∃ g, g = w2.heap.size := ⟨_, rfl⟩
  rw [← hg] at hs0 hRW hgw
  rw [← hg]
  clear hg
  go_wp2
  go_loopw [5] (fun v wr => ∃ a : Nat, v = .int .i64 a ∧ a ≤ 3 ∧ Seen wr g ms a 0 0 ∧ W.grownBy wr (some g)) (fun v _ => 3 - (intOf v).toNat)
  case atStart => exact ⟨0, rfl, by omega, hs0, grown_refl _ _⟩
  case round =>
    obtain ⟨a, rfl, ha, hsa, hga⟩ := hrel
    clear hs0
    by_cases hlt : a < 3
    · have da : decide ((a : Int) < 3) = true := by simp; omega
      go_wp2
      go_loopw [6] (fun v wr => ∃ b : Nat, v = .int .i64 b ∧ b ≤ 3 ∧ Seen wr g ms a b 0 ∧ W.grownBy wr (some g)) (fun v _ => 3 - (intOf v).toNat)
      case atStart => exact ⟨0, rfl, by omega, hsa, hga⟩
      case round =>
        obtain ⟨b, rfl, hb, hsb, hgb⟩ := hrel
        clear hsa hga
        by_cases hltb : b < 3
        · have db : decide ((b : Int) < 3) = true := by simp; omega
          go_wp2_with fail
          refine (channel_any _ ms _ _ (Keep.rec_ hRW (fun _ _ h => Nat.ne_of_lt h) hgb) (by omega) a b).mono ?_
          rintro e w3 ⟨v3, rfl, hown3, hb3⟩
          have hg3 : W.grownBy w3 (some g) := grown_trans hgb (grown_of_below hb3 _)
          have hs3 : Seen w3 g ms a b 0 := hsb.keep (hb3.block _ hsb.lt)
          have hR3 := hown3.recs.mono (S' := (· ≠ g)) (fun x _ hx => by have := hsb.lt; omega)
          have hR3' := hR3
          obtain ⟨A3, c3, rfl, _⟩ := hR3
          have hzl := chZ_len ms a b
          have hzl2 := chN_len ms a b ms.length
          have Hzl := Lib.hid hzl
          have hzl3 : (chZ ms a b).length ≤ 20 := by omega
          clear hzl hzl2 hsb hgb hown3 hb3
          generalize hN : (chZ ms a b).length = N at *
          have HN := Lib.hid hN
          clear hN
          go_wp2
          go_loopw [33] (fun v wr => ∃ j : Nat, v = .int .i64 j ∧ j ≤ N ∧ Seen wr g ms a b j ∧ W.grownBy wr (some g) ∧ Recs encZ (· ≠ g) wr (.slice A3 N c3) (chZ ms a b)) (fun v _ => N - (intOf v).toNat)
          case atStart => exact ⟨0, rfl, by omega, hs3, hg3, hR3'⟩
          case round =>
            obtain ⟨j, rfl, hj, hsj, hgj, hRj⟩ := hrel
            clear hs3 hg3 hR3'
            by_cases hltj : j < N
            · have hjl : j < (chN ms a b ms.length).length := by have := HN.out; have := Hzl.out; omega
              obtain ⟨k, hk⟩ : ∃ k, (chN ms a b ms.length)[j]? = some k := ⟨_, List.getElem?_eq_getElem hjl⟩
              obtain ⟨y, hy⟩ : ∃ y, (chN ms a b ms.length)[0]? = some y := ⟨_, List.getElem?_eq_getElem (by omega)⟩
              have hkm := chN_mem (List.mem_of_getElem? hk)
              obtain ⟨hklt, m, hmk, hmf, hmt⟩ := hkm
              have hfst : firstZ (chZ ms a b) = (y : Int) := by
                unfold firstZ chZ
                cases hcn : chN ms a b ms.length with
                | nil => rw [hcn] at hy; cases hy
                | cons q qs => rw [hcn] at hy; cases hy; rfl
              have hRl := Keep.rec_ hRW (fun _ _ h => Nat.ne_of_lt h) hgj
              obtain ⟨b1, o1, m', hA1, hb1lt, hm', q0, q1, _⟩ := msg_cells hRl hklt
              obtain rfl : m' = m := by rw [hmk] at hm'; cases hm'; rfl
              rw [hmf] at q0
              rw [hmt] at q1
              have hcellZ : ∀ (i x : Nat), (chN ms a b ms.length)[i]? = some x → ∃ b3 o3, A3 = some ⟨b3, o3, none⟩ ∧ b3 < wr.heap.size ∧ wr.cell? ⟨b3, o3 + i, none⟩ = some (.int .i64 (x : Int)) := by
                intro i x hx
                obtain ⟨b3, o3, z, hA3, _, hb3, hz, hc⟩ := hRj.at_ encZ_len (j := i) (by rw [chZ_len]; exact (List.getElem?_eq_some_iff.1 hx).1) (by omega)
                have := hc 0 _ rfl
                rw [Nat.mul_one, Nat.add_zero] at this
                refine ⟨b3, o3, hA3, hb3, ?_⟩
                rw [this]
                unfold chZ at hz
                rw [List.getElem?_map, hx] at hz
                cases hz
                rfl
              obtain ⟨b3, o3, hA3, hb3lt, p0⟩ := hcellZ 0 y hy
              obtain ⟨_, _, hA3', _, pj⟩ := hcellZ j k hk
              rw [Nat.add_zero] at p0
              rw [hA3] at hA3'
              cases hA3'
              have hprev : 0 < j → ∃ x, x < k ∧ wr.cell? ⟨b3, o3 + (j - 1), none⟩ = some (.int .i64 (x : Int)) := fun h => by
                obtain ⟨x, hx⟩ : ∃ x, (chN ms a b ms.length)[j - 1]? = some x := ⟨_, List.getElem?_eq_getElem (by omega)⟩
                obtain ⟨_, _, hA3', _, px⟩ := hcellZ (j - 1) x hx
                rw [hA3] at hA3'
                cases hA3'
                exact ⟨x, chN_before (by omega) hx hk, px⟩
              obtain ⟨x, hx1, hx2, hxe, hx3, hx4, hx5⟩ := hsj.at_ hklt
              clear hxe
              have hx6 := hx5 hk
              have Hx6 := Lib.hid hx6
              have Hold : ∀ W', Below wr.heap.size wr W' → Calls Try.prog 16 #[.slice A ms.length c, .int .i64 (k : Int)] W' fun e w' => e = .returned (.int .i64 (y : Int)) ∧ Below W'.heap.size W' w' := fun W' hW' => by
                have := oldest_any (.slice A ms.length c) ms _ W' (hRl.ext hW') (by omega) k m' hmk
                rw [hmf, hmt, hfst] at this
                exact this
              have HOld := Lib.hid Hold
              have Hprev := Lib.hid hprev
              have HRj := Lib.hid hRj
              have Hgj := Lib.hid hgj
              have Hsj := Lib.hid hsj
              have hglt := hsj.lt
              subst hA1 hA3
              clear hk hy hmk hmf hmt hfst hRl hm' hcellZ hprev hx5 hx6 Hold hRj hgj hsj
              have dk0 : decide ((k : Int) < 0) = false := by simp
              have dkl : decide (ms.length ≤ k) = false := by simpa using hklt
              have fin : ∀ wz, Below wr.heap.size wr wz → Seen (wz.setCell ⟨g, k, none⟩ (.int .i64 (x + 1))) g ms a b (j + 1) ∧ W.grownBy (wz.setCell ⟨g, k, none⟩ (.int .i64 (x + 1))) (some g) ∧ Recs encZ (· ≠ g) (wz.setCell ⟨g, k, none⟩ (.int .i64 (x + 1))) (.slice (some ⟨b3, o3, none⟩) N c3) (chZ ms a b) := by
                intro wz hwz
                have hgz : wr.grownBy wz (some g) := grown_of_below hwz _
                have hgs : wr.grownBy (wz.setCell ⟨g, k, none⟩ (.int .i64 (x + 1))) (some g) := grown_set hgz
                refine ⟨?_, grown_trans Hgj.out hgs, HRj.out.keep (Keep.of_grown hgs)⟩
                refine Hx6.out.keep ?_
                obtain ⟨f, hf, _⟩ := Hsj.out
                rw [heap_setCell_same _ _ _ _ _ _ hf, heap_setCell_same _ _ _ _ _ _ ((hwz.block _ hglt).trans hf)]
              have Hfin := Lib.hid fin
              clear fin
              by_cases hj0 : 0 < j
              · obtain ⟨xp, hxp, px⟩ := Hprev.out hj0
                have dj : decide (0 < j) = true := by simpa using hj0
                have dx : decide (k ≤ xp) = false := by simpa using hxp
                go_wp2_with fail
                refine wp_region_lexL (Below wr.heap.size wr) (by kernel_rfl) (by kernel_rfl) ((Below.refl _ wr).drew) ?_
                repeat (first | (refine lexL_q0 rfl ?_; go_big_quiet_step (fail); refine wpQuiet_nil ?_) | (refine lexL_skip0 rfl rfl ?_; simp only [Act.put, List.setIfInBounds_toArray, List.set_cons_succ, List.set_cons_zero]))
                refine lexL_ld (⟨b3, o3 + (j - 1), none⟩) (.int .i64 (xp : Int)) rfl rfl rfl (fun w' hS => run_ld1 (isAgg_int _) ((hS.cell (p := ⟨b3, o3 + (j - 1), none⟩) hb3lt).trans px)) ?_
                simp only [Act.put, List.setIfInBounds_toArray, List.set_cons_succ, List.set_cons_zero]
                repeat (first | (refine lexL_q0 rfl ?_; go_big_quiet_step (fail); refine wpQuiet_nil ?_) | (refine lexL_skip0 rfl rfl ?_; simp only [Act.put, List.setIfInBounds_toArray, List.set_cons_succ, List.set_cons_zero]))
                refine lexL_ld (⟨b1, o1 + k * 9, none⟩) (.int .i64 (a : Int)) rfl rfl rfl (fun w' hS => run_ld1 (isAgg_int _) ((hS.cell (p := ⟨b1, o1 + k * 9, none⟩) hb1lt).trans q0)) ?_
                simp only [Act.put, List.setIfInBounds_toArray, List.set_cons_succ, List.set_cons_zero]
                repeat (first | (refine lexL_q0 rfl ?_; go_big_quiet_step (fail); refine wpQuiet_nil ?_) | (refine lexL_skip0 rfl rfl ?_; simp only [Act.put, List.setIfInBounds_toArray, List.set_cons_succ, List.set_cons_zero]))
                refine lexL_ld (⟨b1, o1 + k * 9 + 1, none⟩) (.int .i64 (b : Int)) rfl rfl rfl (fun w' hS => run_ld1 (isAgg_int _) ((hS.cell (p := ⟨b1, o1 + k * 9 + 1, none⟩) hb1lt).trans q1)) ?_
                simp only [Act.put, List.setIfInBounds_toArray, List.set_cons_succ, List.set_cons_zero]
                repeat (first | (refine lexL_q0 rfl ?_; go_big_quiet_step (fail); refine wpQuiet_nil ?_) | (refine lexL_skip0 rfl rfl ?_; simp only [Act.put, List.setIfInBounds_toArray, List.set_cons_succ, List.set_cons_zero]))
                refine lexL_e rfl ?_
                go_wp2_with fail
                refine (HOld.out _ (Below.refl _ wr).drew).mono ?_
                rintro e w4 ⟨rfl, hb4⟩
                have hb4' : Below wr.heap.size wr w4 := Below.ext (Below.refl _ wr).drew hb4
                go_wp2_with fail
                refine lexL_go (hb4') ?_
                repeat (first | (refine lexL_q0 rfl ?_; go_big_quiet_step (fail); refine wpQuiet_nil ?_) | (refine lexL_skip0 rfl rfl ?_; simp only [Act.put, List.setIfInBounds_toArray, List.set_cons_succ, List.set_cons_zero]))
                refine lexL_ld (⟨b3, o3, none⟩) (.int .i64 (y : Int)) rfl rfl rfl (fun w' hS => run_ld1 (isAgg_int _) ((hS.cell (p := ⟨b3, o3, none⟩) hb3lt).trans p0)) ?_
                simp only [Act.put, List.setIfInBounds_toArray, List.set_cons_succ, List.set_cons_zero]
                repeat (first | (refine lexL_q0 rfl ?_; go_big_quiet_step (fail); refine wpQuiet_nil ?_) | (refine lexL_skip0 rfl rfl ?_; simp only [Act.put, List.setIfInBounds_toArray, List.set_cons_succ, List.set_cons_zero]))
                have hy1 := (hb4'.cell (p := ⟨g, k, none⟩) hglt).trans hx1
                have hy2 := (hb4'.frozen (p := ⟨g, k, none⟩) hglt).trans hx2
                clear hx1 hx2
                refine lexL_nil ?_
                go_wp2_with fail
                go_wp2
                go_roundw
                case rel =>
                  obtain ⟨f1, f2, f3⟩ := Hfin.out w4 hb4'
                  exact ⟨j + 1, by go_num, by omega, f1, f2, f3⟩
                case measure => simp [intOf]; omega
              · obtain rfl : j = 0 := by omega
                rw [Nat.add_zero] at pj
                obtain rfl : y = k := by rw [p0] at pj; simp at pj; omega
                clear pj
                have dj : decide (0 < (0 : Nat)) = false := by decide
                go_wp2_with fail
                refine wp_region_lexL (Below wr.heap.size wr) (by kernel_rfl) (by kernel_rfl) ((Below.refl _ wr).drew) ?_
                repeat (first | (refine lexL_q0 rfl ?_; go_big_quiet_step (fail); refine wpQuiet_nil ?_) | (refine lexL_skip0 rfl rfl ?_; simp only [Act.put, List.setIfInBounds_toArray, List.set_cons_succ, List.set_cons_zero]))
                refine lexL_ld (⟨b1, o1 + y * 9, none⟩) (.int .i64 (a : Int)) rfl rfl rfl (fun w' hS => run_ld1 (isAgg_int _) ((hS.cell (p := ⟨b1, o1 + y * 9, none⟩) hb1lt).trans q0)) ?_
                simp only [Act.put, List.setIfInBounds_toArray, List.set_cons_succ, List.set_cons_zero]
                repeat (first | (refine lexL_q0 rfl ?_; go_big_quiet_step (fail); refine wpQuiet_nil ?_) | (refine lexL_skip0 rfl rfl ?_; simp only [Act.put, List.setIfInBounds_toArray, List.set_cons_succ, List.set_cons_zero]))
                refine lexL_ld (⟨b1, o1 + y * 9 + 1, none⟩) (.int .i64 (b : Int)) rfl rfl rfl (fun w' hS => run_ld1 (isAgg_int _) ((hS.cell (p := ⟨b1, o1 + y * 9 + 1, none⟩) hb1lt).trans q1)) ?_
                simp only [Act.put, List.setIfInBounds_toArray, List.set_cons_succ, List.set_cons_zero]
                repeat (first | (refine lexL_q0 rfl ?_; go_big_quiet_step (fail); refine wpQuiet_nil ?_) | (refine lexL_skip0 rfl rfl ?_; simp only [Act.put, List.setIfInBounds_toArray, List.set_cons_succ, List.set_cons_zero]))
                refine lexL_e rfl ?_
                go_wp2_with fail
                refine (HOld.out _ (Below.refl _ wr).drew).mono ?_
                rintro e w4 ⟨rfl, hb4⟩
                have hb4' : Below wr.heap.size wr w4 := Below.ext (Below.refl _ wr).drew hb4
                go_wp2_with fail
                refine lexL_go (hb4') ?_
                repeat (first | (refine lexL_q0 rfl ?_; go_big_quiet_step (fail); refine wpQuiet_nil ?_) | (refine lexL_skip0 rfl rfl ?_; simp only [Act.put, List.setIfInBounds_toArray, List.set_cons_succ, List.set_cons_zero]))
                refine lexL_ld (⟨b3, o3, none⟩) (.int .i64 (y : Int)) rfl rfl rfl (fun w' hS => run_ld1 (isAgg_int _) ((hS.cell (p := ⟨b3, o3, none⟩) hb3lt).trans p0)) ?_
                simp only [Act.put, List.setIfInBounds_toArray, List.set_cons_succ, List.set_cons_zero]
                repeat (first | (refine lexL_q0 rfl ?_; go_big_quiet_step (fail); refine wpQuiet_nil ?_) | (refine lexL_skip0 rfl rfl ?_; simp only [Act.put, List.setIfInBounds_toArray, List.set_cons_succ, List.set_cons_zero]))
                have hy1 := (hb4'.cell (p := ⟨g, y, none⟩) hglt).trans hx1
                have hy2 := (hb4'.frozen (p := ⟨g, y, none⟩) hglt).trans hx2
                clear hx1 hx2
                refine lexL_nil ?_
                go_wp2_with fail
                go_wp2
                go_roundw
                case rel =>
                  obtain ⟨f1, f2, f3⟩ := Hfin.out w4 hb4'
                  exact ⟨0 + 1, by go_num, by omega, f1, f2, f3⟩
                case measure => simp [intOf]; omega
            · obtain rfl : j = N := by omega
              go_wp2
              go_roundw
              case rel =>
                exact ⟨b + 1, by go_num, by omega, hsj.same (a' := a) (b' := b + 1) (j' := 0) (fun i _ => by have h := specJ_end ms a b i; rw [← Hzl.out] at h; exact h), hgj⟩
              case measure => simp [intOf]; omega
        · obtain rfl : b = 3 := by omega
          go_wp2
          go_roundw
          case rel => exact ⟨a + 1, by go_num, by omega, hsb.same (fun i _ => specJ_row ms Hrng.out a i), hgb⟩
          case measure => simp [intOf]; omega
    · obtain rfl : a = 3 := by omega
      have hone : ∀ i, i < ms.length → wr.cell? ⟨g, i, none⟩ = some (.int .i64 1) := fun i hi => by
        obtain ⟨f, hf, hf2⟩ := hsa
        rw [hf.cell hi, hf2 i hi, specJ_last ms Hrng.out i hi]
      have Hone := Lib.hid hone
      have hfin : Below w.heap.size w wr := hbw.grown hga hbw.size (fun k e => by cases e; exact hgw)
      clear hone
      go_wp2
      go_loop [95] (fun v => ∃ i : Nat, v = .int .i64 i ∧ i ≤ ms.length) (fun v => ms.length - (intOf v).toNat)
      case atStart => exact ⟨0, rfl, by omega⟩
      case round =>
        obtain ⟨i, rfl, hi⟩ := hrel
        by_cases hlti : i < ms.length
        · have hci := Hone.out i hlti
          go_wp2
          go_round
          case rel => exact ⟨i + 1, by go_num, by omega⟩
          case measure => simp [intOf]; omega
        · obtain rfl : i = ms.length := by omega
          go_wp2
          go_ret
          exact ⟨rfl, hfin⟩
end Go.Proofs.Ytfnafdncbbjolaa.networkChannels
