/-
  The walk of the law NetworkAsks: it returns true and writes nothing that was there. Conditions: what the row says of its arguments.
-/
import Derived.Test.YtfnafdncbbjolaaRefChange
import Derived.Test.YtfnafdncbbjolaaNetLaw
import Derived.WalkKit
import Derived.ProofKit
import Derived.OpenShut
import Derived.ShutString
import Derived.Below
namespace Go.Proofs.Ytfnafdncbbjolaa.networkAsks
open Go.ChangeShapes Go.WideShapes Go.ChangeAt Go.RowKit
open Go.ChangeMaps (open_string shut_string)
set_option linter.unusedVariables false
set_option maxRecDepth 100000

set_option maxHeartbeats 4000000 in
theorem walk (a0 : Option Addr) (len0 cap0 : Nat) (z0 : List Int) (a1 : Int) (a2 : Int) (a3 : Int) (x4 y4 : Int) (a5 : Int) (w : World) (w0 : IsRow .u8 w a0 len0 cap0 z0) (w1 : (Lit.int .i64 a1).wf = true) (w2 : (Lit.int .i64 a2).wf = true) (w3 : (Lit.int .i64 a3).wf = true) (wx4 : (Lit.int .i64 x4).wf = true) (wy4 : (Lit.int .i64 y4).wf = true) (w5 : (Lit.int .i64 a5).wf = true) :
    Calls Try.prog 3 #[.slice a0 len0 cap0, .int .i64 a1, .int .i64 a2, .int .i64 a3, .agg #[.int .i64 x4, .int .i64 y4], .int .i64 a5] w fun e w' => e = .returned (.bool true) ∧ Below w.heap.size w w' := by
  obtain ⟨lc, hlc, hcapc, hmaxc, hbc⟩ := IsRow.bytes w0
  have hpl := wf_i64 w3
  clear w0 w1 w2 w3 wx4 wy4 w5
  go_enter Try.func3, Try.ntmps3
  go_wp2_with fail
  obtain ⟨W0, hW0⟩ : ∃ W0, W0 = w.alloc (.cells #[.int .i64 x4, .int .i64 y4] 24) := ⟨_, rfl⟩
  have hbW0 : Below w.heap.size w W0 := by rw [hW0]; exact (Below.refl _ _).alloc (Nat.le_refl _) _
  have hrow0 : W0.heap[w.heap.size]? = some (.cells #[.int .i64 x4, .int .i64 y4] 24 (0, 0)) := by rw [hW0]; exact heap_alloc_new _ _
  rw [← hW0]
  clear hW0
  have hlt0 : w.heap.size < W0.heap.size := (Array.getElem?_eq_some_iff.1 hrow0).1
  refine (awake_any _).mono ?_
  rintro e w1 ⟨rfl, hb1⟩
  go_wp2_with fail
  refine (messages_any _ lc _ _ 20 (by omega) ((hbc.ext hbW0).ext hb1)).mono ?_
  rintro e w2 ⟨v2, ms, rfl, hms, hrng, hR2, hb2⟩
  have hR := hR2
  obtain ⟨A, c, rfl, hc1, hc2, _⟩ := hR2
  unfold maxLen at hc2
  have hb02 := Below.ext hb1 hb2
  have hrow2 := (hb02.block _ hlt0).trans hrow0
  have hlt2 : w.heap.size < w2.heap.size := (Array.getElem?_eq_some_iff.1 hrow2).1
  have hbw := Below.ext hbW0 hb02
  have hsz1 := hb1.size
  clear hrng hb1 hb2 hrow0 hbW0
  go_wp2_with fail
  refine (mod_any _ _ _ (by omega) (by omega) hpl.1 hpl.2).mono ?_
  rintro e w3 ⟨rfl, rfl⟩
  have hk1 := Int.emod_nonneg a3 (b := (ms.length : Int) + 1) (by omega)
  have hk2 := Int.emod_lt_of_pos a3 (b := (ms.length : Int) + 1) (by omega)
  obtain ⟨k, hk⟩ := Int.eq_ofNat_of_zero_le hk1
  rw [hk] at hk2 ⊢
  clear hk hk1
  have hkl : k ≤ ms.length := by omega
  clear hk2
  have hold : ∀ p : Int, ∃ z : Int, ∀ (W : World) (S : Nat → Prop), Recs encM S W (.slice A ms.length c) ms → Calls Try.prog 16 #[.slice A ms.length c, .int .i64 p] W (fun e w' => e = .returned (.int .i64 z) ∧ Below W.heap.size W w') ∧ Calls Try.prog 17 #[.slice A ms.length c, .int .i64 p] W (fun e w' => e = .returned (.int .i64 z) ∧ Below W.heap.size W w') := by
    intro p
    by_cases hp : 0 ≤ p ∧ p < ms.length
    · obtain ⟨q, rfl⟩ := Int.eq_ofNat_of_zero_le hp.1
      have hq : ms[q]? = some ms[q] := List.getElem?_eq_getElem (by omega)
      exact ⟨_, fun W S h => ⟨oldest_any _ ms S W h (by omega) q _ hq, refoldest_any _ ms S W h (by omega) q _ hq⟩⟩
    · exact ⟨-1, fun W S h => ⟨oldest_no _ ms S W h (by omega) p (by omega), refoldest_no _ ms S W h (by omega) p (by omega)⟩⟩
  obtain ⟨z1, hz1⟩ := hold k
  obtain ⟨z2, hz2⟩ := hold a3
  have HZ1 := Lib.hid hz1
  have HZ2 := Lib.hid hz2
  clear hold hz1 hz2
  have hRne := hR.mono (S' := (· ≠ w.heap.size)) (fun b hb hs => by have h9 : w.heap.size < w1.heap.size := Nat.lt_of_lt_of_le hlt0 hsz1; omega)
  have hld2 : ∀ w', Below w2.heap.size w2 w' → (loadVar 24 ⟨w.heap.size, 0, none⟩).run Try.prog w' = .ok (.agg #[.int .i64 x4, .int .i64 y4]) w' := fun w' hw' =>
    run_ld_block ((hw'.block _ hlt2).trans hrow2) Try.underlying24 rfl (by kernel_rfl)
  have HLD := Lib.hid hld2
  have HRR := Lib.hid hRne
  clear hld2 hR hRne
  by_cases hlt : k < ms.length
  · have d1 : decide (k < ms.length) = true := by simpa using hlt
    by_cases hev : a3.tmod 2 = 0
    · have d2 : (a3.tmod 2 == 0) = true := by simpa using hev
      clear hev
      obtain ⟨b, off, m, rfl, hSb, hb, hm, hc⟩ := HRR.out.at_ encM_len hlt (by omega)
      have q0 := hc 0 _ rfl
      have q1 := hc 1 _ rfl
      have q4 := hc 4 _ rfl
      have q23 : ∀ j v, ([.int .i64 m.i, .int .i64 m.x] : List Value)[j]? = some v → w2.cell? ⟨b, off + k * 9 + 2 + j, none⟩ = some v := fun j v hv => by
        match j, hv with
        | 0, hv => cases hv; exact hc 2 _ rfl
        | 1, hv => cases hv; exact hc 3 _ rfl
      rw [Nat.add_zero] at q0
      have HQ := Lib.hid q23
      clear q23 hc hm
      have cellS : ∀ (w' : World) (o : Nat), w2.grownBy w' (some w.heap.size) → w'.cell? ⟨b, o, none⟩ = w2.cell? ⟨b, o, none⟩ := fun w' o hS => World.cell?_of_block (hS.block b hb (by simpa using hSb))
      have CS := Lib.hid cellS
      clear cellS
      go_wp2_with fail
      refine wp_region_lexL (fun w' => w2.grownBy w' (some w.heap.size)) (by kernel_rfl) (by kernel_rfl) (⟨rfl, rfl, rfl, Nat.le_refl _, fun _ _ _ => rfl⟩) ?_
      repeat (first | (refine lexL_q0 rfl ?_; go_big_quiet_step (fail); refine wpQuiet_nil ?_) | (refine lexL_skip0 rfl rfl ?_; simp only [Act.put, List.setIfInBounds_toArray, List.set_cons_succ, List.set_cons_zero]))
      refine lexL_ld (⟨b, off + k * 9, none⟩) (.int .i64 m.f) rfl rfl rfl (fun w' hS => run_ld1 (isAgg_int _) ((CS.out w' _ hS).trans q0)) ?_
      simp only [Act.put, List.setIfInBounds_toArray, List.set_cons_succ, List.set_cons_zero]
      repeat (first | (refine lexL_q0 rfl ?_; go_big_quiet_step (fail); refine wpQuiet_nil ?_) | (refine lexL_skip0 rfl rfl ?_; simp only [Act.put, List.setIfInBounds_toArray, List.set_cons_succ, List.set_cons_zero]))
      refine lexL_ld (⟨b, off + k * 9 + 1, none⟩) (.int .i64 m.t) rfl rfl rfl (fun w' hS => run_ld1 (isAgg_int _) ((CS.out w' _ hS).trans q1)) ?_
      simp only [Act.put, List.setIfInBounds_toArray, List.set_cons_succ, List.set_cons_zero]
      repeat (first | (refine lexL_q0 rfl ?_; go_big_quiet_step (fail); refine wpQuiet_nil ?_) | (refine lexL_skip0 rfl rfl ?_; simp only [Act.put, List.setIfInBounds_toArray, List.set_cons_succ, List.set_cons_zero]))
      refine lexL_ld (⟨b, off + k * 9 + 2, none⟩) (.agg #[.int .i64 m.i, .int .i64 m.x]) rfl rfl rfl (fun w' hS => run_loadVar_mid w' b (off + k * 9 + 2) 24 [.int .i64 m.i, .int .i64 m.x] _ (fun j v hv => (CS.out w' _ hS).trans (HQ.out j v hv)) Try.underlying24 rfl (by kernel_rfl)) ?_
      simp only [Act.put, List.setIfInBounds_toArray, List.set_cons_succ, List.set_cons_zero]
      repeat (first | (refine lexL_q0 rfl ?_; go_big_quiet_step (fail); refine wpQuiet_nil ?_) | (refine lexL_skip0 rfl rfl ?_; simp only [Act.put, List.setIfInBounds_toArray, List.set_cons_succ, List.set_cons_zero]))
      refine lexL_ld (⟨b, off + k * 9 + 4, none⟩) (.int .i64 m.o) rfl rfl rfl (fun w' hS => run_ld1 (isAgg_int _) ((CS.out w' _ hS).trans q4)) ?_
      simp only [Act.put, List.setIfInBounds_toArray, List.set_cons_succ, List.set_cons_zero]
      repeat (first | (refine lexL_q0 rfl ?_; go_big_quiet_step (fail); refine wpQuiet_nil ?_) | (refine lexL_skip0 rfl rfl ?_; simp only [Act.put, List.setIfInBounds_toArray, List.set_cons_succ, List.set_cons_zero]))
      refine lexL_e rfl ?_
      refine wpList_store_row rfl _ _ _ rfl w.heap.size 24 _ _ rfl rfl (show w2.drew.heap[w.heap.size]? = _ from hrow2) (by kernel_rfl) rfl (by simp [Value.oneCell']) ?_
      have hgW : w2.grownBy (w2.drew.setRow w.heap.size #[.int .i64 m.i, .int .i64 m.x]) (some w.heap.size) := ⟨rfl, rfl, rfl, Nat.le_of_eq (setRow_size _ _ _).symm, fun j hj hne => setRow_other _ _ _ _ (by simpa using hne)⟩
      refine lexL_go hgW ?_
      simp only [Act.put]
      repeat (first | (refine lexL_q0 rfl ?_; go_big_quiet_step (fail); refine wpQuiet_nil ?_) | (refine lexL_skip0 rfl rfl ?_; simp only [Act.put, List.setIfInBounds_toArray, List.set_cons_succ, List.set_cons_zero]))
      refine lexL_nil ?_
      have hrow3 := setRow_heap w2.drew w.heap.size _ #[.int .i64 m.i, .int .i64 m.x] _ _ hrow2
      have hbw3 : Below w.heap.size w (w2.drew.setRow w.heap.size #[.int .i64 m.i, .int .i64 m.x]) := Below.setRow hbw.drew (Nat.le_refl _) _
      have hRR3 := HRR.out.keep (Keep.of_grown hgW)
      have hsz3 : w.heap.size < (w2.drew.setRow w.heap.size #[.int .i64 m.i, .int .i64 m.x]).heap.size := by rw [setRow_size]; exact hlt2
      generalize w2.drew.setRow w.heap.size #[.int .i64 m.i, .int .i64 m.x] = w3 at *
      have hld3 : ∀ w', Below w3.heap.size w3 w' → (loadVar 24 ⟨w.heap.size, 0, none⟩).run Try.prog w' = .ok (.agg #[.int .i64 m.i, .int .i64 m.x]) w' := fun w' hw' =>
        run_ld_block ((hw'.block _ hsz3).trans hrow3) Try.underlying24 rfl (by kernel_rfl)
      have HLD3 := Lib.hid hld3
      have HRR3 := Lib.hid hRR3
      clear hld3 hRR3 hgW hrow3 hsz3 HLD HRR q0 q1 q4 HQ CS
      go_wp2_with fail
      refine wp_region_lexL (Below w3.heap.size w3) (by kernel_rfl) (by kernel_rfl) ((Below.refl _ _).drew) ?_
      repeat (first | (refine lexL_q0 rfl ?_; go_big_quiet_step (fail); refine wpQuiet_nil ?_) | (refine lexL_skip0 rfl rfl ?_; simp only [Act.put, List.setIfInBounds_toArray, List.set_cons_succ, List.set_cons_zero]))
      refine lexL_ld (⟨w.heap.size, 0, none⟩) (.agg #[.int .i64 m.i, .int .i64 m.x]) rfl rfl rfl (HLD3.out) ?_
      simp only [Act.put, List.setIfInBounds_toArray, List.set_cons_succ, List.set_cons_zero]
      repeat (first | (refine lexL_q0 rfl ?_; go_big_quiet_step (fail); refine wpQuiet_nil ?_) | (refine lexL_skip0 rfl rfl ?_; simp only [Act.put, List.setIfInBounds_toArray, List.set_cons_succ, List.set_cons_zero]))
      refine lexL_e rfl ?_
      go_wp2_with fail
      refine (find_any _ ms _ _ HRR3.out.drew (by omega) m.f m.i m.x m.o).mono ?_
      rintro e u1 ⟨rfl, g1⟩
      have t1 : Below w3.heap.size w3 u1 := Below.ext (Below.refl _ _).drew g1
      go_wp2_with fail
      refine lexL_go (t1) ?_
      repeat (first | (refine lexL_q0 rfl ?_; go_big_quiet_step (fail); refine wpQuiet_nil ?_) | (refine lexL_skip0 rfl rfl ?_; simp only [Act.put, List.setIfInBounds_toArray, List.set_cons_succ, List.set_cons_zero]))
      refine lexL_ld (⟨w.heap.size, 0, none⟩) (.agg #[.int .i64 m.i, .int .i64 m.x]) rfl rfl rfl (HLD3.out) ?_
      simp only [Act.put, List.setIfInBounds_toArray, List.set_cons_succ, List.set_cons_zero]
      repeat (first | (refine lexL_q0 rfl ?_; go_big_quiet_step (fail); refine wpQuiet_nil ?_) | (refine lexL_skip0 rfl rfl ?_; simp only [Act.put, List.setIfInBounds_toArray, List.set_cons_succ, List.set_cons_zero]))
      refine lexL_e rfl ?_
      go_wp2_with fail
      refine (reffind_any _ ms _ _ (HRR3.out.ext t1) (by omega) m.f m.i m.x m.o).mono ?_
      rintro e u2 ⟨rfl, g2⟩
      have t2 := Below.ext t1 g2
      go_wp2_with fail
      refine lexL_go (t2) ?_
      repeat (first | (refine lexL_q0 rfl ?_; go_big_quiet_step (fail); refine wpQuiet_nil ?_) | (refine lexL_skip0 rfl rfl ?_; simp only [Act.put, List.setIfInBounds_toArray, List.set_cons_succ, List.set_cons_zero]))
      refine lexL_e rfl ?_
      go_wp2_with fail
      refine (channel_any _ ms _ _ (HRR3.out.ext t2) (by omega) m.f m.t).mono ?_
      rintro e u3 ⟨c3, rfl, own3, g3⟩
      have t3 := Below.ext t2 g3
      go_wp2_with fail
      refine lexL_go (t3) ?_
      repeat (first | (refine lexL_q0 rfl ?_; go_big_quiet_step (fail); refine wpQuiet_nil ?_) | (refine lexL_skip0 rfl rfl ?_; simp only [Act.put, List.setIfInBounds_toArray, List.set_cons_succ, List.set_cons_zero]))
      refine lexL_e rfl ?_
      go_wp2_with fail
      refine (refchannel_any _ ms _ _ (HRR3.out.ext t3) (by omega) m.f m.t).mono ?_
      rintro e u4 ⟨c4, rfl, own4, g4⟩
      have t4 := Below.ext t3 g4
      go_wp2_with fail
      refine lexL_go (t4) ?_
      repeat (first | (refine lexL_q0 rfl ?_; go_big_quiet_step (fail); refine wpQuiet_nil ?_) | (refine lexL_skip0 rfl rfl ?_; simp only [Act.put, List.setIfInBounds_toArray, List.set_cons_succ, List.set_cons_zero]))
      refine lexL_e rfl ?_
      go_wp2_with fail
      refine (sameints_eq _ _ (chZ ms m.f m.t) _ _ _ (own3.ext g4).recs own4.recs).mono ?_
      rintro e u5 ⟨rfl, g5⟩
      have t5 := Below.ext t4 g5
      go_wp2_with fail
      refine lexL_go (t5) ?_
      repeat (first | (refine lexL_q0 rfl ?_; go_big_quiet_step (fail); refine wpQuiet_nil ?_) | (refine lexL_skip0 rfl rfl ?_; simp only [Act.put, List.setIfInBounds_toArray, List.set_cons_succ, List.set_cons_zero]))
      refine lexL_e rfl ?_
      go_wp2_with fail
      refine (HZ1.out u5 _ (HRR3.out.ext t5)).1.mono ?_
      rintro e u6 ⟨rfl, g6⟩
      have t6 := Below.ext t5 g6
      go_wp2_with fail
      refine lexL_go (t6) ?_
      repeat (first | (refine lexL_q0 rfl ?_; go_big_quiet_step (fail); refine wpQuiet_nil ?_) | (refine lexL_skip0 rfl rfl ?_; simp only [Act.put, List.setIfInBounds_toArray, List.set_cons_succ, List.set_cons_zero]))
      refine lexL_e rfl ?_
      go_wp2_with fail
      refine (HZ1.out u6 _ (HRR3.out.ext t6)).2.mono ?_
      rintro e u7 ⟨rfl, g7⟩
      have t7 := Below.ext t6 g7
      go_wp2_with fail
      refine lexL_go (t7) ?_
      repeat (first | (refine lexL_q0 rfl ?_; go_big_quiet_step (fail); refine wpQuiet_nil ?_) | (refine lexL_skip0 rfl rfl ?_; simp only [Act.put, List.setIfInBounds_toArray, List.set_cons_succ, List.set_cons_zero]))
      refine lexL_e rfl ?_
      go_wp2_with fail
      refine (HZ2.out u7 _ (HRR3.out.ext t7)).1.mono ?_
      rintro e u8 ⟨rfl, g8⟩
      have t8 := Below.ext t7 g8
      go_wp2_with fail
      refine lexL_go (t8) ?_
      repeat (first | (refine lexL_q0 rfl ?_; go_big_quiet_step (fail); refine wpQuiet_nil ?_) | (refine lexL_skip0 rfl rfl ?_; simp only [Act.put, List.setIfInBounds_toArray, List.set_cons_succ, List.set_cons_zero]))
      refine lexL_e rfl ?_
      go_wp2_with fail
      refine (HZ2.out u8 _ (HRR3.out.ext t8)).2.mono ?_
      rintro e u9 ⟨rfl, g9⟩
      have t9 := Below.ext t8 g9
      go_wp2_with fail
      refine lexL_go (t9) ?_
      repeat (first | (refine lexL_q0 rfl ?_; go_big_quiet_step (fail); refine wpQuiet_nil ?_) | (refine lexL_skip0 rfl rfl ?_; simp only [Act.put, List.setIfInBounds_toArray, List.set_cons_succ, List.set_cons_zero]))
      refine lexL_nil ?_
      go_wp2_with fail
      go_wp2
      go_ret
      exact ⟨rfl, Below.ext hbw3 t9⟩
    · have d2 : (a3.tmod 2 == 0) = false := by simpa using hev
      clear hev
      go_wp2_with fail
      refine wp_region_lexL (Below w2.heap.size w2) (by kernel_rfl) (by kernel_rfl) ((Below.refl _ _).drew) ?_
      repeat (first | (refine lexL_q0 rfl ?_; go_big_quiet_step (fail); refine wpQuiet_nil ?_) | (refine lexL_skip0 rfl rfl ?_; simp only [Act.put, List.setIfInBounds_toArray, List.set_cons_succ, List.set_cons_zero]))
      refine lexL_ld (⟨w.heap.size, 0, none⟩) (.agg #[.int .i64 x4, .int .i64 y4]) rfl rfl rfl (HLD.out) ?_
      simp only [Act.put, List.setIfInBounds_toArray, List.set_cons_succ, List.set_cons_zero]
      repeat (first | (refine lexL_q0 rfl ?_; go_big_quiet_step (fail); refine wpQuiet_nil ?_) | (refine lexL_skip0 rfl rfl ?_; simp only [Act.put, List.setIfInBounds_toArray, List.set_cons_succ, List.set_cons_zero]))
      refine lexL_e rfl ?_
      go_wp2_with fail
      refine (find_any _ ms _ _ HRR.out.drew (by omega) a1 x4 y4 a5).mono ?_
      rintro e u1 ⟨rfl, g1⟩
      have t1 : Below w2.heap.size w2 u1 := Below.ext (Below.refl _ _).drew g1
      go_wp2_with fail
      refine lexL_go (t1) ?_
      repeat (first | (refine lexL_q0 rfl ?_; go_big_quiet_step (fail); refine wpQuiet_nil ?_) | (refine lexL_skip0 rfl rfl ?_; simp only [Act.put, List.setIfInBounds_toArray, List.set_cons_succ, List.set_cons_zero]))
      refine lexL_ld (⟨w.heap.size, 0, none⟩) (.agg #[.int .i64 x4, .int .i64 y4]) rfl rfl rfl (HLD.out) ?_
      simp only [Act.put, List.setIfInBounds_toArray, List.set_cons_succ, List.set_cons_zero]
      repeat (first | (refine lexL_q0 rfl ?_; go_big_quiet_step (fail); refine wpQuiet_nil ?_) | (refine lexL_skip0 rfl rfl ?_; simp only [Act.put, List.setIfInBounds_toArray, List.set_cons_succ, List.set_cons_zero]))
      refine lexL_e rfl ?_
      go_wp2_with fail
      refine (reffind_any _ ms _ _ (HRR.out.ext t1) (by omega) a1 x4 y4 a5).mono ?_
      rintro e u2 ⟨rfl, g2⟩
      have t2 := Below.ext t1 g2
      go_wp2_with fail
      refine lexL_go (t2) ?_
      repeat (first | (refine lexL_q0 rfl ?_; go_big_quiet_step (fail); refine wpQuiet_nil ?_) | (refine lexL_skip0 rfl rfl ?_; simp only [Act.put, List.setIfInBounds_toArray, List.set_cons_succ, List.set_cons_zero]))
      refine lexL_e rfl ?_
      go_wp2_with fail
      refine (channel_any _ ms _ _ (HRR.out.ext t2) (by omega) a1 a2).mono ?_
      rintro e u3 ⟨c3, rfl, own3, g3⟩
      have t3 := Below.ext t2 g3
      go_wp2_with fail
      refine lexL_go (t3) ?_
      repeat (first | (refine lexL_q0 rfl ?_; go_big_quiet_step (fail); refine wpQuiet_nil ?_) | (refine lexL_skip0 rfl rfl ?_; simp only [Act.put, List.setIfInBounds_toArray, List.set_cons_succ, List.set_cons_zero]))
      refine lexL_e rfl ?_
      go_wp2_with fail
      refine (refchannel_any _ ms _ _ (HRR.out.ext t3) (by omega) a1 a2).mono ?_
      rintro e u4 ⟨c4, rfl, own4, g4⟩
      have t4 := Below.ext t3 g4
      go_wp2_with fail
      refine lexL_go (t4) ?_
      repeat (first | (refine lexL_q0 rfl ?_; go_big_quiet_step (fail); refine wpQuiet_nil ?_) | (refine lexL_skip0 rfl rfl ?_; simp only [Act.put, List.setIfInBounds_toArray, List.set_cons_succ, List.set_cons_zero]))
      refine lexL_e rfl ?_
      go_wp2_with fail
      refine (sameints_eq _ _ (chZ ms a1 a2) _ _ _ (own3.ext g4).recs own4.recs).mono ?_
      rintro e u5 ⟨rfl, g5⟩
      have t5 := Below.ext t4 g5
      go_wp2_with fail
      refine lexL_go (t5) ?_
      repeat (first | (refine lexL_q0 rfl ?_; go_big_quiet_step (fail); refine wpQuiet_nil ?_) | (refine lexL_skip0 rfl rfl ?_; simp only [Act.put, List.setIfInBounds_toArray, List.set_cons_succ, List.set_cons_zero]))
      refine lexL_e rfl ?_
      go_wp2_with fail
      refine (HZ1.out u5 _ (HRR.out.ext t5)).1.mono ?_
      rintro e u6 ⟨rfl, g6⟩
      have t6 := Below.ext t5 g6
      go_wp2_with fail
      refine lexL_go (t6) ?_
      repeat (first | (refine lexL_q0 rfl ?_; go_big_quiet_step (fail); refine wpQuiet_nil ?_) | (refine lexL_skip0 rfl rfl ?_; simp only [Act.put, List.setIfInBounds_toArray, List.set_cons_succ, List.set_cons_zero]))
      refine lexL_e rfl ?_
      go_wp2_with fail
      refine (HZ1.out u6 _ (HRR.out.ext t6)).2.mono ?_
      rintro e u7 ⟨rfl, g7⟩
      have t7 := Below.ext t6 g7
      go_wp2_with fail
      refine lexL_go (t7) ?_
      repeat (first | (refine lexL_q0 rfl ?_; go_big_quiet_step (fail); refine wpQuiet_nil ?_) | (refine lexL_skip0 rfl rfl ?_; simp only [Act.put, List.setIfInBounds_toArray, List.set_cons_succ, List.set_cons_zero]))
      refine lexL_e rfl ?_
      go_wp2_with fail
      refine (HZ2.out u7 _ (HRR.out.ext t7)).1.mono ?_
      rintro e u8 ⟨rfl, g8⟩
      have t8 := Below.ext t7 g8
      go_wp2_with fail
      refine lexL_go (t8) ?_
      repeat (first | (refine lexL_q0 rfl ?_; go_big_quiet_step (fail); refine wpQuiet_nil ?_) | (refine lexL_skip0 rfl rfl ?_; simp only [Act.put, List.setIfInBounds_toArray, List.set_cons_succ, List.set_cons_zero]))
      refine lexL_e rfl ?_
      go_wp2_with fail
      refine (HZ2.out u8 _ (HRR.out.ext t8)).2.mono ?_
      rintro e u9 ⟨rfl, g9⟩
      have t9 := Below.ext t8 g9
      go_wp2_with fail
      refine lexL_go (t9) ?_
      repeat (first | (refine lexL_q0 rfl ?_; go_big_quiet_step (fail); refine wpQuiet_nil ?_) | (refine lexL_skip0 rfl rfl ?_; simp only [Act.put, List.setIfInBounds_toArray, List.set_cons_succ, List.set_cons_zero]))
      refine lexL_nil ?_
      go_wp2_with fail
      go_wp2
      go_ret
      exact ⟨rfl, Below.ext hbw t9⟩
  · have d1 : decide (k < ms.length) = false := by simpa using hlt
    go_wp2_with fail
    refine wp_region_lexL (Below w2.heap.size w2) (by kernel_rfl) (by kernel_rfl) ((Below.refl _ _).drew) ?_
    repeat (first | (refine lexL_q0 rfl ?_; go_big_quiet_step (fail); refine wpQuiet_nil ?_) | (refine lexL_skip0 rfl rfl ?_; simp only [Act.put, List.setIfInBounds_toArray, List.set_cons_succ, List.set_cons_zero]))
    refine lexL_ld (⟨w.heap.size, 0, none⟩) (.agg #[.int .i64 x4, .int .i64 y4]) rfl rfl rfl (HLD.out) ?_
    simp only [Act.put, List.setIfInBounds_toArray, List.set_cons_succ, List.set_cons_zero]
    repeat (first | (refine lexL_q0 rfl ?_; go_big_quiet_step (fail); refine wpQuiet_nil ?_) | (refine lexL_skip0 rfl rfl ?_; simp only [Act.put, List.setIfInBounds_toArray, List.set_cons_succ, List.set_cons_zero]))
    refine lexL_e rfl ?_
    go_wp2_with fail
    refine (find_any _ ms _ _ HRR.out.drew (by omega) a1 x4 y4 a5).mono ?_
    rintro e u1 ⟨rfl, g1⟩
    have t1 : Below w2.heap.size w2 u1 := Below.ext (Below.refl _ _).drew g1
    go_wp2_with fail
    refine lexL_go (t1) ?_
    repeat (first | (refine lexL_q0 rfl ?_; go_big_quiet_step (fail); refine wpQuiet_nil ?_) | (refine lexL_skip0 rfl rfl ?_; simp only [Act.put, List.setIfInBounds_toArray, List.set_cons_succ, List.set_cons_zero]))
    refine lexL_ld (⟨w.heap.size, 0, none⟩) (.agg #[.int .i64 x4, .int .i64 y4]) rfl rfl rfl (HLD.out) ?_
    simp only [Act.put, List.setIfInBounds_toArray, List.set_cons_succ, List.set_cons_zero]
    repeat (first | (refine lexL_q0 rfl ?_; go_big_quiet_step (fail); refine wpQuiet_nil ?_) | (refine lexL_skip0 rfl rfl ?_; simp only [Act.put, List.setIfInBounds_toArray, List.set_cons_succ, List.set_cons_zero]))
    refine lexL_e rfl ?_
    go_wp2_with fail
    refine (reffind_any _ ms _ _ (HRR.out.ext t1) (by omega) a1 x4 y4 a5).mono ?_
    rintro e u2 ⟨rfl, g2⟩
    have t2 := Below.ext t1 g2
    go_wp2_with fail
    refine lexL_go (t2) ?_
    repeat (first | (refine lexL_q0 rfl ?_; go_big_quiet_step (fail); refine wpQuiet_nil ?_) | (refine lexL_skip0 rfl rfl ?_; simp only [Act.put, List.setIfInBounds_toArray, List.set_cons_succ, List.set_cons_zero]))
    refine lexL_e rfl ?_
    go_wp2_with fail
    refine (channel_any _ ms _ _ (HRR.out.ext t2) (by omega) a1 a2).mono ?_
    rintro e u3 ⟨c3, rfl, own3, g3⟩
    have t3 := Below.ext t2 g3
    go_wp2_with fail
    refine lexL_go (t3) ?_
    repeat (first | (refine lexL_q0 rfl ?_; go_big_quiet_step (fail); refine wpQuiet_nil ?_) | (refine lexL_skip0 rfl rfl ?_; simp only [Act.put, List.setIfInBounds_toArray, List.set_cons_succ, List.set_cons_zero]))
    refine lexL_e rfl ?_
    go_wp2_with fail
    refine (refchannel_any _ ms _ _ (HRR.out.ext t3) (by omega) a1 a2).mono ?_
    rintro e u4 ⟨c4, rfl, own4, g4⟩
    have t4 := Below.ext t3 g4
    go_wp2_with fail
    refine lexL_go (t4) ?_
    repeat (first | (refine lexL_q0 rfl ?_; go_big_quiet_step (fail); refine wpQuiet_nil ?_) | (refine lexL_skip0 rfl rfl ?_; simp only [Act.put, List.setIfInBounds_toArray, List.set_cons_succ, List.set_cons_zero]))
    refine lexL_e rfl ?_
    go_wp2_with fail
    refine (sameints_eq _ _ (chZ ms a1 a2) _ _ _ (own3.ext g4).recs own4.recs).mono ?_
    rintro e u5 ⟨rfl, g5⟩
    have t5 := Below.ext t4 g5
    go_wp2_with fail
    refine lexL_go (t5) ?_
    repeat (first | (refine lexL_q0 rfl ?_; go_big_quiet_step (fail); refine wpQuiet_nil ?_) | (refine lexL_skip0 rfl rfl ?_; simp only [Act.put, List.setIfInBounds_toArray, List.set_cons_succ, List.set_cons_zero]))
    refine lexL_e rfl ?_
    go_wp2_with fail
    refine (HZ1.out u5 _ (HRR.out.ext t5)).1.mono ?_
    rintro e u6 ⟨rfl, g6⟩
    have t6 := Below.ext t5 g6
    go_wp2_with fail
    refine lexL_go (t6) ?_
    repeat (first | (refine lexL_q0 rfl ?_; go_big_quiet_step (fail); refine wpQuiet_nil ?_) | (refine lexL_skip0 rfl rfl ?_; simp only [Act.put, List.setIfInBounds_toArray, List.set_cons_succ, List.set_cons_zero]))
    refine lexL_e rfl ?_
    go_wp2_with fail
    refine (HZ1.out u6 _ (HRR.out.ext t6)).2.mono ?_
    rintro e u7 ⟨rfl, g7⟩
    have t7 := Below.ext t6 g7
    go_wp2_with fail
    refine lexL_go (t7) ?_
    repeat (first | (refine lexL_q0 rfl ?_; go_big_quiet_step (fail); refine wpQuiet_nil ?_) | (refine lexL_skip0 rfl rfl ?_; simp only [Act.put, List.setIfInBounds_toArray, List.set_cons_succ, List.set_cons_zero]))
    refine lexL_e rfl ?_
    go_wp2_with fail
    refine (HZ2.out u7 _ (HRR.out.ext t7)).1.mono ?_
    rintro e u8 ⟨rfl, g8⟩
    have t8 := Below.ext t7 g8
    go_wp2_with fail
    refine lexL_go (t8) ?_
    repeat (first | (refine lexL_q0 rfl ?_; go_big_quiet_step (fail); refine wpQuiet_nil ?_) | (refine lexL_skip0 rfl rfl ?_; simp only [Act.put, List.setIfInBounds_toArray, List.set_cons_succ, List.set_cons_zero]))
    refine lexL_e rfl ?_
    go_wp2_with fail
    refine (HZ2.out u8 _ (HRR.out.ext t8)).2.mono ?_
    rintro e u9 ⟨rfl, g9⟩
    have t9 := Below.ext t8 g9
    go_wp2_with fail
    refine lexL_go (t9) ?_
    repeat (first | (refine lexL_q0 rfl ?_; go_big_quiet_step (fail); refine wpQuiet_nil ?_) | (refine lexL_skip0 rfl rfl ?_; simp only [Act.put, List.setIfInBounds_toArray, List.set_cons_succ, List.set_cons_zero]))
    refine lexL_nil ?_
    go_wp2_with fail
    go_wp2
    go_ret
    exact ⟨rfl, Below.ext hbw t9⟩
end Go.Proofs.Ytfnafdncbbjolaa.networkAsks
