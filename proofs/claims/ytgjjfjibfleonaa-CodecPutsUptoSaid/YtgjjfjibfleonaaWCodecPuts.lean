/-
  The walk of the law CodecPuts: it returns true and writes nothing that was there. Conditions: what the row says of its arguments, and the bound on their bulk.
-/
import Derived.Test.YtgjjfjibfleonaaPutR
import Derived.Test.YtgjjfjibfleonaaCodecLaw
namespace Go.Proofs.Ytgjjfjibfleonaa.codecPuts
open Go.RowKit
set_option maxRecDepth 100000
set_option linter.unusedVariables false

set_option maxHeartbeats 8000000 in
theorem walk (d : Dt) (Ap : Option Addr) (np cp : Nat) (ps : List Pg) (s : Stt) (Ac Ae As Ao : Option Addr) (nc cc ne ce ns cs no co : Nat) (w : World) (hd : ∀ z ∈ d.l, InR z) (hP : Pgs (· < w.heap.size) w (.slice Ap np cp) ps) (hpo : ∀ p ∈ ps, PgOk p) (hC : Recs encZ (· < w.heap.size) w (.slice Ac nc cc) s.cells) (hE : Recs encEv (· < w.heap.size) w (.slice Ae ne ce) s.evs) (hS : Recs encSn (· < w.heap.size) w (.slice As ns cs) s.sent) (hO : Recs encOu (· < w.heap.size) w (.slice Ao no co) s.outs) (hok : SttOk s) :
    Calls Try.prog 4 #[dtV d, .slice Ap np cp, .agg #[.slice Ac nc cc, .slice Ae ne ce, .slice As ns cs, .slice Ao no co]] w fun e w' => e = .returned (.bool true) ∧ Below w.heap.size w w' := by
  have hP2 := hP.len.2
  have hC2 := hC.len.2
  have hE2 := hE.len.2
  have hS2 := hS.len.2
  have hO2 := hO.len.2
  obtain ⟨W0, hW0⟩ : ∃ W0, W0 = (w.alloc (.cells #[.int .i64 d.proc, .int .i64 d.index, .int .i64 d.ev.k0, .int .i64 d.ev.k1, .int .i64 d.ev.k2, .int .i64 d.ev.k3, .int .i64 d.ev.k4, .int .i64 d.ev.k5, .int .i64 d.ev.k6] 37)).alloc (.cells #[.slice Ac nc cc, .slice Ae ne ce, .slice As ns cs, .slice Ao no co] 43) := ⟨_, rfl⟩
  have ha0 : Below w.heap.size w W0 := by rw [hW0]; exact ((Below.refl _ _).alloc (Nat.le_refl _) _).alloc (by simp) _
  have hs0 : W0.heap.size = w.heap.size + 2 := by rw [hW0]; simp
  have r0 : W0.heap[w.heap.size]? = some (.cells #[.int .i64 d.proc, .int .i64 d.index, .int .i64 d.ev.k0, .int .i64 d.ev.k1, .int .i64 d.ev.k2, .int .i64 d.ev.k3, .int .i64 d.ev.k4, .int .i64 d.ev.k5, .int .i64 d.ev.k6] 37 (0, 0)) := by rw [hW0]; exact (((Below.refl _ _).alloc (Nat.le_refl _) _).block w.heap.size (by simp)).trans (heap_alloc_new w _)
  have r1 : W0.heap[w.heap.size + 1]? = some (.cells #[.slice Ac nc cc, .slice Ae ne ce, .slice As ns cs, .slice Ao no co] 43 (0, 0)) := by
    rw [hW0]
    have := heap_alloc_new (w.alloc (.cells #[.int .i64 d.proc, .int .i64 d.index, .int .i64 d.ev.k0, .int .i64 d.ev.k1, .int .i64 d.ev.k2, .int .i64 d.ev.k3, .int .i64 d.ev.k4, .int .i64 d.ev.k5, .int .i64 d.ev.k6] 37)) (.cells #[.slice Ac nc cc, .slice Ae ne ce, .slice As ns cs, .slice Ao no co] 43)
    rw [World.size_alloc] at this
    exact this
  have Q0 := Lib.hid r0
  have Q1 := Lib.hid r1
  clear r0 r1
  unfold dtV
  go_enter Try.func4, Try.ntmps4
  go_wp2_with fail
  rw [← hW0]
  clear hW0
  refine (awakeC_any W0).mono ?_
  rintro e w1 ⟨rfl, hb1⟩
  have r0 := (hb1.block w.heap.size (by omega)).trans Q0.out
  have r1 := (hb1.block (w.heap.size + 1) (by omega)).trans Q1.out
  have b01 := Below.ext ha0 hb1
  have s1 := hb1.size
  have q1 : w1.cell? ⟨w.heap.size + 1, 1, none⟩ = some (.slice Ae ne ce) := row_cell r1 1 _ rfl
  have q2 : w1.cell? ⟨w.heap.size + 1, 2, none⟩ = some (.slice As ns cs) := row_cell r1 2 _ rfl
  have q3 : w1.cell? ⟨w.heap.size + 1, 3, none⟩ = some (.slice Ao no co) := row_cell r1 3 _ rfl
  have R0 := Lib.hid r0
  have R1 := Lib.hid r1
  clear r0 r1
  by_cases h1 : np ≤ 30
  · have d1 : decide (30 < np) = false := by simpa using h1
    have d1' : decide ((30 : Int) < (np : Int)) = false := by simp; omega
    by_cases h2 : ne ≤ 30
    · have d2 : decide (30 < ne) = false := by simpa using h2
      have d2' : decide ((30 : Int) < (ne : Int)) = false := by simp; omega
      by_cases h3 : ns ≤ 30
      · have d3 : decide (30 < ns) = false := by simpa using h3
        have d3' : decide ((30 : Int) < (ns : Int)) = false := by simp; omega
        by_cases h4 : no ≤ 30
        · have d4 : decide (30 < no) = false := by simpa using h4
          have d4' : decide ((30 : Int) < (no : Int)) = false := by simp; omega
          obtain ⟨W, hW⟩ : ∃ W, W = w1.alloc (.cells #[.int .u8 7] 5) := ⟨_, rfl⟩
          have haW : Below w1.heap.size w1 W := by rw [hW]; exact (Below.refl _ _).alloc (Nat.le_refl _) _
          have hby : Bytes (fun _ => True) W (.slice (some ⟨w1.heap.size, 0, none⟩) 1 1) [7] := by rw [hW]; exact Bytes.lit (S := fun _ => True) w1 _ _ _ _ 1 1 trivial rfl (by omega) (by simp [maxLen]) rfl
          have hN : w.heap.size < W.heap.size := by have := haW.size; omega
          have hN1 : w.heap.size + 1 < W.heap.size := by have := haW.size; omega
          have R0 := Lib.hid ((haW.block w.heap.size (by omega)).trans R0.out)
          have R1 := Lib.hid ((haW.block (w.heap.size + 1) (by omega)).trans R1.out)
          have bwW := Below.ext b01 haW
          have hsz := bwW.size
          have hPW : ∀ w', Below W.heap.size W w' → Pgs (· < w'.heap.size) w' (.slice Ap np cp) ps := fun w' hb => by
            have h := (hP.ext bwW).ext hb
            have := hb.size
            obtain ⟨xs, g1, g2, g3⟩ := h
            exact ⟨xs, g1.mono (fun b _ h => by omega), g2, fun i x p hx hp => ⟨(g3 i x p hx hp).1, (g3 i x p hx hp).2.mono (fun b _ h => by omega)⟩⟩
          have hCW : ∀ w', Below W.heap.size W w' → Recs encZ (· < w'.heap.size) w' (.slice Ac nc cc) s.cells := fun w' hb => ((hC.ext bwW).ext hb).lo
          have hEW : ∀ w', Below W.heap.size W w' → Recs encEv (· < w'.heap.size) w' (.slice Ae ne ce) s.evs := fun w' hb => ((hE.ext bwW).ext hb).lo
          have hSW : ∀ w', Below W.heap.size W w' → Recs encSn (· < w'.heap.size) w' (.slice As ns cs) s.sent := fun w' hb => ((hS.ext bwW).ext hb).lo
          have hOW : ∀ w', Below W.heap.size W w' → Recs encOu (· < w'.heap.size) w' (.slice Ao no co) s.outs := fun w' hb => ((hO.ext bwW).ext hb).lo
          have hde : ∀ z ∈ d.ev.l, InR z := fun z hz' => hd z (by unfold Dt.l; simp [hz'])
          go_wp2_with fail
          rw [← hW]
          clear hW q1 q2 q3
          refine wp_region_lexL (Below W.heap.size W) (by kernel_rfl) (by kernel_rfl) ((Below.refl _ _).drew) ?_
          have b9 : Below W.heap.size W W.drew := (Below.refl _ _).drew
          repeat (first | (refine lexL_q0 rfl ?_; go_big_quiet_step (fail); refine wpQuiet_nil ?_) | (refine lexL_skip0 rfl rfl ?_; simp only [Act.put, List.setIfInBounds_toArray, List.set_cons_succ, List.set_cons_zero]))
          refine lexL_ld (⟨w.heap.size, 2, none⟩) (.agg #[.int .i64 d.ev.k0, .int .i64 d.ev.k1, .int .i64 d.ev.k2, .int .i64 d.ev.k3, .int .i64 d.ev.k4, .int .i64 d.ev.k5, .int .i64 d.ev.k6]) rfl rfl rfl (fun w' hS => run_ld_mid (o := 2) [.int .i64 d.ev.k0, .int .i64 d.ev.k1, .int .i64 d.ev.k2, .int .i64 d.ev.k3, .int .i64 d.ev.k4, .int .i64 d.ev.k5, .int .i64 d.ev.k6] ((hS.block _ hN).trans R0.out) get7 Try.underlying35 rfl (by kernel_rfl)) ?_
          simp only [Act.put, List.setIfInBounds_toArray, List.set_cons_succ, List.set_cons_zero]
          repeat (first | (refine lexL_q0 rfl ?_; go_big_quiet_step (fail); refine wpQuiet_nil ?_) | (refine lexL_skip0 rfl rfl ?_; simp only [Act.put, List.setIfInBounds_toArray, List.set_cons_succ, List.set_cons_zero]))
          refine lexL_e rfl ?_
          go_wp2_with fail
          have h10 := putEvent_any (some ⟨w1.heap.size, 0, none⟩) 1 1 [7] _ W.drew (hby.ext b9) d.ev hde (by omega)
          unfold evV at h10
          refine h10.mono ?_
          rintro r w10 ⟨v10, rfl, hy10, hb10⟩
          have b10 := Below.ext b9 hb10
          go_wp2_with fail
          refine lexL_go (b10) ?_
          repeat (first | (refine lexL_q0 rfl ?_; go_big_quiet_step (fail); refine wpQuiet_nil ?_) | (refine lexL_skip0 rfl rfl ?_; simp only [Act.put, List.setIfInBounds_toArray, List.set_cons_succ, List.set_cons_zero]))
          refine lexL_ld (⟨w.heap.size, 2, none⟩) (.agg #[.int .i64 d.ev.k0, .int .i64 d.ev.k1, .int .i64 d.ev.k2, .int .i64 d.ev.k3, .int .i64 d.ev.k4, .int .i64 d.ev.k5, .int .i64 d.ev.k6]) rfl rfl rfl (fun w' hS => run_ld_mid (o := 2) [.int .i64 d.ev.k0, .int .i64 d.ev.k1, .int .i64 d.ev.k2, .int .i64 d.ev.k3, .int .i64 d.ev.k4, .int .i64 d.ev.k5, .int .i64 d.ev.k6] ((hS.block _ hN).trans R0.out) get7 Try.underlying35 rfl (by kernel_rfl)) ?_
          simp only [Act.put, List.setIfInBounds_toArray, List.set_cons_succ, List.set_cons_zero]
          repeat (first | (refine lexL_q0 rfl ?_; go_big_quiet_step (fail); refine wpQuiet_nil ?_) | (refine lexL_skip0 rfl rfl ?_; simp only [Act.put, List.setIfInBounds_toArray, List.set_cons_succ, List.set_cons_zero]))
          refine lexL_e rfl ?_
          go_wp2_with fail
          have h11 := refputEvent_any (.slice (some ⟨w1.heap.size, 0, none⟩) 1 1) [7] _ w10 (hby.ext b10) d.ev hde (by simp)
          unfold evV at h11
          refine h11.mono ?_
          rintro r w11 ⟨v11, rfl, hy11, hb11⟩
          have b11 := Below.ext b10 hb11
          go_wp2_with fail
          refine lexL_go (b11) ?_
          repeat (first | (refine lexL_q0 rfl ?_; go_big_quiet_step (fail); refine wpQuiet_nil ?_) | (refine lexL_skip0 rfl rfl ?_; simp only [Act.put, List.setIfInBounds_toArray, List.set_cons_succ, List.set_cons_zero]))
          refine lexL_e rfl ?_
          go_wp2_with fail
          refine (samebytes_eq _ _ ([7] ++ encs d.ev.l) _ _ w11 (hy10.ext hb11).by_ hy11.by_).mono ?_
          rintro r w12 ⟨rfl, hb12⟩
          have b12 := Below.ext b11 hb12
          go_wp2_with fail
          refine lexL_go (b12) ?_
          repeat (first | (refine lexL_q0 rfl ?_; go_big_quiet_step (fail); refine wpQuiet_nil ?_) | (refine lexL_skip0 rfl rfl ?_; simp only [Act.put, List.setIfInBounds_toArray, List.set_cons_succ, List.set_cons_zero]))
          refine lexL_ld (⟨w.heap.size, 0, none⟩) (.agg #[.int .i64 d.proc, .int .i64 d.index, .int .i64 d.ev.k0, .int .i64 d.ev.k1, .int .i64 d.ev.k2, .int .i64 d.ev.k3, .int .i64 d.ev.k4, .int .i64 d.ev.k5, .int .i64 d.ev.k6]) rfl rfl rfl (fun w' hS => run_ld_block ((hS.block _ hN).trans R0.out) Try.underlying37 rfl (by kernel_rfl)) ?_
          simp only [Act.put, List.setIfInBounds_toArray, List.set_cons_succ, List.set_cons_zero]
          repeat (first | (refine lexL_q0 rfl ?_; go_big_quiet_step (fail); refine wpQuiet_nil ?_) | (refine lexL_skip0 rfl rfl ?_; simp only [Act.put, List.setIfInBounds_toArray, List.set_cons_succ, List.set_cons_zero]))
          refine lexL_e rfl ?_
          go_wp2_with fail
          have h13 := putDet_any (some ⟨w1.heap.size, 0, none⟩) 1 1 [7] _ w12 (hby.ext b12) d hd (by omega)
          unfold dtV at h13
          refine h13.mono ?_
          rintro r w13 ⟨v13, rfl, hy13, hb13⟩
          have b13 := Below.ext b12 hb13
          go_wp2_with fail
          refine lexL_go (b13) ?_
          repeat (first | (refine lexL_q0 rfl ?_; go_big_quiet_step (fail); refine wpQuiet_nil ?_) | (refine lexL_skip0 rfl rfl ?_; simp only [Act.put, List.setIfInBounds_toArray, List.set_cons_succ, List.set_cons_zero]))
          refine lexL_ld (⟨w.heap.size, 0, none⟩) (.agg #[.int .i64 d.proc, .int .i64 d.index, .int .i64 d.ev.k0, .int .i64 d.ev.k1, .int .i64 d.ev.k2, .int .i64 d.ev.k3, .int .i64 d.ev.k4, .int .i64 d.ev.k5, .int .i64 d.ev.k6]) rfl rfl rfl (fun w' hS => run_ld_block ((hS.block _ hN).trans R0.out) Try.underlying37 rfl (by kernel_rfl)) ?_
          simp only [Act.put, List.setIfInBounds_toArray, List.set_cons_succ, List.set_cons_zero]
          repeat (first | (refine lexL_q0 rfl ?_; go_big_quiet_step (fail); refine wpQuiet_nil ?_) | (refine lexL_skip0 rfl rfl ?_; simp only [Act.put, List.setIfInBounds_toArray, List.set_cons_succ, List.set_cons_zero]))
          refine lexL_e rfl ?_
          go_wp2_with fail
          have h14 := refputDet_any (.slice (some ⟨w1.heap.size, 0, none⟩) 1 1) [7] _ w13 (hby.ext b13) d hd (by simp)
          unfold dtV at h14
          refine h14.mono ?_
          rintro r w14 ⟨v14, rfl, hy14, hb14⟩
          have b14 := Below.ext b13 hb14
          go_wp2_with fail
          refine lexL_go (b14) ?_
          repeat (first | (refine lexL_q0 rfl ?_; go_big_quiet_step (fail); refine wpQuiet_nil ?_) | (refine lexL_skip0 rfl rfl ?_; simp only [Act.put, List.setIfInBounds_toArray, List.set_cons_succ, List.set_cons_zero]))
          refine lexL_e rfl ?_
          go_wp2_with fail
          refine (samebytes_eq _ _ ([7] ++ encs d.l) _ _ w14 (hy13.ext hb14).by_ hy14.by_).mono ?_
          rintro r w15 ⟨rfl, hb15⟩
          have b15 := Below.ext b14 hb15
          go_wp2_with fail
          refine lexL_go (b15) ?_
          repeat (first | (refine lexL_q0 rfl ?_; go_big_quiet_step (fail); refine wpQuiet_nil ?_) | (refine lexL_skip0 rfl rfl ?_; simp only [Act.put, List.setIfInBounds_toArray, List.set_cons_succ, List.set_cons_zero]))
          refine lexL_e rfl ?_
          go_wp2_with fail
          have h16 := putPages_any (some ⟨w1.heap.size, 0, none⟩) 1 1 [7] _ w15 (hby.ext b15) Ap np cp ps (hPW _ b15) hpo (by omega) (by omega)
          refine h16.mono ?_
          rintro r w16 ⟨v16, rfl, hy16, hb16⟩
          have b16 := Below.ext b15 hb16
          go_wp2_with fail
          refine lexL_go (b16) ?_
          repeat (first | (refine lexL_q0 rfl ?_; go_big_quiet_step (fail); refine wpQuiet_nil ?_) | (refine lexL_skip0 rfl rfl ?_; simp only [Act.put, List.setIfInBounds_toArray, List.set_cons_succ, List.set_cons_zero]))
          refine lexL_e rfl ?_
          go_wp2_with fail
          have h17 := refputPages_any (.slice (some ⟨w1.heap.size, 0, none⟩) 1 1) [7] _ w16 (hby.ext b16) Ap np cp ps (hPW _ b16) hpo (by simp) (by omega)
          refine h17.mono ?_
          rintro r w17 ⟨v17, rfl, hy17, hb17⟩
          have b17 := Below.ext b16 hb17
          go_wp2_with fail
          refine lexL_go (b17) ?_
          repeat (first | (refine lexL_q0 rfl ?_; go_big_quiet_step (fail); refine wpQuiet_nil ?_) | (refine lexL_skip0 rfl rfl ?_; simp only [Act.put, List.setIfInBounds_toArray, List.set_cons_succ, List.set_cons_zero]))
          refine lexL_e rfl ?_
          go_wp2_with fail
          refine (samebytes_eq _ _ ([7] ++ encs (pgL ps)) _ _ w17 (hy16.ext hb17).by_ hy17.by_).mono ?_
          rintro r w18 ⟨rfl, hb18⟩
          have b18 := Below.ext b17 hb18
          go_wp2_with fail
          refine lexL_go (b18) ?_
          repeat (first | (refine lexL_q0 rfl ?_; go_big_quiet_step (fail); refine wpQuiet_nil ?_) | (refine lexL_skip0 rfl rfl ?_; simp only [Act.put, List.setIfInBounds_toArray, List.set_cons_succ, List.set_cons_zero]))
          refine lexL_ld (⟨w.heap.size + 1, 0, none⟩) (.agg #[.slice Ac nc cc, .slice Ae ne ce, .slice As ns cs, .slice Ao no co]) rfl rfl rfl (fun w' hS => run_ld_block ((hS.block _ hN1).trans R1.out) Try.underlying43 rfl (by kernel_rfl)) ?_
          simp only [Act.put, List.setIfInBounds_toArray, List.set_cons_succ, List.set_cons_zero]
          repeat (first | (refine lexL_q0 rfl ?_; go_big_quiet_step (fail); refine wpQuiet_nil ?_) | (refine lexL_skip0 rfl rfl ?_; simp only [Act.put, List.setIfInBounds_toArray, List.set_cons_succ, List.set_cons_zero]))
          refine lexL_e rfl ?_
          go_wp2_with fail
          have h19 := putState_any (some ⟨w1.heap.size, 0, none⟩) 1 1 [7] _ w18 (hby.ext b18) s Ac Ae As Ao nc cc ne ce ns cs no co (hCW _ b18) (hEW _ b18) (hSW _ b18) (hOW _ b18) hok (by omega) (by omega) (by omega) (by omega)
          refine h19.mono ?_
          rintro r w19 ⟨v19, rfl, hy19, hb19⟩
          have b19 := Below.ext b18 hb19
          go_wp2_with fail
          refine lexL_go (b19) ?_
          repeat (first | (refine lexL_q0 rfl ?_; go_big_quiet_step (fail); refine wpQuiet_nil ?_) | (refine lexL_skip0 rfl rfl ?_; simp only [Act.put, List.setIfInBounds_toArray, List.set_cons_succ, List.set_cons_zero]))
          refine lexL_ld (⟨w.heap.size + 1, 0, none⟩) (.agg #[.slice Ac nc cc, .slice Ae ne ce, .slice As ns cs, .slice Ao no co]) rfl rfl rfl (fun w' hS => run_ld_block ((hS.block _ hN1).trans R1.out) Try.underlying43 rfl (by kernel_rfl)) ?_
          simp only [Act.put, List.setIfInBounds_toArray, List.set_cons_succ, List.set_cons_zero]
          repeat (first | (refine lexL_q0 rfl ?_; go_big_quiet_step (fail); refine wpQuiet_nil ?_) | (refine lexL_skip0 rfl rfl ?_; simp only [Act.put, List.setIfInBounds_toArray, List.set_cons_succ, List.set_cons_zero]))
          refine lexL_e rfl ?_
          go_wp2_with fail
          have h20 := refputState_any (.slice (some ⟨w1.heap.size, 0, none⟩) 1 1) [7] _ w19 (hby.ext b19) s Ac Ae As Ao nc cc ne ce ns cs no co (hCW _ b19) (hEW _ b19) (hSW _ b19) (hOW _ b19) hok (by simp) (by omega) (by omega) (by omega)
          refine h20.mono ?_
          rintro r w20 ⟨v20, rfl, hy20, hb20⟩
          have b20 := Below.ext b19 hb20
          go_wp2_with fail
          refine lexL_go (b20) ?_
          repeat (first | (refine lexL_q0 rfl ?_; go_big_quiet_step (fail); refine wpQuiet_nil ?_) | (refine lexL_skip0 rfl rfl ?_; simp only [Act.put, List.setIfInBounds_toArray, List.set_cons_succ, List.set_cons_zero]))
          refine lexL_e rfl ?_
          go_wp2_with fail
          refine (samebytes_eq _ _ ([7] ++ encs s.l) _ _ w20 (hy19.ext hb20).by_ hy20.by_).mono ?_
          rintro r w21 ⟨rfl, hb21⟩
          have b21 := Below.ext b20 hb21
          go_wp2_with fail
          refine lexL_go (b21) ?_
          repeat (first | (refine lexL_q0 rfl ?_; go_big_quiet_step (fail); refine wpQuiet_nil ?_) | (refine lexL_skip0 rfl rfl ?_; simp only [Act.put, List.setIfInBounds_toArray, List.set_cons_succ, List.set_cons_zero]))
          refine lexL_nil ?_
          go_wp2_with fail
          go_ret
          exact ⟨rfl, Below.ext bwW b21⟩
        · have d4 : decide (30 < no) = true := by simp; omega
          have d4' : decide ((30 : Int) < (no : Int)) = true := by simp; omega
          go_wp2
          go_ret
          exact ⟨rfl, b01⟩
      · have d3 : decide (30 < ns) = true := by simp; omega
        have d3' : decide ((30 : Int) < (ns : Int)) = true := by simp; omega
        go_wp2
        go_ret
        exact ⟨rfl, b01⟩
    · have d2 : decide (30 < ne) = true := by simp; omega
      have d2' : decide ((30 : Int) < (ne : Int)) = true := by simp; omega
      go_wp2
      go_ret
      exact ⟨rfl, b01⟩
  · have d1 : decide (30 < np) = true := by simp; omega
    have d1' : decide ((30 : Int) < (np : Int)) = true := by simp; omega
    go_wp2
    go_ret
    exact ⟨rfl, b01⟩
end Go.Proofs.Ytgjjfjibfleonaa.codecPuts
