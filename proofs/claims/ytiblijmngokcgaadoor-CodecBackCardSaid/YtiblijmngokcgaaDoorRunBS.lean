import Derived.Test.YtiblijmngokcgaaDoorRunAS
namespace Go.Proofs.YtiblijmngokcgaaDoor
open Go.RowKit
set_option maxRecDepth 100000
set_option linter.unusedVariables false
set_option linter.unusedSimpArgs false
theorem ag_effs (w : World) : (isAgg 133).run Tryd.prog w = .ok false w := by simp [isAgg, run_underlying Tryd.underlying133]
theorem ld_env {w : World} {p : Nat} {v : Env} {c0 c1 c6 : Value} (h : w.heap[p]? = some (.cells #[c0, c1, .int .i64 v.self, .int .i64 v.procs, .int .i64 v.frm, .int .i64 v.value, c6] 155 (0, 0))) : (loadVar 123 ⟨p, 2, none⟩).run Tryd.prog w = .ok (.agg #[.int .i64 v.self, .int .i64 v.procs, .int .i64 v.frm, .int .i64 v.value]) w := by
  have := run_loadVar_mid (P := Tryd.prog) w p 2 123 [.int .i64 v.self, .int .i64 v.procs, .int .i64 v.frm, .int .i64 v.value] _ (World.rangeAt_of_block h 2 4) Tryd.underlying123 rfl (by kernel_rfl)
  simpa using this
set_option maxHeartbeats 1000000 in
theorem rvalue_any (w : World) (p base : Nat) (v : Env) (r : Rst) (F : Nat → Prop) (h : RunOk w p base v r F) (x : ExV) (t : Ex) (S : Nat → Prop) (hx : ExOk 3 S w x t) (ht : RsE 3 t) (hv : EnvIn v) :
    Calls Tryd.prog 81 #[.pointer (some ⟨p, 0, none⟩), .agg #[.int .i64 x.op, .int .i64 x.val, .string x.name, .int .i64 x.slot, .int .i64 x.size, .slice x.A x.n x.c]] w fun e w' => e = .returned (.int .i64 (ev3 r v t)) ∧ Below w.heap.size w w' := by
  obtain ⟨Ac, nc, cc, Al, nl, cl, hM, hF⟩ := h
  have hpl := hM.lt
  obtain ⟨W, hW, bW, kW, SW, R0⟩ := boxD w w #[.int .i64 x.op, .int .i64 x.val, .string x.name, .int .i64 x.slot, .int .i64 x.size, .slice x.A x.n x.c] 145 (Below.refl _ _)
  have hbx : w.heap.size < W.heap.size := by have := SW.out; omega
  have HM := Lib.hid (fun w' (hw : Below W.heap.size W w') => (hM.ext bW).ext hw)
  have hpW : p < W.heap.size := by omega
  have hval := value_any 3 x t S _ W.drew Ac nc cc r.cells v (ExOk.keep (Keep.of_below (Below.ext bW (Below.refl _ W).drew)) _ _ _ hx) ht (((hM.cel.ext bW).ext (Below.refl _ W).drew).recs) hM.n1 hM.ci hv
  have Hval := Lib.hid hval
  clear hval hM hx
  go_enter Tryd.func81, Tryd.ntmps81
  go_upto_region 1 with fail
  try rw [← hW]
  clear hW
  go_wp2_with fail
  refine wp_region_lexL ((fun w' => Below W.heap.size W w')) (by kernel_rfl) (by kernel_rfl) ((Below.refl _ W).drew) ?_
  repeat (first | (refine lexL_q0 rfl ?_; go_big_quiet_step (fail); refine wpQuiet_nil ?_) | (refine lexL_skip0 rfl rfl ?_; simp only [Act.put, List.setIfInBounds_toArray, List.set_cons_succ, List.set_cons_zero]))
  refine lexL_ld (⟨w.heap.size, 0, none⟩) (.agg #[.int .i64 x.op, .int .i64 x.val, .string x.name, .int .i64 x.slot, .int .i64 x.size, .slice x.A x.n x.c]) rfl rfl rfl (fun w' hw' => run_ld_block ((hw'.block w.heap.size hbx).trans R0.out) Tryd.underlying145 rfl (by kernel_rfl)) ?_
  simp only [Act.put, List.setIfInBounds_toArray, List.set_cons_succ, List.set_cons_zero]
  repeat (first | (refine lexL_q0 rfl ?_; go_big_quiet_step (fail); refine wpQuiet_nil ?_) | (refine lexL_skip0 rfl rfl ?_; simp only [Act.put, List.setIfInBounds_toArray, List.set_cons_succ, List.set_cons_zero]))
  refine lexL_ld (⟨p, 0, none⟩) (.slice Ac nc cc) rfl rfl rfl (fun w' hw' => run_ld1 (ag_ints _) (row_cell (HM.out w' hw').row 0 _ rfl)) ?_
  simp only [Act.put, List.setIfInBounds_toArray, List.set_cons_succ, List.set_cons_zero]
  repeat (first | (refine lexL_q0 rfl ?_; go_big_quiet_step (fail); refine wpQuiet_nil ?_) | (refine lexL_skip0 rfl rfl ?_; simp only [Act.put, List.setIfInBounds_toArray, List.set_cons_succ, List.set_cons_zero]))
  refine lexL_ld (⟨p, 2, none⟩) (.agg #[.int .i64 v.self, .int .i64 v.procs, .int .i64 v.frm, .int .i64 v.value]) rfl rfl rfl (fun w' hw' => ld_env (HM.out w' hw').row) ?_
  simp only [Act.put, List.setIfInBounds_toArray, List.set_cons_succ, List.set_cons_zero]
  repeat (first | (refine lexL_q0 rfl ?_; go_big_quiet_step (fail); refine wpQuiet_nil ?_) | (refine lexL_skip0 rfl rfl ?_; simp only [Act.put, List.setIfInBounds_toArray, List.set_cons_succ, List.set_cons_zero]))
  refine lexL_e rfl ?_
  go_wp2_with fail
  refine Hval.out.mono ?_
  rintro e w2 ⟨rfl, hb2⟩
  have y2 := Below.ext (Below.refl _ W).drew hb2
  go_wp2_with fail
  refine lexL_go (y2) ?_
  repeat (first | (refine lexL_q0 rfl ?_; go_big_quiet_step (fail); refine wpQuiet_nil ?_) | (refine lexL_skip0 rfl rfl ?_; simp only [Act.put, List.setIfInBounds_toArray, List.set_cons_succ, List.set_cons_zero]))
  refine lexL_nil ?_
  go_wp2_with fail
  go_ret
  exact ⟨rfl, Below.ext bW y2⟩
set_option maxHeartbeats 2000000 in
theorem effect_any (w : World) (p base : Nat) (v : Env) (r : Rst) (F : Nat → Prop) (h : RunOk w p base v r F) (x : Ef) (hx : (x.kind = 1 ∨ x.kind = 2) ∧ InR x.to ∧ InR x.value) :
    Calls Tryd.prog 87 #[.pointer (some ⟨p, 0, none⟩), .agg #[.int .i64 x.kind, .int .i64 x.to, .int .i64 x.value]] w fun e w' => e = .returned (.tuple #[]) ∧ RunOk w' p base v (r.eff x) F ∧ Below base w w' ∧ Keep F w w' := by
  obtain ⟨Ac, nc, cc, Al, nl, cl, hM, hF⟩ := h
  have hpl := hM.lt
  have hbw := hM.bw
  have HL2 := Lib.hid hM.len2.1
  have hl2 := hM.len2.2
  have hn2 := hM.n2
  obtain ⟨W, hW, bW, kW, SW, R0⟩ := boxD w w #[.int .i64 x.kind, .int .i64 x.to, .int .i64 x.value] 137 (Below.refl _ _)
  have hbx : w.heap.size < W.heap.size := by have := SW.out; omega
  have hMW := hM.ext bW
  have RW0 := Lib.hid hMW.row
  have q1 : W.cell? ⟨p, 1, none⟩ = some (.slice Al nl cl) := row_cell RW0.out 1 _ rfl
  by_cases h8 : nl < 8
  · have d8 : decide ((nl : Int) < 8) = true := by simp; omega
    have hef : r.eff x = { r with l := r.l ++ [x] } := by unfold Rst.eff; rw [if_pos (by rw [HL2.out]; exact h8)]
    rw [hef]
    clear hef
    go_enter Tryd.func87, Tryd.ntmps87
    go_upto_region 1 with fail
    try rw [← hW]
    clear hW
    go_upto_region 2 with fail
    go_wp2_with fail
    refine wp_region_tail (fun w' => w'.heap[p]? = some (.cells #[.slice Ac nc cc, .slice Al nl cl, .int .i64 v.self, .int .i64 v.procs, .int .i64 v.frm, .int .i64 v.value, .int .i64 (r.used : Int)] 155 (0, 0)) ∧ w'.heap[w.heap.size]? = some (.cells #[.int .i64 x.kind, .int .i64 x.to, .int .i64 x.value] 137 (0, 0))) 8 (by kernel_rfl) (by kernel_rfl) (by kernel_rfl) (by decide) ⟨RW0.out, R0.out⟩ ?_
    simp only [List.take_succ_cons, List.take_zero, List.drop_succ_cons, List.drop_zero]
    repeat (first | (refine lexL_q0 rfl ?_; go_big_quiet_step (fail); refine wpQuiet_nil ?_) | (refine lexL_skip0 rfl rfl ?_; simp only [Act.put, List.setIfInBounds_toArray, List.set_cons_succ, List.set_cons_zero]))
    refine lexL_ld (⟨p, 1, none⟩) (.slice Al nl cl) rfl rfl rfl (fun w' hw' => run_ld1 (ag_effs _) (row_cell hw'.1 1 _ rfl)) ?_
    simp only [Act.put, List.setIfInBounds_toArray, List.set_cons_succ, List.set_cons_zero]
    repeat (first | (refine lexL_q0 rfl ?_; go_big_quiet_step (fail); refine wpQuiet_nil ?_) | (refine lexL_skip0 rfl rfl ?_; simp only [Act.put, List.setIfInBounds_toArray, List.set_cons_succ, List.set_cons_zero]))
    refine lexL_ld (⟨w.heap.size, 0, none⟩) (.agg #[.int .i64 x.kind, .int .i64 x.to, .int .i64 x.value]) rfl rfl rfl (fun w' hw' => run_ld_block hw'.2 Tryd.underlying137 rfl (by kernel_rfl)) ?_
    simp only [Act.put, List.setIfInBounds_toArray, List.set_cons_succ, List.set_cons_zero]
    repeat (first | (refine lexL_q0 rfl ?_; go_big_quiet_step (fail); refine wpQuiet_nil ?_) | (refine lexL_skip0 rfl rfl ?_; simp only [Act.put, List.setIfInBounds_toArray, List.set_cons_succ, List.set_cons_zero]))
    refine lexL_e rfl ?_
    go_wp2_with fail
    have ha : Below W.heap.size W.drew (W.drew.alloc (.cells #[.int .i64 x.kind, .int .i64 x.to, .int .i64 x.value] 137)) := (Below.refl _ W.drew).alloc (Nat.le_refl _) _
    have ha' : Below W.heap.size W (W.drew.alloc (.cells #[.int .i64 x.kind, .int .i64 x.to, .int .i64 x.value] 137)) := (Below.refl _ W).drew.trans ha
    have hMa := hMW.ext ha'
    have RA := Lib.hid hMa.row
    have hone : Recs encEf (fun _ => True) (W.drew.alloc (.cells #[.int .i64 x.kind, .int .i64 x.to, .int .i64 x.value] 137)) (.slice (some ⟨W.drew.heap.size, 0, none⟩) 1 1) [x] := ⟨_, 1, rfl, by simp, by simp [maxLen], Cs.lit _ _ _ _ _ trivial rfl⟩
    have hba := hMa.bw
    have hL := HL2.out
    have RB := Lib.hid ((ha'.block w.heap.size hbx).trans R0.out)
    refine lexL_go ⟨RA.out, RB.out⟩ ?_
    repeat (first | (refine lexL_q0 rfl ?_; go_big_quiet_step (fail); refine wpQuiet_nil ?_) | (refine lexL_skip0 rfl rfl ?_; simp only [Act.put, List.setIfInBounds_toArray, List.set_cons_succ, List.set_cons_zero]))
    refine lexL_e rfl ?_
    refine wpList_appR encEf_len encEf_one (.agg #[.int .i64 0, .int .i64 0, .int .i64 0]) 24 _ _ 133 137 base r.l [x] (some ⟨W.drew.heap.size, 0, none⟩) 1 1 (.slice Al nl cl) (nl + 1) rfl rfl Tryd.underlying133 infoEf rfl (by omega) rfl rfl hMa.eff hone (by rw [HL2.out]) (by rw [HL2.out]; omega) (by rw [HL2.out]; omega) hba ?_
    intro A9 c9 w9 hown9 hgr9 hat9 hc91 hc92
    have hneg9 : ∀ b, (Value.slice Al nl cl).ownBlock = some b → base ≤ b := fun b e => (World.ownsRow.lt hMa.eff _ e).1
    have hs9 := hgr9.size
    have hpa := hMa.lt
    have hb9 : base ≤ w9.heap.size := Nat.le_trans hba hs9
    have hneg9' : ∀ b, (Value.slice Al nl cl).ownBlock = some b → b < w.heap.size := fun b e => (World.ownsRow.lt hM.eff _ e).2
    have RB9 := Lib.hid ((hgr9.block w.heap.size (Nat.lt_of_lt_of_le hbx ha'.size) (fun e => Nat.lt_irrefl _ (hneg9' _ e.symm))).trans RB.out)
    have hr9 := (hgr9.block p hpa (fun e => hMa.pl e.symm)).trans RA.out
    have q9 : w9.cell? ⟨p, 1, none⟩ = some (.slice Al nl cl) := row_cell hr9 1 _ rfl
    have f9 : w9.frozen? ⟨p, 1, none⟩ = false := frozen_of_row _ _ _ _ _ hr9
    obtain ⟨w10, hw10⟩ : ∃ w10, w10 = w9.setCell ⟨p, 1, none⟩ (.slice A9 (nl + 1) c9) := ⟨_, rfl⟩
    have gS : w9.grownBy w10 (some p) := by rw [hw10]; exact grown_set (grown_refl _ _)
    have hr10 : w10.heap[p]? = some (.cells #[.slice Ac nc cc, .slice A9 (nl + 1) c9, .int .i64 v.self, .int .i64 v.procs, .int .i64 v.frm, .int .i64 v.value, .int .i64 (r.used : Int)] 155 (0, 0)) := by rw [hw10]; exact heap_setCell_same _ _ _ _ _ _ hr9
    have hp9 : (Value.slice A9 (nl + 1) c9).ownBlock ≠ some p := by
      rcases hat9 with e | e
      · rw [e]; exact hMa.pl
      · rw [e]; intro e2; cases e2; exact Nat.lt_irrefl _ hpa
    have hcells9 : OwnR encZ 1 w9 base 3 (.slice Ac nc cc) r.cells := hMa.cel.kept hgr9 (by
      rcases Option.eq_none_or_eq_some (Value.slice Ac nc cc).ownBlock with h0 | ⟨b, h0⟩
      · exact .inl h0
      · refine .inr (fun e => ?_)
        rw [h0] at e
        exact hMa.cl_ b h0 e.symm)
    have hcl9 : ∀ o, (Value.slice Ac nc cc).ownBlock = some o → (Value.slice A9 (nl + 1) c9).ownBlock ≠ some o := fun o ho => by
      rcases hat9 with e | e
      · rw [e]; exact hMa.cl_ o ho
      · rw [e]; intro e2; cases e2; exact Nat.lt_irrefl _ (World.ownsRow.lt hMa.cel _ ho).2
    have hfin : RunM w10 p base v { r with l := r.l ++ [x] } Ac nc cc A9 (nl + 1) c9 := ⟨hr10, hcells9.kept gS (.inr hMa.pc), hown9.kept gS (.inr hp9), hMa.bp, hMa.pc, hp9, hcl9, hMa.n1, by omega, hMa.us, hMa.ci, fun e he => by
      rcases List.mem_append.1 he with h | h
      · exact hMa.ei e h
      · rw [List.mem_singleton] at h; subst h; exact hx, Nat.le_trans hb9 gS.size⟩
    have hbf : Below base w w10 := (((bW.mono hbw).trans (ha'.mono hMW.bw)).grown hgr9 hba hneg9).trans ((Below.refl base w9).grown gS hb9 (fun k hk => by cases hk; exact hMa.bp))
    have z0 : w.heap.size < (W.drew.alloc (.cells #[.int .i64 x.kind, .int .i64 x.to, .int .i64 x.value] 137)).heap.size := Nat.lt_of_lt_of_le hbx ha'.size
    have z9 : w.heap.size ≤ w9.heap.size := Nat.le_trans (Nat.le_of_lt z0) hs9
    have zA : W.drew.heap.size = W.heap.size := rfl
    have hFf : Frgn F w10 p (.slice Ac nc cc) (.slice A9 (nl + 1) c9) := fun q hq => ⟨Nat.lt_of_lt_of_le (hF q hq).1 (Nat.le_trans z9 gS.size), (hF q hq).2.1, (hF q hq).2.2.1, by
      rcases hat9 with e | e
      · rw [e]; exact (hF q hq).2.2.2
      · rw [e]; intro e2; cases e2; exact Nat.lt_irrefl _ (Nat.lt_trans (hF _ hq).1 z0)⟩
    have hKf : Keep F w w10 := fun q hq h => (gS.block q (Nat.lt_of_lt_of_le hq z9) (by have := (hF q h).2.1; simp; omega)).trans ((hgr9.block q (Nat.lt_trans hq z0) (fun e => (hF q h).2.2.2 e.symm)).trans ((ha'.block q (Nat.lt_trans hq hbx)).trans (bW.block q hq)))
    have HFF := Lib.hid hFf
    have HKF := Lib.hid hKf
    clear hFf hKf
    have HFIN := Lib.hid hfin
    have HBF := Lib.hid hbf
    have HR9 := Lib.hid hr9
    clear hfin hbf hcells9 hcl9 hp9 hr10 hr9 hown9 hgr9 hat9 hone hMa RA gS
    go_wp2_with fail
    refine lexL_go ⟨HR9.out, RB9.out⟩ ?_
    refine lexL_nil ?_
    go_wp2_with fail
    rw [← hw10, Only_normal]
    clear hw10 q9 f9
    go_wp2
    go_end0
    exact ⟨rfl, ⟨_, _, _, _, _, _, HFIN.out, HFF.out⟩, HBF.out, HKF.out⟩
  · have d8 : decide ((nl : Int) < 8) = false := by simp; omega
    have hef : r.eff x = r := by unfold Rst.eff; rw [if_neg (by rw [HL2.out]; exact h8)]
    rw [hef]
    clear hef
    go_enter Tryd.func87, Tryd.ntmps87
    go_upto_region 1 with fail
    try rw [← hW]
    clear hW
    go_wp2
    go_end0
    exact ⟨rfl, ⟨_, _, _, _, _, _, hMW, hF.size bW.size⟩, bW.mono hbw, Keep.of_below bW⟩
end Go.Proofs.YtiblijmngokcgaaDoor
