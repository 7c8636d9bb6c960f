import Derived.Test.YtiblijmngokcgaaDoorRunBS
namespace Go.Proofs.YtiblijmngokcgaaDoor
open Go.RowKit
set_option maxRecDepth 100000
set_option linter.unusedVariables false
set_option linter.unusedSimpArgs false
theorem wpList_ldv {P : Program} {ops : Array Oper} {Q : Exit → Act → World → Prop} {o : Oper} {a : Act} {w : World} {rest : List Oper} {t : TypeId} {x : Operand} {A : Addr} {v : Value} (hw : Region.wanted o (yielded ops a.tmps) = true) (ho : o.op = .load t x) (hx : a.eval x = .pointer (some A))
    (hl : (loadVar t A).run P w = .ok v w) (h : wpList P ops Q rest (a.put o.dst v) w) : wpList P ops Q (o :: rest) a w := by
  simp only [wpList, hw, if_true]
  refine .inl ?_
  unfold Oper.wp execOp
  simp only [ho, hx, Instr.loadAt, Instr.sureAddr, Sem.run_bind, Sem.run_pure, Result.andThen_ok, hl, Oper.upon]
  exact h
theorem OwnZ.frozen {w : World} {base g n c : Nat} {l : List Int} (h : OwnR encZ 1 w base 3 (.slice (some ⟨g, 0, none⟩) n c) l) (j : Nat) : w.frozen? ⟨g, j, none⟩ = false := by
  have e := h.len.1
  subst e
  exact World.ownsRow.frozenAt h j
theorem placeM_lt {slot size index : Int} {cells : List Int} (h : 0 ≤ placeM slot size index cells) : placeM slot size index cells < cells.length := by
  unfold placeM at *
  split at h
  · rename_i hc
    rw [if_pos hc]
    exact hc.2.2
  · omega
theorem RunM.put {w : World} {p base : Nat} {v : Env} {r : Rst} {g nc cc nl cl : Nat} {Al : Option Addr} (h : RunM w p base v r (some ⟨g, 0, none⟩) nc cc Al nl cl) (j : Nat) (z : Int) (hz : InR z) :
    RunM (w.setCell ⟨g, j, none⟩ (.int .i64 z)) p base v { r with cells := r.cells.set j z } (some ⟨g, 0, none⟩) nc cc Al nl cl ∧ Below base w (w.setCell ⟨g, j, none⟩ (.int .i64 z)) ∧ g ≠ p := by
  have hgp : g ≠ p := fun e => h.pc (by rw [e]; rfl)
  have hgb := (World.ownsRow.lt h.cel g rfl).1
  have hg : w.grownBy (w.setCell ⟨g, j, none⟩ (.int .i64 z)) (some g) := grown_set (grown_refl _ _)
  refine ⟨⟨(hg.block p h.lt (by simp; omega)).trans h.row, OwnZ.set_ h.cel j z, h.eff.kept hg (.inr (h.cl_ g rfl)), h.bp, h.pc, h.pl, h.cl_, h.n1, h.n2, h.us, fun y hy => ?_, h.ei, by have := h.bw; have := hg.size; omega⟩, (Below.refl base w).setCell hgb _, hgp⟩
  rcases List.mem_or_eq_of_mem_set hy with h1 | h1
  · exact h.ci y h1
  · rw [h1]; exact hz
theorem ld_exAt {w : World} {b o : Nat} {C : Array Value} {T : TypeId} {y : ExV} (h : w.heap[b]? = some (.cells C T (0, 0))) (hc : (C.toList.drop o).take 6 = encEx y) : (loadVar 145 ⟨b, o, none⟩).run Tryd.prog w = .ok (.agg #[.int .i64 y.op, .int .i64 y.val, .string y.name, .int .i64 y.slot, .int .i64 y.size, .slice y.A y.n y.c]) w := by
  have := run_loadVar_mid (P := Tryd.prog) w b o 145 (encEx y) _ (fun j v hv => by
    rw [cell_of_row _ _ _ _ _ _ h]
    have hj : j < 6 := by have := (List.getElem?_eq_some_iff.1 hv).1; simpa [encEx] using this
    rw [← hc, List.getElem?_take, if_pos hj, List.getElem?_drop] at hv
    simpa using hv) Tryd.underlying145 rfl (by kernel_rfl)
  exact this
theorem setCell_other (w : World) (g j : Nat) (u : Value) {b : Nat} (h : b ≠ g) : (w.setCell ⟨g, j, none⟩ u).heap[b]? = w.heap[b]? := Below.heap_setCell w ⟨g, j, none⟩ u b h
theorem simM_1 {v : Env} {r : Rst} {kind : Int} {name : ByteArray} {slot size : Int} {p e : Ex} {body els : List Sm} (h : kind = 1) : simM v r (.mk kind name slot size p e body els) = if 0 ≤ slot ∧ slot < r.cells.length then { r with cells := r.cells.set slot.toNat (ev3 r v e) } else r := by
  subst h; rfl
theorem simM_2 {v : Env} {r : Rst} {kind : Int} {name : ByteArray} {slot size : Int} {p e : Ex} {body els : List Sm} (h : kind = 2) : simM v r (.mk kind name slot size p e body els) = if 0 ≤ placeM slot size (ev3 r v p) r.cells then { r with cells := r.cells.set (placeM slot size (ev3 r v p) r.cells).toNat (ev3 r v e) } else r := by
  subst h; rfl
theorem simM_5 {v : Env} {r : Rst} {kind : Int} {name : ByteArray} {slot size : Int} {p e : Ex} {body els : List Sm} (h : kind = 5) : simM v r (.mk kind name slot size p e body els) = if 0 ≤ ev3 r v p ∧ ev3 r v p < v.procs ∧ ev3 r v p ≠ v.self then r.eff ⟨1, ev3 r v p, ev3 r v e⟩ else r := by
  subst h; rfl
theorem simM_6 {v : Env} {r : Rst} {kind : Int} {name : ByteArray} {slot size : Int} {p e : Ex} {body els : List Sm} (h : kind = 6) : simM v r (.mk kind name slot size p e body els) = r.eff ⟨2, 0, ev3 r v e⟩ := by
  subst h; rfl
set_option maxHeartbeats 8000000 in
theorem simple_any (w : World) (p base : Nat) (v : Env) (r : Rst) (F : Nat → Prop) (h : RunOk w p base v r F) (hv : EnvIn v) (x : SmV) (pl vl : Ex) (body els : List Sm) (hk : x.kind = 1 ∨ x.kind = 2 ∨ x.kind = 5 ∨ x.kind = 6) (hs : 0 ≤ x.slot ∧ x.slot ≤ 1000) (hz : 0 ≤ x.size ∧ x.size ≤ 1000) (S : Nat → Prop) (hp : ExOk 3 S w x.p pl) (hvl : ExOk 3 S w x.v vl) (rp : RsE 3 pl) (rv : RsE 3 vl) :
    Calls Tryd.prog 82 #[.pointer (some ⟨p, 0, none⟩), .agg #[.int .i64 x.kind, .string x.name, .int .i64 x.slot, .int .i64 x.size, .int .i64 x.p.op, .int .i64 x.p.val, .string x.p.name, .int .i64 x.p.slot, .int .i64 x.p.size, .slice x.p.A x.p.n x.p.c, .int .i64 x.v.op, .int .i64 x.v.val, .string x.v.name, .int .i64 x.v.slot, .int .i64 x.v.size, .slice x.v.A x.v.n x.v.c, .slice x.A x.n x.c, .slice x.B x.m x.d]] w fun e w' => e = .returned (.tuple #[]) ∧ RunOk w' p base v (simM v r (.mk x.kind x.name x.slot x.size pl vl body els)) F ∧ Below base w w' ∧ Keep F w w' := by
  obtain ⟨Ac, nc, cc, Al, nl, cl, hM, hF⟩ := h
  have hpl := hM.lt
  have hbw := hM.bw
  have HLC := Lib.hid hM.len.1
  have hlc := hM.len.2
  have hn1 := hM.n1
  obtain ⟨W, hW, bW, kW, SW, R0⟩ := boxD w w #[.int .i64 x.kind, .string x.name, .int .i64 x.slot, .int .i64 x.size, .int .i64 x.p.op, .int .i64 x.p.val, .string x.p.name, .int .i64 x.p.slot, .int .i64 x.p.size, .slice x.p.A x.p.n x.p.c, .int .i64 x.v.op, .int .i64 x.v.val, .string x.v.name, .int .i64 x.v.slot, .int .i64 x.v.size, .slice x.v.A x.v.n x.v.c, .slice x.A x.n x.c, .slice x.B x.m x.d] 147 (Below.refl _ _)
  have hbx : w.heap.size < W.heap.size := by have := SW.out; omega
  have hpW : p < W.heap.size := by omega
  have HM := Lib.hid (fun w' (hw : Below W.heap.size W w') => (hM.ext bW).ext hw)
  have HRX := Lib.hid (fun w' (hw : Below W.heap.size W w') => (hw.block w.heap.size hbx).trans R0.out)
  have HRO := Lib.hid (fun w' (hw : Below W.heap.size W w') => (show RunOk w' p base v r F from ⟨_, _, _, _, _, _, HM.out w' hw, (hF.size bW.size).size hw.size⟩))
  have HKF := Lib.hid (fun w' (hw : Below W.heap.size W w') => (show Keep F w w' from fun q hq h => (hw.block q (by have := bW.size; omega)).trans (bW.block q hq)))
  have HVP := Lib.hid (fun w' (hw : Below W.heap.size W w') => rvalue_any w' p base v r F (HRO.out w' hw) x.p pl S (ExOk.keep (Keep.of_below (Below.ext bW hw)) _ _ _ hp) rp hv)
  have HVV := Lib.hid (fun w' (hw : Below W.heap.size W w') => rvalue_any w' p base v r F (HRO.out w' hw) x.v vl S (ExOk.keep (Keep.of_below (Below.ext bW hw)) _ _ _ hvl) rv hv)
  have ivp : InR (ev3 r v pl) := evM_in hM.ci hv 3 pl rp
  have ivv : InR (ev3 r v vl) := evM_in hM.ci hv 3 vl rv
  have q0 : W.cell? ⟨w.heap.size, 0, none⟩ = some (.int .i64 x.kind) := row_cell R0.out 0 _ rfl
  have hWW := Below.refl W.heap.size W
  obtain ⟨pv, hpv⟩ : ∃ z, z = ev3 r v pl := ⟨_, rfl⟩
  obtain ⟨vv, hvv⟩ : ∃ z, z = ev3 r v vl := ⟨_, rfl⟩
  rw [← hpv] at HVP ivp
  rw [← hvv] at HVV ivv
  have HPV := Lib.hid hpv
  have HVV' := Lib.hid hvv
  have HMr := Lib.hid hM
  clear hp hvl rp rv hpv hvv hM
  by_cases k1 : x.kind = 1
  · have d1 : (x.kind == 1) = true := by simpa using k1
    have ds : decide ((0 : Int) ≤ x.slot) = true := by simp; omega
    rw [simM_1 k1]
    clear k1
    by_cases hlt : x.slot < nc
    · have dl : decide (x.slot < (nc : Int)) = true := by simpa using hlt
      obtain ⟨j, hj⟩ : ∃ j : Nat, x.slot = (j : Int) := ⟨x.slot.toNat, by omega⟩
      have hjn : j < nc := by omega
      obtain ⟨g, rfl, hg1, hg2⟩ := HMr.out.cel.some_ (by have := HLC.out; omega)
      rw [if_pos ⟨hs.1, by have := HLC.out; omega⟩]
      have HJ := Lib.hid hj
      have hjt : x.slot.toNat = j := by omega
      rw [hjt, HVV'.out.symm]
      clear hj hjt
      go_enter Tryd.func82, Tryd.ntmps82
      go_upto_region 1 with fail
      try rw [← hW]
      clear hW
      go_wp2_with fail
      refine wp_region_lexL ((fun w' => Below W.heap.size W w')) (by kernel_rfl) (by kernel_rfl) (hWW.drew) ?_
      repeat (first | (refine lexL_q0 rfl ?_; go_big_quiet_step (fail); refine wpQuiet_nil ?_) | (refine lexL_skip0 rfl rfl ?_; simp only [Act.put, List.setIfInBounds_toArray, List.set_cons_succ, List.set_cons_zero]))
      refine lexL_ld (⟨w.heap.size, 2, none⟩) (.int .i64 x.slot) rfl rfl rfl (fun w' hw' => run_ld1 (ag_int _) (row_cell (HRX.out w' hw') 2 _ rfl)) ?_
      simp only [Act.put, List.setIfInBounds_toArray, List.set_cons_succ, List.set_cons_zero]
      repeat (first | (refine lexL_q0 rfl ?_; go_big_quiet_step (fail); refine wpQuiet_nil ?_) | (refine lexL_skip0 rfl rfl ?_; simp only [Act.put, List.setIfInBounds_toArray, List.set_cons_succ, List.set_cons_zero]))
      refine lexL_ld (⟨w.heap.size, 2, none⟩) (.int .i64 x.slot) rfl rfl rfl (fun w' hw' => run_ld1 (ag_int _) (row_cell (HRX.out w' hw') 2 _ rfl)) ?_
      simp only [Act.put, List.setIfInBounds_toArray, List.set_cons_succ, List.set_cons_zero]
      repeat (first | (refine lexL_q0 rfl ?_; go_big_quiet_step (fail); refine wpQuiet_nil ?_) | (refine lexL_skip0 rfl rfl ?_; simp only [Act.put, List.setIfInBounds_toArray, List.set_cons_succ, List.set_cons_zero]))
      refine lexL_ld (⟨p, 0, none⟩) (.slice (some ⟨g, 0, none⟩) nc cc) rfl rfl rfl (fun w' hw' => run_ld1 (ag_ints _) (row_cell (HM.out w' hw').row 0 _ rfl)) ?_
      simp only [Act.put, List.setIfInBounds_toArray, List.set_cons_succ, List.set_cons_zero]
      repeat (first | (refine lexL_q0 rfl ?_; go_big_quiet_step (fail); refine wpQuiet_nil ?_) | (refine lexL_skip0 rfl rfl ?_; simp only [Act.put, List.setIfInBounds_toArray, List.set_cons_succ, List.set_cons_zero]))
      refine lexL_nil ?_
      go_wp2_with fail
      go_wp2_with fail
      refine wp_region_lexL ((fun w' => w'.heap[p]? = some (.cells #[.slice (some ⟨g, 0, none⟩) nc cc, .slice Al nl cl, .int .i64 v.self, .int .i64 v.procs, .int .i64 v.frm, .int .i64 v.value, .int .i64 (r.used : Int)] 155 (0, 0)) ∧ w'.heap[w.heap.size]? = some (.cells #[.int .i64 x.kind, .string x.name, .int .i64 x.slot, .int .i64 x.size, .int .i64 x.p.op, .int .i64 x.p.val, .string x.p.name, .int .i64 x.p.slot, .int .i64 x.p.size, .slice x.p.A x.p.n x.p.c, .int .i64 x.v.op, .int .i64 x.v.val, .string x.v.name, .int .i64 x.v.slot, .int .i64 x.v.size, .slice x.v.A x.v.n x.v.c, .slice x.A x.n x.c, .slice x.B x.m x.d] 147 (0, 0)))) (by kernel_rfl) (by kernel_rfl) (⟨(HM.out _ hWW.drew.drew).row, HRX.out _ hWW.drew.drew⟩) ?_
      repeat (first | (refine lexL_q0 rfl ?_; go_big_quiet_step (fail); refine wpQuiet_nil ?_) | (refine lexL_skip0 rfl rfl ?_; simp only [Act.put, List.setIfInBounds_toArray, List.set_cons_succ, List.set_cons_zero]))
      refine lexL_ld (⟨p, 0, none⟩) (.slice (some ⟨g, 0, none⟩) nc cc) rfl rfl rfl (fun w' hw' => run_ld1 (ag_ints _) (row_cell hw'.1 0 _ rfl)) ?_
      simp only [Act.put, List.setIfInBounds_toArray, List.set_cons_succ, List.set_cons_zero]
      repeat (first | (refine lexL_q0 rfl ?_; go_big_quiet_step (fail); refine wpQuiet_nil ?_) | (refine lexL_skip0 rfl rfl ?_; simp only [Act.put, List.setIfInBounds_toArray, List.set_cons_succ, List.set_cons_zero]))
      refine lexL_ld (⟨w.heap.size, 2, none⟩) (.int .i64 (j : Int)) rfl rfl rfl (fun w' hw' => run_ld1 (ag_int _) (by rw [← HJ.out]; exact row_cell hw'.2 2 _ rfl)) ?_
      simp only [Act.put, List.setIfInBounds_toArray, List.set_cons_succ, List.set_cons_zero]
      repeat (first | (refine lexL_q0 rfl ?_; go_big_quiet_step (fail); refine wpQuiet_nil ?_) | (refine lexL_skip0 rfl rfl ?_; simp only [Act.put, List.setIfInBounds_toArray, List.set_cons_succ, List.set_cons_zero]))
      refine lexL_ld (⟨w.heap.size, 10, none⟩) (.agg #[.int .i64 x.v.op, .int .i64 x.v.val, .string x.v.name, .int .i64 x.v.slot, .int .i64 x.v.size, .slice x.v.A x.v.n x.v.c]) rfl rfl rfl (fun w' hw' => ld_exAt (y := x.v) hw'.2 rfl) ?_
      simp only [Act.put, List.setIfInBounds_toArray, List.set_cons_succ, List.set_cons_zero]
      repeat (first | (refine lexL_q0 rfl ?_; go_big_quiet_step (fail); refine wpQuiet_nil ?_) | (refine lexL_skip0 rfl rfl ?_; simp only [Act.put, List.setIfInBounds_toArray, List.set_cons_succ, List.set_cons_zero]))
      refine lexL_e rfl ?_
      go_wp2_with fail
      refine (HVV.out _ hWW.drew.drew).mono ?_
      rintro e w2 ⟨rfl, hb2⟩
      have y2 := Below.ext hWW.drew.drew hb2
      have M2 := HM.out w2 y2
      obtain ⟨m1, m2, m3⟩ := M2.put j vv ivv
      obtain ⟨bz, oz, z0, hA0, _, _, hz0, hcz⟩ := M2.cel.recs.at_ encZ_len (j := j) (by have := HLC.out; omega) (by omega)
      cases hA0
      have qc : w2.cell? ⟨g, j, none⟩ = some (.int .i64 z0) := by
        have := hcz 0 _ rfl
        rw [Nat.mul_one, Nat.zero_add] at this
        exact this
      have fc : w2.frozen? ⟨g, j, none⟩ = false := OwnZ.frozen M2.cel j
      have hgx : g ≠ w.heap.size := by omega
      have RP3 := Lib.hid m1.row
      have RX3 := Lib.hid ((setCell_other w2 g j (.int .i64 vv) (show w.heap.size ≠ g by omega)).trans (HRX.out w2 y2))
      have HM1 := Lib.hid m1
      have HK1 := Lib.hid (show Keep F w (w2.setCell ⟨g, j, none⟩ (.int .i64 vv)) from fun q hq h => (setCell_other w2 g j _ (fun e => (hF q h).2.2.1 (by rw [e]; rfl))).trans (HKF.out w2 y2 q hq h))
      have HF1 := Lib.hid ((((hF.size bW.size).size y2.size)).size m2.size)
      have HB1 := Lib.hid ((bW.mono hbw).trans ((y2.mono (by have := bW.size; omega)).trans m2))
      clear hcz hz0 m1 m2 m3
      go_wp2_with fail
      refine lexL_go (⟨M2.row, HRX.out w2 y2⟩) ?_
      repeat (first | (refine lexL_q0 rfl ?_; go_big_quiet_step (fail); refine wpQuiet_nil ?_) | (refine lexL_skip0 rfl rfl ?_; simp only [Act.put, List.setIfInBounds_toArray, List.set_cons_succ, List.set_cons_zero]))
      refine lexL_e rfl ?_
      go_wp2_with fail
      refine lexL_go ⟨RP3.out, RX3.out⟩ ?_
      repeat (first | (refine lexL_q0 rfl ?_; go_big_quiet_step (fail); refine wpQuiet_nil ?_) | (refine lexL_skip0 rfl rfl ?_; simp only [Act.put, List.setIfInBounds_toArray, List.set_cons_succ, List.set_cons_zero]))
      refine lexL_nil ?_
      go_wp2
      go_end0
      exact ⟨rfl, ⟨_, _, _, _, _, _, HM1.out, HF1.out⟩, HB1.out, HK1.out⟩
    · have dl : decide (x.slot < (nc : Int)) = false := by simpa using hlt
      rw [if_neg (by have := HLC.out; omega)]
      go_enter Tryd.func82, Tryd.ntmps82
      go_upto_region 1 with fail
      try rw [← hW]
      clear hW
      go_wp2_with fail
      refine wp_region_lexL ((fun w' => Below W.heap.size W w')) (by kernel_rfl) (by kernel_rfl) (hWW.drew) ?_
      repeat (first | (refine lexL_q0 rfl ?_; go_big_quiet_step (fail); refine wpQuiet_nil ?_) | (refine lexL_skip0 rfl rfl ?_; simp only [Act.put, List.setIfInBounds_toArray, List.set_cons_succ, List.set_cons_zero]))
      refine lexL_ld (⟨w.heap.size, 2, none⟩) (.int .i64 x.slot) rfl rfl rfl (fun w' hw' => run_ld1 (ag_int _) (row_cell (HRX.out w' hw') 2 _ rfl)) ?_
      simp only [Act.put, List.setIfInBounds_toArray, List.set_cons_succ, List.set_cons_zero]
      repeat (first | (refine lexL_q0 rfl ?_; go_big_quiet_step (fail); refine wpQuiet_nil ?_) | (refine lexL_skip0 rfl rfl ?_; simp only [Act.put, List.setIfInBounds_toArray, List.set_cons_succ, List.set_cons_zero]))
      refine lexL_ld (⟨w.heap.size, 2, none⟩) (.int .i64 x.slot) rfl rfl rfl (fun w' hw' => run_ld1 (ag_int _) (row_cell (HRX.out w' hw') 2 _ rfl)) ?_
      simp only [Act.put, List.setIfInBounds_toArray, List.set_cons_succ, List.set_cons_zero]
      repeat (first | (refine lexL_q0 rfl ?_; go_big_quiet_step (fail); refine wpQuiet_nil ?_) | (refine lexL_skip0 rfl rfl ?_; simp only [Act.put, List.setIfInBounds_toArray, List.set_cons_succ, List.set_cons_zero]))
      refine lexL_ld (⟨p, 0, none⟩) (.slice Ac nc cc) rfl rfl rfl (fun w' hw' => run_ld1 (ag_ints _) (row_cell (HM.out w' hw').row 0 _ rfl)) ?_
      simp only [Act.put, List.setIfInBounds_toArray, List.set_cons_succ, List.set_cons_zero]
      repeat (first | (refine lexL_q0 rfl ?_; go_big_quiet_step (fail); refine wpQuiet_nil ?_) | (refine lexL_skip0 rfl rfl ?_; simp only [Act.put, List.setIfInBounds_toArray, List.set_cons_succ, List.set_cons_zero]))
      refine lexL_nil ?_
      go_wp2_with fail
      go_end0
      exact ⟨rfl, HRO.out _ hWW.drew, (bW.mono hbw).drew, HKF.out _ hWW.drew⟩
  have e1 : (x.kind == 1) = false := by simpa using k1
  by_cases k2 : x.kind = 2
  · have d2 : (x.kind == 2) = true := by simpa using k2
    rw [simM_2 k2, ← HPV.out, ← HVV'.out]
    clear k2 k1 hk
    obtain ⟨nn, hnn⟩ : ∃ z, z = placeM x.slot x.size pv r.cells := ⟨_, rfl⟩
    rw [← hnn]
    have hpl2 := fun (w' : World) => place_any Ac nc cc r.cells x.slot x.size pv w' HLC.out hn1 hs hz ivp
    rw [← hnn] at hpl2
    have HPL := Lib.hid hpl2
    have hnlt : 0 ≤ nn → nn < nc := fun h => by have := placeM_lt (hnn ▸ h); rw [← hnn, HLC.out] at this; exact this
    clear hpl2 hnn
    by_cases hge : 0 ≤ nn
    · have dg : decide ((0 : Int) ≤ nn) = true := by simpa using hge
      obtain ⟨j, rfl⟩ : ∃ j : Nat, nn = (j : Int) := ⟨nn.toNat, by omega⟩
      have hjn : j < nc := by have := hnlt hge; omega
      obtain ⟨g, rfl, hg1, hg2⟩ := HMr.out.cel.some_ (by have := HLC.out; omega)
      rw [if_pos hge, show ((j : Int)).toNat = j from rfl]
      clear hnlt hge
      go_enter Tryd.func82, Tryd.ntmps82
      go_upto_region 1 with fail
      try rw [← hW]
      clear hW
      go_upto_region 6 with fail
      go_wp2_with fail
      refine wp_region_lexL ((fun w' => Below W.heap.size W w')) (by kernel_rfl) (by kernel_rfl) (hWW.drew) ?_
      repeat (first | (refine lexL_q0 rfl ?_; go_big_quiet_step (fail); refine wpQuiet_nil ?_) | (refine lexL_skip0 rfl rfl ?_; simp only [Act.put, List.setIfInBounds_toArray, List.set_cons_succ, List.set_cons_zero]))
      refine lexL_ld (⟨w.heap.size, 2, none⟩) (.int .i64 x.slot) rfl rfl rfl (fun w' hw' => run_ld1 (ag_int _) (row_cell (HRX.out w' hw') 2 _ rfl)) ?_
      simp only [Act.put, List.setIfInBounds_toArray, List.set_cons_succ, List.set_cons_zero]
      repeat (first | (refine lexL_q0 rfl ?_; go_big_quiet_step (fail); refine wpQuiet_nil ?_) | (refine lexL_skip0 rfl rfl ?_; simp only [Act.put, List.setIfInBounds_toArray, List.set_cons_succ, List.set_cons_zero]))
      refine lexL_ld (⟨w.heap.size, 3, none⟩) (.int .i64 x.size) rfl rfl rfl (fun w' hw' => run_ld1 (ag_int _) (row_cell (HRX.out w' hw') 3 _ rfl)) ?_
      simp only [Act.put, List.setIfInBounds_toArray, List.set_cons_succ, List.set_cons_zero]
      repeat (first | (refine lexL_q0 rfl ?_; go_big_quiet_step (fail); refine wpQuiet_nil ?_) | (refine lexL_skip0 rfl rfl ?_; simp only [Act.put, List.setIfInBounds_toArray, List.set_cons_succ, List.set_cons_zero]))
      refine lexL_ld (⟨w.heap.size, 4, none⟩) (.agg #[.int .i64 x.p.op, .int .i64 x.p.val, .string x.p.name, .int .i64 x.p.slot, .int .i64 x.p.size, .slice x.p.A x.p.n x.p.c]) rfl rfl rfl (fun w' hw' => ld_exAt (y := x.p) (HRX.out w' hw') rfl) ?_
      simp only [Act.put, List.setIfInBounds_toArray, List.set_cons_succ, List.set_cons_zero]
      repeat (first | (refine lexL_q0 rfl ?_; go_big_quiet_step (fail); refine wpQuiet_nil ?_) | (refine lexL_skip0 rfl rfl ?_; simp only [Act.put, List.setIfInBounds_toArray, List.set_cons_succ, List.set_cons_zero]))
      refine lexL_e rfl ?_
      go_wp2_with fail
      refine (HVP.out _ hWW.drew).mono ?_
      rintro e w5 ⟨rfl, hb5⟩
      have y5 := Below.ext hWW.drew hb5
      go_wp2_with fail
      refine lexL_go (y5) ?_
      repeat (first | (refine lexL_q0 rfl ?_; go_big_quiet_step (fail); refine wpQuiet_nil ?_) | (refine lexL_skip0 rfl rfl ?_; simp only [Act.put, List.setIfInBounds_toArray, List.set_cons_succ, List.set_cons_zero]))
      refine lexL_ld (⟨p, 0, none⟩) (.slice (some ⟨g, 0, none⟩) nc cc) rfl rfl rfl (fun w' hw' => run_ld1 (ag_ints _) (row_cell (HM.out w' hw').row 0 _ rfl)) ?_
      simp only [Act.put, List.setIfInBounds_toArray, List.set_cons_succ, List.set_cons_zero]
      repeat (first | (refine lexL_q0 rfl ?_; go_big_quiet_step (fail); refine wpQuiet_nil ?_) | (refine lexL_skip0 rfl rfl ?_; simp only [Act.put, List.setIfInBounds_toArray, List.set_cons_succ, List.set_cons_zero]))
      refine lexL_e rfl ?_
      go_wp2_with fail
      refine (HPL.out w5).mono ?_
      rintro e w6 ⟨rfl, rfl⟩
      go_wp2_with fail
      refine lexL_go (y5) ?_
      repeat (first | (refine lexL_q0 rfl ?_; go_big_quiet_step (fail); refine wpQuiet_nil ?_) | (refine lexL_skip0 rfl rfl ?_; simp only [Act.put, List.setIfInBounds_toArray, List.set_cons_succ, List.set_cons_zero]))
      refine lexL_nil ?_
      go_wp2_with fail
      go_upto_region 8 with fail
      go_wp2_with fail
      refine wp_region_lexL ((fun w' => w'.heap[p]? = some (.cells #[.slice (some ⟨g, 0, none⟩) nc cc, .slice Al nl cl, .int .i64 v.self, .int .i64 v.procs, .int .i64 v.frm, .int .i64 v.value, .int .i64 (r.used : Int)] 155 (0, 0)) ∧ w'.heap[w.heap.size]? = some (.cells #[.int .i64 x.kind, .string x.name, .int .i64 x.slot, .int .i64 x.size, .int .i64 x.p.op, .int .i64 x.p.val, .string x.p.name, .int .i64 x.p.slot, .int .i64 x.p.size, .slice x.p.A x.p.n x.p.c, .int .i64 x.v.op, .int .i64 x.v.val, .string x.v.name, .int .i64 x.v.slot, .int .i64 x.v.size, .slice x.v.A x.v.n x.v.c, .slice x.A x.n x.c, .slice x.B x.m x.d] 147 (0, 0)))) (by kernel_rfl) (by kernel_rfl) (⟨(HM.out _ y5.drew).row, HRX.out _ y5.drew⟩) ?_
      repeat (first | (refine lexL_q0 rfl ?_; go_big_quiet_step (fail); refine wpQuiet_nil ?_) | (refine lexL_skip0 rfl rfl ?_; simp only [Act.put, List.setIfInBounds_toArray, List.set_cons_succ, List.set_cons_zero]))
      refine lexL_ld (⟨p, 0, none⟩) (.slice (some ⟨g, 0, none⟩) nc cc) rfl rfl rfl (fun w' hw' => run_ld1 (ag_ints _) (row_cell hw'.1 0 _ rfl)) ?_
      simp only [Act.put, List.setIfInBounds_toArray, List.set_cons_succ, List.set_cons_zero]
      repeat (first | (refine lexL_q0 rfl ?_; go_big_quiet_step (fail); refine wpQuiet_nil ?_) | (refine lexL_skip0 rfl rfl ?_; simp only [Act.put, List.setIfInBounds_toArray, List.set_cons_succ, List.set_cons_zero]))
      refine lexL_ld (⟨w.heap.size, 10, none⟩) (.agg #[.int .i64 x.v.op, .int .i64 x.v.val, .string x.v.name, .int .i64 x.v.slot, .int .i64 x.v.size, .slice x.v.A x.v.n x.v.c]) rfl rfl rfl (fun w' hw' => ld_exAt (y := x.v) hw'.2 rfl) ?_
      simp only [Act.put, List.setIfInBounds_toArray, List.set_cons_succ, List.set_cons_zero]
      repeat (first | (refine lexL_q0 rfl ?_; go_big_quiet_step (fail); refine wpQuiet_nil ?_) | (refine lexL_skip0 rfl rfl ?_; simp only [Act.put, List.setIfInBounds_toArray, List.set_cons_succ, List.set_cons_zero]))
      refine lexL_e rfl ?_
      go_wp2_with fail
      refine (HVV.out _ y5.drew).mono ?_
      rintro e w2 ⟨rfl, hb2⟩
      have y2 := Below.ext y5.drew hb2
      have M2 := HM.out w2 y2
      obtain ⟨m1, m2, m3⟩ := M2.put j vv ivv
      obtain ⟨bz, oz, z0, hA0, _, _, hz0, hcz⟩ := M2.cel.recs.at_ encZ_len (j := j) (by have := HLC.out; omega) (by omega)
      cases hA0
      have qc : w2.cell? ⟨g, j, none⟩ = some (.int .i64 z0) := by
        have := hcz 0 _ rfl
        rw [Nat.mul_one, Nat.zero_add] at this
        exact this
      have fc : w2.frozen? ⟨g, j, none⟩ = false := OwnZ.frozen M2.cel j
      have hgx : g ≠ w.heap.size := by omega
      have RP3 := Lib.hid m1.row
      have RX3 := Lib.hid ((setCell_other w2 g j (.int .i64 vv) (show w.heap.size ≠ g by omega)).trans (HRX.out w2 y2))
      have HM1 := Lib.hid m1
      have HK1 := Lib.hid (show Keep F w (w2.setCell ⟨g, j, none⟩ (.int .i64 vv)) from fun q hq h => (setCell_other w2 g j _ (fun e => (hF q h).2.2.1 (by rw [e]; rfl))).trans (HKF.out w2 y2 q hq h))
      have HF1 := Lib.hid ((((hF.size bW.size).size y2.size)).size m2.size)
      have HB1 := Lib.hid ((bW.mono hbw).trans ((y2.mono (by have := bW.size; omega)).trans m2))
      clear hcz hz0 m1 m2 m3
      go_wp2_with fail
      refine lexL_go (⟨M2.row, HRX.out w2 y2⟩) ?_
      repeat (first | (refine lexL_q0 rfl ?_; go_big_quiet_step (fail); refine wpQuiet_nil ?_) | (refine lexL_skip0 rfl rfl ?_; simp only [Act.put, List.setIfInBounds_toArray, List.set_cons_succ, List.set_cons_zero]))
      refine lexL_e rfl ?_
      go_wp2_with fail
      refine lexL_go ⟨RP3.out, RX3.out⟩ ?_
      repeat (first | (refine lexL_q0 rfl ?_; go_big_quiet_step (fail); refine wpQuiet_nil ?_) | (refine lexL_skip0 rfl rfl ?_; simp only [Act.put, List.setIfInBounds_toArray, List.set_cons_succ, List.set_cons_zero]))
      refine lexL_nil ?_
      go_wp2
      go_end0
      exact ⟨rfl, ⟨_, _, _, _, _, _, HM1.out, HF1.out⟩, HB1.out, HK1.out⟩
    · have dg : decide ((0 : Int) ≤ nn) = false := by simpa using hge
      rw [if_neg hge]
      clear hnlt hge
      go_enter Tryd.func82, Tryd.ntmps82
      go_upto_region 1 with fail
      try rw [← hW]
      clear hW
      go_upto_region 6 with fail
      go_wp2_with fail
      refine wp_region_lexL ((fun w' => Below W.heap.size W w')) (by kernel_rfl) (by kernel_rfl) (hWW.drew) ?_
      repeat (first | (refine lexL_q0 rfl ?_; go_big_quiet_step (fail); refine wpQuiet_nil ?_) | (refine lexL_skip0 rfl rfl ?_; simp only [Act.put, List.setIfInBounds_toArray, List.set_cons_succ, List.set_cons_zero]))
      refine lexL_ld (⟨w.heap.size, 2, none⟩) (.int .i64 x.slot) rfl rfl rfl (fun w' hw' => run_ld1 (ag_int _) (row_cell (HRX.out w' hw') 2 _ rfl)) ?_
      simp only [Act.put, List.setIfInBounds_toArray, List.set_cons_succ, List.set_cons_zero]
      repeat (first | (refine lexL_q0 rfl ?_; go_big_quiet_step (fail); refine wpQuiet_nil ?_) | (refine lexL_skip0 rfl rfl ?_; simp only [Act.put, List.setIfInBounds_toArray, List.set_cons_succ, List.set_cons_zero]))
      refine lexL_ld (⟨w.heap.size, 3, none⟩) (.int .i64 x.size) rfl rfl rfl (fun w' hw' => run_ld1 (ag_int _) (row_cell (HRX.out w' hw') 3 _ rfl)) ?_
      simp only [Act.put, List.setIfInBounds_toArray, List.set_cons_succ, List.set_cons_zero]
      repeat (first | (refine lexL_q0 rfl ?_; go_big_quiet_step (fail); refine wpQuiet_nil ?_) | (refine lexL_skip0 rfl rfl ?_; simp only [Act.put, List.setIfInBounds_toArray, List.set_cons_succ, List.set_cons_zero]))
      refine lexL_ld (⟨w.heap.size, 4, none⟩) (.agg #[.int .i64 x.p.op, .int .i64 x.p.val, .string x.p.name, .int .i64 x.p.slot, .int .i64 x.p.size, .slice x.p.A x.p.n x.p.c]) rfl rfl rfl (fun w' hw' => ld_exAt (y := x.p) (HRX.out w' hw') rfl) ?_
      simp only [Act.put, List.setIfInBounds_toArray, List.set_cons_succ, List.set_cons_zero]
      repeat (first | (refine lexL_q0 rfl ?_; go_big_quiet_step (fail); refine wpQuiet_nil ?_) | (refine lexL_skip0 rfl rfl ?_; simp only [Act.put, List.setIfInBounds_toArray, List.set_cons_succ, List.set_cons_zero]))
      refine lexL_e rfl ?_
      go_wp2_with fail
      refine (HVP.out _ hWW.drew).mono ?_
      rintro e w5 ⟨rfl, hb5⟩
      have y5 := Below.ext hWW.drew hb5
      go_wp2_with fail
      refine lexL_go (y5) ?_
      repeat (first | (refine lexL_q0 rfl ?_; go_big_quiet_step (fail); refine wpQuiet_nil ?_) | (refine lexL_skip0 rfl rfl ?_; simp only [Act.put, List.setIfInBounds_toArray, List.set_cons_succ, List.set_cons_zero]))
      refine lexL_ld (⟨p, 0, none⟩) (.slice Ac nc cc) rfl rfl rfl (fun w' hw' => run_ld1 (ag_ints _) (row_cell (HM.out w' hw').row 0 _ rfl)) ?_
      simp only [Act.put, List.setIfInBounds_toArray, List.set_cons_succ, List.set_cons_zero]
      repeat (first | (refine lexL_q0 rfl ?_; go_big_quiet_step (fail); refine wpQuiet_nil ?_) | (refine lexL_skip0 rfl rfl ?_; simp only [Act.put, List.setIfInBounds_toArray, List.set_cons_succ, List.set_cons_zero]))
      refine lexL_e rfl ?_
      go_wp2_with fail
      refine (HPL.out w5).mono ?_
      rintro e w6 ⟨rfl, rfl⟩
      go_wp2_with fail
      refine lexL_go (y5) ?_
      repeat (first | (refine lexL_q0 rfl ?_; go_big_quiet_step (fail); refine wpQuiet_nil ?_) | (refine lexL_skip0 rfl rfl ?_; simp only [Act.put, List.setIfInBounds_toArray, List.set_cons_succ, List.set_cons_zero]))
      refine lexL_nil ?_
      go_wp2_with fail
      go_wp2
      go_end0
      exact ⟨rfl, HRO.out _ y5, (bW.mono hbw).trans (y5.mono (by have := bW.size; omega)), HKF.out _ y5⟩
  have e2 : (x.kind == 2) = false := by simpa using k2
  by_cases k5 : x.kind = 5
  · have d5 : (x.kind == 5) = true := by simpa using k5
    rw [simM_5 k5, ← HPV.out, ← HVV'.out]
    obtain ⟨rr, hrr⟩ : ∃ q, q = (if 0 ≤ pv ∧ pv < v.procs ∧ pv ≠ v.self then r.eff ⟨1, pv, vv⟩ else r) := ⟨_, rfl⟩
    rw [← hrr]
    have HRR := Lib.hid hrr
    clear k5 k2 k1 hk hrr
    go_enter Tryd.func82, Tryd.ntmps82
    go_upto_region 1 with fail
    try rw [← hW]
    clear hW
    go_upto_region 10 with fail
    go_wp2_with (refine wpList_ldv (t := 145) (A := ⟨w.heap.size, 4, none⟩) rfl rfl rfl (ld_exAt (y := x.p) R0.out rfl) ?_)
    refine (HVP.out W hWW).mono ?_
    rintro e w2 ⟨rfl, y2⟩
    have M2 := HM.out w2 y2
    have RP2 := Lib.hid M2.row
    have RX2 := Lib.hid (HRX.out w2 y2)
    have q2 : w2.cell? ⟨p, 2, none⟩ = some (.int .i64 v.self) := row_cell RP2.out 2 _ rfl
    have q3 : w2.cell? ⟨p, 3, none⟩ = some (.int .i64 v.procs) := row_cell RP2.out 3 _ rfl
    have b2 : Below base w w2 := (bW.mono hbw).trans (y2.mono (by have := bW.size; omega))
    have HM2 := Lib.hid M2
    have HV2 := Lib.hid (HVV.out w2 y2)
    have HV3 := Lib.hid (fun w' (hw : Below w2.heap.size w2 w') => HM.out w' (Below.ext y2 hw))
    clear M2
    by_cases c1 : 0 ≤ pv
    · have g1 : decide ((0 : Int) ≤ pv) = true := by simpa using c1
      by_cases c2 : pv < v.procs
      · have g2 : decide (pv < v.procs) = true := by simpa using c2
        by_cases c3 : pv = v.self
        · have g3 : (pv != v.self) = false := by simpa using c3
          have hq := Lib.hid (HRR.out.trans (if_neg (fun h => h.2.2 c3)))
          clear c3
          go_wp2
          go_end0
          exact ⟨rfl, by rw [hq.out]; exact HRO.out w2 y2, b2, HKF.out w2 y2⟩
        · have g3 : (pv != v.self) = true := by simpa using c3
          have hq := Lib.hid (HRR.out.trans (if_pos ⟨c1, c2, c3⟩))
          clear c3
          go_upto_region 12 with fail
          go_wp2_with (refine wpList_ldv (t := 145) (A := ⟨w.heap.size, 10, none⟩) rfl rfl rfl (ld_exAt (y := x.v) RX2.out rfl) ?_)
          refine HV2.out.mono ?_
          rintro e w3 ⟨rfl, y3⟩
          go_wp2_with fail
          refine (effect_any w3 p base v r F (HRO.out w3 (Below.ext y2 y3)) ⟨1, pv, vv⟩ ⟨.inl rfl, ivp, ivv⟩).mono ?_
          rintro e w4 ⟨rfl, h4, b4, f4⟩
          go_wp2
          go_end0
          exact ⟨rfl, by rw [hq.out]; exact h4, b2.trans ((y3.mono (by have := b2.size; omega)).trans b4), fun q hq' h => (f4 q (by have := bW.size; have := y2.size; have := y3.size; omega) h).trans (HKF.out w3 (Below.ext y2 y3) q hq' h)⟩
      · have g2 : decide (pv < v.procs) = false := by simpa using c2
        have hq := Lib.hid (HRR.out.trans (if_neg (fun h => c2 h.2.1)))
        go_wp2
        go_end0
        exact ⟨rfl, by rw [hq.out]; exact HRO.out w2 y2, b2, HKF.out w2 y2⟩
    · have g1 : decide ((0 : Int) ≤ pv) = false := by simpa using c1
      have hq := Lib.hid (HRR.out.trans (if_neg (fun h => c1 h.1)))
      go_wp2
      go_end0
      exact ⟨rfl, by rw [hq.out]; exact HRO.out w2 y2, b2, HKF.out w2 y2⟩
  have e5 : (x.kind == 5) = false := by simpa using k5
  have k6 : x.kind = 6 := by omega
  have d6 : (x.kind == 6) = true := by simpa using k6
  rw [simM_6 k6, ← HVV'.out]
  clear k6 k5 k2 k1 hk
  go_enter Tryd.func82, Tryd.ntmps82
  go_upto_region 1 with fail
  try rw [← hW]
  clear hW
  go_upto_region 14 with fail
  go_wp2_with (refine wpList_ldv (t := 145) (A := ⟨w.heap.size, 10, none⟩) rfl rfl rfl (ld_exAt (y := x.v) R0.out rfl) ?_)
  refine (HVV.out W hWW).mono ?_
  rintro e w2 ⟨rfl, y2⟩
  go_wp2_with fail
  refine (effect_any w2 p base v r F (HRO.out w2 y2) ⟨2, 0, vv⟩ ⟨.inr rfl, (show InR 0 from ⟨by decide, by decide⟩), ivv⟩).mono ?_
  rintro e w4 ⟨rfl, h4, b4, f4⟩
  go_wp2
  go_end0
  exact ⟨rfl, h4, ((bW.mono hbw).trans (y2.mono (by have := bW.size; omega))).trans b4, fun q hq' h => (f4 q (by have := bW.size; have := y2.size; omega) h).trans (HKF.out w2 y2 q hq' h)⟩
end Go.Proofs.YtiblijmngokcgaaDoor
