import Derived.Test.YtiblijmngokcgaaDoorCkGS
namespace Go.Proofs.YtiblijmngokcgaaDoor
open Go.RowKit
set_option maxRecDepth 100000
set_option linter.unusedVariables false
set_option linter.unusedSimpArgs false
structure PrM (w : World) (p : Prg) (V : Nat) (A1 : Option Addr) (m1 c1 : Nat) (A2 : Option Addr) (m2 c2 : Nat) (A3 : Option Addr) (m3 c3 : Nat) (A4 : Option Addr) (m4 c4 : Nat) : Prop where
  var : w.heap[V]? = some (.cells (varCells p.i p.s p.k) 126 (0, 0))
  st : SmL 3 w (.slice A1 m1 c1) p.st
  me : SmL 3 w (.slice A2 m2 c2) p.me
  ti : SmL 3 w (.slice A3 m3 c3) p.ti
  inp : SmL 3 w (.slice A4 m4 c4) p.inp
theorem PrM.vlt {w : World} {p : Prg} {V : Nat} {A1 : Option Addr} {m1 c1 : Nat} {A2 : Option Addr} {m2 c2 : Nat} {A3 : Option Addr} {m3 c3 : Nat} {A4 : Option Addr} {m4 c4 : Nat} (h : PrM w p V A1 m1 c1 A2 m2 c2 A3 m3 c3 A4 m4 c4) : V < w.heap.size := (Array.getElem?_eq_some_iff.1 h.var).1
theorem PrM.ext {w w' : World} {p : Prg} {V : Nat} {A1 : Option Addr} {m1 c1 : Nat} {A2 : Option Addr} {m2 c2 : Nat} {A3 : Option Addr} {m3 c3 : Nat} {A4 : Option Addr} {m4 c4 : Nat} (h : PrM w p V A1 m1 c1 A2 m2 c2 A3 m3 c3 A4 m4 c4) (hb : Below w.heap.size w w') : PrM w' p V A1 m1 c1 A2 m2 c2 A3 m3 c3 A4 m4 c4 :=
  ⟨(hb.block V h.vlt).trans h.var, h.st.ext hb, h.me.ext hb, h.ti.ext hb, h.inp.ext hb⟩
theorem PrM.of {S : Nat → Prop} {w : World} {v : Value} {p : Prg} (h : PrgOk S w v p) : ∃ V A1 m1 c1 A2 m2 c2 A3 m3 c3 A4 m4 c4, v = .agg #[.slice (some ⟨V, 0, none⟩) 5 5, .slice A1 m1 c1, .slice A2 m2 c2, .slice A3 m3 c3, .slice A4 m4 c4] ∧ PrM w p V A1 m1 c1 A2 m2 c2 A3 m3 c3 A4 m4 c4 := by
  obtain ⟨V, A1, m1, c1, A2, m2, c2, A3, m3, c3, A4, m4, c4, rfl, _, hv, h1, h2, h3, h4⟩ := h
  have mn : ∀ {v ts}, SmsOk S w v ts → SmL 3 w v ts := fun h => LsOk.mono h (fun b hb _ => hb) (fun x t h => SmOk.mono (fun b hb _ => hb) 3 x t h)
  exact ⟨V, A1, m1, c1, A2, m2, c2, A3, m3, c3, A4, m4, c4, rfl, hv, mn h1, mn h2, mn h3, mn h4⟩
set_option maxHeartbeats 4000000 in
theorem depth_any (w : World) (p : Prg) (V : Nat) (A1 : Option Addr) (m1 c1 : Nat) (A2 : Option Addr) (m2 c2 : Nat) (A3 : Option Addr) (m3 c3 : Nat) (A4 : Option Addr) (m4 c4 : Nat) (hP : PrM w p V A1 m1 c1 A2 m2 c2 A3 m3 c3 A4 m4 c4) (hI : PrgIn p) :
    Calls Tryd.prog 66 #[.agg #[.slice (some ⟨V, 0, none⟩) 5 5, .slice A1 m1 c1, .slice A2 m2 c2, .slice A3 m3 c3, .slice A4 m4 c4]] w fun e w' => ∃ d : Int, e = .returned (.int .i64 d) ∧ 0 ≤ d ∧ d ≤ 6 ∧ Below w.heap.size w w' := by
  obtain ⟨W, hW, bW, kW, SW, R0⟩ := boxD w w #[.slice (some ⟨V, 0, none⟩) 5 5, .slice A1 m1 c1, .slice A2 m2 c2, .slice A3 m3 c3, .slice A4 m4 c4] 100 (Below.refl _ _)
  have hlt : w.heap.size < W.heap.size := by have := SW.out; omega
  have HR := Lib.hid (fun (w' : World) (h : Below W.heap.size W w') => (h.block w.heap.size hlt).trans R0.out)
  have H1 := Lib.hid (fun (w' : World) (h : Below W.heap.size W w') => nest_any 3 (by omega) A1 m1 c1 p.st w' (hP.st.ext (Below.ext bW h)) (fun s hs => NmS.of (hI.st s hs)))
  have H2 := Lib.hid (fun (w' : World) (h : Below W.heap.size W w') => nest_any 3 (by omega) A2 m2 c2 p.me w' (hP.me.ext (Below.ext bW h)) (fun s hs => NmS.of (hI.me s hs)))
  have H3 := Lib.hid (fun (w' : World) (h : Below W.heap.size W w') => nest_any 3 (by omega) A3 m3 c3 p.ti w' (hP.ti.ext (Below.ext bW h)) (fun s hs => NmS.of (hI.ti s hs)))
  have H4 := Lib.hid (fun (w' : World) (h : Below W.heap.size W w') => nest_any 3 (by omega) A4 m4 c4 p.inp w' (hP.inp.ext (Below.ext bW h)) (fun s hs => NmS.of (hI.inp s hs)))
  clear hP R0
  go_enter Tryd.func66, Tryd.ntmps66
  go_upto_region 1 with fail
  rw [← hW]
  clear hW
  have y0 : Below W.heap.size W W.drew := (Below.refl _ W).drew
  go_wp2_with fail
  refine wp_region_lexL ((fun w' => Below W.heap.size W w')) (by kernel_rfl) (by kernel_rfl) ((Below.refl _ W).drew) ?_
  repeat (first | (refine lexL_q0 rfl ?_; go_big_quiet_step (fail); refine wpQuiet_nil ?_) | (refine lexL_skip0 rfl rfl ?_; simp only [Act.put, List.setIfInBounds_toArray, List.set_cons_succ, List.set_cons_zero]))
  refine lexL_ld (⟨w.heap.size, 1, none⟩) (.slice A1 m1 c1) rfl rfl rfl (fun w' hw' => run_ld1 (ag_smsx _) (row_cell (HR.out w' hw') 1 _ rfl)) ?_
  simp only [Act.put, List.setIfInBounds_toArray, List.set_cons_succ, List.set_cons_zero]
  repeat (first | (refine lexL_q0 rfl ?_; go_big_quiet_step (fail); refine wpQuiet_nil ?_) | (refine lexL_skip0 rfl rfl ?_; simp only [Act.put, List.setIfInBounds_toArray, List.set_cons_succ, List.set_cons_zero]))
  refine lexL_e rfl ?_
  go_wp2_with fail
  refine (H1.out _ y0).mono ?_
  rintro e w1 ⟨d1, rfl, g1, l1, b1⟩
  have y1 := Below.ext y0 b1
  go_wp2_with fail
  refine lexL_go (y1) ?_
  repeat (first | (refine lexL_q0 rfl ?_; go_big_quiet_step (fail); refine wpQuiet_nil ?_) | (refine lexL_skip0 rfl rfl ?_; simp only [Act.put, List.setIfInBounds_toArray, List.set_cons_succ, List.set_cons_zero]))
  refine lexL_ld (⟨w.heap.size, 2, none⟩) (.slice A2 m2 c2) rfl rfl rfl (fun w' hw' => run_ld1 (ag_smsx _) (row_cell (HR.out w' hw') 2 _ rfl)) ?_
  simp only [Act.put, List.setIfInBounds_toArray, List.set_cons_succ, List.set_cons_zero]
  repeat (first | (refine lexL_q0 rfl ?_; go_big_quiet_step (fail); refine wpQuiet_nil ?_) | (refine lexL_skip0 rfl rfl ?_; simp only [Act.put, List.setIfInBounds_toArray, List.set_cons_succ, List.set_cons_zero]))
  refine lexL_e rfl ?_
  go_wp2_with fail
  refine (H2.out _ y1).mono ?_
  rintro e w2 ⟨d2, rfl, g2, l2, b2⟩
  have y2 := Below.ext y1 b2
  go_wp2_with fail
  refine lexL_go (y2) ?_
  repeat (first | (refine lexL_q0 rfl ?_; go_big_quiet_step (fail); refine wpQuiet_nil ?_) | (refine lexL_skip0 rfl rfl ?_; simp only [Act.put, List.setIfInBounds_toArray, List.set_cons_succ, List.set_cons_zero]))
  refine lexL_ld (⟨w.heap.size, 3, none⟩) (.slice A3 m3 c3) rfl rfl rfl (fun w' hw' => run_ld1 (ag_smsx _) (row_cell (HR.out w' hw') 3 _ rfl)) ?_
  simp only [Act.put, List.setIfInBounds_toArray, List.set_cons_succ, List.set_cons_zero]
  repeat (first | (refine lexL_q0 rfl ?_; go_big_quiet_step (fail); refine wpQuiet_nil ?_) | (refine lexL_skip0 rfl rfl ?_; simp only [Act.put, List.setIfInBounds_toArray, List.set_cons_succ, List.set_cons_zero]))
  refine lexL_e rfl ?_
  go_wp2_with fail
  refine (H3.out _ y2).mono ?_
  rintro e w3 ⟨d3, rfl, g3, l3, b3⟩
  have y3 := Below.ext y2 b3
  go_wp2_with fail
  refine lexL_go (y3) ?_
  repeat (first | (refine lexL_q0 rfl ?_; go_big_quiet_step (fail); refine wpQuiet_nil ?_) | (refine lexL_skip0 rfl rfl ?_; simp only [Act.put, List.setIfInBounds_toArray, List.set_cons_succ, List.set_cons_zero]))
  refine lexL_ld (⟨w.heap.size, 4, none⟩) (.slice A4 m4 c4) rfl rfl rfl (fun w' hw' => run_ld1 (ag_smsx _) (row_cell (HR.out w' hw') 4 _ rfl)) ?_
  simp only [Act.put, List.setIfInBounds_toArray, List.set_cons_succ, List.set_cons_zero]
  repeat (first | (refine lexL_q0 rfl ?_; go_big_quiet_step (fail); refine wpQuiet_nil ?_) | (refine lexL_skip0 rfl rfl ?_; simp only [Act.put, List.setIfInBounds_toArray, List.set_cons_succ, List.set_cons_zero]))
  refine lexL_e rfl ?_
  go_wp2_with fail
  refine (H4.out _ y3).mono ?_
  rintro e w4 ⟨d4, rfl, g4, l4, b4⟩
  have y4 := Below.ext y3 b4
  go_wp2_with fail
  refine lexL_go (y4) ?_
  repeat (first | (refine lexL_q0 rfl ?_; go_big_quiet_step (fail); refine wpQuiet_nil ?_) | (refine lexL_skip0 rfl rfl ?_; simp only [Act.put, List.setIfInBounds_toArray, List.set_cons_succ, List.set_cons_zero]))
  refine lexL_max4 rfl rfl rfl rfl rfl rfl ?_
  simp only [Act.put, List.setIfInBounds_toArray, List.set_cons_succ, List.set_cons_zero]
  have hmx : 0 ≤ mx4 d1 d2 d3 d4 ∧ mx4 d1 d2 d3 d4 ≤ 6 := by unfold mx4; omega
  obtain ⟨dm, hdm⟩ : ∃ dm, dm = mx4 d1 d2 d3 d4 := ⟨_, rfl⟩
  rw [← hdm] at hmx ⊢
  clear hdm
  obtain ⟨hm0, hm1⟩ := hmx
  repeat (first | (refine lexL_q0 rfl ?_; go_big_quiet_step (fail); refine wpQuiet_nil ?_) | (refine lexL_skip0 rfl rfl ?_; simp only [Act.put, List.setIfInBounds_toArray, List.set_cons_succ, List.set_cons_zero]))
  refine lexL_nil ?_
  go_wp2_with fail
  go_wp2
  go_ret
  exact ⟨dm, rfl, hm0, hm1, Below.ext bW y4⟩
theorem var_at {i s k : Int} (h1 : 1 ≤ s) (h5 : s ≤ 5) (hi1 : -2 ≤ i) (hi2 : i ≤ 4) (hk1 : 0 ≤ k) (hk2 : k ≤ 2) {j : Nat} (hj : j < 5) : ∃ (c : UInt8) (z y : Int), five c ∧ 0 ≤ z ∧ z ≤ 5 ∧ (z = 0 ∨ y = 0) ∧ -2 ≤ y ∧ y ≤ 4 ∧ ((varCells i s k).toList.drop (j * 3)).take 3 = [.string (ByteArray.mk #[c]), .int .i64 z, .int .i64 y] := by
  have : j = 0 ∨ j = 1 ∨ j = 2 ∨ j = 3 ∨ j = 4 := by omega
  rcases this with rfl | rfl | rfl | rfl | rfl
  · exact ⟨120, 0, i, .inr (.inr (.inl rfl)), by omega, by omega, .inl rfl, hi1, hi2, rfl⟩
  · exact ⟨97, s, 0, .inl rfl, by omega, by omega, .inr rfl, by omega, by omega, rfl⟩
  · exact ⟨121, 0, 0, .inr (.inr (.inr (.inl rfl))), by omega, by omega, .inl rfl, by omega, by omega, rfl⟩
  · exact ⟨122, 0, k, .inr (.inr (.inr (.inr rfl))), by omega, by omega, .inl rfl, by omega, by omega, rfl⟩
  · exact ⟨98, 2, 0, .inr (.inl rfl), by omega, by omega, .inr rfl, by omega, by omega, rfl⟩
set_option maxHeartbeats 8000000 in
theorem check_any (w : World) (p : Prg) (V : Nat) (A1 : Option Addr) (m1 c1 : Nat) (A2 : Option Addr) (m2 c2 : Nat) (A3 : Option Addr) (m3 c3 : Nat) (A4 : Option Addr) (m4 c4 : Nat) (hP : PrM w p V A1 m1 c1 A2 m2 c2 A3 m3 c3 A4 m4 c4) (hI : PrgIn p) :
    Calls Tryd.prog 60 #[.agg #[.slice (some ⟨V, 0, none⟩) 5 5, .slice A1 m1 c1, .slice A2 m2 c2, .slice A3 m3 c3, .slice A4 m4 c4]] w fun e w' => e = .returned (.int .i64 0) ∧ Below w.heap.size w w' := by
  obtain ⟨W, hW, bW, kW, SW, R0⟩ := boxD w w #[.slice (some ⟨V, 0, none⟩) 5 5, .slice A1 m1 c1, .slice A2 m2 c2, .slice A3 m3 c3, .slice A4 m4 c4] 100 (Below.refl _ _)
  have hlt : w.heap.size < W.heap.size := by have := SW.out; omega
  have HP := Lib.hid (fun (w' : World) (h : Below W.heap.size W w') => hP.ext (Below.ext bW h))
  have HR := Lib.hid (fun (w' : World) (h : Below W.heap.size W w') => (h.block w.heap.size hlt).trans R0.out)
  have HI := Lib.hid hI
  have hDp := Lib.hid (depth_any W p V A1 m1 c1 A2 m2 c2 A3 m3 c3 A4 m4 c4 (HP.out W (Below.refl _ _)) hI)
  clear hP hI
  go_enter Tryd.func60, Tryd.ntmps60
  go_upto_region 1 with fail
  rw [← hW]
  clear hW
  go_wp2_with (refine wpList_ldv (t := 100) (A := ⟨w.heap.size, 0, none⟩) rfl rfl rfl (run_ld_block R0.out Tryd.underlying100 rfl (by kernel_rfl)) ?_)
  refine hDp.out.mono ?_
  rintro e w1 ⟨d, rfl, hd0, hd6, b1⟩
  have d7 : decide (16 < d) = false := by simp; omega
  have q1 : w1.cell? ⟨w.heap.size, 0, none⟩ = some (.slice (some ⟨V, 0, none⟩) 5 5) := row_cell (HR.out w1 b1) 0 _ rfl
  clear hd0 hd6 R0
  go_wp2
  go_loopw [3] (fun a wr => ∃ j : Nat, a = .int .i64 j ∧ j ≤ 5 ∧ Below W.heap.size W wr) (fun a _ => 5 - (intOf a).toNat)
  case atStart => exact ⟨0, rfl, by omega, b1⟩
  case round =>
    obtain ⟨j, rfl, hj, hb⟩ := hrel
    have qr : wr.cell? ⟨w.heap.size, 0, none⟩ = some (.slice (some ⟨V, 0, none⟩) 5 5) := row_cell (HR.out wr hb) 0 _ rfl
    by_cases hl : j < 5
    · have hp0 := HP.out wr hb
      have hi0 := HI.out
      obtain ⟨c, z, y, hc5, hz0, hz5, hzy, hy1, hy2, hrow⟩ := var_at hi0.s1 hi0.s2 hi0.i1 hi0.i2 hi0.k1 hi0.k2 hl
      have RV := Lib.hid hp0.var
      have hld := Lib.hid (ld_var (o := j * 3) (nm := ByteArray.mk #[c]) (z := z) (y := y) hp0.var hrow)
      clear hp0 hi0 hrow
      obtain ⟨W2, hW2, b2, k2, S2, R2⟩ := boxD wr wr #[.string (ByteArray.mk #[c]), .int .i64 z, .int .i64 y] 126 (Below.refl _ _)
      obtain ⟨bx, hbx⟩ : ∃ b, b = wr.heap.size := ⟨_, rfl⟩
      rw [← hbx] at R2
      have HBX := Lib.hid hbx
      have e0 : W2.cell? ⟨bx, 0, none⟩ = some (.string (ByteArray.mk #[c])) := row_cell R2.out 0 _ rfl
      have e1 : W2.cell? ⟨bx, 1, none⟩ = some (.int .i64 z) := row_cell R2.out 1 _ rfl
      have e2 : W2.cell? ⟨bx, 2, none⟩ = some (.int .i64 y) := row_cell R2.out 2 _ rfl
      clear hbx
      have f1 : decide (z < 0) = false := by simp; omega
      have f2 : (y == -9223372036854775808) = false := by simp; omega
      go_upto_region 7 with (first | (refine wpList_ldv (t := 126) (A := ⟨V, j * 3, none⟩) rfl rfl rfl hld.out ?_) | (refine wpList_store_new rfl 126 _ _ rfl 126 _ #[.string (ByteArray.mk #[c]), .int .i64 z, .int .i64 y] rfl rfl (by kernel_rfl) rfl (by simp [Value.oneCell']) ?_))
      try dsimp only
      rw [← hW2, ← HBX.out]
      clear hW2
      try simp only [Act.put]
      go_wp2_with fail
      refine (valid_any c hc5 W2).mono ?_
      rintro e w3 ⟨rfl, rfl⟩
      have bend : Below W.heap.size W w3 := Below.ext hb k2
      clear hc5
      by_cases hz : z = 0
      · have f3 : (z != 0) = false := by simp [hz]
        clear hz hzy
        go_wp2
        go_roundw
        case rel => exact ⟨j + 1, by go_num, by omega, bend⟩
        case measure => simp [intOf]; omega
      · have f3 : (z != 0) = true := by simpa using hz
        obtain rfl : y = 0 := hzy.resolve_left hz
        clear hz hzy
        go_wp2
        go_roundw
        case rel => exact ⟨j + 1, by go_num, by omega, bend⟩
        case measure => simp [intOf]; omega
    · obtain rfl : j = 5 := by omega
      have y0 := hb
      have q2 : wr.cell? ⟨w.heap.size, 1, none⟩ = some (.slice A1 m1 c1) := row_cell (HR.out wr y0) 1 _ rfl
      have h1 := Lib.hid (fine_any 3 A1 m1 c1 p.st wr (HP.out wr y0).st HI.out.st)
      go_wp2_with fail
      refine h1.out.mono ?_
      rintro e x1 ⟨rfl, z1⟩
      have y1 := Below.ext y0 z1
      have q3 : x1.cell? ⟨w.heap.size, 2, none⟩ = some (.slice A2 m2 c2) := row_cell (HR.out x1 y1) 2 _ rfl
      have h2 := Lib.hid (fine_any 3 A2 m2 c2 p.me x1 (HP.out x1 y1).me HI.out.me)
      go_wp2_with fail
      refine h2.out.mono ?_
      rintro e x2 ⟨rfl, z2⟩
      have y2 := Below.ext y1 z2
      have q4 : x2.cell? ⟨w.heap.size, 3, none⟩ = some (.slice A3 m3 c3) := row_cell (HR.out x2 y2) 3 _ rfl
      have h3 := Lib.hid (fine_any 3 A3 m3 c3 p.ti x2 (HP.out x2 y2).ti HI.out.ti)
      go_wp2_with fail
      refine h3.out.mono ?_
      rintro e x3 ⟨rfl, z3⟩
      have y3 := Below.ext y2 z3
      have q5 : x3.cell? ⟨w.heap.size, 4, none⟩ = some (.slice A4 m4 c4) := row_cell (HR.out x3 y3) 4 _ rfl
      have h4 := Lib.hid (fine_any 3 A4 m4 c4 p.inp x3 (HP.out x3 y3).inp HI.out.inp)
      go_wp2_with fail
      refine h4.out.mono ?_
      rintro e x4 ⟨rfl, z4⟩
      have y4 := Below.ext y3 z4
      go_wp2
      go_ret
      exact ⟨rfl, Below.ext bW y4⟩
end Go.Proofs.YtiblijmngokcgaaDoor
