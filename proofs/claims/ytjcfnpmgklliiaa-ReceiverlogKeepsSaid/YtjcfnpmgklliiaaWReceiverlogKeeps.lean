/-
  The walk of the law ReceiverlogKeeps: it returns true and writes nothing that was there. Conditions: what the row says of its arguments.
-/
import Derived.Test.YtjcfnpmgklliiaaRlJ
namespace Go.Proofs.Ytjcfnpmgklliiaa.receiverlogKeeps
open Go.RowKit
set_option maxRecDepth 100000
set_option linter.unusedVariables false

set_option maxHeartbeats 8000000 in
theorem walk (a0 : Option Addr) (len0 cap0 : Nat) (codes : List UInt8) (keep : Int) (L : Option Addr) (nl cl : Nat) (lost : List Int) (S0 S1 : Nat → Prop) (w : World) (hkB : Bytes S0 w (.slice a0 len0 cap0) codes) (hL : Recs encZ S1 w (.slice L nl cl) lost) :
    Calls Try.prog 8 #[.slice a0 len0 cap0, .agg #[.int .i64 keep, .slice L nl cl]] w fun e w' => e = .returned (.bool true) ∧ Below w.heap.size w w' := by
  obtain ⟨W0, hW0, b0, k0, S0', rT0⟩ := boxD w w #[.int .i64 keep, .slice L nl cl] 57 (Below.refl _ _)
  have hll := Lib.hid hL.len.1
  have hle1 := hL.len.2
  go_enter Try.func8, Try.ntmps8
  go_upto_region 1 with fail
  rw [← hW0]
  clear hW0
  go_wp2_with fail
  refine (awake30_any _).mono ?_
  rintro e w1 ⟨rfl, hb1'⟩
  obtain ⟨bt, hbt⟩ : ∃ bt, bt = w.heap.size := ⟨_, rfl⟩
  rw [← hbt] at rT0 ⊢
  have hbt0 : bt < W0.heap.size := by have := S0'.out; omega
  have RT1 := Lib.hid ((hb1'.block bt hbt0).trans rT0.out)
  have hb1 := Below.ext b0 hb1'
  have hs1 := hb1'.size
  have hbt1 : bt < w1.heap.size := by omega
  have hwt : w.heap.size ≤ bt := by omega
  have qL : w1.cell? ⟨bt, 1, none⟩ = some (.slice L nl cl) := row_cell RT1.out 1 _ rfl
  clear hbt S0' hb1' b0 rT0 hbt0 hs1
  by_cases h40 : nl ≤ 40
  · have d40 : decide (40 < nl) = false := by simp; omega
    have d40' : decide ((40 : Int) < (nl : Int)) = false := by simp; omega
    go_upto_region 3 with fail
    clear qL
    go_wp2_with fail
    refine (rlnew_any _).mono ?_
    rintro e v1 ⟨A1, c1, rfl, J1, hbn1⟩
    have RTv := Lib.hid ((hbn1.block bt hbt1).trans RT1.out)
    have hsv := hbn1.size
    obtain ⟨W3, hW3, b3, k3, S3, r3⟩ := boxD w v1 #[.slice A1 1 c1, .slice none 0 0] 70 (Below.ext hb1 hbn1)
    go_upto_region 4 with (refine wpList_store_new rfl 70 _ _ rfl 70 _ #[.slice A1 1 c1, .slice none 0 0] rfl rfl (by kernel_rfl) rfl (by simp [Value.oneCell']) ?_)
    rw [← hW3]
    clear hW3
    obtain ⟨bj, hbj⟩ : ∃ bj, bj = v1.heap.size := ⟨_, rfl⟩
    rw [← hbj] at r3 S3 ⊢
    have hjW : bj < W3.heap.size := by have := S3.out; omega
    have hJ3 : Jrn (fun b => b ≠ bj) W3 A1 c1 none 0 0 [] [] [] 0 := ((J1.mono (S' := fun b => b < v1.heap.size) (fun b hb _ => hb)).ext k3).mono (fun b _ h => by omega)
    have hwj : w.heap.size ≤ bj := by have := (Below.ext hb1 hbn1).size; omega
    have HJT := Lib.hid (show bt < bj by omega)
    have RT3 := Lib.hid ((k3.block bt (by omega)).trans RTv.out)
    clear hbj S3 J1 hb1 hbn1 k3
    have hac := acts_any _ _ _ codes _ W3 (hkB.ext b3) false
    have Hac := Lib.hid hac
    clear hac
    go_wp2_with fail
    refine (Hac.out).mono ?_
    rintro e w6 ⟨A6, c6, acs, rfl, hal, hacts, hain, hb6⟩
    obtain ⟨nA, hnA⟩ : ∃ nA, acs.length = nA := ⟨_, rfl⟩
    rw [hnA] at hacts hal ⊢
    have HNA := Lib.hid hnA
    have HAIN := Lib.hid hain
    have RJ := Lib.hid ((hb6.block bj hjW).trans r3.out)
    have RT := Lib.hid ((hb6.block bt (by have := HJT.out; omega)).trans RT3.out)
    have b6 := Below.ext b3 hb6
    have hA6 := hacts.mono (S' := fun b => b ≠ bj) (fun b _ h => by omega)
    have hJ6 := hJ3.ext hb6
    have hs6 := hb6.size
    have hjb : bj < w6.heap.size := by omega
    have hL6 := (hL.mono (S' := fun b => b < w.heap.size) (fun b hb _ => hb)).ext b6
    clear hnA hain hb6 hacts hJ3 r3 Hac hs6 b3 hjW RT3 RTv RT1 hsv hL
    have hjt : bt < bj := HJT.out
    go_wp2_with fail
    go_loopw [7] (fun i wr => ∃ (k : Nat) (A : Option Addr) (c : Nat) (B : Option Addr) (m d : Nat) (a b u : List Dt), i = .int .i64 (k : Int) ∧ k ≤ nA ∧ wr.heap[bj]? = some (.cells #[.slice A 1 c, .slice B m d] 70 (0, 0)) ∧ wr.heap[bt]? = some (.cells #[.int .i64 keep, .slice L nl cl] 57 (0, 0)) ∧ Jrn (fun b => b ≠ bj) wr A c B m d a b u k ∧ Acts (fun b => b ≠ bj) wr (.slice A6 nA c6) acs ∧ Recs encZ (fun b => b < w.heap.size) wr (.slice L nl cl) lost ∧ Below w.heap.size w wr ∧ bj < wr.heap.size) (fun i _ => nA - (intOf i).toNat)
    case atStart => exact ⟨0, A1, c1, none, 0, 0, [], [], [], rfl, by omega, RJ.out, RT.out, hJ6, hA6, hL6, b6, hjb⟩
    case round =>
      clear RJ RT hJ6 hA6 b6 hjb hL6
      obtain ⟨k, A, c, B, m, d, a, b, u, rfl, hk, hrj, hrt, hJ, hA, hL, hb, hjb⟩ := hrel
      have HRJ := Lib.hid hrj
      have HRT := Lib.hid hrt
      clear hrj hrt
      by_cases hlt : k < nA
      · have hacl := hA.len.2
        obtain ⟨ba, oa, x, t, rfl, hbj1, hba, ht, hok, hca⟩ := hA.atS hlt
        have hin := HAIN.out t (List.mem_of_getElem? ht)
        have HCA := Lib.hid hca
        obtain ⟨a2, b2, u2, hst⟩ := StepR.ex t hin.1 a b u
        have hJw := hJ.mono (S' := fun b => b ≠ bj ∧ b < wr.heap.size) (fun b hb h => ⟨h, hb⟩)
        clear hca ht
        go_upto_region 8 with fail
        try (go_wp2_with fail)
        refine wp_region_floats false (fun w' => Below wr.heap.size wr w') [8] ((fun _ => .cells #[.slice none 0 0, .slice none 0 0] 70)) (fun _ Xa => .pointer (some ⟨Xa, 0, none⟩)) (by kernel_rfl) (by kernel_rfl) (fun _ _ w' h => h.alloc h.size _) ((Below.refl _ wr).drew) ?_
        repeat (first | (refine msL_q1 rfl rfl ?_; go_big_quiet_step (fail); refine wpQuiet_nil ?_) | (refine msL_skip0 rfl rfl rfl ?_; simp only [Act.put, List.setIfInBounds_toArray, List.set_cons_succ, List.set_cons_zero]))
        refine msL_ld (⟨bj, 0, none⟩) (.agg #[.slice A 1 c, .slice B m d]) rfl rfl rfl rfl (fun w' hw' => ld_jrn ((hw'.block bj (Array.getElem?_eq_some_iff.1 HRJ.out).1).trans HRJ.out)) ?_
        simp only [Act.put, List.setIfInBounds_toArray, List.set_cons_succ, List.set_cons_zero]
        repeat (first | (refine msL_q1 rfl rfl ?_; go_big_quiet_step (fail); refine wpQuiet_nil ?_) | (refine msL_skip0 rfl rfl rfl ?_; simp only [Act.put, List.setIfInBounds_toArray, List.set_cons_succ, List.set_cons_zero]))
        refine msL_ld (⟨ba, oa + k * 13, none⟩) (.agg #[.int .i64 x.kind, .int .i64 x.d.proc, .int .i64 x.d.index, .int .i64 x.d.ev.k0, .int .i64 x.d.ev.k1, .int .i64 x.d.ev.k2, .int .i64 x.d.ev.k3, .int .i64 x.d.ev.k4, .int .i64 x.d.ev.k5, .int .i64 x.d.ev.k6, .int .i64 x.n, .int .i64 x.keep, .slice x.L x.nl x.cl]) rfl rfl rfl rfl (fun w' hw' => ld_act hw' hba HCA.out) ?_
        simp only [Act.put, List.setIfInBounds_toArray, List.set_cons_succ, List.set_cons_zero]
        repeat (first | (refine msL_q1 rfl rfl ?_; go_big_quiet_step (fail); refine wpQuiet_nil ?_) | (refine msL_skip0 rfl rfl rfl ?_; simp only [Act.put, List.setIfInBounds_toArray, List.set_cons_succ, List.set_cons_zero]))
        refine msL_e rfl rfl (fun m1a v1a hE1a => ?_)
        go_wp2_with fail
        have x1a := hE1a.bxs (Bxs.none_ wr.heap.size _ _) (Nat.le_refl _)
        have y1a : Below wr.heap.size wr v1a := Below.ext (Below.refl _ wr).drew hE1a.bel
        have hdo := do30_any A c B m d a b u k _ v1a (hJw.ext y1a) x t _ (hok.ext y1a) false hin (by omega) a2 b2 u2 hst
        have Hdoa := Lib.hid hdo
        clear hdo
        refine Hdoa.out.mono ?_
        rintro e v2a ⟨A2a, c2a, B2a, n2a, d2a, rfl, hJ2a, hb2a⟩
        have y2a := Below.ext y1a hb2a
        have x2a := x1a.ext hb2a
        have s1a := y1a.size
        have hJ2'a := hJ2a.mono (S' := fun b => b ≠ bj ∧ m1a 8 ≠ some b) (fun b _ h => by
          rcases h with h | h
          · exact ⟨h.1, x1a.low h.2⟩
          · exact ⟨by omega, x1a.lt h⟩)
        go_wp2_with fail
        refine msL_go (y2a) ?_
        repeat (first | (refine msL_q1 rfl rfl ?_; go_big_quiet_step (fail); refine wpQuiet_nil ?_) | (refine msL_skip0 rfl rfl rfl ?_; simp only [Act.put, List.setIfInBounds_toArray, List.set_cons_succ, List.set_cons_zero]))
        refine msL_x 8 rfl (⟨rfl, fun w' => alloc_jrn _ _ w' rfl⟩) (fun m3a v3a Xa hE3a hXa => ?_)
        simp only [Act.put, List.setIfInBounds_toArray, List.set_cons_succ, List.set_cons_zero]
        repeat (first | (refine msL_q1 rfl rfl ?_; go_big_quiet_step (fail); refine wpQuiet_nil ?_) | (refine msL_skip0 rfl rfl rfl ?_; simp only [Act.put, List.setIfInBounds_toArray, List.set_cons_succ, List.set_cons_zero]))
        have x3a := hE3a.bxs x2a y2a.size
        have y3a := Below.ext y2a hE3a.bel
        have rowXa := (x3a 8 Xa hXa).2
        have hWXa := (x3a 8 Xa hXa).1
        have hJ3a := (hJ2'a.mono (S' := fun b => b ≠ bj ∧ b ≠ Xa) (fun b hb h => ⟨h.1, fun e => hE3a.ne (d := 8) hb h.2 (by rw [hXa, e])⟩)).ext hE3a.bel
        refine msL_d rfl rfl ((by simp [hXa])) ?_
        refine wpList_store_row rfl 70 _ _ rfl Xa 70 _ _ rfl rfl rowXa (by kernel_rfl) rfl (by simp [Value.oneCell']) ?_
        obtain ⟨Va, hVa⟩ : ∃ Va, Va = v3a.setRow Xa #[.slice A2a 1 c2a, .slice B2a n2a d2a] := ⟨_, rfl⟩
        have gVa : v3a.grownBy Va (some Xa) := by rw [hVa]; exact grown_setRow _ _ _
        have yVa : Below wr.heap.size wr Va := by rw [hVa]; exact Below.setRow y3a hWXa _
        have RXa := Lib.hid (show Va.heap[Xa]? = some (.cells #[.slice A2a 1 c2a, .slice B2a n2a d2a] 70 (0, 0)) by rw [hVa]; exact setRow_heap _ _ _ _ _ _ rowXa)
        have hJVa := (hJ3a.keep (fun b hb h => gVa.block b hb (by simp; exact h.2))).mono (S' := fun b => b ≠ bj) (fun b _ h => h.1)
        have hXVa : Xa < Va.heap.size := (Array.getElem?_eq_some_iff.1 RXa.out).1
        rw [← hVa]
        clear hVa gVa hJ3a hJ2'a hJ2a rowXa x1a x2a x3a hE1a hE3a hb2a y1a y2a y3a Hdoa hXa
        refine msL_go yVa ?_
        simp only [Act.put]
        repeat (first | (refine msL_q1 rfl rfl ?_; go_big_quiet_step (fail); refine wpQuiet_nil ?_) | (refine msL_skip0 rfl rfl rfl ?_; simp only [Act.put, List.setIfInBounds_toArray, List.set_cons_succ, List.set_cons_zero]))
        refine msL_nil ?_
        go_upto_region 9 with fail
        have HRJa := Lib.hid ((yVa.block bj hjb).trans HRJ.out)
        have sVa := yVa.size
        obtain ⟨W12, hW12⟩ : ∃ W12, W12 = Va.setRow bj #[.slice A2a 1 c2a, .slice B2a n2a d2a] := ⟨_, rfl⟩
        have g12 : Va.grownBy W12 (some bj) := by rw [hW12]; exact grown_setRow _ _ _
        have RJ12 := Lib.hid (show W12.heap[bj]? = some (.cells #[.slice A2a 1 c2a, .slice B2a n2a d2a] 70 (0, 0)) by rw [hW12]; exact setRow_heap _ _ _ _ _ _ HRJa.out)
        have b12 : Below w.heap.size w W12 := by rw [hW12]; exact Below.setRow (Below.ext hb yVa) hwj _
        have s12 := g12.size
        go_upto_region 7 with (first | (refine wpList_load_row rfl 70 _ rfl _ rfl 70 _ (0,0) _ RXa.out Try.underlying70 rfl (by kernel_rfl) ?_) | (refine wpList_store_row rfl 70 _ _ rfl bj 70 _ _ rfl rfl HRJa.out (by kernel_rfl) rfl (by simp [Value.oneCell']) ?_))
        rw [← hW12]
        clear hW12
        go_wp2
        refine ⟨⟨k + 1, A2a, c2a, B2a, n2a, d2a, a2, b2, u2, by congr 1, by omega, RJ12.out, ?_, hJVa.keep (fun b hb h => g12.block b hb (by simp; exact h)), (hA.ext yVa).keep (fun b hb h => g12.block b hb (by simp; exact h)), (hL.ext yVa).keep (fun b hb h => g12.block b hb (by simp; omega)), b12, by omega⟩, by simp [intOf]; omega⟩
        exact (g12.block bt (by omega) (by simp; omega)).trans ((yVa.block bt (by omega)).trans HRT.out)
      · obtain rfl : k = nA := by omega
        clear hA HAIN
        obtain ⟨nab, hnab⟩ : ∃ q, (a ++ b).length = q := ⟨_, rfl⟩
        have HNB := Lib.hid hnab
        have HJM := Lib.hid hJ.len
        have HSIZ := Lib.hid hJ.siz
        have hkl := hJ.kle
        have hnn : ((nab + m : Nat) : Int) - (m : Int) = (nab : Int) := by omega
        have Hnn := Lib.hid hnn
        clear hnab hnn
        go_upto_region 11 with fail
        go_wp2_with fail
        refine wp_region_lexL ((fun w' => Below wr.heap.size wr w')) (by kernel_rfl) (by kernel_rfl) ((Below.refl _ wr).drew) ?_
        repeat (first | (refine lexL_q0 rfl ?_; go_big_quiet_step (fail); refine wpQuiet_nil ?_) | (refine lexL_skip0 rfl rfl ?_; simp only [Act.put, List.setIfInBounds_toArray, List.set_cons_succ, List.set_cons_zero]))
        refine lexL_ld (⟨bj, 0, none⟩) (.agg #[.slice A 1 c, .slice B m d]) rfl rfl rfl (fun w' hw' => ld_jrn ((hw'.block bj hjb).trans HRJ.out)) ?_
        simp only [Act.put, List.setIfInBounds_toArray, List.set_cons_succ, List.set_cons_zero]
        repeat (first | (refine lexL_q0 rfl ?_; go_big_quiet_step (fail); refine wpQuiet_nil ?_) | (refine lexL_skip0 rfl rfl ?_; simp only [Act.put, List.setIfInBounds_toArray, List.set_cons_succ, List.set_cons_zero]))
        refine lexL_e rfl ?_
        go_wp2_with fail
        refine (rlcontents_any _ _ _ _ _ a b u _ _ _ (hJ.ext (Below.refl _ wr).drew) nab HNB.out).mono ?_
        rintro e x1 ⟨Ax1, cx1, rfl, hx1, zx1⟩
        have y1 := Below.ext (Below.refl _ wr).drew zx1
        have hlx1 := hx1.len.2
        have hnab9 : nab ≤ 9223372036854775807 := by omega
        clear hlx1
        go_wp2_with fail
        refine lexL_go (y1) ?_
        repeat (first | (refine lexL_q0 rfl ?_; go_big_quiet_step (fail); refine wpQuiet_nil ?_) | (refine lexL_skip0 rfl rfl ?_; simp only [Act.put, List.setIfInBounds_toArray, List.set_cons_succ, List.set_cons_zero]))
        refine lexL_ld (⟨bj, 1, none⟩) (.slice B m d) rfl rfl rfl (fun w' hw' => ld_jb ((hw'.block bj hjb).trans HRJ.out)) ?_
        simp only [Act.put, List.setIfInBounds_toArray, List.set_cons_succ, List.set_cons_zero]
        repeat (first | (refine lexL_q0 rfl ?_; go_big_quiet_step (fail); refine wpQuiet_nil ?_) | (refine lexL_skip0 rfl rfl ?_; simp only [Act.put, List.setIfInBounds_toArray, List.set_cons_succ, List.set_cons_zero]))
        refine lexL_nil ?_
        have hJ1 := hJ.ext y1
        have HRJ1 := Lib.hid ((y1.block bj hjb).trans HRJ.out)
        have HRT1 := Lib.hid ((y1.block bt (by omega)).trans HRT.out)
        have hL1 := hL.ext y1
        have s1 := y1.size
        have hcr := rlcrash_any A c B m d a b u _ _ x1 hJ1 1073741824 none 0 0 [] (fun _ => True) (Recs.nil_ _ _) (by omega) (a ++ b) (whole_all hJ.ina hJ.inb _ (by have := HSIZ.out; omega))
        have Hcr := Lib.hid hcr
        clear hcr
        go_upto_region 14 with fail
        go_wp2_with (refine wpList_ldv (t := 70) (A := ⟨bj, 0, none⟩) rfl rfl rfl (ld_jrn HRJ1.out) ?_)
        refine Hcr.out.mono ?_
        rintro e v2 ⟨A2, c2, rfl, hJ2, hb2⟩
        obtain ⟨W2, hW2, b2, k2, S2, r2⟩ := boxD w v2 #[.slice A2 1 c2, .slice none 0 0] 70 (Below.ext (Below.ext hb y1) hb2)
        go_upto_region 15 with (refine wpList_store_new rfl 70 _ _ rfl 70 _ #[.slice A2 1 c2, .slice none 0 0] rfl rfl (by kernel_rfl) rfl (by simp [Value.oneCell']) ?_)
        rw [← hW2]
        clear hW2
        obtain ⟨bx, hbx⟩ : ∃ bx, bx = v2.heap.size := ⟨_, rfl⟩
        rw [← hbx] at r2 ⊢
        have s2 := hb2.size
        have hbxW : bx < W2.heap.size := by have := S2.out; omega
        have y2 := Below.ext hb2 k2
        have sy2 := y2.size
        have HRJ2 := Lib.hid ((y2.block bj (by omega)).trans HRJ1.out)
        have HRT2 := Lib.hid ((y2.block bt (by omega)).trans HRT1.out)
        have hJ2' := hJ2.ext k2
        have hcr2 := rlcrash_any A2 c2 none 0 0 (a ++ b) [] [] _ _ W2 hJ2' keep L nl cl lost _ (hL1.ext y2) (by omega) (a ++ b) (whole_none hJ2.ina _ _)
        have Hcr2 := Lib.hid hcr2
        clear hcr2 hbx S2 Hcr
        go_wp2_with (first | (refine wpList_load_row rfl 70 _ rfl _ rfl 70 _ (0,0) _ r2.out Try.underlying70 rfl (by kernel_rfl) ?_) | (refine wpList_ldv (t := 57) (A := ⟨bt, 0, none⟩) rfl rfl rfl (run_ld_block HRT2.out Try.underlying57 rfl (by kernel_rfl)) ?_))
        refine Hcr2.out.mono ?_
        rintro e v3 ⟨A3, c3, rfl, hJ3, hb3⟩
        obtain ⟨W3, hW3, b3, k3, S3, r3⟩ := boxD w v3 #[.slice A3 1 c3, .slice none 0 0] 70 (Below.ext b2 hb3)
        go_upto_region 16 with (refine wpList_store_new rfl 70 _ _ rfl 70 _ #[.slice A3 1 c3, .slice none 0 0] rfl rfl (by kernel_rfl) rfl (by simp [Value.oneCell']) ?_)
        rw [← hW3]
        clear hW3
        obtain ⟨bz, hbz⟩ : ∃ bz, bz = v3.heap.size := ⟨_, rfl⟩
        rw [← hbz] at r3 ⊢
        have s3 := hb3.size
        have hbzW : bz < W3.heap.size := by have := S3.out; omega
        have y3 := Below.ext hb3 k3
        have sy3 := y3.size
        have hbxW3 : bx < W3.heap.size := by omega
        have hbjW3 : bj < W3.heap.size := by omega
        have HRJ3 := Lib.hid ((y3.block bj (by omega)).trans HRJ2.out)
        have RX3 := Lib.hid ((y3.block bx (by omega)).trans r2.out)
        have hJx := hJ2'.ext y3
        have hJz := hJ3.ext k3
        have hJj := (hJ1.ext y2).ext y3
        have hTK := Lib.hid (show (a ++ b ++ u).take nab = a ++ b by rw [← HNB.out, List.take_left])
        have hc5 := fun w' (hw : Below W3.heap.size W3 w') => rlcontents_any A2 c2 none 0 0 (a ++ b) [] [] _ _ w' (hJx.ext hw) nab (by simpa using HNB.out)
        simp only [List.append_nil, Nat.add_zero] at hc5
        have Hc5 := Lib.hid hc5
        clear hc5 hbz S3 Hcr2 hJ2 hJ3 hJ2' hJ1 hJ
        go_wp2_with fail
        refine wp_region_lexL ((fun w' => Below W3.heap.size W3 w')) (by kernel_rfl) (by kernel_rfl) ((Below.refl _ W3).drew) ?_
        repeat (first | (refine lexL_q1 rfl ?_; go_big_quiet_step (fail); refine wpQuiet_nil ?_) | (refine lexL_skip0 rfl rfl ?_; simp only [Act.put, List.setIfInBounds_toArray, List.set_cons_succ, List.set_cons_zero]))
        refine lexL_ld (⟨bx, 0, none⟩) (.agg #[.slice A2 1 c2, .slice none 0 0]) rfl rfl rfl (fun w' hw' => ld_jrn ((hw'.block bx hbxW3).trans RX3.out)) ?_
        simp only [Act.put, List.setIfInBounds_toArray, List.set_cons_succ, List.set_cons_zero]
        repeat (first | (refine lexL_q1 rfl ?_; go_big_quiet_step (fail); refine wpQuiet_nil ?_) | (refine lexL_skip0 rfl rfl ?_; simp only [Act.put, List.setIfInBounds_toArray, List.set_cons_succ, List.set_cons_zero]))
        refine lexL_e rfl ?_
        go_wp2_with fail
        refine (Hc5.out _ (Below.refl _ W3).drew).mono ?_
        rintro e x5 ⟨Ax5, cx5, rfl, hx5, zx5⟩
        have y5 := Below.ext (Below.refl _ W3).drew zx5
        go_wp2_with fail
        refine lexL_go (y5) ?_
        repeat (first | (refine lexL_q1 rfl ?_; go_big_quiet_step (fail); refine wpQuiet_nil ?_) | (refine lexL_skip0 rfl rfl ?_; simp only [Act.put, List.setIfInBounds_toArray, List.set_cons_succ, List.set_cons_zero]))
        refine lexL_ld (⟨bj, 0, none⟩) (.agg #[.slice A 1 c, .slice B m d]) rfl rfl rfl (fun w' hw' => ld_jrn ((hw'.block bj hbjW3).trans HRJ3.out)) ?_
        simp only [Act.put, List.setIfInBounds_toArray, List.set_cons_succ, List.set_cons_zero]
        repeat (first | (refine lexL_q1 rfl ?_; go_big_quiet_step (fail); refine wpQuiet_nil ?_) | (refine lexL_skip0 rfl rfl ?_; simp only [Act.put, List.setIfInBounds_toArray, List.set_cons_succ, List.set_cons_zero]))
        refine lexL_e rfl ?_
        go_wp2_with fail
        refine (rlcontents_any A c B m d a b u _ _ _ (hJj.ext y5) nab HNB.out).mono ?_
        rintro e x6 ⟨Ax6, cx6, rfl, hx6, zx6⟩
        have y6 := Below.ext y5 zx6
        obtain ⟨hl6, hl6b, hl6c⟩ := hx6.len
        have HL6 := Lib.hid hl6
        clear hl6
        go_wp2_with fail
        refine lexL_go (y6) ?_
        repeat (first | (refine lexL_q1 rfl ?_; go_big_quiet_step (fail); refine wpQuiet_nil ?_) | (refine lexL_skip0 rfl rfl ?_; simp only [Act.put, List.setIfInBounds_toArray, List.set_cons_succ, List.set_cons_zero]))
        refine lexL_slR encDt_len (0) (nab) (cx6) (nab) (cx6) ((a ++ b ++ u).take nab) rfl rfl rfl Try.underlying27 (by kernel_rfl) (by first | exact .inl ⟨rfl, rfl⟩ | exact .inr ⟨_, _, _, rfl, rfl, by omega⟩) (by first | exact .inl ⟨rfl, rfl, rfl⟩ | exact .inr ⟨_, _, _, rfl, rfl, by omega⟩) (by first | exact .inl ⟨rfl, rfl⟩ | exact .inr ⟨_, _, _, rfl, rfl, by omega⟩) (hx6) (by omega) (by omega) (by omega) (by omega) (by omega) (by omega) (by first | rfl | (simp; done) | exact (List.take_of_length_le (by simp; omega)).symm) ?_
        intro Ab hRb hcb
        simp only [Act.put, List.setIfInBounds_toArray, List.set_cons_succ, List.set_cons_zero]
        repeat (first | (refine lexL_q1 rfl ?_; go_big_quiet_step (fail); refine wpQuiet_nil ?_) | (refine lexL_skip0 rfl rfl ?_; simp only [Act.put, List.setIfInBounds_toArray, List.set_cons_succ, List.set_cons_zero]))
        refine lexL_e rfl ?_
        go_wp2_with fail
        refine (same27_eq _ _ _ _ _ (a ++ b) _ _ _ (hx5.ext zx6) (by rw [← hTK.out]; exact hRb)).mono ?_
        rintro e x7 ⟨rfl, zx7⟩
        have y7 := Below.ext y6 zx7
        go_wp2_with fail
        refine lexL_go (y7) ?_
        repeat (first | (refine lexL_q1 rfl ?_; go_big_quiet_step (fail); refine wpQuiet_nil ?_) | (refine lexL_skip0 rfl rfl ?_; simp only [Act.put, List.setIfInBounds_toArray, List.set_cons_succ, List.set_cons_zero]))
        refine lexL_ld (⟨bx, 0, none⟩) (.agg #[.slice A2 1 c2, .slice none 0 0]) rfl rfl rfl (fun w' hw' => ld_jrn ((hw'.block bx hbxW3).trans RX3.out)) ?_
        simp only [Act.put, List.setIfInBounds_toArray, List.set_cons_succ, List.set_cons_zero]
        repeat (first | (refine lexL_q1 rfl ?_; go_big_quiet_step (fail); refine wpQuiet_nil ?_) | (refine lexL_skip0 rfl rfl ?_; simp only [Act.put, List.setIfInBounds_toArray, List.set_cons_succ, List.set_cons_zero]))
        refine lexL_ld (⟨bz, 0, none⟩) (.agg #[.slice A3 1 c3, .slice none 0 0]) rfl rfl rfl (fun w' hw' => ld_jrn ((hw'.block bz hbzW).trans r3.out)) ?_
        simp only [Act.put, List.setIfInBounds_toArray, List.set_cons_succ, List.set_cons_zero]
        repeat (first | (refine lexL_q1 rfl ?_; go_big_quiet_step (fail); refine wpQuiet_nil ?_) | (refine lexL_skip0 rfl rfl ?_; simp only [Act.put, List.setIfInBounds_toArray, List.set_cons_succ, List.set_cons_zero]))
        refine lexL_e rfl ?_
        go_wp2_with fail
        refine (same30_eq A2 c2 none 0 A3 c3 none 0 0 (a ++ b) [] [] _ _ _ _ _ (hJx.ext y7) (hJz.ext y7)).mono ?_
        rintro e x8 ⟨rfl, zx8⟩
        have y8 := Below.ext y7 zx8
        go_wp2_with fail
        refine lexL_go (y8) ?_
        repeat (first | (refine lexL_q1 rfl ?_; go_big_quiet_step (fail); refine wpQuiet_nil ?_) | (refine lexL_skip0 rfl rfl ?_; simp only [Act.put, List.setIfInBounds_toArray, List.set_cons_succ, List.set_cons_zero]))
        refine lexL_nil ?_
        go_wp2_with fail
        go_ret
        exact ⟨rfl, Below.ext b3 y8⟩
  · have d40 : decide (40 < nl) = true := by simp; omega
    have d40' : decide ((40 : Int) < (nl : Int)) = true := by simp; omega
    go_wp2
    go_ret
    exact ⟨rfl, hb1⟩
end Go.Proofs.Ytjcfnpmgklliiaa.receiverlogKeeps
