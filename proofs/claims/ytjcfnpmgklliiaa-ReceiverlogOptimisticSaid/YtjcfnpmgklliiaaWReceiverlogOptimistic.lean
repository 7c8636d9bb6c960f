/-
  The walk of the law ReceiverlogOptimistic: it returns true and writes nothing that was there. Conditions: what the row says of its arguments.
-/
import Derived.Test.YtjcfnpmgklliiaaRlJ
import Derived.WalkKit
import Derived.ProofKit
import Derived.OpenShut
import Derived.ShutString
import Derived.Below
namespace Go.Proofs.Ytjcfnpmgklliiaa.receiverlogOptimistic
open Go.ChangeShapes Go.WideShapes Go.ChangeAt Go.RowKit
open Go.ChangeMaps (open_string shut_string)
set_option linter.unusedVariables false
set_option maxRecDepth 100000

set_option maxHeartbeats 4000000 in
theorem walk (a0 : Option Addr) (len0 cap0 : Nat) (z0 : List Int) (w : World) (w0 : IsRow .u8 w a0 len0 cap0 z0) :
    Calls Try.prog 11 #[.slice a0 len0 cap0] w fun e w' => e = .returned (.bool true) ∧ Below w.heap.size w w' := by
  obtain ⟨codes, hk1, hk2, hk3, hkB⟩ := IsRow.bytes w0
  clear w0
  have HK := Lib.hid hk1
  clear hk1
  go_enter Try.func11, Try.ntmps11
  go_wp2_with fail
  refine (awake30_any _).mono ?_
  rintro e w1 ⟨rfl, hb1⟩
  go_wp2_with fail
  refine (rlnew_any _).mono ?_
  rintro e v1 ⟨A1, c1, rfl, J1, hbn1⟩
  obtain ⟨W3, hW3, b3, k3, S3, r3⟩ := boxD w v1 #[.slice A1 1 c1, .slice none 0 0] 70 (Below.ext hb1 hbn1)
  go_upto_region 4 with (refine wpList_store_new rfl 70 _ _ rfl 70 _ #[.slice A1 1 c1, .slice none 0 0] rfl rfl (by kernel_rfl) rfl (by simp [Value.oneCell']) ?_)
  rw [← hW3]
  clear hW3
  obtain ⟨bj, hbj⟩ : ∃ bj, bj = v1.heap.size := ⟨_, rfl⟩
  rw [← hbj] at r3 S3 ⊢
  have hjW : bj < W3.heap.size := by have := S3.out; omega
  have hJ3 : Jrn (fun b => b ≠ bj) W3 A1 c1 none 0 0 [] [] [] 0 := ((J1.mono (S' := fun b => b < v1.heap.size) (fun b hb _ => hb)).ext k3).mono (fun b _ h => by omega)
  have hwj : w.heap.size ≤ bj := by have := (Below.ext hb1 hbn1).size; omega
  clear hbj S3 J1 hb1 hbn1 k3
  have hac := acts_any _ _ _ codes _ W3 (hkB.ext b3) false
  have Hac := Lib.hid hac
  clear hac
  go_wp2_with fail
  refine (Hac.out).mono ?_
  rintro e w6 ⟨A6, c6, acs, rfl, hal, hacts, hain, hb6⟩
  obtain ⟨nA, hnA⟩ : ∃ nA, acs.length = nA := ⟨_, rfl⟩
  rw [hnA] at hacts hal ⊢
  have HNA := Lib.hid hnA
  have HAIN := Lib.hid hain
  have RJ := Lib.hid ((hb6.block bj hjW).trans r3.out)
  have b6 := Below.ext b3 hb6
  have hA6 := hacts.mono (S' := fun b => b ≠ bj) (fun b _ h => by omega)
  have hJ6 := hJ3.ext hb6
  have hs6 := hb6.size
  have hjb : bj < w6.heap.size := by omega
  clear hnA hain hb6 hacts hJ3 r3 Hac hs6 b3 hjW
  go_wp2_with fail
  go_loopw [5] (fun i wr => ∃ (k : Nat) (A : Option Addr) (c : Nat) (B : Option Addr) (m d : Nat) (a b u : List Dt), i = .int .i64 (k : Int) ∧ k ≤ nA ∧ wr.heap[bj]? = some (.cells #[.slice A 1 c, .slice B m d] 70 (0, 0)) ∧ Jrn (fun b => b ≠ bj) wr A c B m d a b u k ∧ Acts (fun b => b ≠ bj) wr (.slice A6 nA c6) acs ∧ Below w.heap.size w wr ∧ bj < wr.heap.size) (fun i _ => nA - (intOf i).toNat)
  case atStart => exact ⟨0, A1, c1, none, 0, 0, [], [], [], rfl, by omega, RJ.out, hJ6, hA6, b6, hjb⟩
  case round =>
    clear RJ hJ6 hA6 b6 hjb
    obtain ⟨k, A, c, B, m, d, a, b, u, rfl, hk, hrj, hJ, hA, hb, hjb⟩ := hrel
    have HRJ := Lib.hid hrj
    clear hrj
    by_cases hlt : k < nA
    · have hacl := hA.len.2
      obtain ⟨ba, oa, x, t, rfl, hbj1, hba, ht, hok, hca⟩ := hA.atS hlt
      have hin := HAIN.out t (List.mem_of_getElem? ht)
      have HCA := Lib.hid hca
      have HKX := Lib.hid (show x.kind = (t.kind : Int) from hok.1)
      have HXD := Lib.hid (show x.d = t.d from hok.2.1)
      obtain ⟨a2, b2, u2, hst⟩ := StepR.ex t hin.1 a b u
      have H8 := Lib.hid (fun h => step_opt8 h (hin.2.2.2.2.2.2.2 rfl) hst hJ.ina hJ.inb)
      have H5 := Lib.hid (fun h => step_opt5 h hst)
      have H7 := Lib.hid (fun h h' => step_opt7 h h' hst)
      have HM := Lib.hid hJ.len.1
      obtain ⟨na, hna⟩ : ∃ q, a.length = q := ⟨_, rfl⟩
      obtain ⟨nab, hnab⟩ : ∃ q, (a ++ b).length = q := ⟨_, rfl⟩
      have HN := Lib.hid hna
      have HNB := Lib.hid hnab
      clear hca ht hna hnab
      go_upto_region 8 with fail
      go_wp2_with fail
      refine wp_region_lexL ((fun w' => Below wr.heap.size wr w')) (by kernel_rfl) (by kernel_rfl) ((Below.refl _ wr).drew) ?_
      repeat (first | (refine lexL_q0 rfl ?_; go_big_quiet_step (fail); refine wpQuiet_nil ?_) | (refine lexL_skip0 rfl rfl ?_; simp only [Act.put, List.setIfInBounds_toArray, List.set_cons_succ, List.set_cons_zero]))
      refine lexL_ld (⟨bj, 0, none⟩) (.agg #[.slice A 1 c, .slice B m d]) rfl rfl rfl (fun w' hw' => ld_jrn ((hw'.block bj hjb).trans HRJ.out)) ?_
      simp only [Act.put, List.setIfInBounds_toArray, List.set_cons_succ, List.set_cons_zero]
      repeat (first | (refine lexL_q0 rfl ?_; go_big_quiet_step (fail); refine wpQuiet_nil ?_) | (refine lexL_skip0 rfl rfl ?_; simp only [Act.put, List.setIfInBounds_toArray, List.set_cons_succ, List.set_cons_zero]))
      refine lexL_e rfl ?_
      go_wp2_with fail
      refine (rlcontents_any _ _ _ _ _ a b u _ _ _ (hJ.ext (Below.refl _ wr).drew) nab HNB.out).mono ?_
      rintro e x1 ⟨Ax1, cx1, rfl, hx1, zx1⟩
      have y1 := Below.ext (Below.refl _ wr).drew zx1
      go_wp2_with fail
      refine lexL_go (y1) ?_
      repeat (first | (refine lexL_q0 rfl ?_; go_big_quiet_step (fail); refine wpQuiet_nil ?_) | (refine lexL_skip0 rfl rfl ?_; simp only [Act.put, List.setIfInBounds_toArray, List.set_cons_succ, List.set_cons_zero]))
      refine lexL_ld (⟨bj, 0, none⟩) (.agg #[.slice A 1 c, .slice B m d]) rfl rfl rfl (fun w' hw' => ld_jrn ((hw'.block bj hjb).trans HRJ.out)) ?_
      simp only [Act.put, List.setIfInBounds_toArray, List.set_cons_succ, List.set_cons_zero]
      repeat (first | (refine lexL_q0 rfl ?_; go_big_quiet_step (fail); refine wpQuiet_nil ?_) | (refine lexL_skip0 rfl rfl ?_; simp only [Act.put, List.setIfInBounds_toArray, List.set_cons_succ, List.set_cons_zero]))
      refine lexL_e rfl ?_
      go_wp2_with fail
      refine (rlstable_any _ _ _ _ _ a b u _ _ _ (hJ.ext y1) na HN.out).mono ?_
      rintro e x2 ⟨Ax2, cx2, rfl, hx2, zx2⟩
      have y2 := Below.ext y1 zx2
      go_wp2_with fail
      refine lexL_go (y2) ?_
      repeat (first | (refine lexL_q0 rfl ?_; go_big_quiet_step (fail); refine wpQuiet_nil ?_) | (refine lexL_skip0 rfl rfl ?_; simp only [Act.put, List.setIfInBounds_toArray, List.set_cons_succ, List.set_cons_zero]))
      refine lexL_nil ?_
      go_wp2_with fail
      refine (begins30_eq _ _ _ _ _ _ (a ++ b ++ u) a _ _ x2 (hx1.ext zx2) hx2 (by rw [List.append_assoc]; exact List.prefix_append _ _)).mono ?_
      rintro e x3 ⟨rfl, zx3⟩
      have y3 := Below.ext y2 zx3
      have s3 := y3.size
      have HRJ3 := Lib.hid ((y3.block bj hjb).trans HRJ.out)
      have hjb3 : bj < x3.heap.size := by omega
      have hba3 : ba < x3.heap.size := by omega
      have b3 := Below.ext hb y3
      have hA3 := hA.ext y3
      have hJw := (hJ.ext y3).mono (S' := fun b => b ≠ bj ∧ b < x3.heap.size) (fun b hb h => ⟨h, hb⟩)
      have hok3 := hok.ext y3
      have hx13 := ((hx1.ext zx2).ext zx3).mono (S' := fun b => b ≠ bj ∧ b < x3.heap.size) (fun b hb h => by have h2 : wr.heap.size ≤ b := h; exact ⟨by omega, hb⟩)
      have hx23 := (hx2.ext zx3).mono (S' := fun b => b ≠ bj ∧ b < x3.heap.size) (fun b hb h => by have h2 : x1.heap.size ≤ b := h; have := y1.size; exact ⟨by omega, hb⟩)
      have HCA3 := Lib.hid (fun i u' h => (y3.cell (p := ⟨ba, oa + k * 13 + i, none⟩) hba).trans (HCA.out i u' h))
      clear hx1 hx2 zx1 zx2 zx3 y1 y2 hJ hA hok HCA HRJ
      go_upto_region 11 with fail
      try (go_wp2_with fail)
      refine wp_region_floats false (fun w' => Below x3.heap.size x3 w') [8] ((fun _ => .cells #[.slice none 0 0, .slice none 0 0] 70)) (fun _ Xa => .pointer (some ⟨Xa, 0, none⟩)) (by kernel_rfl) (by kernel_rfl) (fun _ _ w' h => h.alloc h.size _) ((Below.refl _ x3).drew) ?_
      repeat (first | (refine msL_q1 rfl rfl ?_; go_big_quiet_step (fail); refine wpQuiet_nil ?_) | (refine msL_skip0 rfl rfl rfl ?_; simp only [Act.put, List.setIfInBounds_toArray, List.set_cons_succ, List.set_cons_zero]))
      refine msL_ld (⟨bj, 0, none⟩) (.agg #[.slice A 1 c, .slice B m d]) rfl rfl rfl rfl (fun w' hw' => ld_jrn ((hw'.block bj (Array.getElem?_eq_some_iff.1 HRJ3.out).1).trans HRJ3.out)) ?_
      simp only [Act.put, List.setIfInBounds_toArray, List.set_cons_succ, List.set_cons_zero]
      repeat (first | (refine msL_q1 rfl rfl ?_; go_big_quiet_step (fail); refine wpQuiet_nil ?_) | (refine msL_skip0 rfl rfl rfl ?_; simp only [Act.put, List.setIfInBounds_toArray, List.set_cons_succ, List.set_cons_zero]))
      refine msL_ld (⟨ba, oa + k * 13, none⟩) (.agg #[.int .i64 x.kind, .int .i64 x.d.proc, .int .i64 x.d.index, .int .i64 x.d.ev.k0, .int .i64 x.d.ev.k1, .int .i64 x.d.ev.k2, .int .i64 x.d.ev.k3, .int .i64 x.d.ev.k4, .int .i64 x.d.ev.k5, .int .i64 x.d.ev.k6, .int .i64 x.n, .int .i64 x.keep, .slice x.L x.nl x.cl]) rfl rfl rfl rfl (fun w' hw' => ld_act hw' hba3 HCA3.out) ?_
      simp only [Act.put, List.setIfInBounds_toArray, List.set_cons_succ, List.set_cons_zero]
      repeat (first | (refine msL_q1 rfl rfl ?_; go_big_quiet_step (fail); refine wpQuiet_nil ?_) | (refine msL_skip0 rfl rfl rfl ?_; simp only [Act.put, List.setIfInBounds_toArray, List.set_cons_succ, List.set_cons_zero]))
      refine msL_e rfl rfl (fun m1a v1a hE1a => ?_)
      go_wp2_with fail
      have x1a := hE1a.bxs (Bxs.none_ x3.heap.size _ _) (Nat.le_refl _)
      have y1a : Below x3.heap.size x3 v1a := Below.ext (Below.refl _ x3).drew hE1a.bel
      have hdo := do30_any A c B m d a b u k _ v1a (hJw.ext y1a) x t _ (hok3.ext y1a) false hin (by omega) a2 b2 u2 hst
      have Hdoa := Lib.hid hdo
      clear hdo
      refine Hdoa.out.mono ?_
      rintro e v2a ⟨A2a, c2a, B2a, n2a, d2a, rfl, hJ2a, hb2a⟩
      have y2a := Below.ext y1a hb2a
      have x2a := x1a.ext hb2a
      have s1a := y1a.size
      have hJ2'a := hJ2a.mono (S' := fun b => b ≠ bj ∧ m1a 8 ≠ some b) (fun b _ h => by
        rcases h with h | h
        · exact ⟨h.1, x1a.low h.2⟩
        · exact ⟨by omega, x1a.lt h⟩)
      go_wp2_with fail
      refine msL_go (y2a) ?_
      repeat (first | (refine msL_q1 rfl rfl ?_; go_big_quiet_step (fail); refine wpQuiet_nil ?_) | (refine msL_skip0 rfl rfl rfl ?_; simp only [Act.put, List.setIfInBounds_toArray, List.set_cons_succ, List.set_cons_zero]))
      refine msL_x 8 rfl (⟨rfl, fun w' => alloc_jrn _ _ w' rfl⟩) (fun m3a v3a Xa hE3a hXa => ?_)
      simp only [Act.put, List.setIfInBounds_toArray, List.set_cons_succ, List.set_cons_zero]
      repeat (first | (refine msL_q1 rfl rfl ?_; go_big_quiet_step (fail); refine wpQuiet_nil ?_) | (refine msL_skip0 rfl rfl rfl ?_; simp only [Act.put, List.setIfInBounds_toArray, List.set_cons_succ, List.set_cons_zero]))
      have x3a := hE3a.bxs x2a y2a.size
      have y3a := Below.ext y2a hE3a.bel
      have rowXa := (x3a 8 Xa hXa).2
      have hWXa := (x3a 8 Xa hXa).1
      have hJ3a := (hJ2'a.mono (S' := fun b => b ≠ bj ∧ b ≠ Xa) (fun b hb h => ⟨h.1, fun e => hE3a.ne (d := 8) hb h.2 (by rw [hXa, e])⟩)).ext hE3a.bel
      refine msL_d rfl rfl ((by simp [hXa])) ?_
      refine wpList_store_row rfl 70 _ _ rfl Xa 70 _ _ rfl rfl rowXa (by kernel_rfl) rfl (by simp [Value.oneCell']) ?_
      obtain ⟨Va, hVa⟩ : ∃ Va, Va = v3a.setRow Xa #[.slice A2a 1 c2a, .slice B2a n2a d2a] := ⟨_, rfl⟩
      have gVa : v3a.grownBy Va (some Xa) := by rw [hVa]; exact grown_setRow _ _ _
      have yVa : Below x3.heap.size x3 Va := by rw [hVa]; exact Below.setRow y3a hWXa _
      have RXa := Lib.hid (show Va.heap[Xa]? = some (.cells #[.slice A2a 1 c2a, .slice B2a n2a d2a] 70 (0, 0)) by rw [hVa]; exact setRow_heap _ _ _ _ _ _ rowXa)
      have hJVa := (hJ3a.keep (fun b hb h => gVa.block b hb (by simp; exact h.2))).mono (S' := fun b => b ≠ bj) (fun b _ h => h.1)
      have hXVa : Xa < Va.heap.size := (Array.getElem?_eq_some_iff.1 RXa.out).1
      rw [← hVa]
      clear hVa gVa hJ3a hJ2'a hJ2a rowXa x1a x2a x3a hE1a hE3a hb2a y1a y2a y3a Hdoa hXa
      refine msL_go yVa ?_
      simp only [Act.put]
      repeat (first | (refine msL_q1 rfl rfl ?_; go_big_quiet_step (fail); refine wpQuiet_nil ?_) | (refine msL_skip0 rfl rfl rfl ?_; simp only [Act.put, List.setIfInBounds_toArray, List.set_cons_succ, List.set_cons_zero]))
      refine msL_nil ?_
      go_upto_region 12 with fail
      have HRJa := Lib.hid ((yVa.block bj (by omega)).trans HRJ3.out)
      have sVa := yVa.size
      obtain ⟨W12, hW12⟩ : ∃ W12, W12 = Va.setRow bj #[.slice A2a 1 c2a, .slice B2a n2a d2a] := ⟨_, rfl⟩
      have g12 : Va.grownBy W12 (some bj) := by rw [hW12]; exact grown_setRow _ _ _
      have RJ12 := Lib.hid (show W12.heap[bj]? = some (.cells #[.slice A2a 1 c2a, .slice B2a n2a d2a] 70 (0, 0)) by rw [hW12]; exact setRow_heap _ _ _ _ _ _ HRJa.out)
      have b12 : Below w.heap.size w W12 := by rw [hW12]; exact Below.setRow (Below.ext b3 yVa) hwj _
      have hJ12 := hJVa.keep (fun b hb h => g12.block b hb (by simp; exact h))
      have hA12 := (hA3.ext yVa).keep (fun b hb h => g12.block b hb (by simp; exact h))
      have s12 := g12.size
      have y12 : ∀ q, q < x3.heap.size → q ≠ bj → W12.heap[q]? = x3.heap[q]? := fun q hq h => (g12.block q (by omega) (by simp; exact h)).trans (yVa.block q hq)
      have Y12 := Lib.hid y12
      clear y12
      go_upto_region 15 with (first | (refine wpList_load_row rfl 70 _ rfl _ rfl 70 _ (0,0) _ RXa.out Try.underlying70 rfl (by kernel_rfl) ?_) | (refine wpList_store_row rfl 70 _ _ rfl bj 70 _ _ rfl rfl HRJa.out (by kernel_rfl) rfl (by simp [Value.oneCell']) ?_))
      rw [← hW12]
      clear hW12 g12
      have hm2 := Lib.hid hJVa.len.1
      obtain ⟨na2, hna2⟩ : ∃ q, a2.length = q := ⟨_, rfl⟩
      obtain ⟨nab2, hnab2⟩ : ∃ q, (a2 ++ b2).length = q := ⟨_, rfl⟩
      have HN2 := Lib.hid hna2
      have HNB2 := Lib.hid hnab2
      have hx12 := hx13.keep (fun q hq h => Y12.out q hq h.1)
      have hx22 := hx23.keep (fun q hq h => Y12.out q hq h.1)
      have hc := rlcontents_any A2a c2a B2a n2a d2a a2 b2 u2 _ _ W12 hJ12 nab2 HNB2.out
      have Hc := Lib.hid hc
      clear hc hna2 hnab2 hJVa hx13 hx23
      go_wp2_with (refine wpList_ldv (t := 70) (A := ⟨bj, 0, none⟩) rfl rfl rfl (ld_jrn RJ12.out) ?_)
      refine Hc.out.mono ?_
      rintro e x5 ⟨Ax5, cx5, rfl, hx5, zx5⟩
      have R5 := Lib.hid ((zx5.block bj (by omega)).trans RJ12.out)
      have b5 := Below.ext b12 zx5
      have hx15 := hx12.ext zx5
      have hx25 := hx22.ext zx5
      have hJ5 := hJ12.ext zx5
      have hA5 := hA12.ext zx5
      have HCA5 := Lib.hid (fun i u' (h : (encAc x)[i]? = some u') => Keep.cell (S := fun b => b ≠ bj) (w := x3) (fun q hq hne => (zx5.block q (by omega)).trans (Y12.out q hq hne)) hbj1 (HCA3.out i u' h))
      have qk : x5.cell? ⟨ba, oa + k * 13, none⟩ = some (.int .i64 x.kind) := HCA5.out 0 _ rfl
      go_upto_block 2 with fail
      have hsz5 := zx5.size
      by_cases h8 : t.kind = 8
      · have d8 : (x.kind == 8) = true := by rw [HKX.out]; simp; omega
        obtain ⟨rfl, rfl, e3, e4⟩ := H8.out h8
        obtain rfl : n2a = 0 := by have := hm2.out; simpa using this.symm
        obtain rfl : nab2 = na2 := by have h1 := HNB2.out; have h2 := HN2.out; rw [List.append_nil] at h1; omega
        simp only [List.append_nil, Nat.add_zero] at hx5 ⊢
        go_upto_region 19 with fail
        go_wp2_with fail
        refine (begins30_eq _ _ _ _ _ _ (a ++ b ++ u) a2 _ _ x5 hx15 hx5 e3).mono ?_
        rintro e x6 ⟨rfl, zx6⟩
        go_wp2_with fail
        refine (begins30_eq _ _ _ _ _ _ a2 a _ _ x6 (hx5.ext zx6) (hx25.ext zx6) e4).mono ?_
        rintro e x7 ⟨rfl, zx7⟩
        have y7 := Below.ext zx6 zx7
        have R7 := Lib.hid ((y7.block bj (by omega)).trans R5.out)
        go_wp2_with (refine wpList_ldv (t := 70) (A := ⟨bj, 0, none⟩) rfl rfl rfl (ld_jrn R7.out) ?_)
        refine (rlstable_any _ _ _ _ _ a2 _ _ _ _ x7 (hJ5.ext y7) nab2 HN2.out).mono ?_
        rintro e x8 ⟨Ax8, cx8, rfl, hx8, zx8⟩
        have y8 := Below.ext y7 zx8
        go_wp2_with fail
        refine (same27_eq _ _ _ _ _ a2 _ _ x8 hx8 (hx5.ext y8)).mono ?_
        rintro e x9 ⟨rfl, zx9⟩
        have y9 := Below.ext y8 zx9
        go_wp2_with fail
        refine ⟨⟨k + 1, A2a, c2a, B2a, 0, d2a, a2, [], [], by congr 1, by omega, (y9.block bj (by omega)).trans R5.out, hJ5.ext y9, hA5.ext y9, Below.ext b5 y9, by have := y9.size; omega⟩, by simp [intOf]; omega⟩
      by_cases h5 : t.kind < 5
      · have d8 : (x.kind == 8) = false := by rw [HKX.out]; simp; omega
        have d5 : decide (x.kind < 5) = true := by rw [HKX.out]; simp; omega
        have e3 := H5.out h5
        have hlen : nab2 + n2a = nab + m + 1 := by
          have h0 := congrArg List.length e3
          have h1 := HNB2.out
          have h2 := HNB.out
          have h3 := hm2.out
          have h4 := HM.out
          simp only [List.length_append, List.length_cons, List.length_nil] at h0 h1 h2
          omega
        rw [e3, hlen] at hx5
        rw [hlen]
        have hl5 := Lib.hid hx5.len
        have hx5' := hx5
        obtain ⟨bz, oz, xz, rfl, _, hbz, hxz, hcz⟩ := hx5'.at_ encDt_len (j := nab + m) (by have := hl5.out.1; omega) (by omega)
        have exz : xz = x.d := by
          have e5 : (a ++ b ++ u).length = nab + m := by rw [List.length_append, HNB.out, HM.out]
          have := hxz
          rw [← e5, List.getElem?_concat_length] at this
          rw [HXD.out]
          exact (Option.some.inj this).symm
        subst exz
        have HCZ := Lib.hid hcz
        clear hcz hxz hlen
        have dne : (((nab + m + 1 : Nat) : Int) != ((nab + m : Nat) : Int) + 1) = false := by simp
        have hlt2 : nab + m < nab + m + 1 := by omega
        have hpb : nab + m + 1 ≤ 9223372036854775807 := by have := hl5.out; omega
        go_upto_region 22 with fail
        go_wp2_with fail
        refine wp_region_lexL ((fun w' => Below x5.heap.size x5 w')) (by kernel_rfl) (by kernel_rfl) ((Below.refl _ x5).drew) ?_
        repeat (first | (refine lexL_q0 rfl ?_; go_big_quiet_step (fail); refine wpQuiet_nil ?_) | (refine lexL_skip0 rfl rfl ?_; simp only [Act.put, List.setIfInBounds_toArray, List.set_cons_succ, List.set_cons_zero]))
        refine lexL_e rfl ?_
        go_wp2_with fail
        refine (begins30_eq _ _ _ _ _ _ (a ++ b ++ u ++ [x.d]) (a ++ b ++ u) _ _ _ (by rw [HXD.out]; exact hx5.ext (Below.refl _ x5).drew) (hx15.ext (Below.refl _ x5).drew) (List.prefix_append _ _)).mono ?_
        rintro e x6 ⟨rfl, zx6⟩
        have y6 := Below.ext (Below.refl _ x5).drew zx6
        go_wp2_with fail
        refine lexL_go (y6) ?_
        repeat (first | (refine lexL_q0 rfl ?_; go_big_quiet_step (fail); refine wpQuiet_nil ?_) | (refine lexL_skip0 rfl rfl ?_; simp only [Act.put, List.setIfInBounds_toArray, List.set_cons_succ, List.set_cons_zero]))
        refine lexL_ld (⟨bz, oz + (nab + m) * 9, none⟩) (.agg #[.int .i64 x.d.proc, .int .i64 x.d.index, .int .i64 x.d.ev.k0, .int .i64 x.d.ev.k1, .int .i64 x.d.ev.k2, .int .i64 x.d.ev.k3, .int .i64 x.d.ev.k4, .int .i64 x.d.ev.k5, .int .i64 x.d.ev.k6]) rfl rfl rfl (fun w' hw' => ld_det hw' hbz HCZ.out) ?_
        simp only [Act.put, List.setIfInBounds_toArray, List.set_cons_succ, List.set_cons_zero]
        repeat (first | (refine lexL_q0 rfl ?_; go_big_quiet_step (fail); refine wpQuiet_nil ?_) | (refine lexL_skip0 rfl rfl ?_; simp only [Act.put, List.setIfInBounds_toArray, List.set_cons_succ, List.set_cons_zero]))
        refine lexL_ld (⟨ba, oa + k * 13 + 1, none⟩) (.agg #[.int .i64 x.d.proc, .int .i64 x.d.index, .int .i64 x.d.ev.k0, .int .i64 x.d.ev.k1, .int .i64 x.d.ev.k2, .int .i64 x.d.ev.k3, .int .i64 x.d.ev.k4, .int .i64 x.d.ev.k5, .int .i64 x.d.ev.k6]) rfl rfl rfl (fun w' hw' => ld_actd hw' (by omega) HCA5.out) ?_
        simp only [Act.put, List.setIfInBounds_toArray, List.set_cons_succ, List.set_cons_zero]
        repeat (first | (refine lexL_q0 rfl ?_; go_big_quiet_step (fail); refine wpQuiet_nil ?_) | (refine lexL_skip0 rfl rfl ?_; simp only [Act.put, List.setIfInBounds_toArray, List.set_cons_succ, List.set_cons_zero]))
        refine lexL_nil ?_
        go_wp2_with fail
        refine ⟨⟨k + 1, A2a, c2a, B2a, n2a, d2a, a2, b2, u2, by congr 1, by omega, (y6.block bj (by omega)).trans R5.out, hJ5.ext y6, hA5.ext y6, Below.ext b5 y6, by have := y6.size; omega⟩, by simp [intOf]; omega⟩
      · have d8 : (x.kind == 8) = false := by rw [HKX.out]; simp; omega
        have d5 : decide (x.kind < 5) = false := by rw [HKX.out]; simp; omega
        obtain ⟨e3, e4⟩ := H7.out h5 h8
        have hlen : nab2 + n2a = nab + m := by
          have h0 := congrArg List.length e3
          have h1 := HNB2.out
          have h2 := HNB.out
          have h3 := hm2.out
          have h4 := HM.out
          simp only [List.length_append, List.length_cons, List.length_nil] at h0 h1 h2
          omega
        have E4 := Lib.hid e4
        have HLEN := Lib.hid hlen
        rw [e3, hlen] at hx5
        rw [hlen]
        clear e3 e4 hlen
        by_cases h7 : t.kind = 7
        · have d7 : (x.kind == 7) = true := by rw [HKX.out]; simp; omega
          go_upto_region 16 with fail
          go_wp2_with fail
          refine (same27_eq _ _ _ _ _ (a ++ b ++ u) _ _ x5 hx5 hx15).mono ?_
          rintro e x6 ⟨rfl, zx6⟩
          have R6 := Lib.hid ((zx6.block bj (by omega)).trans R5.out)
          have qk6 : x6.cell? ⟨ba, oa + k * 13, none⟩ = some (.int .i64 x.kind) := (zx6.cell (p := ⟨ba, oa + k * 13, none⟩) (show ba < x5.heap.size by omega)).trans qk
          obtain ⟨rfl, rfl⟩ := E4.out h7
          have hs := rlstable_any _ _ _ _ _ a2 _ _ _ _ x6 (hJ5.ext zx6) na2 HN2.out
          rw [show na2 = nab + m by
            have h0 := HLEN.out
            have h1 := HNB2.out
            have h2 := HN2.out
            have h3 := hm2.out
            simp only [List.length_append, List.length_nil] at h1 h3
            omega, show a2 = a ++ b ++ u by
            have := (H7.out h5 h8).1
            simpa using this] at hs
          have Hs := Lib.hid hs
          clear hs
          go_wp2_with (refine wpList_ldv (t := 70) (A := ⟨bj, 0, none⟩) rfl rfl rfl (ld_jrn R6.out) ?_)
          refine Hs.out.mono ?_
          rintro e x7 ⟨Ax7, cx7, rfl, hx7, zx7⟩
          go_wp2_with fail
          refine (same27_eq _ _ _ _ _ (a ++ b ++ u) _ _ x7 hx7 ((hx5.ext zx6).ext zx7)).mono ?_
          rintro e x8 ⟨rfl, zx8⟩
          have y8 := Below.ext (Below.ext zx6 zx7) zx8
          go_wp2_with fail
          refine ⟨⟨k + 1, A2a, c2a, B2a, n2a, d2a, a2, [], [], by congr 1, by omega, (y8.block bj (by omega)).trans R5.out, hJ5.ext y8, hA5.ext y8, Below.ext b5 y8, by have := y8.size; omega⟩, by simp [intOf]; omega⟩
        · have d7 : (x.kind == 7) = false := by rw [HKX.out]; simp; omega
          go_upto_region 16 with fail
          go_wp2_with fail
          refine (same27_eq _ _ _ _ _ (a ++ b ++ u) _ _ x5 hx5 hx15).mono ?_
          rintro e x6 ⟨rfl, zx6⟩
          have qk6 : x6.cell? ⟨ba, oa + k * 13, none⟩ = some (.int .i64 x.kind) := (zx6.cell (p := ⟨ba, oa + k * 13, none⟩) (show ba < x5.heap.size by omega)).trans qk
          go_wp2_with fail
          refine ⟨⟨k + 1, A2a, c2a, B2a, n2a, d2a, a2, b2, u2, by congr 1, by omega, (zx6.block bj (by omega)).trans R5.out, hJ5.ext zx6, hA5.ext zx6, Below.ext b5 zx6, by have := zx6.size; omega⟩, by simp [intOf]; omega⟩
    · obtain rfl : k = nA := by omega
      go_wp2
      go_ret
      exact ⟨rfl, hb⟩
end Go.Proofs.Ytjcfnpmgklliiaa.receiverlogOptimistic
