/-
  Open of package wal and of the document.
-/
import Derived.Test.YtjcfnpmgklliiaaWalD
import Derived.Test.YtjcfnpmgklliiaaLate
import Derived.WalkMore
namespace Go.Proofs.Ytjcfnpmgklliiaa
open Go.RowKit
set_option maxRecDepth 100000
set_option linter.unusedVariables false
set_option linter.unusedSimpArgs false

/-- what Open gives -/
def OpenR (fs : List Fil) (n : Nat) (k : Int) (l : List Dt) (r : List Fil) (rn : Nat) (er : Int) : Prop :=
  (∃ (j : Nat) (f : Fil), k = (j : Int) ∧ fs[j]? = some f ∧ WholeR (f.s ++ f.p) l ∧ r = fs.set j ⟨frL l, []⟩ ∧ rn = n ∧ er = 0) ∨ ((k < 0 ∨ (n : Int) ≤ k) ∧ l = [] ∧ r = [] ∧ rn = 0 ∧ er = 11)
theorem OpenR.ex (fs : List Fil) (n : Nat) (k : Int) (h : fs.length = n) : ∃ l r rn er, OpenR fs n k l r rn er := by
  by_cases hk : k < 0 ∨ (n : Int) ≤ k
  · exact ⟨[], [], 0, 11, .inr ⟨hk, rfl, rfl, rfl, rfl⟩⟩
  · obtain ⟨j, rfl⟩ : ∃ j : Nat, k = (j : Int) := ⟨k.toNat, by omega⟩
    have hj : j < fs.length := by omega
    obtain ⟨l, hl⟩ := whole_ex (fs[j].s ++ fs[j].p)
    exact ⟨l, _, n, 0, .inl ⟨j, fs[j], rfl, List.getElem?_eq_getElem hj, hl, rfl, rfl, rfl⟩⟩

set_option maxHeartbeats 2000000 in
theorem walopen_no (A : Option Addr) (n c : Nat) (k : Int) (hk : k < 0 ∨ (n : Int) ≤ k) (hn : n ≤ 1000) (w : World) :
    Calls Try.prog 20 #[.agg #[.slice A n c], .int .i64 k] w fun e w' => e = .returned (.tuple #[.slice none 0 0, .agg #[.slice none 0 0], .int .i64 11]) ∧ Below w.heap.size w w' := by
  obtain ⟨W, hW, hbW, hsW, hw0, hw1⟩ := two_boxes w (.slice A n c)
  have HsW := Lib.hid hsW
  have H0 := Lib.hid hw0
  have H1 := Lib.hid hw1
  clear hw0 hw1
  go_enter Try.func20, Try.ntmps20
  go_wp2_with fail
  rw [← hW]
  clear hW hsW
  go_step3
  go_wp2_with (refine wpList_load_row rfl 45 _ rfl _ rfl 45 _ (0,0) _ H0.out Try.underlying45 rfl (by kernel_rfl) ?_)
  refine (read_no A n c k hk hn W).mono ?_
  rintro e w1 ⟨rfl, hb1⟩
  have z1 := (hb1.block _ (by have := HsW.out; omega)).trans H1.out
  have Z1 := Lib.hid z1
  clear z1
  go_wp2_with (refine wpList_store_row rfl 45 _ _ rfl (w.heap.size + 1) 45 _ _ rfl rfl Z1.out (by kernel_rfl) rfl (by simp [Value.oneCell']) ?_)
  rw [Exit.noGoto_ret]
  refine bodyPost_ret (results_tct rfl rfl (run_ld_block (setRow_heap _ _ _ _ _ _ Z1.out) Try.underlying45 rfl (by kernel_rfl))) rfl ?_
  exact ⟨rfl, Below.setRow (Below.ext hbW hb1) (by omega) _⟩

set_option maxHeartbeats 2000000 in
theorem refopen_no (A : Option Addr) (n c : Nat) (k : Int) (hk : k < 0 ∨ (n : Int) ≤ k) (hn : n ≤ 1000) (w : World) :
    Calls Try.prog 21 #[.agg #[.slice A n c], .int .i64 k] w fun e w' => e = .returned (.tuple #[.slice none 0 0, .agg #[.slice none 0 0], .int .i64 11]) ∧ Below w.heap.size w w' := by
  obtain ⟨W, hW, hbW, hsW, hw0, hw1⟩ := two_boxes w (.slice A n c)
  have HsW := Lib.hid hsW
  have H0 := Lib.hid hw0
  have H1 := Lib.hid hw1
  clear hw0 hw1
  go_enter Try.func21, Try.ntmps21
  go_wp2_with fail
  rw [← hW]
  clear hW hsW
  go_wp2_with (refine wpList_load_row rfl 45 _ rfl _ rfl 45 _ (0,0) _ H0.out Try.underlying45 rfl (by kernel_rfl) ?_)
  refine (refread_no A n c k hk hn W).mono ?_
  rintro e w1 ⟨rfl, hb1⟩
  have z1 := (hb1.block _ (by have := HsW.out; omega)).trans H1.out
  have Z1 := Lib.hid z1
  clear z1
  go_wp2_with (refine wpList_store_row rfl 45 _ _ rfl (w.heap.size + 1) 45 _ _ rfl rfl Z1.out (by kernel_rfl) rfl (by simp [Value.oneCell']) ?_)
  refine bodyPost_ret (results_tct rfl rfl (run_ld_block (setRow_heap _ _ _ _ _ _ Z1.out) Try.underlying45 rfl (by kernel_rfl))) rfl ?_
  exact ⟨rfl, Below.setRow (Below.ext hbW hb1) (by omega) _⟩

set_option maxHeartbeats 4000000 in
theorem walopen_ok (A : Option Addr) (n c : Nat) (fs : List Fil) (S : Nat → Prop) (w : World) (hD : Dsk S w (.slice A n c) fs) (hn : n ≤ 1000) (j : Nat) (f : Fil) (hf : fs[j]? = some f) (l : List Dt) (hWh : WholeR (f.s ++ f.p) l) (hlen : ∀ f ∈ fs, flen f ≤ 30000) :
    Calls Try.prog 20 #[.agg #[.slice A n c], .int .i64 (j : Int)] w fun e w' => ∃ Al cl A' c', e = .returned (.tuple #[.slice Al l.length cl, .agg #[.slice A' n c'], .int .i64 0]) ∧ Recs encDt (w.heap.size ≤ ·) w' (.slice Al l.length cl) l ∧ Dsk (fun b => S b ∨ w.heap.size ≤ b) w' (.slice A' n c') (fs.set j ⟨frL l, []⟩) ∧ Below w.heap.size w w' := by
  have hD0 := hD.mono (S' := fun b => S b ∧ b < w.heap.size) (fun b hb hs => ⟨hs, hb⟩)
  obtain ⟨W, hW, hbW, hsW, hw0, hw1⟩ := two_boxes w (.slice A n c)
  have HsW := Lib.hid hsW
  have H0 := Lib.hid hw0
  have H1 := Lib.hid hw1
  clear hw0 hw1
  have hfl := hlen f (List.mem_of_getElem? hf)
  unfold flen at hfl
  have hjn : j < n := by have h1 := (List.getElem?_eq_some_iff.1 hf).1; have h2 := hD.len.1; omega
  have hwl := whole_len hWh
  have hwi := whole_in hWh
  rw [List.length_append] at hwl
  obtain ⟨r, hr⟩ : ∃ r, r = fs.set j ⟨frL l, []⟩ := ⟨_, rfl⟩
  have hR : OpR (fun _ => ⟨frL l, []⟩) fs n (j : Int) r n 0 := .inl ⟨j, f, rfl, hf, hr, rfl, rfl⟩
  have HR := Lib.hid hR
  have HF := Lib.hid hf
  have HWI := Lib.hid hwi
  rw [← hr]
  clear hr hR hf hwi
  obtain ⟨ps, en, hs, hlw⟩ := hWh
  have HSM := Lib.hid (body_small hs)
  have hpl : ps.length ≤ 100000 := by have := (hs.len (by omega)); rw [List.length_append] at this; omega
  obtain ⟨ll, hll⟩ : ∃ ll, ps.map (bodyL (f.s ++ f.p)) = ll := ⟨_, rfl⟩
  rw [hll] at HSM hlw
  obtain ⟨m0, hm0⟩ : ∃ m0, ll.length = m0 := ⟨_, rfl⟩
  have hn2 : m0 ≤ 100000 := by rw [← hm0, ← hll, List.length_map]; exact hpl
  have HLL := Lib.hid hll
  have HN := Lib.hid hm0
  have HLW := Lib.hid hlw
  obtain ⟨nl, hnl⟩ : ∃ nl, l.length = nl := ⟨_, rfl⟩
  have HNL := Lib.hid hnl
  rw [hnl]
  clear hll hm0 hpl hlw hnl
  go_enter Try.func20, Try.ntmps20
  go_wp2_with fail
  rw [← hW]
  clear hW hsW
  go_step3
  go_wp2_with (refine wpList_load_row rfl 45 _ rfl _ rfl 45 _ (0,0) _ H0.out Try.underlying45 rfl (by kernel_rfl) ?_)
  refine (read_ok A n c fs S W (hD.ext hbW) hn j f HF.out (by omega)).mono ?_
  rintro e w1 ⟨A1, c1, rfl, hown1, hb1⟩
  obtain ⟨nb, hnb⟩ : ∃ nb, f.s.length + f.p.length = nb := ⟨_, rfl⟩
  rw [hnb] at hown1 hfl hwl ⊢
  have HNB := Lib.hid hnb
  clear hnb
  go_wp2_with fail
  refine (scan_any (.slice A1 nb c1) (f.s ++ f.p) _ w1 hown1.by_.bytes (by rw [List.length_append]; have := HNB.out; omega) ps en hs).mono ?_
  rintro e w2 ⟨v2, rfl, hLs, hb2⟩
  rw [HLL.out] at hLs
  obtain ⟨A2, c2, rfl, hc1, hc2⟩ := hLs.sl
  rw [HN.out] at hLs hc1 ⊢
  clear hs
  have b12 := Below.ext hb1 hb2
  have B2 := Below.ext hbW b12
  have z0 := (b12.block _ (by have := HsW.out; omega)).trans H0.out
  have z1 := (b12.block _ (by have := HsW.out; omega)).trans H1.out
  have Z0 := Lib.hid z0
  have Z1 := Lib.hid z1
  have l1 : w.heap.size + 1 < w2.heap.size := (Array.getElem?_eq_some_iff.1 z1).1
  clear z0 z1
  go_wp2_with fail
  go_step3
  go_upto_block 0 with fail
  go_cut [9] from 32 (fun s9 wx => ∃ A' c', s9 = .slice A' (wholeB ll).length c' ∧ OwnR encDt 9 wx w2.heap.size 38 (.slice A' (wholeB ll).length c') (wholeB ll) ∧ Below w2.heap.size w2 wx)
  case first =>
    go_wp2_with fail
    go_loopw [9, 13, 14, 15, 16, 34, 44] (fun v _ _ _ _ i _ wr => ∃ (k : Nat) (A' : Option Addr) (c' : Nat), k ≤ m0 ∧ i = .int .i64 k ∧ v = .slice A' k c' ∧ OwnR encDt 9 wr w2.heap.size 38 (.slice A' k c') (wholeB (ll.take k)) ∧ Below w2.heap.size w2 wr) (fun _ _ _ _ _ i _ _ => m0 - (intOf i).toNat)
    case atStart => exact ⟨0, none, 0, by omega, rfl, rfl, OwnR.nil_ _ _ _, Below.refl _ _⟩
    case round =>
      obtain ⟨k, A', c', hk, rfl, rfl, hown, hbr⟩ := hrel
      by_cases hlt : k < m0
      · skip
        obtain ⟨b0, off, x, li, rfl, _, hbl, hli, hcx, hbx⟩ := (hLs.ext hbr).at_ hlt
        obtain ⟨Ax, cx, rfl⟩ := byt_slice hbx
        have hli4 := HSM.out li (List.mem_of_getElem? hli)
        have HLI := Lib.hid hli
        clear hli
        obtain ⟨m, hm⟩ : ∃ m, li.length = m := ⟨_, rfl⟩
        rw [hm] at hbx hcx hli4
        have HM := Lib.hid hm
        clear hm
        rcases det_cases li with ⟨d, hp, hd⟩ | ⟨hp, d, q, x, hd, hqx⟩
        · rw [HM.out] at hd
          have HD := Lib.hid hd
          have HP := Lib.hid hp
          clear hd hp
          go_wp2_with fail
          refine (codecDet_any Ax m cx 0 li _ wr hbx (by omega)).mono ?_
          rintro e w3 ⟨hr, hb3⟩
          obtain rfl := HD.out _ _ hr
          clear hr
          have hs3 := hb3.size
          obtain ⟨W5, hW5, bW5, sW5, rW5⟩ := newD w3 #[Value.int .i64 d.proc, Value.int .i64 d.index, Value.int .i64 d.ev.k0, Value.int .i64 d.ev.k1, Value.int .i64 d.ev.k2, Value.int .i64 d.ev.k3, Value.int .i64 d.ev.k4, Value.int .i64 d.ev.k5, Value.int .i64 d.ev.k6] 38
          have cx5 : W5.cell? ⟨b0, off + k, none⟩ = some (.slice Ax m cx) := by
            rw [cell_ext (Below.ext hb3 bW5) hbl]; exact hcx
          rw [hW5] at cx5
          have R5 := Lib.hid rW5
          have S5 := Lib.hid sW5
          clear rW5 hcx sW5
          go_upto_region 12 with (refine wpList_store_new rfl 38 _ _ rfl 38 _ #[Value.int .i64 d.proc, Value.int .i64 d.index, Value.int .i64 d.ev.k0, Value.int .i64 d.ev.k1, Value.int .i64 d.ev.k2, Value.int .i64 d.ev.k3, Value.int .i64 d.ev.k4, Value.int .i64 d.ev.k5, Value.int .i64 d.ev.k6] rfl rfl (by kernel_rfl) rfl (by simp [Value.oneCell']) ?_)
          rw [← hW5]
          clear hW5 cx5
          have b35 := Below.ext hb3 bW5
          have hown5 := hown.ext b35
          have hol := Lib.hid hown5.len.1
          have hsr := hbr.size
          have ha : Below W5.heap.size W5 (W5.alloc (.cells #[Value.int .i64 d.proc, Value.int .i64 d.index, Value.int .i64 d.ev.k0, Value.int .i64 d.ev.k1, Value.int .i64 d.ev.k2, Value.int .i64 d.ev.k3, Value.int .i64 d.ev.k4, Value.int .i64 d.ev.k5, Value.int .i64 d.ev.k6] 38)) := (Below.refl _ _).alloc (Nat.le_refl _) _
          have hone : Recs encDt (fun _ => True) (W5.alloc (.cells #[Value.int .i64 d.proc, Value.int .i64 d.index, Value.int .i64 d.ev.k0, Value.int .i64 d.ev.k1, Value.int .i64 d.ev.k2, Value.int .i64 d.ev.k3, Value.int .i64 d.ev.k4, Value.int .i64 d.ev.k5, Value.int .i64 d.ev.k6] 38)) (.slice (some ⟨W5.heap.size, 0, none⟩) 1 1) [d] := ⟨_, 1, rfl, by simp, by simp [maxLen], Cs.lit _ _ _ _ _ trivial rfl⟩
          go_wp2_with (first | refine wpList_stop 54 rfl ?_ | (refine wpList_load_row rfl 38 _ rfl _ rfl 38 _ (0,0) _ R5.out Try.underlying38 rfl (by kernel_rfl) ?_) )
          refine ⟨?_⟩
          (refine wpList_appR (o := ⟨some 54, _, _, _, _, _⟩) encDt_len encDt_one (.agg #[.int .i64 0, .int .i64 0, .int .i64 0, .int .i64 0, .int .i64 0, .int .i64 0, .int .i64 0, .int .i64 0, .int .i64 0]) 72 _ _ 27 38 w2.heap.size (wholeB (ll.take k)) [d] (some ⟨W5.heap.size, 0, none⟩) 1 1 (.slice A' k c') (k + 1) rfl rfl Try.underlying27 infoDt rfl (by omega) rfl rfl (hown5.ext ha) hone (by rw [hol.out]) (by rw [hol.out]; omega) (by rw [hol.out]; omega) (by have := S5.out; simp; omega) ?_; intro A9 c9 w9 hown9 hgr9 hat9 hc91 hc92)
          go_wp2_with fail
          go_roundw
          case rel => exact ⟨k + 1, A9, c9, by omega, by go_num, rfl, by rw [wholeB_step HLI.out hown.len.1 HP.out]; exact hown9, (hown5.ext ha).grow hgr9 (Below.ext (Below.ext hbr b35) ha) (Nat.le_refl _) (by have := S5.out; simp; omega)⟩
          case measure => simp [intOf]; omega
        · have HD := Lib.hid hd
          have HP := Lib.hid hp
          clear hd hp
          go_wp2_with fail
          refine (codecDet_any Ax m cx 0 li _ wr hbx (by omega)).mono ?_
          rintro e w3 ⟨hr, hb3⟩
          obtain rfl := HD.out _ _ hr
          clear hr
          have hs3 := hb3.size
          obtain ⟨W5, hW5, bW5, sW5, rW5⟩ := newD w3 #[Value.int .i64 d.proc, Value.int .i64 d.index, Value.int .i64 d.ev.k0, Value.int .i64 d.ev.k1, Value.int .i64 d.ev.k2, Value.int .i64 d.ev.k3, Value.int .i64 d.ev.k4, Value.int .i64 d.ev.k5, Value.int .i64 d.ev.k6] 38
          have cx5 : W5.cell? ⟨b0, off + k, none⟩ = some (.slice Ax m cx) := by
            rw [cell_ext (Below.ext hb3 bW5) hbl]; exact hcx
          rw [hW5] at cx5
          have S5 := Lib.hid sW5
          clear rW5 hcx sW5
          have b35 := Below.ext hb3 bW5
          have HWE := Lib.hid (wholeB_end HLI.out hown.len.1 HP.out)
          rcases hqx with hx | ⟨rfl, hq⟩
          · have d1 : (x != 0) = true := by simpa using hx
            have d2 : (x == 0) = false := by simpa using hx
            go_wp2_with (refine wpList_store_new rfl 38 _ _ rfl 38 _ #[Value.int .i64 d.proc, Value.int .i64 d.index, Value.int .i64 d.ev.k0, Value.int .i64 d.ev.k1, Value.int .i64 d.ev.k2, Value.int .i64 d.ev.k3, Value.int .i64 d.ev.k4, Value.int .i64 d.ev.k5, Value.int .i64 d.ev.k6] rfl rfl (by kernel_rfl) rfl (by simp [Value.oneCell']) ?_)
            rw [← hW5]
            go_meet
            case rel => exact ⟨A', c', by rw [HWE.out, hown.len.1], by rw [HWE.out, hown.len.1]; exact hown.ext b35, Below.ext hbr b35⟩
          · rw [HM.out] at hq
            have d1 : (q != (m : Int)) = true := by simpa using hq
            have d2 : (q == (m : Int)) = false := by simpa using hq
            go_wp2_with (refine wpList_store_new rfl 38 _ _ rfl 38 _ #[Value.int .i64 d.proc, Value.int .i64 d.index, Value.int .i64 d.ev.k0, Value.int .i64 d.ev.k1, Value.int .i64 d.ev.k2, Value.int .i64 d.ev.k3, Value.int .i64 d.ev.k4, Value.int .i64 d.ev.k5, Value.int .i64 d.ev.k6] rfl rfl (by kernel_rfl) rfl (by simp [Value.oneCell']) ?_)
            rw [← hW5]
            go_meet
            case rel => exact ⟨A', c', by rw [HWE.out, hown.len.1], by rw [HWE.out, hown.len.1]; exact hown.ext b35, Below.ext hbr b35⟩
      · obtain rfl : k = m0 := by omega
        rw [List.take_of_length_le (by have := HN.out; omega)] at hown
        go_wp2
        go_meet
        case rel => exact ⟨A', c', by rw [hown.len.1], by rw [hown.len.1]; exact hown, hbr⟩
  case rest =>
    obtain ⟨A3, c3, rfl, hown3, hb3⟩ := hcut
    rw [← HLW.out, HNL.out] at hown3
    rw [← HLW.out, HNL.out]
    have B3 := Below.ext B2 hb3
    have z0 := (hb3.block _ (by omega)).trans Z0.out
    have z1 := (hb3.block _ (by omega)).trans Z1.out
    have Y0 := Lib.hid z0
    have Y1 := Lib.hid z1
    have hs3 := hb3.size
    clear z0 z1
    go_wp2_with fail
    refine wp_region_late (fun w' => Below w.heap.size w w' ∧ w'.heap[w.heap.size]? = some (.cells #[.slice A n c] 45 (0, 0))) 8 (by kernel_rfl) (by kernel_rfl) (by kernel_rfl) (by decide) (⟨B3.drew, Y0.out⟩) ?_
    simp only [List.take_succ_cons, List.take_zero, List.drop_succ_cons, List.drop_zero]
    repeat (first | (refine lexL_q0 rfl ?_; go_big_quiet_step (fail); refine wpQuiet_nil ?_) | (refine lexL_skip0 rfl rfl ?_; simp only [Act.put, List.setIfInBounds_toArray, List.set_cons_succ, List.set_cons_zero]))
    refine lexL_ld (⟨w.heap.size, 0, none⟩) (.agg #[.slice A n c]) rfl rfl rfl (fun w' hS => run_ld_block hS.2 Try.underlying45 rfl (by kernel_rfl)) ?_
    simp only [Act.put, List.setIfInBounds_toArray, List.set_cons_succ, List.set_cons_zero]
    repeat (first | (refine lexL_q0 rfl ?_; go_big_quiet_step (fail); refine wpQuiet_nil ?_) | (refine lexL_skip0 rfl rfl ?_; simp only [Act.put, List.setIfInBounds_toArray, List.set_cons_succ, List.set_cons_zero]))
    refine lexL_e rfl ?_
    go_wp2_with fail
    have hin : ∀ d ∈ l, DtIn d := HWI.out
    refine (frames_any A3 nl c3 l _ wc.drew hown3.recs.drew hin (by have := HNL.out; omega)).mono ?_
    rintro e w4 ⟨A4, c4, rfl, hown4, hb4⟩
    have b34 : Below wc.heap.size wc w4 := Below.ext (Below.refl _ _).drew hb4
    obtain ⟨nf, hnf⟩ : ∃ nf, (frL l).length = nf := ⟨_, rfl⟩
    rw [hnf] at hown4 hwl ⊢
    clear hnf
    have B4 := Below.ext B3 b34
    have z0 := (b34.block _ (by omega)).trans Y0.out
    have z1 := (b34.block _ (by omega)).trans Y1.out
    have X0 := Lib.hid z0
    have X1 := Lib.hid z1
    clear z0 z1
    go_wp2_with fail
    refine lexL_go (⟨B4, X0.out⟩) ?_
    repeat (first | (refine lexL_q0 rfl ?_; go_big_quiet_step (fail); refine wpQuiet_nil ?_) | (refine lexL_skip0 rfl rfl ?_; simp only [Act.put, List.setIfInBounds_toArray, List.set_cons_succ, List.set_cons_zero]))
    refine lexL_e rfl ?_
    go_wp2_with fail
    have hD4 : Dsk (fun b => (S b ∧ b < w.heap.size) ∨ w.heap.size + 2 ≤ b) w4 (.slice A n c) fs := (hD0.ext B4).mono (fun _ _ h => .inl h)
    have hB4 : By (fun b => (S b ∧ b < w.heap.size) ∨ w.heap.size + 2 ≤ b) w4 (.slice A4 nf c4) (frL l) := (hown4.bytes.mono (S' := fun b => (S b ∧ b < w.heap.size) ∨ w.heap.size + 2 ≤ b) (fun b _ h => .inr (by have h1 : wc.heap.size ≤ b := h.1; omega))).by_
    refine (replace_go A n c fs _ w4 hD4 hn (j : Int) A4 nf c4 (frL l) hB4 (by omega) hlen r n 0 HR.out).mono ?_
    rintro e w5 ⟨A5, c5, rfl, hD5, hb5⟩
    have l4 := b34.size
    have z0 := (hb5.block _ (by omega)).trans X0.out
    have z1 := (hb5.block _ (by omega)).trans X1.out
    have V0 := Lib.hid z0
    have V1 := Lib.hid z1
    have B5 : Below w.heap.size w w5 := Below.ext B4 hb5
    clear z0 z1
    go_wp2_with fail
    refine lexL_go (⟨B5, V0.out⟩) ?_
    repeat (first | (refine lexL_q0 rfl ?_; go_big_quiet_step (fail); refine wpQuiet_nil ?_) | (refine lexL_skip0 rfl rfl ?_; simp only [Act.put, List.setIfInBounds_toArray, List.set_cons_succ, List.set_cons_zero]))
    refine lexL_nil ?_
    refine lexL_e rfl ?_
    refine wpList_store_row rfl 45 _ _ rfl w.heap.size 45 _ _ rfl rfl V0.out (by kernel_rfl) rfl (by simp [Value.oneCell']) ?_
    refine lexL_go trivial ?_
    simp only [Act.put]
    repeat (first | (refine lexL_q0 rfl ?_; go_big_quiet_step (fail); refine wpQuiet_nil ?_) | (refine lexL_skip0 rfl rfl ?_; simp only [Act.put, List.setIfInBounds_toArray, List.set_cons_succ, List.set_cons_zero]))
    refine lexL_nil ?_
    go_wp2_with fail
    have b35 := Below.ext b34 hb5
    have s5 := hb5.size
    have hown5 := hown3.ext b35
    obtain ⟨w6, hw6⟩ : ∃ w6, w6 = w5.setRow w.heap.size #[.slice A5 n c5] := ⟨_, rfl⟩
    have z0 : w6.heap[w.heap.size]? = some (.cells #[.slice A5 n c5] 45 (0, 0)) := by rw [hw6]; exact setRow_heap _ _ _ _ _ _ V0.out
    have z1 : w6.heap[w.heap.size + 1]? = some (.cells #[.slice none 0 0] 45 (0, 0)) := by rw [hw6]; exact (setRow_other _ _ _ _ (by omega)).trans V1.out
    have B6 : Below w.heap.size w w6 := by rw [hw6]; exact Below.setRow B5 (by omega) _
    have hL6 : Recs encDt (fun b => w.heap.size + 2 ≤ b) w6 (.slice A3 nl c3) l := by
      rw [hw6]
      exact (hown5.recs.mono (S' := fun b => w.heap.size + 2 ≤ b) (fun b _ h => by have := h.1; omega)).keep (fun b hb hs => setRow_other w5 w.heap.size b #[.slice A5 n c5] (by omega))
    have hD6 : Dsk (fun b => (S b ∧ b < w.heap.size) ∨ w.heap.size + 2 ≤ b) w6 (.slice A5 n c5) r := by
      rw [hw6]
      exact (hD5.mono (S' := fun b => (S b ∧ b < w.heap.size) ∨ w.heap.size + 2 ≤ b) (fun b _ h => by
        rcases h with h | h
        · exact h
        · exact .inr (by omega))).keep (fun b hb hs => setRow_other w5 w.heap.size b #[.slice A5 n c5] (by omega))
    have U0 := Lib.hid z0
    have U1 := Lib.hid z1
    rw [← hw6]
    clear hw6 z0 z1 hD5 hown5
    go_wp2_with fail
    refine wp_region_lexL (fun w' => w'.heap[w.heap.size]? = some (.cells #[.slice A5 n c5] 45 (0, 0))) (by kernel_rfl) (by kernel_rfl) U0.out ?_
    repeat (first | (refine lexL_q0 rfl ?_; go_big_quiet_step (fail); refine wpQuiet_nil ?_) | (refine lexL_skip0 rfl rfl ?_; simp only [Act.put, List.setIfInBounds_toArray, List.set_cons_succ, List.set_cons_zero]))
    refine lexL_ld (⟨w.heap.size, 0, none⟩) (.agg #[.slice A5 n c5]) rfl rfl rfl (fun w' hS => run_ld_block hS Try.underlying45 rfl (by kernel_rfl)) ?_
    simp only [Act.put, List.setIfInBounds_toArray, List.set_cons_succ, List.set_cons_zero]
    repeat (first | (refine lexL_q0 rfl ?_; go_big_quiet_step (fail); refine wpQuiet_nil ?_) | (refine lexL_skip0 rfl rfl ?_; simp only [Act.put, List.setIfInBounds_toArray, List.set_cons_succ, List.set_cons_zero]))
    refine lexL_e rfl ?_
    refine wpList_store_row rfl 45 _ _ rfl (w.heap.size + 1) 45 _ _ rfl rfl (show w6.drew.heap[w.heap.size + 1]? = _ from U1.out) (by kernel_rfl) rfl (by simp [Value.oneCell']) ?_
    refine lexL_go ((setRow_other _ _ _ _ (by omega)).trans U0.out) ?_
    simp only [Act.put]
    repeat (first | (refine lexL_q0 rfl ?_; go_big_quiet_step (fail); refine wpQuiet_nil ?_) | (refine lexL_skip0 rfl rfl ?_; simp only [Act.put, List.setIfInBounds_toArray, List.set_cons_succ, List.set_cons_zero]))
    refine lexL_nil ?_
    go_wp2_with fail
    go_wp2
    rw [Exit.noGoto_ret]
    refine bodyPost_ret (results_tct rfl rfl (run_ld_block (setRow_heap _ _ _ _ _ _ (show w6.drew.heap[w.heap.size + 1]? = _ from U1.out)) Try.underlying45 rfl (by kernel_rfl))) rfl ?_
    refine ⟨A3, c3, A5, c5, rfl, ?_, ?_, Below.setRow B6.drew (by omega) _⟩
    · exact (hL6.drew.keep (fun b hb hs => setRow_other w6.drew (w.heap.size + 1) b #[.slice A5 n c5] (by omega))).mono (fun b _ h => by omega)
    · exact ((hD6.ext (Below.refl _ _).drew).keep (fun b hb hs => setRow_other w6.drew (w.heap.size + 1) b #[.slice A5 n c5] (by omega))).mono (fun b _ h => by
        rcases h with h | h
        · exact .inl h.1
        · exact .inr (by omega))

set_option maxHeartbeats 4000000 in
theorem refopen_ok (A : Option Addr) (n c : Nat) (fs : List Fil) (S : Nat → Prop) (w : World) (hD : Dsk S w (.slice A n c) fs) (hn : n ≤ 1000) (j : Nat) (f : Fil) (hf : fs[j]? = some f) (l : List Dt) (hWh : WholeR (f.s ++ f.p) l) (hlen : ∀ f ∈ fs, flen f ≤ 30000) :
    Calls Try.prog 21 #[.agg #[.slice A n c], .int .i64 (j : Int)] w fun e w' => ∃ Al cl A' c', e = .returned (.tuple #[.slice Al l.length cl, .agg #[.slice A' n c'], .int .i64 0]) ∧ Recs encDt (w.heap.size ≤ ·) w' (.slice Al l.length cl) l ∧ Dsk (fun b => S b ∨ w.heap.size ≤ b) w' (.slice A' n c') (fs.set j ⟨frL l, []⟩) ∧ Below w.heap.size w w' := by
  have hD0 := hD.mono (S' := fun b => S b ∧ b < w.heap.size) (fun b hb hs => ⟨hs, hb⟩)
  obtain ⟨W, hW, hbW, hsW, hw0, hw1⟩ := two_boxes w (.slice A n c)
  have HsW := Lib.hid hsW
  have H0 := Lib.hid hw0
  have H1 := Lib.hid hw1
  clear hw0 hw1
  have hfl := hlen f (List.mem_of_getElem? hf)
  unfold flen at hfl
  have hjn : j < n := by have h1 := (List.getElem?_eq_some_iff.1 hf).1; have h2 := hD.len.1; omega
  have hwl := whole_len hWh
  have hwi := whole_in hWh
  rw [List.length_append] at hwl
  obtain ⟨r, hr⟩ : ∃ r, r = fs.set j ⟨frL l, []⟩ := ⟨_, rfl⟩
  have hR : OpR (fun _ => ⟨frL l, []⟩) fs n (j : Int) r n 0 := .inl ⟨j, f, rfl, hf, hr, rfl, rfl⟩
  have HR := Lib.hid hR
  have HF := Lib.hid hf
  have HWI := Lib.hid hwi
  rw [← hr]
  clear hr hR hf hwi
  obtain ⟨nl, hnl⟩ : ∃ nl, l.length = nl := ⟨_, rfl⟩
  have HNL := Lib.hid hnl
  rw [hnl]
  clear hnl
  go_enter Try.func21, Try.ntmps21
  go_wp2_with fail
  rw [← hW]
  clear hW hsW
  go_wp2_with (refine wpList_load_row rfl 45 _ rfl _ rfl 45 _ (0,0) _ H0.out Try.underlying45 rfl (by kernel_rfl) ?_)
  refine (refread_ok A n c fs S W (hD.ext hbW) hn j f HF.out (by omega)).mono ?_
  rintro e w1 ⟨A1, c1, rfl, hown1, hb1⟩
  obtain ⟨nb, hnb⟩ : ∃ nb, f.s.length + f.p.length = nb := ⟨_, rfl⟩
  rw [hnb] at hown1 hfl hwl ⊢
  have HNB := Lib.hid hnb
  clear hnb
  go_wp2_with fail
  refine (refwhole_any (.slice A1 nb c1) (f.s ++ f.p) _ w1 hown1.by_.bytes (by rw [List.length_append]; have := HNB.out; omega) l hWh).mono ?_
  rintro e w2 ⟨A3, c3, rfl, hown3, hb2⟩
  rw [HNL.out] at hown3 ⊢
  have b12 := Below.ext hb1 hb2
  have B2 := Below.ext hbW b12
  have z0 := (b12.block _ (by have := HsW.out; omega)).trans H0.out
  have z1 := (b12.block _ (by have := HsW.out; omega)).trans H1.out
  have Z0 := Lib.hid z0
  have Z1 := Lib.hid z1
  have l1 : w.heap.size + 1 < w2.heap.size := (Array.getElem?_eq_some_iff.1 z1).1
  clear z0 z1
  have hD2 : Dsk (fun b => (S b ∧ b < w.heap.size) ∨ w.heap.size + 2 ≤ b) w2 (.slice A n c) fs := (hD0.ext B2).mono (fun _ _ h => .inl h)
  go_wp2_with (refine wpList_load_row rfl 45 _ rfl _ rfl 45 _ (0,0) _ Z0.out Try.underlying45 rfl (by kernel_rfl) ?_)
  refine (refwalrewrite_go A n c fs _ w2 hD2 hn (j : Int) A3 nl c3 l _ hown3.recs HWI.out (by omega) hlen r n 0 HR.out).mono ?_
  rintro e w5 ⟨A5, c5, rfl, hD5, hb5⟩
  have s1 := hb1.size
  have s2 := hb2.size
  have s5 := hb5.size
  obtain ⟨W6, hW6, bW6, sW6, rW6⟩ := newD w5 #[.slice A5 n c5] 45
  have S6 := Lib.hid sW6
  have b56 := Below.ext hb5 bW6
  have z1 := (b56.block _ (by omega)).trans Z1.out
  have U0 := Lib.hid rW6
  have U1 := Lib.hid z1
  have B6 := Below.ext B2 b56
  have hD6 := hD5.ext bW6
  have hL6 := hown3.recs.ext b56
  clear z1 rW6 sW6
  go_wp2_with (refine wpList_store_new rfl 45 _ _ rfl 45 _ #[.slice A5 n c5] rfl rfl (by kernel_rfl) rfl (by simp [Value.oneCell']) ?_)
  rw [← hW6]
  clear hW6
  refine wp_region_lexL (fun w' => w'.heap[w5.heap.size]? = some (.cells #[.slice A5 n c5] 45 (0, 0))) (by kernel_rfl) (by kernel_rfl) U0.out ?_
  repeat (first | (refine lexL_q0 rfl ?_; go_big_quiet_step (fail); refine wpQuiet_nil ?_) | (refine lexL_skip0 rfl rfl ?_; simp only [Act.put, List.setIfInBounds_toArray, List.set_cons_succ, List.set_cons_zero]))
  refine lexL_ld (⟨w5.heap.size, 0, none⟩) (.agg #[.slice A5 n c5]) rfl rfl rfl (fun w' hS => run_ld_block hS Try.underlying45 rfl (by kernel_rfl)) ?_
  simp only [Act.put, List.setIfInBounds_toArray, List.set_cons_succ, List.set_cons_zero]
  repeat (first | (refine lexL_q0 rfl ?_; go_big_quiet_step (fail); refine wpQuiet_nil ?_) | (refine lexL_skip0 rfl rfl ?_; simp only [Act.put, List.setIfInBounds_toArray, List.set_cons_succ, List.set_cons_zero]))
  refine lexL_e rfl ?_
  refine wpList_store_row rfl 45 _ _ rfl (w.heap.size + 1) 45 _ _ rfl rfl (show W6.drew.heap[w.heap.size + 1]? = _ from U1.out) (by kernel_rfl) rfl (by simp [Value.oneCell']) ?_
  refine lexL_go ((setRow_other _ _ _ _ (by omega)).trans U0.out) ?_
  simp only [Act.put]
  repeat (first | (refine lexL_q0 rfl ?_; go_big_quiet_step (fail); refine wpQuiet_nil ?_) | (refine lexL_skip0 rfl rfl ?_; simp only [Act.put, List.setIfInBounds_toArray, List.set_cons_succ, List.set_cons_zero]))
  refine lexL_nil ?_
  go_wp2_with fail
  go_wp2
  refine bodyPost_ret (results_tct rfl rfl (run_ld_block (setRow_heap _ _ _ _ _ _ (show W6.drew.heap[w.heap.size + 1]? = _ from U1.out)) Try.underlying45 rfl (by kernel_rfl))) rfl ?_
  refine ⟨A3, c3, A5, c5, rfl, ?_, ?_, Below.setRow B6.drew (by omega) _⟩
  · exact ((hL6.mono (S' := fun b => w.heap.size + 2 ≤ b) (fun b _ h => by have := h.1; have := HsW.out; omega)).drew.keep (fun b hb hs => setRow_other W6.drew (w.heap.size + 1) b #[.slice A5 n c5] (by omega))).mono (fun b _ h => by omega)
  · exact (((hD6.mono (S' := fun b => (S b ∧ b < w.heap.size) ∨ w.heap.size + 2 ≤ b) (fun b _ h => by
      rcases h with h | h
      · exact h
      · exact .inr (by omega))).ext (Below.refl _ _).drew).keep (fun b hb hs => setRow_other W6.drew (w.heap.size + 1) b #[.slice A5 n c5] (by omega))).mono (fun b _ h => by
        rcases h with h | h
        · exact .inl h.1
        · exact .inr (by omega))

theorem walopen_go (A : Option Addr) (n c : Nat) (fs : List Fil) (S : Nat → Prop) (w : World) (hD : Dsk S w (.slice A n c) fs) (hn : n ≤ 1000) (k : Int) (hlen : ∀ f ∈ fs, flen f ≤ 30000) (l : List Dt) (r : List Fil) (rn : Nat) (er : Int) (hR : OpenR fs n k l r rn er) :
    Calls Try.prog 20 #[.agg #[.slice A n c], .int .i64 k] w fun e w' => ∃ Al cl A' c', e = .returned (.tuple #[.slice Al l.length cl, .agg #[.slice A' rn c'], .int .i64 er]) ∧ Recs encDt (w.heap.size ≤ ·) w' (.slice Al l.length cl) l ∧ Dsk (fun b => S b ∨ w.heap.size ≤ b) w' (.slice A' rn c') r ∧ Below w.heap.size w w' := by
  rcases hR with ⟨j, f, rfl, hf, hWh, rfl, rfl, rfl⟩ | ⟨hk, rfl, rfl, rfl, rfl⟩
  · exact walopen_ok A _ c fs S w hD hn j f hf l hWh hlen
  · refine (walopen_no A n c k hk hn w).mono ?_
    rintro e w' ⟨rfl, hb⟩
    exact ⟨none, 0, none, 0, rfl, Recs.nil_ _ _, Dsk.nil_ _ _, hb⟩
theorem refopen_go (A : Option Addr) (n c : Nat) (fs : List Fil) (S : Nat → Prop) (w : World) (hD : Dsk S w (.slice A n c) fs) (hn : n ≤ 1000) (k : Int) (hlen : ∀ f ∈ fs, flen f ≤ 30000) (l : List Dt) (r : List Fil) (rn : Nat) (er : Int) (hR : OpenR fs n k l r rn er) :
    Calls Try.prog 21 #[.agg #[.slice A n c], .int .i64 k] w fun e w' => ∃ Al cl A' c', e = .returned (.tuple #[.slice Al l.length cl, .agg #[.slice A' rn c'], .int .i64 er]) ∧ Recs encDt (w.heap.size ≤ ·) w' (.slice Al l.length cl) l ∧ Dsk (fun b => S b ∨ w.heap.size ≤ b) w' (.slice A' rn c') r ∧ Below w.heap.size w w' := by
  rcases hR with ⟨j, f, rfl, hf, hWh, rfl, rfl, rfl⟩ | ⟨hk, rfl, rfl, rfl, rfl⟩
  · exact refopen_ok A _ c fs S w hD hn j f hf l hWh hlen
  · refine (refopen_no A n c k hk hn w).mono ?_
    rintro e w' ⟨rfl, hb⟩
    exact ⟨none, 0, none, 0, rfl, Recs.nil_ _ _, Dsk.nil_ _ _, hb⟩
end Go.Proofs.Ytjcfnpmgklliiaa
