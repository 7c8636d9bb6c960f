import Derived.Test.YtiblijmngokcgaaDoorCodecBS
namespace Go.Proofs.YtiblijmngokcgaaDoor
open Go.RowKit
set_option maxRecDepth 100000
set_option linter.unusedVariables false
set_option maxHeartbeats 2000000 in
theorem rout_any (B r p : Nat) (L : List UInt8) (w : World) (h : Rdr B w r L p) :
    Calls Tryd.prog 53 #[.pointer (some ⟨r, 0, none⟩)] w fun e w' => Reads B r L w (rdOu L p) (fun a _ v => v = ouV a) e w' := by
  obtain ⟨W0, hW, hI0⟩ := RB.new (T := 77) (c2 := #[Value.int .i64 0, Value.int .i64 0]) (c3 := #[Value.int .i64 0, Value.int .i64 0]) h
  go_enter Tryd.func53, Tryd.ntmps53
  go_wp2_with fail
  rw [← hW]
  clear hW
  refine (rint_any B r p L W0 hI0.rd).mono ?_
  intro e w1 h1
  unfold Reads at h1
  cases hx1 : rdInt L p with
  | error k =>
    rw [hx1] at h1
    obtain ⟨rfl, hg⟩ := h1
    have hgr := grown_tr hI0.gr hg
    have hfin : rdOu L p = .error k := by unfold rdOu; rw [bnd_er hx1]
    clear hI0
    go_wp2
    refine ⟨rfl, ?_⟩
    unfold Reads
    rw [hfin]
    exact ⟨rfl, hgr⟩
  | ok vq =>
    obtain ⟨v1, q1⟩ := vq
    rw [hx1] at h1
    obtain ⟨⟨_, rfl, rfl⟩, hR, hg⟩ := h1
    have hJ := hI0.call hR hg
    have hc := hJ.cell 0 (v := .int .i64 0) rfl
    have hf := hJ.frz 0
    have hI1 : RB B r L 77 #[Value.int .i64 0, Value.int .i64 0] w (w1.setCell ⟨w.heap.size + 1, 0, none⟩ (.int .i64 v1)) q1 #[Value.int .i64 v1, Value.int .i64 0] := hJ.set 0 (.int .i64 v1)
    clear hJ hI0 hg hR
    go_wp2_with fail
    clear hc hf
    generalize w1.setCell ⟨w.heap.size + 1, 0, none⟩ (.int .i64 v1) = W1 at *
    refine (rint_any B r q1 L W1 hI1.rd).mono ?_
    intro e w2 h2
    unfold Reads at h2
    cases hx2 : rdInt L q1 with
    | error k =>
      rw [hx2] at h2
      obtain ⟨rfl, hg⟩ := h2
      have hgr := grown_tr hI1.gr hg
      have hfin : rdOu L p = .error k := by unfold rdOu; rw [bnd_ok hx1, bnd_er hx2]
      clear hI1
      go_wp2
      refine ⟨rfl, ?_⟩
      unfold Reads
      rw [hfin]
      exact ⟨rfl, hgr⟩
    | ok vq =>
      obtain ⟨v2, q2⟩ := vq
      rw [hx2] at h2
      obtain ⟨⟨_, rfl, rfl⟩, hR, hg⟩ := h2
      have hJ := hI1.call hR hg
      have hc := hJ.cell 1 (v := .int .i64 0) rfl
      have hf := hJ.frz 1
      have hI2 : RB B r L 77 #[Value.int .i64 0, Value.int .i64 0] w (w2.setCell ⟨w.heap.size + 1, 1, none⟩ (.int .i64 v2)) q2 #[Value.int .i64 v1, Value.int .i64 v2] := hJ.set 1 (.int .i64 v2)
      clear hJ hI1 hg hR
      have hfin : rdOu L p = .ok (⟨v1, v2⟩, q2) := by unfold rdOu; rw [bnd_ok hx1, bnd_ok hx2]
      have k0 : (w2.setCell ⟨w.heap.size + 1, 1, none⟩ (.int .i64 v2)).cell? ⟨w.heap.size + 1, 0, none⟩ = some (.int .i64 v1) := hI2.cell 0 rfl
      have k1 : (w2.setCell ⟨w.heap.size + 1, 1, none⟩ (.int .i64 v2)).cell? ⟨w.heap.size + 1, 1, none⟩ = some (.int .i64 v2) := hI2.cell 1 rfl
      have H2 := Lib.hid hI2.b2
      have HI := Lib.hid hI2
      clear hI2
      go_wp2_with (first | (refine wpList_store_row rfl 77 _ _ rfl w.heap.size 77 _ _ rfl rfl H2.out (by kernel_rfl) rfl (by simp [Value.oneCell']) ?_))
      refine bodyPost_ret (results_c rfl rfl (run_ld_block (setRow_heap _ _ _ _ _ _ H2.out) Tryd.underlying77 rfl (by kernel_rfl))) rfl ?_
      unfold Reads
      rw [hfin]
      exact ⟨⟨_, rfl, rfl⟩, HI.out.end_ _⟩
set_option maxHeartbeats 2000000 in
theorem rsend_any (B r p : Nat) (L : List UInt8) (w : World) (h : Rdr B w r L p) :
    Calls Tryd.prog 51 #[.pointer (some ⟨r, 0, none⟩)] w fun e w' => Reads B r L w (rdSn L p) (fun a _ v => v = snV a) e w' := by
  obtain ⟨W0, hW, hI0⟩ := RB.new (T := 75) (c2 := #[Value.int .i64 0, Value.int .i64 0, Value.int .i64 0, Value.int .i64 0]) (c3 := #[Value.int .i64 0, Value.int .i64 0, Value.int .i64 0, Value.int .i64 0]) h
  go_enter Tryd.func51, Tryd.ntmps51
  go_wp2_with fail
  rw [← hW]
  clear hW
  refine (rint_any B r p L W0 hI0.rd).mono ?_
  intro e w1 h1
  unfold Reads at h1
  cases hx1 : rdInt L p with
  | error k =>
    rw [hx1] at h1
    obtain ⟨rfl, hg⟩ := h1
    have hgr := grown_tr hI0.gr hg
    have hfin : rdSn L p = .error k := by unfold rdSn; rw [bnd_er hx1]
    clear hI0
    go_wp2
    refine ⟨rfl, ?_⟩
    unfold Reads
    rw [hfin]
    exact ⟨rfl, hgr⟩
  | ok vq =>
    obtain ⟨v1, q1⟩ := vq
    rw [hx1] at h1
    obtain ⟨⟨_, rfl, rfl⟩, hR, hg⟩ := h1
    have hJ := hI0.call hR hg
    have hc := hJ.cell 0 (v := .int .i64 0) rfl
    have hf := hJ.frz 0
    have hI1 : RB B r L 75 #[Value.int .i64 0, Value.int .i64 0, Value.int .i64 0, Value.int .i64 0] w (w1.setCell ⟨w.heap.size + 1, 0, none⟩ (.int .i64 v1)) q1 #[Value.int .i64 v1, Value.int .i64 0, Value.int .i64 0, Value.int .i64 0] := hJ.set 0 (.int .i64 v1)
    clear hJ hI0 hg hR
    go_wp2_with fail
    clear hc hf
    generalize w1.setCell ⟨w.heap.size + 1, 0, none⟩ (.int .i64 v1) = W1 at *
    refine (rint_any B r q1 L W1 hI1.rd).mono ?_
    intro e w2 h2
    unfold Reads at h2
    cases hx2 : rdInt L q1 with
    | error k =>
      rw [hx2] at h2
      obtain ⟨rfl, hg⟩ := h2
      have hgr := grown_tr hI1.gr hg
      have hfin : rdSn L p = .error k := by unfold rdSn; rw [bnd_ok hx1, bnd_er hx2]
      clear hI1
      go_wp2
      refine ⟨rfl, ?_⟩
      unfold Reads
      rw [hfin]
      exact ⟨rfl, hgr⟩
    | ok vq =>
      obtain ⟨v2, q2⟩ := vq
      rw [hx2] at h2
      obtain ⟨⟨_, rfl, rfl⟩, hR, hg⟩ := h2
      have hJ := hI1.call hR hg
      have hc := hJ.cell 1 (v := .int .i64 0) rfl
      have hf := hJ.frz 1
      have hI2 : RB B r L 75 #[Value.int .i64 0, Value.int .i64 0, Value.int .i64 0, Value.int .i64 0] w (w2.setCell ⟨w.heap.size + 1, 1, none⟩ (.int .i64 v2)) q2 #[Value.int .i64 v1, Value.int .i64 v2, Value.int .i64 0, Value.int .i64 0] := hJ.set 1 (.int .i64 v2)
      clear hJ hI1 hg hR
      go_wp2_with fail
      clear hc hf
      generalize w2.setCell ⟨w.heap.size + 1, 1, none⟩ (.int .i64 v2) = W2 at *
      refine (rint_any B r q2 L W2 hI2.rd).mono ?_
      intro e w3 h3
      unfold Reads at h3
      cases hx3 : rdInt L q2 with
      | error k =>
        rw [hx3] at h3
        obtain ⟨rfl, hg⟩ := h3
        have hgr := grown_tr hI2.gr hg
        have hfin : rdSn L p = .error k := by unfold rdSn; rw [bnd_ok hx1, bnd_ok hx2, bnd_er hx3]
        clear hI2
        go_wp2
        refine ⟨rfl, ?_⟩
        unfold Reads
        rw [hfin]
        exact ⟨rfl, hgr⟩
      | ok vq =>
        obtain ⟨v3, q3⟩ := vq
        rw [hx3] at h3
        obtain ⟨⟨_, rfl, rfl⟩, hR, hg⟩ := h3
        have hJ := hI2.call hR hg
        have hc := hJ.cell 2 (v := .int .i64 0) rfl
        have hf := hJ.frz 2
        have hI3 : RB B r L 75 #[Value.int .i64 0, Value.int .i64 0, Value.int .i64 0, Value.int .i64 0] w (w3.setCell ⟨w.heap.size + 1, 2, none⟩ (.int .i64 v3)) q3 #[Value.int .i64 v1, Value.int .i64 v2, Value.int .i64 v3, Value.int .i64 0] := hJ.set 2 (.int .i64 v3)
        clear hJ hI2 hg hR
        go_wp2_with fail
        clear hc hf
        generalize w3.setCell ⟨w.heap.size + 1, 2, none⟩ (.int .i64 v3) = W3 at *
        refine (rint_any B r q3 L W3 hI3.rd).mono ?_
        intro e w4 h4
        unfold Reads at h4
        cases hx4 : rdInt L q3 with
        | error k =>
          rw [hx4] at h4
          obtain ⟨rfl, hg⟩ := h4
          have hgr := grown_tr hI3.gr hg
          have hfin : rdSn L p = .error k := by unfold rdSn; rw [bnd_ok hx1, bnd_ok hx2, bnd_ok hx3, bnd_er hx4]
          clear hI3
          go_wp2
          refine ⟨rfl, ?_⟩
          unfold Reads
          rw [hfin]
          exact ⟨rfl, hgr⟩
        | ok vq =>
          obtain ⟨v4, q4⟩ := vq
          rw [hx4] at h4
          obtain ⟨⟨_, rfl, rfl⟩, hR, hg⟩ := h4
          have hJ := hI3.call hR hg
          have hc := hJ.cell 3 (v := .int .i64 0) rfl
          have hf := hJ.frz 3
          have hI4 : RB B r L 75 #[Value.int .i64 0, Value.int .i64 0, Value.int .i64 0, Value.int .i64 0] w (w4.setCell ⟨w.heap.size + 1, 3, none⟩ (.int .i64 v4)) q4 #[Value.int .i64 v1, Value.int .i64 v2, Value.int .i64 v3, Value.int .i64 v4] := hJ.set 3 (.int .i64 v4)
          clear hJ hI3 hg hR
          have hfin : rdSn L p = .ok (⟨v1, v2, v3, v4⟩, q4) := by unfold rdSn; rw [bnd_ok hx1, bnd_ok hx2, bnd_ok hx3, bnd_ok hx4]
          have k0 : (w4.setCell ⟨w.heap.size + 1, 3, none⟩ (.int .i64 v4)).cell? ⟨w.heap.size + 1, 0, none⟩ = some (.int .i64 v1) := hI4.cell 0 rfl
          have k1 : (w4.setCell ⟨w.heap.size + 1, 3, none⟩ (.int .i64 v4)).cell? ⟨w.heap.size + 1, 1, none⟩ = some (.int .i64 v2) := hI4.cell 1 rfl
          have k2 : (w4.setCell ⟨w.heap.size + 1, 3, none⟩ (.int .i64 v4)).cell? ⟨w.heap.size + 1, 2, none⟩ = some (.int .i64 v3) := hI4.cell 2 rfl
          have k3 : (w4.setCell ⟨w.heap.size + 1, 3, none⟩ (.int .i64 v4)).cell? ⟨w.heap.size + 1, 3, none⟩ = some (.int .i64 v4) := hI4.cell 3 rfl
          have H2 := Lib.hid hI4.b2
          have HI := Lib.hid hI4
          clear hI4
          go_wp2_with (first | (refine wpList_store_row rfl 75 _ _ rfl w.heap.size 75 _ _ rfl rfl H2.out (by kernel_rfl) rfl (by simp [Value.oneCell']) ?_))
          refine bodyPost_ret (results_c rfl rfl (run_ld_block (setRow_heap _ _ _ _ _ _ H2.out) Tryd.underlying75 rfl (by kernel_rfl))) rfl ?_
          unfold Reads
          rw [hfin]
          exact ⟨⟨_, rfl, rfl⟩, HI.out.end_ _⟩
set_option maxHeartbeats 2000000 in
theorem revent_any (B r p : Nat) (L : List UInt8) (w : World) (h : Rdr B w r L p) :
    Calls Tryd.prog 49 #[.pointer (some ⟨r, 0, none⟩)] w fun e w' => Reads B r L w (rdEv L p) (fun a _ v => v = evV a) e w' := by
  obtain ⟨W0, hW, hI0⟩ := RB.new (T := 42) (c2 := #[Value.int .i64 0, Value.int .i64 0, Value.int .i64 0, Value.int .i64 0, Value.int .i64 0, Value.int .i64 0, Value.int .i64 0]) (c3 := #[Value.int .i64 0, Value.int .i64 0, Value.int .i64 0, Value.int .i64 0, Value.int .i64 0, Value.int .i64 0, Value.int .i64 0]) h
  go_enter Tryd.func49, Tryd.ntmps49
  go_wp2_with fail
  rw [← hW]
  clear hW
  refine (rint_any B r p L W0 hI0.rd).mono ?_
  intro e w1 h1
  unfold Reads at h1
  cases hx1 : rdInt L p with
  | error k =>
    rw [hx1] at h1
    obtain ⟨rfl, hg⟩ := h1
    have hgr := grown_tr hI0.gr hg
    have hfin : rdEv L p = .error k := by unfold rdEv; rw [bnd_er hx1]
    clear hI0
    go_wp2
    refine ⟨rfl, ?_⟩
    unfold Reads
    rw [hfin]
    exact ⟨rfl, hgr⟩
  | ok vq =>
    obtain ⟨v1, q1⟩ := vq
    rw [hx1] at h1
    obtain ⟨⟨_, rfl, rfl⟩, hR, hg⟩ := h1
    have hJ := hI0.call hR hg
    have hc := hJ.cell 0 (v := .int .i64 0) rfl
    have hf := hJ.frz 0
    have hI1 : RB B r L 42 #[Value.int .i64 0, Value.int .i64 0, Value.int .i64 0, Value.int .i64 0, Value.int .i64 0, Value.int .i64 0, Value.int .i64 0] w (w1.setCell ⟨w.heap.size + 1, 0, none⟩ (.int .i64 v1)) q1 #[Value.int .i64 v1, Value.int .i64 0, Value.int .i64 0, Value.int .i64 0, Value.int .i64 0, Value.int .i64 0, Value.int .i64 0] := hJ.set 0 (.int .i64 v1)
    clear hJ hI0 hg hR
    go_wp2_with fail
    clear hc hf
    generalize w1.setCell ⟨w.heap.size + 1, 0, none⟩ (.int .i64 v1) = W1 at *
    refine (rint_any B r q1 L W1 hI1.rd).mono ?_
    intro e w2 h2
    unfold Reads at h2
    cases hx2 : rdInt L q1 with
    | error k =>
      rw [hx2] at h2
      obtain ⟨rfl, hg⟩ := h2
      have hgr := grown_tr hI1.gr hg
      have hfin : rdEv L p = .error k := by unfold rdEv; rw [bnd_ok hx1, bnd_er hx2]
      clear hI1
      go_wp2
      refine ⟨rfl, ?_⟩
      unfold Reads
      rw [hfin]
      exact ⟨rfl, hgr⟩
    | ok vq =>
      obtain ⟨v2, q2⟩ := vq
      rw [hx2] at h2
      obtain ⟨⟨_, rfl, rfl⟩, hR, hg⟩ := h2
      have hJ := hI1.call hR hg
      have hc := hJ.cell 1 (v := .int .i64 0) rfl
      have hf := hJ.frz 1
      have hI2 : RB B r L 42 #[Value.int .i64 0, Value.int .i64 0, Value.int .i64 0, Value.int .i64 0, Value.int .i64 0, Value.int .i64 0, Value.int .i64 0] w (w2.setCell ⟨w.heap.size + 1, 1, none⟩ (.int .i64 v2)) q2 #[Value.int .i64 v1, Value.int .i64 v2, Value.int .i64 0, Value.int .i64 0, Value.int .i64 0, Value.int .i64 0, Value.int .i64 0] := hJ.set 1 (.int .i64 v2)
      clear hJ hI1 hg hR
      go_wp2_with fail
      clear hc hf
      generalize w2.setCell ⟨w.heap.size + 1, 1, none⟩ (.int .i64 v2) = W2 at *
      refine (rint_any B r q2 L W2 hI2.rd).mono ?_
      intro e w3 h3
      unfold Reads at h3
      cases hx3 : rdInt L q2 with
      | error k =>
        rw [hx3] at h3
        obtain ⟨rfl, hg⟩ := h3
        have hgr := grown_tr hI2.gr hg
        have hfin : rdEv L p = .error k := by unfold rdEv; rw [bnd_ok hx1, bnd_ok hx2, bnd_er hx3]
        clear hI2
        go_wp2
        refine ⟨rfl, ?_⟩
        unfold Reads
        rw [hfin]
        exact ⟨rfl, hgr⟩
      | ok vq =>
        obtain ⟨v3, q3⟩ := vq
        rw [hx3] at h3
        obtain ⟨⟨_, rfl, rfl⟩, hR, hg⟩ := h3
        have hJ := hI2.call hR hg
        have hc := hJ.cell 2 (v := .int .i64 0) rfl
        have hf := hJ.frz 2
        have hI3 : RB B r L 42 #[Value.int .i64 0, Value.int .i64 0, Value.int .i64 0, Value.int .i64 0, Value.int .i64 0, Value.int .i64 0, Value.int .i64 0] w (w3.setCell ⟨w.heap.size + 1, 2, none⟩ (.int .i64 v3)) q3 #[Value.int .i64 v1, Value.int .i64 v2, Value.int .i64 v3, Value.int .i64 0, Value.int .i64 0, Value.int .i64 0, Value.int .i64 0] := hJ.set 2 (.int .i64 v3)
        clear hJ hI2 hg hR
        go_wp2_with fail
        clear hc hf
        generalize w3.setCell ⟨w.heap.size + 1, 2, none⟩ (.int .i64 v3) = W3 at *
        refine (rint_any B r q3 L W3 hI3.rd).mono ?_
        intro e w4 h4
        unfold Reads at h4
        cases hx4 : rdInt L q3 with
        | error k =>
          rw [hx4] at h4
          obtain ⟨rfl, hg⟩ := h4
          have hgr := grown_tr hI3.gr hg
          have hfin : rdEv L p = .error k := by unfold rdEv; rw [bnd_ok hx1, bnd_ok hx2, bnd_ok hx3, bnd_er hx4]
          clear hI3
          go_wp2
          refine ⟨rfl, ?_⟩
          unfold Reads
          rw [hfin]
          exact ⟨rfl, hgr⟩
        | ok vq =>
          obtain ⟨v4, q4⟩ := vq
          rw [hx4] at h4
          obtain ⟨⟨_, rfl, rfl⟩, hR, hg⟩ := h4
          have hJ := hI3.call hR hg
          have hc := hJ.cell 3 (v := .int .i64 0) rfl
          have hf := hJ.frz 3
          have hI4 : RB B r L 42 #[Value.int .i64 0, Value.int .i64 0, Value.int .i64 0, Value.int .i64 0, Value.int .i64 0, Value.int .i64 0, Value.int .i64 0] w (w4.setCell ⟨w.heap.size + 1, 3, none⟩ (.int .i64 v4)) q4 #[Value.int .i64 v1, Value.int .i64 v2, Value.int .i64 v3, Value.int .i64 v4, Value.int .i64 0, Value.int .i64 0, Value.int .i64 0] := hJ.set 3 (.int .i64 v4)
          clear hJ hI3 hg hR
          go_wp2_with fail
          clear hc hf
          generalize w4.setCell ⟨w.heap.size + 1, 3, none⟩ (.int .i64 v4) = W4 at *
          refine (rint_any B r q4 L W4 hI4.rd).mono ?_
          intro e w5 h5
          unfold Reads at h5
          cases hx5 : rdInt L q4 with
          | error k =>
            rw [hx5] at h5
            obtain ⟨rfl, hg⟩ := h5
            have hgr := grown_tr hI4.gr hg
            have hfin : rdEv L p = .error k := by unfold rdEv; rw [bnd_ok hx1, bnd_ok hx2, bnd_ok hx3, bnd_ok hx4, bnd_er hx5]
            clear hI4
            go_wp2
            refine ⟨rfl, ?_⟩
            unfold Reads
            rw [hfin]
            exact ⟨rfl, hgr⟩
          | ok vq =>
            obtain ⟨v5, q5⟩ := vq
            rw [hx5] at h5
            obtain ⟨⟨_, rfl, rfl⟩, hR, hg⟩ := h5
            have hJ := hI4.call hR hg
            have hc := hJ.cell 4 (v := .int .i64 0) rfl
            have hf := hJ.frz 4
            have hI5 : RB B r L 42 #[Value.int .i64 0, Value.int .i64 0, Value.int .i64 0, Value.int .i64 0, Value.int .i64 0, Value.int .i64 0, Value.int .i64 0] w (w5.setCell ⟨w.heap.size + 1, 4, none⟩ (.int .i64 v5)) q5 #[Value.int .i64 v1, Value.int .i64 v2, Value.int .i64 v3, Value.int .i64 v4, Value.int .i64 v5, Value.int .i64 0, Value.int .i64 0] := hJ.set 4 (.int .i64 v5)
            clear hJ hI4 hg hR
            go_wp2_with fail
            clear hc hf
            generalize w5.setCell ⟨w.heap.size + 1, 4, none⟩ (.int .i64 v5) = W5 at *
            refine (rint_any B r q5 L W5 hI5.rd).mono ?_
            intro e w6 h6
            unfold Reads at h6
            cases hx6 : rdInt L q5 with
            | error k =>
              rw [hx6] at h6
              obtain ⟨rfl, hg⟩ := h6
              have hgr := grown_tr hI5.gr hg
              have hfin : rdEv L p = .error k := by unfold rdEv; rw [bnd_ok hx1, bnd_ok hx2, bnd_ok hx3, bnd_ok hx4, bnd_ok hx5, bnd_er hx6]
              clear hI5
              go_wp2
              refine ⟨rfl, ?_⟩
              unfold Reads
              rw [hfin]
              exact ⟨rfl, hgr⟩
            | ok vq =>
              obtain ⟨v6, q6⟩ := vq
              rw [hx6] at h6
              obtain ⟨⟨_, rfl, rfl⟩, hR, hg⟩ := h6
              have hJ := hI5.call hR hg
              have hc := hJ.cell 5 (v := .int .i64 0) rfl
              have hf := hJ.frz 5
              have hI6 : RB B r L 42 #[Value.int .i64 0, Value.int .i64 0, Value.int .i64 0, Value.int .i64 0, Value.int .i64 0, Value.int .i64 0, Value.int .i64 0] w (w6.setCell ⟨w.heap.size + 1, 5, none⟩ (.int .i64 v6)) q6 #[Value.int .i64 v1, Value.int .i64 v2, Value.int .i64 v3, Value.int .i64 v4, Value.int .i64 v5, Value.int .i64 v6, Value.int .i64 0] := hJ.set 5 (.int .i64 v6)
              clear hJ hI5 hg hR
              go_wp2_with fail
              clear hc hf
              generalize w6.setCell ⟨w.heap.size + 1, 5, none⟩ (.int .i64 v6) = W6 at *
              refine (rint_any B r q6 L W6 hI6.rd).mono ?_
              intro e w7 h7
              unfold Reads at h7
              cases hx7 : rdInt L q6 with
              | error k =>
                rw [hx7] at h7
                obtain ⟨rfl, hg⟩ := h7
                have hgr := grown_tr hI6.gr hg
                have hfin : rdEv L p = .error k := by unfold rdEv; rw [bnd_ok hx1, bnd_ok hx2, bnd_ok hx3, bnd_ok hx4, bnd_ok hx5, bnd_ok hx6, bnd_er hx7]
                clear hI6
                go_wp2
                refine ⟨rfl, ?_⟩
                unfold Reads
                rw [hfin]
                exact ⟨rfl, hgr⟩
              | ok vq =>
                obtain ⟨v7, q7⟩ := vq
                rw [hx7] at h7
                obtain ⟨⟨_, rfl, rfl⟩, hR, hg⟩ := h7
                have hJ := hI6.call hR hg
                have hc := hJ.cell 6 (v := .int .i64 0) rfl
                have hf := hJ.frz 6
                have hI7 : RB B r L 42 #[Value.int .i64 0, Value.int .i64 0, Value.int .i64 0, Value.int .i64 0, Value.int .i64 0, Value.int .i64 0, Value.int .i64 0] w (w7.setCell ⟨w.heap.size + 1, 6, none⟩ (.int .i64 v7)) q7 #[Value.int .i64 v1, Value.int .i64 v2, Value.int .i64 v3, Value.int .i64 v4, Value.int .i64 v5, Value.int .i64 v6, Value.int .i64 v7] := hJ.set 6 (.int .i64 v7)
                clear hJ hI6 hg hR
                have hfin : rdEv L p = .ok (⟨v1, v2, v3, v4, v5, v6, v7⟩, q7) := by unfold rdEv; rw [bnd_ok hx1, bnd_ok hx2, bnd_ok hx3, bnd_ok hx4, bnd_ok hx5, bnd_ok hx6, bnd_ok hx7]
                have k0 : (w7.setCell ⟨w.heap.size + 1, 6, none⟩ (.int .i64 v7)).cell? ⟨w.heap.size + 1, 0, none⟩ = some (.int .i64 v1) := hI7.cell 0 rfl
                have k1 : (w7.setCell ⟨w.heap.size + 1, 6, none⟩ (.int .i64 v7)).cell? ⟨w.heap.size + 1, 1, none⟩ = some (.int .i64 v2) := hI7.cell 1 rfl
                have k2 : (w7.setCell ⟨w.heap.size + 1, 6, none⟩ (.int .i64 v7)).cell? ⟨w.heap.size + 1, 2, none⟩ = some (.int .i64 v3) := hI7.cell 2 rfl
                have k3 : (w7.setCell ⟨w.heap.size + 1, 6, none⟩ (.int .i64 v7)).cell? ⟨w.heap.size + 1, 3, none⟩ = some (.int .i64 v4) := hI7.cell 3 rfl
                have k4 : (w7.setCell ⟨w.heap.size + 1, 6, none⟩ (.int .i64 v7)).cell? ⟨w.heap.size + 1, 4, none⟩ = some (.int .i64 v5) := hI7.cell 4 rfl
                have k5 : (w7.setCell ⟨w.heap.size + 1, 6, none⟩ (.int .i64 v7)).cell? ⟨w.heap.size + 1, 5, none⟩ = some (.int .i64 v6) := hI7.cell 5 rfl
                have k6 : (w7.setCell ⟨w.heap.size + 1, 6, none⟩ (.int .i64 v7)).cell? ⟨w.heap.size + 1, 6, none⟩ = some (.int .i64 v7) := hI7.cell 6 rfl
                have H2 := Lib.hid hI7.b2
                have HI := Lib.hid hI7
                clear hI7
                go_wp2_with (first | (refine wpList_store_row rfl 42 _ _ rfl w.heap.size 42 _ _ rfl rfl H2.out (by kernel_rfl) rfl (by simp [Value.oneCell']) ?_))
                refine bodyPost_ret (results_c rfl rfl (run_ld_block (setRow_heap _ _ _ _ _ _ H2.out) Tryd.underlying42 rfl (by kernel_rfl))) rfl ?_
                unfold Reads
                rw [hfin]
                exact ⟨⟨_, rfl, rfl⟩, HI.out.end_ _⟩
end Go.Proofs.YtiblijmngokcgaaDoor
namespace Go.Proofs.YtiblijmngokcgaaDoor
open Go.RowKit
set_option maxRecDepth 100000
set_option linter.unusedVariables false
theorem grown_nw {a b c : World} {g : Nat} {row : Option Nat} (h : a.grownBy b (some g)) (k : b.grownBy c row) (hr : ∀ m, row = some m → a.heap.size ≤ m ∨ m = g) : a.grownBy c (some g) :=
  ⟨k.os.trans h.os, k.tape.trans h.tape, k.output.trans h.output, Nat.le_trans h.size k.size, fun i hi hne => (k.block i (Nat.lt_of_lt_of_le hi h.size) (fun e => by
    rcases hr i e.symm with h' | h'
    · omega
    · exact hne (by rw [h']))).trans (h.block i hi hne)⟩
theorem grown_bl {a b : World} (h : Below a.heap.size a b) (row : Option Nat) : a.grownBy b row := ⟨h.os, h.tape, h.output, h.size, fun i hi _ => h.block i hi⟩
theorem OwnR.kept_lt {α : Type} {enc : α → List Value} {k : Nat} {w w' : World} {base g : Nat} {e : TypeId} {v : Value} {l : List α} (h : OwnR enc k w base e v l) (hg : w.grownBy w' (some g)) (hlt : g < base) : OwnR enc k w' base e v l := by
  refine h.kept hg ?_
  rcases Option.eq_none_or_eq_some v.ownBlock with h0 | ⟨m, h0⟩
  · exact .inl h0
  · refine .inr (fun e => ?_)
    rw [h0] at e
    cases e
    have := (World.ownsRow.lt h _ h0).1
    omega
theorem encEv_one (x : Ev) : ∀ u ∈ encEv x, u.oneCell' = true := by
  intro u hu
  simp [encEv] at hu
  rcases hu with rfl | rfl | rfl | rfl | rfl | rfl | rfl <;> rfl
theorem encSn_one (x : Snd) : ∀ u ∈ encSn x, u.oneCell' = true := by
  intro u hu
  simp [encSn] at hu
  rcases hu with rfl | rfl | rfl | rfl <;> rfl
theorem encOu_one (x : Ou) : ∀ u ∈ encOu x, u.oneCell' = true := by
  intro u hu
  simp [encOu] at hu
  rcases hu with rfl | rfl <;> rfl
theorem infoI_ : (Tryd.prog.info? 3).map (fun i => (i.zero, i.size, i.bytes)) = some (some (.int .i64 0), 1, 8) := by kernel_rfl
set_option maxHeartbeats 2000000 in
theorem listI_any (B r p : Nat) (L : List UInt8) (w : World) (h : Rdr B w r L p) :
    Calls Tryd.prog 47 #[.pointer (some ⟨r, 0, none⟩), .func (.func 40) #[] #[]] w fun e w' => Reads B r L w (rdList (rdInt L) L p) (fun a w' v => ∃ A c, v = .slice A a.length c ∧ OwnR encZ 1 w' w.heap.size 3 v a) e w' := by
  have hlt := h.lt
  go_enter Tryd.func47, Tryd.ntmps47
  go_wp2_with fail
  refine (rint_any B r p L w h).mono ?_
  intro e w1 h1
  unfold Reads at h1
  cases hx : rdInt L p with
  | error k =>
    rw [hx] at h1
    obtain ⟨rfl, hg⟩ := h1
    have hfin : rdList (rdInt L) L p = .error k := by unfold rdList; rw [bnd_er hx]
    go_wp2
    refine ⟨rfl, ?_⟩
    unfold Reads
    rw [hfin]
    exact ⟨rfl, hg⟩
  | ok vq =>
    obtain ⟨n, q⟩ := vq
    rw [hx] at h1
    obtain ⟨⟨_, rfl, rfl⟩, hR1, hg1⟩ := h1
    have HR := Lib.hid hR1
    obtain ⟨hB, A, c, hrow, hby, hq, hL⟩ := hR1
    have h0 : w1.cell? ⟨r, 0, none⟩ = some (.slice A L.length c) := by rw [cell_of_row _ _ _ _ _ _ hrow]; rfl
    have h1 : w1.cell? ⟨r, 1, none⟩ = some (.int .i64 (q : Int)) := by rw [cell_of_row _ _ _ _ _ _ hrow]; rfl
    clear hrow hby h
    by_cases hneg : n < 0
    · have d0 : decide (n < 0) = true := by simp; omega
      have hfin : rdList (rdInt L) L p = .error 9 := rdList_bad hx (.inl hneg)
      go_wp2_with fail
      refine wp_region_lex (fun _ => True) (by kernel_rfl) (by kernel_rfl) trivial ?_
      repeat (first | (refine lex_q rfl ⟨default, trivial⟩ ?_; go_big_quiet_step (fail); refine wpQuiet_nil ?_) | (refine lex_skip rfl rfl trivial ?_; simp only [Act.put, List.setIfInBounds_toArray, List.set_cons_succ, List.set_cons_zero]) | (refine lex_e rfl ?_; go_wp2_with fail; refine lex_go trivial ?_))
      refine lex_nil ?_
      go_wp2_with fail
      go_wp2
      refine ⟨rfl, ?_⟩
      unfold Reads
      rw [hfin]
      exact ⟨rfl, grown_drew hg1⟩
    · have d0 : decide (n < 0) = false := by simp; omega
      by_cases hbig : (L.length : Int) - (q : Int) < n
      · have d1 : decide ((L.length : Int) - (q : Int) < n) = true := by simp; omega
        have hfin : rdList (rdInt L) L p = .error 9 := rdList_bad hx (.inr hbig)
        go_wp2_with fail
        refine wp_region_lex (fun _ => True) (by kernel_rfl) (by kernel_rfl) trivial ?_
        repeat (refine lex_q rfl ⟨default, trivial⟩ ?_; go_big_quiet_step (fail); refine wpQuiet_nil ?_)
        refine lex_e rfl ?_
        go_wp2_with fail
        refine lex_go trivial ?_
        repeat (refine lex_q rfl ⟨default, trivial⟩ ?_; go_big_quiet_step (fail); refine wpQuiet_nil ?_)
        refine lex_e rfl ?_
        go_wp2_with fail
        refine lex_go trivial ?_
        repeat (refine lex_q rfl ⟨default, trivial⟩ ?_; go_big_quiet_step (fail); refine wpQuiet_nil ?_)
        refine lex_nil ?_
        go_wp2_with fail
        go_wp2
        refine ⟨rfl, ?_⟩
        unfold Reads
        rw [hfin]
        exact ⟨rfl, grown_drew hg1⟩
      · have d1 : decide ((L.length : Int) - (q : Int) < n) = false := by simp; omega
        obtain ⟨m, rfl⟩ : ∃ m : Nat, n = (m : Int) := ⟨n.toNat, by omega⟩
        have hstart : rdList (rdInt L) L p = _ := rdList_start hx hbig
        have HS := Lib.hid hstart
        have hm : m ≤ 1000000000 := by omega
        clear hstart
        go_wp2_with fail
        refine wp_region_lex (fun _ => True) (by kernel_rfl) (by kernel_rfl) trivial ?_
        repeat (refine lex_q rfl ⟨default, trivial⟩ ?_; go_big_quiet_step (fail); refine wpQuiet_nil ?_)
        refine lex_e rfl ?_
        go_wp2_with fail
        refine lex_go trivial ?_
        repeat (refine lex_q rfl ⟨default, trivial⟩ ?_; go_big_quiet_step (fail); refine wpQuiet_nil ?_)
        refine lex_e rfl ?_
        go_wp2_with fail
        refine lex_go trivial ?_
        repeat (refine lex_q rfl ⟨default, trivial⟩ ?_; go_big_quiet_step (fail); refine wpQuiet_nil ?_)
        refine lex_nil ?_
        go_wp2_with fail
        go_wp2
        go_loopw [6, 28] (fun v i wr => ∃ (k q' : Nat) (A' : Option Addr) (c' : Nat) (acc : List (Int)), i = .int .i64 k ∧ v = .slice A' k c' ∧ k ≤ m ∧ OwnR encZ 1 wr w.heap.size 3 (.slice A' k c') acc ∧ Rdr B wr r L q' ∧ w.grownBy wr (some r) ∧ rdList (rdInt L) L p = bnd (rdRep (rdInt L) (m - k) q') (fun l q'' => .ok (acc ++ l, q''))) (fun _ i _ => m - (intOf i).toNat)
        case atStart => exact ⟨0, q, none, 0, [], rfl, rfl, by omega, OwnR.nil_ _ _ _, HR.out.drew, grown_drew hg1, HS.out⟩
        case round =>
          clear HR hg1 HS h0 h1
          obtain ⟨k, q', A', c', acc, rfl, rfl, hk, hown, hR, hg, heq⟩ := hrel
          have HE := Lib.hid heq
          clear heq
          by_cases hlt2 : k < m
          · have dk : decide ((k : Int) < (m : Int)) = true := by simp; omega
            have dk' : decide (k < m) = true := by simp; omega
            obtain ⟨j, hj⟩ : ∃ j, m - k = j + 1 := ⟨m - k - 1, by omega⟩
            go_wp2_with fail
            refine (rint_any B r q' L wr hR).mono ?_
            intro e w2 h2
            unfold Reads at h2
            cases hy : rdInt L q' with
            | error x =>
              rw [hy] at h2
              obtain ⟨rfl, hg2⟩ := h2
              have hfin : rdList (rdInt L) L p = .error x := by rw [HE.out, hj]; exact rdRep_err hy
              go_wp2
              refine ⟨rfl, ?_⟩
              unfold Reads
              rw [hfin]
              exact ⟨rfl, grown_tr hg hg2⟩
            | ok aq =>
              obtain ⟨a, q2⟩ := aq
              rw [hy] at h2
              obtain ⟨⟨_, rfl, hv⟩, hR2, hg2⟩ := h2
              subst hv
              have hstep : rdList (rdInt L) L p = bnd (rdRep (rdInt L) (m - (k + 1)) q2) (fun l q'' => .ok ((acc ++ [a]) ++ l, q'')) := by rw [HE.out, hj, rdRep_step hy, show m - (k + 1) = j by omega]
              have HST := Lib.hid hstep
              have hown2 := hown.kept_lt hg2 hlt
              have hl2 := hown2.len
              have Hl2 := Lib.hid hl2.1
              have sz := hg.size
              have sz2 := hg2.size
              have ha : Below w2.heap.size w2 (w2.alloc (.cells #[.int .i64 a] 3)) := (Below.refl _ _).alloc (Nat.le_refl _) _
              have hone : Recs encZ (fun _ => True) (w2.alloc (.cells #[.int .i64 a] 3)) (.slice (some ⟨w2.heap.size, 0, none⟩) 1 1) [a] := ⟨_, 1, rfl, by simp, by simp [maxLen], Cs.lit _ _ _ _ _ trivial rfl⟩
              clear hstep hown
              go_wp2_with (refine wpList_appR (o := ⟨some 35, _, _, _, _, _⟩) encZ_len encZ_one (.int .i64 0) 8 _ _ 26 3 w.heap.size acc [a] (some ⟨w2.heap.size, 0, none⟩) 1 1 (.slice A' k c') (k + 1) rfl rfl Tryd.underlying26 infoI_ rfl (by omega) rfl rfl (hown2.ext ha) hone (by rw [Hl2.out]) (by have := Hl2.out; omega) (by have := Hl2.out; omega) (by simp; omega) ?_; intro A9 c9 w9 hown9 hgr9 hat9 hc91 hc92)
              have hrow9 : ∀ b, (Value.slice A' k c').ownBlock = some b → w.heap.size ≤ b := fun b e => (World.ownsRow.lt hown2 _ e).1
              have hR9 := (hR2.ext ha).grown hgr9 (fun b hb => by have := hrow9 b hb; omega)
              have hG9 := grown_nw (grown_tr (grown_tr hg hg2) (grown_bl ha (some r))) hgr9 (fun b hb => .inl (hrow9 b hb))
              refine ⟨⟨k + 1, q2, A9, c9, acc ++ [a], by congr 1, rfl, by omega, hown9, hR9, hG9, HST.out⟩, by simp [intOf]; omega⟩
          · obtain rfl : k = m := by omega
            have dk : decide ((k : Int) < (k : Int)) = false := by simp
            have hfin : rdList (rdInt L) L p = .ok (acc, q') := by rw [HE.out, Nat.sub_self]; show Except.ok (acc ++ [], q') = _; rw [List.append_nil]
            go_wp2
            go_ret
            unfold Reads
            rw [hfin]
            exact ⟨⟨_, rfl, A', c', by show Value.slice A' k c' = _; rw [hown.len.1], hown⟩, hR, hg⟩
theorem infoE_ : (Tryd.prog.info? 42).map (fun i => (i.zero, i.size, i.bytes)) = some (some (.agg #[.int .i64 0, .int .i64 0, .int .i64 0, .int .i64 0, .int .i64 0, .int .i64 0, .int .i64 0]), 7, 56) := by kernel_rfl
set_option maxHeartbeats 2000000 in
theorem listE_any (B r p : Nat) (L : List UInt8) (w : World) (h : Rdr B w r L p) :
    Calls Tryd.prog 48 #[.pointer (some ⟨r, 0, none⟩), .func (.func 49) #[] #[]] w fun e w' => Reads B r L w (rdList (rdEv L) L p) (fun a w' v => ∃ A c, v = .slice A a.length c ∧ OwnR encEv 7 w' w.heap.size 42 v a) e w' := by
  have hlt := h.lt
  go_enter Tryd.func48, Tryd.ntmps48
  go_wp2_with fail
  refine (rint_any B r p L w h).mono ?_
  intro e w1 h1
  unfold Reads at h1
  cases hx : rdInt L p with
  | error k =>
    rw [hx] at h1
    obtain ⟨rfl, hg⟩ := h1
    have hfin : rdList (rdEv L) L p = .error k := by unfold rdList; rw [bnd_er hx]
    go_wp2
    refine ⟨rfl, ?_⟩
    unfold Reads
    rw [hfin]
    exact ⟨rfl, hg⟩
  | ok vq =>
    obtain ⟨n, q⟩ := vq
    rw [hx] at h1
    obtain ⟨⟨_, rfl, rfl⟩, hR1, hg1⟩ := h1
    have HR := Lib.hid hR1
    obtain ⟨hB, A, c, hrow, hby, hq, hL⟩ := hR1
    have h0 : w1.cell? ⟨r, 0, none⟩ = some (.slice A L.length c) := by rw [cell_of_row _ _ _ _ _ _ hrow]; rfl
    have h1 : w1.cell? ⟨r, 1, none⟩ = some (.int .i64 (q : Int)) := by rw [cell_of_row _ _ _ _ _ _ hrow]; rfl
    clear hrow hby h
    by_cases hneg : n < 0
    · have d0 : decide (n < 0) = true := by simp; omega
      have hfin : rdList (rdEv L) L p = .error 9 := rdList_bad hx (.inl hneg)
      go_wp2_with fail
      refine wp_region_lex (fun _ => True) (by kernel_rfl) (by kernel_rfl) trivial ?_
      repeat (first | (refine lex_q rfl ⟨default, trivial⟩ ?_; go_big_quiet_step (fail); refine wpQuiet_nil ?_) | (refine lex_skip rfl rfl trivial ?_; simp only [Act.put, List.setIfInBounds_toArray, List.set_cons_succ, List.set_cons_zero]) | (refine lex_e rfl ?_; go_wp2_with fail; refine lex_go trivial ?_))
      refine lex_nil ?_
      go_wp2_with fail
      go_wp2
      refine ⟨rfl, ?_⟩
      unfold Reads
      rw [hfin]
      exact ⟨rfl, grown_drew hg1⟩
    · have d0 : decide (n < 0) = false := by simp; omega
      by_cases hbig : (L.length : Int) - (q : Int) < n
      · have d1 : decide ((L.length : Int) - (q : Int) < n) = true := by simp; omega
        have hfin : rdList (rdEv L) L p = .error 9 := rdList_bad hx (.inr hbig)
        go_wp2_with fail
        refine wp_region_lex (fun _ => True) (by kernel_rfl) (by kernel_rfl) trivial ?_
        repeat (refine lex_q rfl ⟨default, trivial⟩ ?_; go_big_quiet_step (fail); refine wpQuiet_nil ?_)
        refine lex_e rfl ?_
        go_wp2_with fail
        refine lex_go trivial ?_
        repeat (refine lex_q rfl ⟨default, trivial⟩ ?_; go_big_quiet_step (fail); refine wpQuiet_nil ?_)
        refine lex_e rfl ?_
        go_wp2_with fail
        refine lex_go trivial ?_
        repeat (refine lex_q rfl ⟨default, trivial⟩ ?_; go_big_quiet_step (fail); refine wpQuiet_nil ?_)
        refine lex_nil ?_
        go_wp2_with fail
        go_wp2
        refine ⟨rfl, ?_⟩
        unfold Reads
        rw [hfin]
        exact ⟨rfl, grown_drew hg1⟩
      · have d1 : decide ((L.length : Int) - (q : Int) < n) = false := by simp; omega
        obtain ⟨m, rfl⟩ : ∃ m : Nat, n = (m : Int) := ⟨n.toNat, by omega⟩
        have hstart : rdList (rdEv L) L p = _ := rdList_start hx hbig
        have HS := Lib.hid hstart
        have hm : m ≤ 1000000000 := by omega
        clear hstart
        go_wp2_with fail
        refine wp_region_lex (fun _ => True) (by kernel_rfl) (by kernel_rfl) trivial ?_
        repeat (refine lex_q rfl ⟨default, trivial⟩ ?_; go_big_quiet_step (fail); refine wpQuiet_nil ?_)
        refine lex_e rfl ?_
        go_wp2_with fail
        refine lex_go trivial ?_
        repeat (refine lex_q rfl ⟨default, trivial⟩ ?_; go_big_quiet_step (fail); refine wpQuiet_nil ?_)
        refine lex_e rfl ?_
        go_wp2_with fail
        refine lex_go trivial ?_
        repeat (refine lex_q rfl ⟨default, trivial⟩ ?_; go_big_quiet_step (fail); refine wpQuiet_nil ?_)
        refine lex_nil ?_
        go_wp2_with fail
        go_wp2
        go_loopw [6, 28] (fun v i wr => ∃ (k q' : Nat) (A' : Option Addr) (c' : Nat) (acc : List (Ev)), i = .int .i64 k ∧ v = .slice A' k c' ∧ k ≤ m ∧ OwnR encEv 7 wr w.heap.size 42 (.slice A' k c') acc ∧ Rdr B wr r L q' ∧ w.grownBy wr (some r) ∧ rdList (rdEv L) L p = bnd (rdRep (rdEv L) (m - k) q') (fun l q'' => .ok (acc ++ l, q''))) (fun _ i _ => m - (intOf i).toNat)
        case atStart => exact ⟨0, q, none, 0, [], rfl, rfl, by omega, OwnR.nil_ _ _ _, HR.out.drew, grown_drew hg1, HS.out⟩
        case round =>
          clear HR hg1 HS h0 h1
          obtain ⟨k, q', A', c', acc, rfl, rfl, hk, hown, hR, hg, heq⟩ := hrel
          have HE := Lib.hid heq
          clear heq
          by_cases hlt2 : k < m
          · have dk : decide ((k : Int) < (m : Int)) = true := by simp; omega
            have dk' : decide (k < m) = true := by simp; omega
            obtain ⟨j, hj⟩ : ∃ j, m - k = j + 1 := ⟨m - k - 1, by omega⟩
            go_wp2_with fail
            refine (revent_any B r q' L wr hR).mono ?_
            intro e w2 h2
            unfold Reads at h2
            cases hy : rdEv L q' with
            | error x =>
              rw [hy] at h2
              obtain ⟨rfl, hg2⟩ := h2
              have hfin : rdList (rdEv L) L p = .error x := by rw [HE.out, hj]; exact rdRep_err hy
              go_wp2
              refine ⟨rfl, ?_⟩
              unfold Reads
              rw [hfin]
              exact ⟨rfl, grown_tr hg hg2⟩
            | ok aq =>
              obtain ⟨a, q2⟩ := aq
              rw [hy] at h2
              obtain ⟨⟨_, rfl, hv⟩, hR2, hg2⟩ := h2
              unfold evV at hv
              subst hv
              have hstep : rdList (rdEv L) L p = bnd (rdRep (rdEv L) (m - (k + 1)) q2) (fun l q'' => .ok ((acc ++ [a]) ++ l, q'')) := by rw [HE.out, hj, rdRep_step hy, show m - (k + 1) = j by omega]
              have HST := Lib.hid hstep
              have hown2 := hown.kept_lt hg2 hlt
              have hl2 := hown2.len
              have Hl2 := Lib.hid hl2.1
              have sz := hg.size
              have sz2 := hg2.size
              have ha : Below w2.heap.size w2 (w2.alloc (.cells #[.int .i64 a.k0, .int .i64 a.k1, .int .i64 a.k2, .int .i64 a.k3, .int .i64 a.k4, .int .i64 a.k5, .int .i64 a.k6] 42)) := (Below.refl _ _).alloc (Nat.le_refl _) _
              have hone : Recs encEv (fun _ => True) (w2.alloc (.cells #[.int .i64 a.k0, .int .i64 a.k1, .int .i64 a.k2, .int .i64 a.k3, .int .i64 a.k4, .int .i64 a.k5, .int .i64 a.k6] 42)) (.slice (some ⟨w2.heap.size, 0, none⟩) 1 1) [a] := ⟨_, 1, rfl, by simp, by simp [maxLen], Cs.lit _ _ _ _ _ trivial rfl⟩
              clear hstep hown
              go_wp2_with (refine wpList_appR (o := ⟨some 35, _, _, _, _, _⟩) encEv_len encEv_one (.agg #[.int .i64 0, .int .i64 0, .int .i64 0, .int .i64 0, .int .i64 0, .int .i64 0, .int .i64 0]) 56 _ _ 27 42 w.heap.size acc [a] (some ⟨w2.heap.size, 0, none⟩) 1 1 (.slice A' k c') (k + 1) rfl rfl Tryd.underlying27 infoE_ rfl (by omega) rfl rfl (hown2.ext ha) hone (by rw [Hl2.out]) (by have := Hl2.out; omega) (by have := Hl2.out; omega) (by simp; omega) ?_; intro A9 c9 w9 hown9 hgr9 hat9 hc91 hc92)
              have hrow9 : ∀ b, (Value.slice A' k c').ownBlock = some b → w.heap.size ≤ b := fun b e => (World.ownsRow.lt hown2 _ e).1
              have hR9 := (hR2.ext ha).grown hgr9 (fun b hb => by have := hrow9 b hb; omega)
              have hG9 := grown_nw (grown_tr (grown_tr hg hg2) (grown_bl ha (some r))) hgr9 (fun b hb => .inl (hrow9 b hb))
              refine ⟨⟨k + 1, q2, A9, c9, acc ++ [a], by congr 1, rfl, by omega, hown9, hR9, hG9, HST.out⟩, by simp [intOf]; omega⟩
          · obtain rfl : k = m := by omega
            have dk : decide ((k : Int) < (k : Int)) = false := by simp
            have hfin : rdList (rdEv L) L p = .ok (acc, q') := by rw [HE.out, Nat.sub_self]; show Except.ok (acc ++ [], q') = _; rw [List.append_nil]
            go_wp2
            go_ret
            unfold Reads
            rw [hfin]
            exact ⟨⟨_, rfl, A', c', by show Value.slice A' k c' = _; rw [hown.len.1], hown⟩, hR, hg⟩
theorem infoS_ : (Tryd.prog.info? 75).map (fun i => (i.zero, i.size, i.bytes)) = some (some (.agg #[.int .i64 0, .int .i64 0, .int .i64 0, .int .i64 0]), 4, 32) := by kernel_rfl
set_option maxHeartbeats 2000000 in
theorem listS_any (B r p : Nat) (L : List UInt8) (w : World) (h : Rdr B w r L p) :
    Calls Tryd.prog 50 #[.pointer (some ⟨r, 0, none⟩), .func (.func 51) #[] #[]] w fun e w' => Reads B r L w (rdList (rdSn L) L p) (fun a w' v => ∃ A c, v = .slice A a.length c ∧ OwnR encSn 4 w' w.heap.size 75 v a) e w' := by
  have hlt := h.lt
  go_enter Tryd.func50, Tryd.ntmps50
  go_wp2_with fail
  refine (rint_any B r p L w h).mono ?_
  intro e w1 h1
  unfold Reads at h1
  cases hx : rdInt L p with
  | error k =>
    rw [hx] at h1
    obtain ⟨rfl, hg⟩ := h1
    have hfin : rdList (rdSn L) L p = .error k := by unfold rdList; rw [bnd_er hx]
    go_wp2
    refine ⟨rfl, ?_⟩
    unfold Reads
    rw [hfin]
    exact ⟨rfl, hg⟩
  | ok vq =>
    obtain ⟨n, q⟩ := vq
    rw [hx] at h1
    obtain ⟨⟨_, rfl, rfl⟩, hR1, hg1⟩ := h1
    have HR := Lib.hid hR1
    obtain ⟨hB, A, c, hrow, hby, hq, hL⟩ := hR1
    have h0 : w1.cell? ⟨r, 0, none⟩ = some (.slice A L.length c) := by rw [cell_of_row _ _ _ _ _ _ hrow]; rfl
    have h1 : w1.cell? ⟨r, 1, none⟩ = some (.int .i64 (q : Int)) := by rw [cell_of_row _ _ _ _ _ _ hrow]; rfl
    clear hrow hby h
    by_cases hneg : n < 0
    · have d0 : decide (n < 0) = true := by simp; omega
      have hfin : rdList (rdSn L) L p = .error 9 := rdList_bad hx (.inl hneg)
      go_wp2_with fail
      refine wp_region_lex (fun _ => True) (by kernel_rfl) (by kernel_rfl) trivial ?_
      repeat (first | (refine lex_q rfl ⟨default, trivial⟩ ?_; go_big_quiet_step (fail); refine wpQuiet_nil ?_) | (refine lex_skip rfl rfl trivial ?_; simp only [Act.put, List.setIfInBounds_toArray, List.set_cons_succ, List.set_cons_zero]) | (refine lex_e rfl ?_; go_wp2_with fail; refine lex_go trivial ?_))
      refine lex_nil ?_
      go_wp2_with fail
      go_wp2
      refine ⟨rfl, ?_⟩
      unfold Reads
      rw [hfin]
      exact ⟨rfl, grown_drew hg1⟩
    · have d0 : decide (n < 0) = false := by simp; omega
      by_cases hbig : (L.length : Int) - (q : Int) < n
      · have d1 : decide ((L.length : Int) - (q : Int) < n) = true := by simp; omega
        have hfin : rdList (rdSn L) L p = .error 9 := rdList_bad hx (.inr hbig)
        go_wp2_with fail
        refine wp_region_lex (fun _ => True) (by kernel_rfl) (by kernel_rfl) trivial ?_
        repeat (refine lex_q rfl ⟨default, trivial⟩ ?_; go_big_quiet_step (fail); refine wpQuiet_nil ?_)
        refine lex_e rfl ?_
        go_wp2_with fail
        refine lex_go trivial ?_
        repeat (refine lex_q rfl ⟨default, trivial⟩ ?_; go_big_quiet_step (fail); refine wpQuiet_nil ?_)
        refine lex_e rfl ?_
        go_wp2_with fail
        refine lex_go trivial ?_
        repeat (refine lex_q rfl ⟨default, trivial⟩ ?_; go_big_quiet_step (fail); refine wpQuiet_nil ?_)
        refine lex_nil ?_
        go_wp2_with fail
        go_wp2
        refine ⟨rfl, ?_⟩
        unfold Reads
        rw [hfin]
        exact ⟨rfl, grown_drew hg1⟩
      · have d1 : decide ((L.length : Int) - (q : Int) < n) = false := by simp; omega
        obtain ⟨m, rfl⟩ : ∃ m : Nat, n = (m : Int) := ⟨n.toNat, by omega⟩
        have hstart : rdList (rdSn L) L p = _ := rdList_start hx hbig
        have HS := Lib.hid hstart
        have hm : m ≤ 1000000000 := by omega
        clear hstart
        go_wp2_with fail
        refine wp_region_lex (fun _ => True) (by kernel_rfl) (by kernel_rfl) trivial ?_
        repeat (refine lex_q rfl ⟨default, trivial⟩ ?_; go_big_quiet_step (fail); refine wpQuiet_nil ?_)
        refine lex_e rfl ?_
        go_wp2_with fail
        refine lex_go trivial ?_
        repeat (refine lex_q rfl ⟨default, trivial⟩ ?_; go_big_quiet_step (fail); refine wpQuiet_nil ?_)
        refine lex_e rfl ?_
        go_wp2_with fail
        refine lex_go trivial ?_
        repeat (refine lex_q rfl ⟨default, trivial⟩ ?_; go_big_quiet_step (fail); refine wpQuiet_nil ?_)
        refine lex_nil ?_
        go_wp2_with fail
        go_wp2
        go_loopw [6, 28] (fun v i wr => ∃ (k q' : Nat) (A' : Option Addr) (c' : Nat) (acc : List (Snd)), i = .int .i64 k ∧ v = .slice A' k c' ∧ k ≤ m ∧ OwnR encSn 4 wr w.heap.size 75 (.slice A' k c') acc ∧ Rdr B wr r L q' ∧ w.grownBy wr (some r) ∧ rdList (rdSn L) L p = bnd (rdRep (rdSn L) (m - k) q') (fun l q'' => .ok (acc ++ l, q''))) (fun _ i _ => m - (intOf i).toNat)
        case atStart => exact ⟨0, q, none, 0, [], rfl, rfl, by omega, OwnR.nil_ _ _ _, HR.out.drew, grown_drew hg1, HS.out⟩
        case round =>
          clear HR hg1 HS h0 h1
          obtain ⟨k, q', A', c', acc, rfl, rfl, hk, hown, hR, hg, heq⟩ := hrel
          have HE := Lib.hid heq
          clear heq
          by_cases hlt2 : k < m
          · have dk : decide ((k : Int) < (m : Int)) = true := by simp; omega
            have dk' : decide (k < m) = true := by simp; omega
            obtain ⟨j, hj⟩ : ∃ j, m - k = j + 1 := ⟨m - k - 1, by omega⟩
            go_wp2_with fail
            refine (rsend_any B r q' L wr hR).mono ?_
            intro e w2 h2
            unfold Reads at h2
            cases hy : rdSn L q' with
            | error x =>
              rw [hy] at h2
              obtain ⟨rfl, hg2⟩ := h2
              have hfin : rdList (rdSn L) L p = .error x := by rw [HE.out, hj]; exact rdRep_err hy
              go_wp2
              refine ⟨rfl, ?_⟩
              unfold Reads
              rw [hfin]
              exact ⟨rfl, grown_tr hg hg2⟩
            | ok aq =>
              obtain ⟨a, q2⟩ := aq
              rw [hy] at h2
              obtain ⟨⟨_, rfl, hv⟩, hR2, hg2⟩ := h2
              unfold snV at hv
              subst hv
              have hstep : rdList (rdSn L) L p = bnd (rdRep (rdSn L) (m - (k + 1)) q2) (fun l q'' => .ok ((acc ++ [a]) ++ l, q'')) := by rw [HE.out, hj, rdRep_step hy, show m - (k + 1) = j by omega]
              have HST := Lib.hid hstep
              have hown2 := hown.kept_lt hg2 hlt
              have hl2 := hown2.len
              have Hl2 := Lib.hid hl2.1
              have sz := hg.size
              have sz2 := hg2.size
              have ha : Below w2.heap.size w2 (w2.alloc (.cells #[.int .i64 a.a, .int .i64 a.b, .int .i64 a.c, .int .i64 a.d] 75)) := (Below.refl _ _).alloc (Nat.le_refl _) _
              have hone : Recs encSn (fun _ => True) (w2.alloc (.cells #[.int .i64 a.a, .int .i64 a.b, .int .i64 a.c, .int .i64 a.d] 75)) (.slice (some ⟨w2.heap.size, 0, none⟩) 1 1) [a] := ⟨_, 1, rfl, by simp, by simp [maxLen], Cs.lit _ _ _ _ _ trivial rfl⟩
              clear hstep hown
              go_wp2_with (refine wpList_appR (o := ⟨some 35, _, _, _, _, _⟩) encSn_len encSn_one (.agg #[.int .i64 0, .int .i64 0, .int .i64 0, .int .i64 0]) 32 _ _ 28 75 w.heap.size acc [a] (some ⟨w2.heap.size, 0, none⟩) 1 1 (.slice A' k c') (k + 1) rfl rfl Tryd.underlying28 infoS_ rfl (by omega) rfl rfl (hown2.ext ha) hone (by rw [Hl2.out]) (by have := Hl2.out; omega) (by have := Hl2.out; omega) (by simp; omega) ?_; intro A9 c9 w9 hown9 hgr9 hat9 hc91 hc92)
              have hrow9 : ∀ b, (Value.slice A' k c').ownBlock = some b → w.heap.size ≤ b := fun b e => (World.ownsRow.lt hown2 _ e).1
              have hR9 := (hR2.ext ha).grown hgr9 (fun b hb => by have := hrow9 b hb; omega)
              have hG9 := grown_nw (grown_tr (grown_tr hg hg2) (grown_bl ha (some r))) hgr9 (fun b hb => .inl (hrow9 b hb))
              refine ⟨⟨k + 1, q2, A9, c9, acc ++ [a], by congr 1, rfl, by omega, hown9, hR9, hG9, HST.out⟩, by simp [intOf]; omega⟩
          · obtain rfl : k = m := by omega
            have dk : decide ((k : Int) < (k : Int)) = false := by simp
            have hfin : rdList (rdSn L) L p = .ok (acc, q') := by rw [HE.out, Nat.sub_self]; show Except.ok (acc ++ [], q') = _; rw [List.append_nil]
            go_wp2
            go_ret
            unfold Reads
            rw [hfin]
            exact ⟨⟨_, rfl, A', c', by show Value.slice A' k c' = _; rw [hown.len.1], hown⟩, hR, hg⟩
theorem infoO_ : (Tryd.prog.info? 77).map (fun i => (i.zero, i.size, i.bytes)) = some (some (.agg #[.int .i64 0, .int .i64 0]), 2, 16) := by kernel_rfl
set_option maxHeartbeats 2000000 in
theorem listO_any (B r p : Nat) (L : List UInt8) (w : World) (h : Rdr B w r L p) :
    Calls Tryd.prog 52 #[.pointer (some ⟨r, 0, none⟩), .func (.func 53) #[] #[]] w fun e w' => Reads B r L w (rdList (rdOu L) L p) (fun a w' v => ∃ A c, v = .slice A a.length c ∧ OwnR encOu 2 w' w.heap.size 77 v a) e w' := by
  have hlt := h.lt
  go_enter Tryd.func52, Tryd.ntmps52
  go_wp2_with fail
  refine (rint_any B r p L w h).mono ?_
  intro e w1 h1
  unfold Reads at h1
  cases hx : rdInt L p with
  | error k =>
    rw [hx] at h1
    obtain ⟨rfl, hg⟩ := h1
    have hfin : rdList (rdOu L) L p = .error k := by unfold rdList; rw [bnd_er hx]
    go_wp2
    refine ⟨rfl, ?_⟩
    unfold Reads
    rw [hfin]
    exact ⟨rfl, hg⟩
  | ok vq =>
    obtain ⟨n, q⟩ := vq
    rw [hx] at h1
    obtain ⟨⟨_, rfl, rfl⟩, hR1, hg1⟩ := h1
    have HR := Lib.hid hR1
    obtain ⟨hB, A, c, hrow, hby, hq, hL⟩ := hR1
    have h0 : w1.cell? ⟨r, 0, none⟩ = some (.slice A L.length c) := by rw [cell_of_row _ _ _ _ _ _ hrow]; rfl
    have h1 : w1.cell? ⟨r, 1, none⟩ = some (.int .i64 (q : Int)) := by rw [cell_of_row _ _ _ _ _ _ hrow]; rfl
    clear hrow hby h
    by_cases hneg : n < 0
    · have d0 : decide (n < 0) = true := by simp; omega
      have hfin : rdList (rdOu L) L p = .error 9 := rdList_bad hx (.inl hneg)
      go_wp2_with fail
      refine wp_region_lex (fun _ => True) (by kernel_rfl) (by kernel_rfl) trivial ?_
      repeat (first | (refine lex_q rfl ⟨default, trivial⟩ ?_; go_big_quiet_step (fail); refine wpQuiet_nil ?_) | (refine lex_skip rfl rfl trivial ?_; simp only [Act.put, List.setIfInBounds_toArray, List.set_cons_succ, List.set_cons_zero]) | (refine lex_e rfl ?_; go_wp2_with fail; refine lex_go trivial ?_))
      refine lex_nil ?_
      go_wp2_with fail
      go_wp2
      refine ⟨rfl, ?_⟩
      unfold Reads
      rw [hfin]
      exact ⟨rfl, grown_drew hg1⟩
    · have d0 : decide (n < 0) = false := by simp; omega
      by_cases hbig : (L.length : Int) - (q : Int) < n
      · have d1 : decide ((L.length : Int) - (q : Int) < n) = true := by simp; omega
        have hfin : rdList (rdOu L) L p = .error 9 := rdList_bad hx (.inr hbig)
        go_wp2_with fail
        refine wp_region_lex (fun _ => True) (by kernel_rfl) (by kernel_rfl) trivial ?_
        repeat (refine lex_q rfl ⟨default, trivial⟩ ?_; go_big_quiet_step (fail); refine wpQuiet_nil ?_)
        refine lex_e rfl ?_
        go_wp2_with fail
        refine lex_go trivial ?_
        repeat (refine lex_q rfl ⟨default, trivial⟩ ?_; go_big_quiet_step (fail); refine wpQuiet_nil ?_)
        refine lex_e rfl ?_
        go_wp2_with fail
        refine lex_go trivial ?_
        repeat (refine lex_q rfl ⟨default, trivial⟩ ?_; go_big_quiet_step (fail); refine wpQuiet_nil ?_)
        refine lex_nil ?_
        go_wp2_with fail
        go_wp2
        refine ⟨rfl, ?_⟩
        unfold Reads
        rw [hfin]
        exact ⟨rfl, grown_drew hg1⟩
      · have d1 : decide ((L.length : Int) - (q : Int) < n) = false := by simp; omega
        obtain ⟨m, rfl⟩ : ∃ m : Nat, n = (m : Int) := ⟨n.toNat, by omega⟩
        have hstart : rdList (rdOu L) L p = _ := rdList_start hx hbig
        have HS := Lib.hid hstart
        have hm : m ≤ 1000000000 := by omega
        clear hstart
        go_wp2_with fail
        refine wp_region_lex (fun _ => True) (by kernel_rfl) (by kernel_rfl) trivial ?_
        repeat (refine lex_q rfl ⟨default, trivial⟩ ?_; go_big_quiet_step (fail); refine wpQuiet_nil ?_)
        refine lex_e rfl ?_
        go_wp2_with fail
        refine lex_go trivial ?_
        repeat (refine lex_q rfl ⟨default, trivial⟩ ?_; go_big_quiet_step (fail); refine wpQuiet_nil ?_)
        refine lex_e rfl ?_
        go_wp2_with fail
        refine lex_go trivial ?_
        repeat (refine lex_q rfl ⟨default, trivial⟩ ?_; go_big_quiet_step (fail); refine wpQuiet_nil ?_)
        refine lex_nil ?_
        go_wp2_with fail
        go_wp2
        go_loopw [6, 28] (fun v i wr => ∃ (k q' : Nat) (A' : Option Addr) (c' : Nat) (acc : List (Ou)), i = .int .i64 k ∧ v = .slice A' k c' ∧ k ≤ m ∧ OwnR encOu 2 wr w.heap.size 77 (.slice A' k c') acc ∧ Rdr B wr r L q' ∧ w.grownBy wr (some r) ∧ rdList (rdOu L) L p = bnd (rdRep (rdOu L) (m - k) q') (fun l q'' => .ok (acc ++ l, q''))) (fun _ i _ => m - (intOf i).toNat)
        case atStart => exact ⟨0, q, none, 0, [], rfl, rfl, by omega, OwnR.nil_ _ _ _, HR.out.drew, grown_drew hg1, HS.out⟩
        case round =>
          clear HR hg1 HS h0 h1
          obtain ⟨k, q', A', c', acc, rfl, rfl, hk, hown, hR, hg, heq⟩ := hrel
          have HE := Lib.hid heq
          clear heq
          by_cases hlt2 : k < m
          · have dk : decide ((k : Int) < (m : Int)) = true := by simp; omega
            have dk' : decide (k < m) = true := by simp; omega
            obtain ⟨j, hj⟩ : ∃ j, m - k = j + 1 := ⟨m - k - 1, by omega⟩
            go_wp2_with fail
            refine (rout_any B r q' L wr hR).mono ?_
            intro e w2 h2
            unfold Reads at h2
            cases hy : rdOu L q' with
            | error x =>
              rw [hy] at h2
              obtain ⟨rfl, hg2⟩ := h2
              have hfin : rdList (rdOu L) L p = .error x := by rw [HE.out, hj]; exact rdRep_err hy
              go_wp2
              refine ⟨rfl, ?_⟩
              unfold Reads
              rw [hfin]
              exact ⟨rfl, grown_tr hg hg2⟩
            | ok aq =>
              obtain ⟨a, q2⟩ := aq
              rw [hy] at h2
              obtain ⟨⟨_, rfl, hv⟩, hR2, hg2⟩ := h2
              unfold ouV at hv
              subst hv
              have hstep : rdList (rdOu L) L p = bnd (rdRep (rdOu L) (m - (k + 1)) q2) (fun l q'' => .ok ((acc ++ [a]) ++ l, q'')) := by rw [HE.out, hj, rdRep_step hy, show m - (k + 1) = j by omega]
              have HST := Lib.hid hstep
              have hown2 := hown.kept_lt hg2 hlt
              have hl2 := hown2.len
              have Hl2 := Lib.hid hl2.1
              have sz := hg.size
              have sz2 := hg2.size
              have ha : Below w2.heap.size w2 (w2.alloc (.cells #[.int .i64 a.a, .int .i64 a.b] 77)) := (Below.refl _ _).alloc (Nat.le_refl _) _
              have hone : Recs encOu (fun _ => True) (w2.alloc (.cells #[.int .i64 a.a, .int .i64 a.b] 77)) (.slice (some ⟨w2.heap.size, 0, none⟩) 1 1) [a] := ⟨_, 1, rfl, by simp, by simp [maxLen], Cs.lit _ _ _ _ _ trivial rfl⟩
              clear hstep hown
              go_wp2_with (refine wpList_appR (o := ⟨some 35, _, _, _, _, _⟩) encOu_len encOu_one (.agg #[.int .i64 0, .int .i64 0]) 16 _ _ 29 77 w.heap.size acc [a] (some ⟨w2.heap.size, 0, none⟩) 1 1 (.slice A' k c') (k + 1) rfl rfl Tryd.underlying29 infoO_ rfl (by omega) rfl rfl (hown2.ext ha) hone (by rw [Hl2.out]) (by have := Hl2.out; omega) (by have := Hl2.out; omega) (by simp; omega) ?_; intro A9 c9 w9 hown9 hgr9 hat9 hc91 hc92)
              have hrow9 : ∀ b, (Value.slice A' k c').ownBlock = some b → w.heap.size ≤ b := fun b e => (World.ownsRow.lt hown2 _ e).1
              have hR9 := (hR2.ext ha).grown hgr9 (fun b hb => by have := hrow9 b hb; omega)
              have hG9 := grown_nw (grown_tr (grown_tr hg hg2) (grown_bl ha (some r))) hgr9 (fun b hb => .inl (hrow9 b hb))
              refine ⟨⟨k + 1, q2, A9, c9, acc ++ [a], by congr 1, rfl, by omega, hown9, hR9, hG9, HST.out⟩, by simp [intOf]; omega⟩
          · obtain rfl : k = m := by omega
            have dk : decide ((k : Int) < (k : Int)) = false := by simp
            have hfin : rdList (rdOu L) L p = .ok (acc, q') := by rw [HE.out, Nat.sub_self]; show Except.ok (acc ++ [], q') = _; rw [List.append_nil]
            go_wp2
            go_ret
            unfold Reads
            rw [hfin]
            exact ⟨⟨_, rfl, A', c', by show Value.slice A' k c' = _; rw [hown.len.1], hown⟩, hR, hg⟩
end Go.Proofs.YtiblijmngokcgaaDoor
namespace Go.Proofs.YtiblijmngokcgaaDoor
open Go.RowKit
set_option maxRecDepth 100000
set_option linter.unusedVariables false
structure Stop (p : Prop) : Prop where
  out : p
theorem wpList_stop {P : Program} {ops : Array Oper} {Q : Exit → Act → World → Prop} {rest : List Oper} {o : Oper} {a : Act} {w : World} (d : Nat) (hd : o.dst = some d) (h : Stop (wpList P ops Q (o :: rest) a w)) : wpList P ops Q (o :: rest) a w := h.out
set_option maxHeartbeats 2000000 in
theorem rpage_any (B r p : Nat) (L : List UInt8) (w : World) (h : Rdr B w r L p) :
    Calls Tryd.prog 56 #[.pointer (some ⟨r, 0, none⟩)] w fun e w' => Reads B r L w (rdPg L p) (fun a w' v => ∃ A c, v = .agg #[.int .i64 a.num, .slice A a.cells.length c] ∧ OwnR encZ 1 w' w.heap.size 3 (.slice A a.cells.length c) a.cells) e w' := by
  have hlt := h.lt
  obtain ⟨W0, hW, hI0⟩ := RB.new (T := 36) (c2 := #[Value.int .i64 0, Value.slice none 0 0]) (c3 := #[Value.int .i64 0, Value.slice none 0 0]) h
  go_enter Tryd.func56, Tryd.ntmps56
  go_wp2_with fail
  rw [← hW]
  clear hW
  refine (rint_any B r p L W0 hI0.rd).mono ?_
  intro e w1 h1
  unfold Reads at h1
  cases hx1 : rdInt L p with
  | error k =>
    rw [hx1] at h1
    obtain ⟨rfl, hg⟩ := h1
    have hgr := grown_tr hI0.gr hg
    have hfin : rdPg L p = .error k := by unfold rdPg; rw [bnd_er hx1]
    clear hI0
    go_wp2
    refine ⟨rfl, ?_⟩
    unfold Reads
    rw [hfin]
    exact ⟨rfl, hgr⟩
  | ok vq =>
    obtain ⟨v1, q1⟩ := vq
    rw [hx1] at h1
    obtain ⟨⟨_, rfl, rfl⟩, hR, hg⟩ := h1
    have hs1 := hI0.sz
    have hJ := hI0.call hR hg
    have hc := hJ.cell 0 (v := .int .i64 0) rfl
    have hf := hJ.frz 0
    have hgS : w1.grownBy (w1.setCell ⟨w.heap.size + 1, 0, none⟩ (.int .i64 v1)) (some (w.heap.size + 1)) := grown_set ⟨rfl, rfl, rfl, Nat.le_refl _, fun _ _ _ => rfl⟩
    have hI1 : RB B r L 36 #[Value.int .i64 0, Value.slice none 0 0] w (w1.setCell ⟨w.heap.size + 1, 0, none⟩ (.int .i64 v1)) q1 #[Value.int .i64 v1, Value.slice none 0 0] := hJ.set 0 (.int .i64 v1)
    clear hJ hI0 hg hR hgS
    go_wp2_with fail
    clear hc hf
    generalize w1.setCell ⟨w.heap.size + 1, 0, none⟩ (.int .i64 v1) = W1 at *
    refine (listI_any B r q1 L W1 hI1.rd).mono ?_
    intro e w2 h2
    unfold Reads at h2
    cases hx2 : rdList (rdInt L) L q1 with
    | error k =>
      rw [hx2] at h2
      obtain ⟨rfl, hg⟩ := h2
      have hgr := grown_tr hI1.gr hg
      have hfin : rdPg L p = .error k := by unfold rdPg; rw [bnd_ok hx1, bnd_er hx2]
      clear hI1
      go_wp2
      refine ⟨rfl, ?_⟩
      unfold Reads
      rw [hfin]
      exact ⟨rfl, hgr⟩
    | ok vq =>
      obtain ⟨v2, q2⟩ := vq
      rw [hx2] at h2
      obtain ⟨⟨_, rfl, A2, c2, rfl, hO2⟩, hR, hg⟩ := h2
      have hs2 := hI1.sz
      have hO2 : OwnR encZ 1 w2 (w.heap.size + 2) 3 (.slice A2 v2.length c2) v2 := hO2.weak (by omega)
      have hJ := hI1.call hR hg
      have hc := hJ.cell 1 (v := .slice none 0 0) rfl
      have hf := hJ.frz 1
      have hgS : w2.grownBy (w2.setCell ⟨w.heap.size + 1, 1, none⟩ (.slice A2 v2.length c2)) (some (w.heap.size + 1)) := grown_set ⟨rfl, rfl, rfl, Nat.le_refl _, fun _ _ _ => rfl⟩
      have hO2 := hO2.kept_lt hgS (by omega)
      have hI2 : RB B r L 36 #[Value.int .i64 0, Value.slice none 0 0] w (w2.setCell ⟨w.heap.size + 1, 1, none⟩ (.slice A2 v2.length c2)) q2 #[Value.int .i64 v1, Value.slice A2 v2.length c2] := hJ.set 1 (.slice A2 v2.length c2)
      clear hJ hI1 hg hR hgS
      have hfin : rdPg L p = .ok (⟨v1, v2⟩, q2) := by unfold rdPg; rw [bnd_ok hx1, bnd_ok hx2]
      have hgR : (w2.setCell ⟨w.heap.size + 1, 1, none⟩ (.slice A2 v2.length c2)).grownBy ((w2.setCell ⟨w.heap.size + 1, 1, none⟩ (.slice A2 v2.length c2)).setRow w.heap.size #[Value.int .i64 v1, Value.slice A2 v2.length c2]) (some w.heap.size) := grown_setRow _ _ _
      have hO2 := hO2.kept_lt hgR (by omega)
      have k0 : (w2.setCell ⟨w.heap.size + 1, 1, none⟩ (.slice A2 v2.length c2)).cell? ⟨w.heap.size + 1, 0, none⟩ = some (Value.int .i64 v1) := hI2.cell 0 rfl
      have k1 : (w2.setCell ⟨w.heap.size + 1, 1, none⟩ (.slice A2 v2.length c2)).cell? ⟨w.heap.size + 1, 1, none⟩ = some (Value.slice A2 v2.length c2) := hI2.cell 1 rfl
      have H2 := Lib.hid hI2.b2
      have HI := Lib.hid hI2
      clear hI2 hgR
      go_wp2_with (refine wpList_store_row rfl 36 _ _ rfl w.heap.size 36 _ _ rfl rfl H2.out (by kernel_rfl) rfl (by simp [Value.oneCell']) ?_)
      refine bodyPost_ret (results_c rfl rfl (run_ld_block (setRow_heap _ _ _ _ _ _ H2.out) Tryd.underlying36 rfl (by kernel_rfl))) rfl ?_
      unfold Reads
      rw [hfin]
      exact ⟨⟨_, rfl, A2, c2, rfl, hO2.weak (by omega)⟩, HI.out.end_ _⟩
def StO (w : World) (base : Nat) (v : Value) (s : Stt) : Prop := ∃ A1 c1 A2 c2 A3 c3 A4 c4, v = .agg #[.slice A1 s.cells.length c1, .slice A2 s.evs.length c2, .slice A3 s.sent.length c3, .slice A4 s.outs.length c4] ∧ OwnR encZ 1 w base 3 (.slice A1 s.cells.length c1) s.cells ∧ OwnR encEv 7 w base 42 (.slice A2 s.evs.length c2) s.evs ∧ OwnR encSn 4 w base 75 (.slice A3 s.sent.length c3) s.sent ∧ OwnR encOu 2 w base 77 (.slice A4 s.outs.length c4) s.outs
set_option maxHeartbeats 2000000 in
theorem rstate_any (B r p : Nat) (L : List UInt8) (w : World) (h : Rdr B w r L p) :
    Calls Tryd.prog 30 #[.pointer (some ⟨r, 0, none⟩)] w fun e w' => Reads B r L w (rdSt L p) (fun a w' v => StO w' w.heap.size v a) e w' := by
  have hlt := h.lt
  obtain ⟨W0, hW, hI0⟩ := RB.new (T := 31) (c2 := #[Value.slice none 0 0, Value.slice none 0 0, Value.slice none 0 0, Value.slice none 0 0]) (c3 := #[Value.slice none 0 0, Value.slice none 0 0, Value.slice none 0 0, Value.slice none 0 0]) h
  go_enter Tryd.func30, Tryd.ntmps30
  go_wp2_with fail
  rw [← hW]
  clear hW
  refine (listI_any B r p L W0 hI0.rd).mono ?_
  intro e w1 h1
  unfold Reads at h1
  cases hx1 : rdList (rdInt L) L p with
  | error k =>
    rw [hx1] at h1
    obtain ⟨rfl, hg⟩ := h1
    have hgr := grown_tr hI0.gr hg
    have hfin : rdSt L p = .error k := by unfold rdSt; rw [bnd_er hx1]
    clear hI0
    go_wp2
    refine ⟨rfl, ?_⟩
    unfold Reads
    rw [hfin]
    exact ⟨rfl, hgr⟩
  | ok vq =>
    obtain ⟨v1, q1⟩ := vq
    rw [hx1] at h1
    obtain ⟨⟨_, rfl, A1, c1, rfl, hO1⟩, hR, hg⟩ := h1
    have hs1 := hI0.sz
    have hO1 : OwnR encZ 1 w1 (w.heap.size + 2) 3 (.slice A1 v1.length c1) v1 := hO1.weak (by omega)
    have hJ := hI0.call hR hg
    have hc := hJ.cell 0 (v := .slice none 0 0) rfl
    have hf := hJ.frz 0
    have hgS : w1.grownBy (w1.setCell ⟨w.heap.size + 1, 0, none⟩ (.slice A1 v1.length c1)) (some (w.heap.size + 1)) := grown_set ⟨rfl, rfl, rfl, Nat.le_refl _, fun _ _ _ => rfl⟩
    have hO1 := hO1.kept_lt hgS (by omega)
    have hI1 : RB B r L 31 #[Value.slice none 0 0, Value.slice none 0 0, Value.slice none 0 0, Value.slice none 0 0] w (w1.setCell ⟨w.heap.size + 1, 0, none⟩ (.slice A1 v1.length c1)) q1 #[Value.slice A1 v1.length c1, Value.slice none 0 0, Value.slice none 0 0, Value.slice none 0 0] := hJ.set 0 (.slice A1 v1.length c1)
    clear hJ hI0 hg hR hgS
    go_wp2_with fail
    clear hc hf
    generalize w1.setCell ⟨w.heap.size + 1, 0, none⟩ (.slice A1 v1.length c1) = W1 at *
    refine (listE_any B r q1 L W1 hI1.rd).mono ?_
    intro e w2 h2
    unfold Reads at h2
    cases hx2 : rdList (rdEv L) L q1 with
    | error k =>
      rw [hx2] at h2
      obtain ⟨rfl, hg⟩ := h2
      have hgr := grown_tr hI1.gr hg
      have hfin : rdSt L p = .error k := by unfold rdSt; rw [bnd_ok hx1, bnd_er hx2]
      clear hI1
      go_wp2
      refine ⟨rfl, ?_⟩
      unfold Reads
      rw [hfin]
      exact ⟨rfl, hgr⟩
    | ok vq =>
      obtain ⟨v2, q2⟩ := vq
      rw [hx2] at h2
      obtain ⟨⟨_, rfl, A2, c2, rfl, hO2⟩, hR, hg⟩ := h2
      have hs2 := hI1.sz
      have hO1 := hO1.kept_lt hg (by omega)
      have hO2 : OwnR encEv 7 w2 (w.heap.size + 2) 42 (.slice A2 v2.length c2) v2 := hO2.weak (by omega)
      have hJ := hI1.call hR hg
      have hc := hJ.cell 1 (v := .slice none 0 0) rfl
      have hf := hJ.frz 1
      have hgS : w2.grownBy (w2.setCell ⟨w.heap.size + 1, 1, none⟩ (.slice A2 v2.length c2)) (some (w.heap.size + 1)) := grown_set ⟨rfl, rfl, rfl, Nat.le_refl _, fun _ _ _ => rfl⟩
      have hO1 := hO1.kept_lt hgS (by omega)
      have hO2 := hO2.kept_lt hgS (by omega)
      have hI2 : RB B r L 31 #[Value.slice none 0 0, Value.slice none 0 0, Value.slice none 0 0, Value.slice none 0 0] w (w2.setCell ⟨w.heap.size + 1, 1, none⟩ (.slice A2 v2.length c2)) q2 #[Value.slice A1 v1.length c1, Value.slice A2 v2.length c2, Value.slice none 0 0, Value.slice none 0 0] := hJ.set 1 (.slice A2 v2.length c2)
      clear hJ hI1 hg hR hgS
      go_wp2_with fail
      clear hc hf
      generalize w2.setCell ⟨w.heap.size + 1, 1, none⟩ (.slice A2 v2.length c2) = W2 at *
      refine (listS_any B r q2 L W2 hI2.rd).mono ?_
      intro e w3 h3
      unfold Reads at h3
      cases hx3 : rdList (rdSn L) L q2 with
      | error k =>
        rw [hx3] at h3
        obtain ⟨rfl, hg⟩ := h3
        have hgr := grown_tr hI2.gr hg
        have hfin : rdSt L p = .error k := by unfold rdSt; rw [bnd_ok hx1, bnd_ok hx2, bnd_er hx3]
        clear hI2
        go_wp2
        refine ⟨rfl, ?_⟩
        unfold Reads
        rw [hfin]
        exact ⟨rfl, hgr⟩
      | ok vq =>
        obtain ⟨v3, q3⟩ := vq
        rw [hx3] at h3
        obtain ⟨⟨_, rfl, A3, c3, rfl, hO3⟩, hR, hg⟩ := h3
        have hs3 := hI2.sz
        have hO1 := hO1.kept_lt hg (by omega)
        have hO2 := hO2.kept_lt hg (by omega)
        have hO3 : OwnR encSn 4 w3 (w.heap.size + 2) 75 (.slice A3 v3.length c3) v3 := hO3.weak (by omega)
        have hJ := hI2.call hR hg
        have hc := hJ.cell 2 (v := .slice none 0 0) rfl
        have hf := hJ.frz 2
        have hgS : w3.grownBy (w3.setCell ⟨w.heap.size + 1, 2, none⟩ (.slice A3 v3.length c3)) (some (w.heap.size + 1)) := grown_set ⟨rfl, rfl, rfl, Nat.le_refl _, fun _ _ _ => rfl⟩
        have hO1 := hO1.kept_lt hgS (by omega)
        have hO2 := hO2.kept_lt hgS (by omega)
        have hO3 := hO3.kept_lt hgS (by omega)
        have hI3 : RB B r L 31 #[Value.slice none 0 0, Value.slice none 0 0, Value.slice none 0 0, Value.slice none 0 0] w (w3.setCell ⟨w.heap.size + 1, 2, none⟩ (.slice A3 v3.length c3)) q3 #[Value.slice A1 v1.length c1, Value.slice A2 v2.length c2, Value.slice A3 v3.length c3, Value.slice none 0 0] := hJ.set 2 (.slice A3 v3.length c3)
        clear hJ hI2 hg hR hgS
        go_wp2_with fail
        clear hc hf
        generalize w3.setCell ⟨w.heap.size + 1, 2, none⟩ (.slice A3 v3.length c3) = W3 at *
        refine (listO_any B r q3 L W3 hI3.rd).mono ?_
        intro e w4 h4
        unfold Reads at h4
        cases hx4 : rdList (rdOu L) L q3 with
        | error k =>
          rw [hx4] at h4
          obtain ⟨rfl, hg⟩ := h4
          have hgr := grown_tr hI3.gr hg
          have hfin : rdSt L p = .error k := by unfold rdSt; rw [bnd_ok hx1, bnd_ok hx2, bnd_ok hx3, bnd_er hx4]
          clear hI3
          go_wp2
          refine ⟨rfl, ?_⟩
          unfold Reads
          rw [hfin]
          exact ⟨rfl, hgr⟩
        | ok vq =>
          obtain ⟨v4, q4⟩ := vq
          rw [hx4] at h4
          obtain ⟨⟨_, rfl, A4, c4, rfl, hO4⟩, hR, hg⟩ := h4
          have hs4 := hI3.sz
          have hO1 := hO1.kept_lt hg (by omega)
          have hO2 := hO2.kept_lt hg (by omega)
          have hO3 := hO3.kept_lt hg (by omega)
          have hO4 : OwnR encOu 2 w4 (w.heap.size + 2) 77 (.slice A4 v4.length c4) v4 := hO4.weak (by omega)
          have hJ := hI3.call hR hg
          have hc := hJ.cell 3 (v := .slice none 0 0) rfl
          have hf := hJ.frz 3
          have hgS : w4.grownBy (w4.setCell ⟨w.heap.size + 1, 3, none⟩ (.slice A4 v4.length c4)) (some (w.heap.size + 1)) := grown_set ⟨rfl, rfl, rfl, Nat.le_refl _, fun _ _ _ => rfl⟩
          have hO1 := hO1.kept_lt hgS (by omega)
          have hO2 := hO2.kept_lt hgS (by omega)
          have hO3 := hO3.kept_lt hgS (by omega)
          have hO4 := hO4.kept_lt hgS (by omega)
          have hI4 : RB B r L 31 #[Value.slice none 0 0, Value.slice none 0 0, Value.slice none 0 0, Value.slice none 0 0] w (w4.setCell ⟨w.heap.size + 1, 3, none⟩ (.slice A4 v4.length c4)) q4 #[Value.slice A1 v1.length c1, Value.slice A2 v2.length c2, Value.slice A3 v3.length c3, Value.slice A4 v4.length c4] := hJ.set 3 (.slice A4 v4.length c4)
          clear hJ hI3 hg hR hgS
          have hfin : rdSt L p = .ok (⟨v1, v2, v3, v4⟩, q4) := by unfold rdSt; rw [bnd_ok hx1, bnd_ok hx2, bnd_ok hx3, bnd_ok hx4]
          have hgR : (w4.setCell ⟨w.heap.size + 1, 3, none⟩ (.slice A4 v4.length c4)).grownBy ((w4.setCell ⟨w.heap.size + 1, 3, none⟩ (.slice A4 v4.length c4)).setRow w.heap.size #[Value.slice A1 v1.length c1, Value.slice A2 v2.length c2, Value.slice A3 v3.length c3, Value.slice A4 v4.length c4]) (some w.heap.size) := grown_setRow _ _ _
          have hO1 := hO1.kept_lt hgR (by omega)
          have hO2 := hO2.kept_lt hgR (by omega)
          have hO3 := hO3.kept_lt hgR (by omega)
          have hO4 := hO4.kept_lt hgR (by omega)
          have k0 : (w4.setCell ⟨w.heap.size + 1, 3, none⟩ (.slice A4 v4.length c4)).cell? ⟨w.heap.size + 1, 0, none⟩ = some (Value.slice A1 v1.length c1) := hI4.cell 0 rfl
          have k1 : (w4.setCell ⟨w.heap.size + 1, 3, none⟩ (.slice A4 v4.length c4)).cell? ⟨w.heap.size + 1, 1, none⟩ = some (Value.slice A2 v2.length c2) := hI4.cell 1 rfl
          have k2 : (w4.setCell ⟨w.heap.size + 1, 3, none⟩ (.slice A4 v4.length c4)).cell? ⟨w.heap.size + 1, 2, none⟩ = some (Value.slice A3 v3.length c3) := hI4.cell 2 rfl
          have k3 : (w4.setCell ⟨w.heap.size + 1, 3, none⟩ (.slice A4 v4.length c4)).cell? ⟨w.heap.size + 1, 3, none⟩ = some (Value.slice A4 v4.length c4) := hI4.cell 3 rfl
          have H2 := Lib.hid hI4.b2
          have HI := Lib.hid hI4
          clear hI4 hgR
          go_wp2_with (refine wpList_store_row rfl 31 _ _ rfl w.heap.size 31 _ _ rfl rfl H2.out (by kernel_rfl) rfl (by simp [Value.oneCell']) ?_)
          refine bodyPost_ret (results_c rfl rfl (run_ld_block (setRow_heap _ _ _ _ _ _ H2.out) Tryd.underlying31 rfl (by kernel_rfl))) rfl ?_
          unfold Reads
          rw [hfin]
          exact ⟨⟨_, rfl, A1, c1, A2, c2, A3, c3, A4, c4, rfl, hO1.weak (by omega), hO2.weak (by omega), hO3.weak (by omega), hO4.weak (by omega)⟩, HI.out.end_ _⟩
set_option maxHeartbeats 2000000 in
theorem rdet_any (B r p : Nat) (L : List UInt8) (w : World) (h : Rdr B w r L p) :
    Calls Tryd.prog 38 #[.pointer (some ⟨r, 0, none⟩)] w fun e w' => Reads B r L w (rdDt L p) (fun a _ v => v = dtV a) e w' := by
  obtain ⟨W0, hW, hI0⟩ := RB.new (T := 45) (c2 := #[Value.int .i64 0, Value.int .i64 0, Value.int .i64 0, Value.int .i64 0, Value.int .i64 0, Value.int .i64 0, Value.int .i64 0, Value.int .i64 0, Value.int .i64 0]) (c3 := #[Value.int .i64 0, Value.int .i64 0, Value.int .i64 0, Value.int .i64 0, Value.int .i64 0, Value.int .i64 0, Value.int .i64 0, Value.int .i64 0, Value.int .i64 0]) h
  go_enter Tryd.func38, Tryd.ntmps38
  go_wp2_with fail
  rw [← hW]
  clear hW
  refine (rint_any B r p L W0 hI0.rd).mono ?_
  intro e w1 h1
  unfold Reads at h1
  cases hx1 : rdInt L p with
  | error k =>
    rw [hx1] at h1
    obtain ⟨rfl, hg⟩ := h1
    have hgr := grown_tr hI0.gr hg
    have hfin : rdDt L p = .error k := by unfold rdDt; rw [bnd_er hx1]
    clear hI0
    go_wp2
    refine ⟨rfl, ?_⟩
    unfold Reads
    rw [hfin]
    exact ⟨rfl, hgr⟩
  | ok vq =>
    obtain ⟨v1, q1⟩ := vq
    rw [hx1] at h1
    obtain ⟨⟨_, rfl, rfl⟩, hR, hg⟩ := h1
    have hJ := hI0.call hR hg
    have hc := hJ.cell 0 (v := .int .i64 0) rfl
    have hf := hJ.frz 0
    have hI1 : RB B r L 45 #[Value.int .i64 0, Value.int .i64 0, Value.int .i64 0, Value.int .i64 0, Value.int .i64 0, Value.int .i64 0, Value.int .i64 0, Value.int .i64 0, Value.int .i64 0] w (w1.setCell ⟨w.heap.size + 1, 0, none⟩ (.int .i64 v1)) q1 #[Value.int .i64 v1, Value.int .i64 0, Value.int .i64 0, Value.int .i64 0, Value.int .i64 0, Value.int .i64 0, Value.int .i64 0, Value.int .i64 0, Value.int .i64 0] := hJ.set 0 (.int .i64 v1)
    clear hJ hI0 hg hR
    go_wp2_with fail
    clear hc hf
    generalize w1.setCell ⟨w.heap.size + 1, 0, none⟩ (.int .i64 v1) = W1 at *
    refine (rint_any B r q1 L W1 hI1.rd).mono ?_
    intro e w2 h2
    unfold Reads at h2
    cases hx2 : rdInt L q1 with
    | error k =>
      rw [hx2] at h2
      obtain ⟨rfl, hg⟩ := h2
      have hgr := grown_tr hI1.gr hg
      have hfin : rdDt L p = .error k := by unfold rdDt; rw [bnd_ok hx1, bnd_er hx2]
      clear hI1
      go_wp2
      refine ⟨rfl, ?_⟩
      unfold Reads
      rw [hfin]
      exact ⟨rfl, hgr⟩
    | ok vq =>
      obtain ⟨v2, q2⟩ := vq
      rw [hx2] at h2
      obtain ⟨⟨_, rfl, rfl⟩, hR, hg⟩ := h2
      have hJ := hI1.call hR hg
      have hc := hJ.cell 1 (v := .int .i64 0) rfl
      have hf := hJ.frz 1
      have hI2 : RB B r L 45 #[Value.int .i64 0, Value.int .i64 0, Value.int .i64 0, Value.int .i64 0, Value.int .i64 0, Value.int .i64 0, Value.int .i64 0, Value.int .i64 0, Value.int .i64 0] w (w2.setCell ⟨w.heap.size + 1, 1, none⟩ (.int .i64 v2)) q2 #[Value.int .i64 v1, Value.int .i64 v2, Value.int .i64 0, Value.int .i64 0, Value.int .i64 0, Value.int .i64 0, Value.int .i64 0, Value.int .i64 0, Value.int .i64 0] := hJ.set 1 (.int .i64 v2)
      clear hJ hI1 hg hR
      go_wp2_with fail
      clear hc hf
      generalize w2.setCell ⟨w.heap.size + 1, 1, none⟩ (.int .i64 v2) = W2 at *
      refine (revent_any B r q2 L W2 hI2.rd).mono ?_
      intro e w3 h3
      unfold Reads at h3
      cases hx3 : rdEv L q2 with
      | error k =>
        rw [hx3] at h3
        obtain ⟨rfl, hg⟩ := h3
        have hgr := grown_tr hI2.gr hg
        have hfin : rdDt L p = .error k := by unfold rdDt; rw [bnd_ok hx1, bnd_ok hx2, bnd_er hx3]
        clear hI2
        go_wp2
        refine ⟨rfl, ?_⟩
        unfold Reads
        rw [hfin]
        exact ⟨rfl, hgr⟩
      | ok vq =>
        obtain ⟨v3, q3⟩ := vq
        rw [hx3] at h3
        obtain ⟨⟨_, rfl, hv⟩, hR, hg⟩ := h3
        unfold evV at hv
        subst hv
        have hJ := hI2.call hR hg
        have hfin : rdDt L p = .ok (⟨v1, v2, v3⟩, q3) := by unfold rdDt; rw [bnd_ok hx1, bnd_ok hx2, bnd_ok hx3]
        have c2 := hJ.cell 2 (v := .int .i64 0) rfl
        have f2 := hJ.frz 2
        have c3 := hJ.cell 3 (v := .int .i64 0) rfl
        have f3 := hJ.frz 3
        have c4 := hJ.cell 4 (v := .int .i64 0) rfl
        have f4 := hJ.frz 4
        have c5 := hJ.cell 5 (v := .int .i64 0) rfl
        have f5 := hJ.frz 5
        have c6 := hJ.cell 6 (v := .int .i64 0) rfl
        have f6 := hJ.frz 6
        have c7 := hJ.cell 7 (v := .int .i64 0) rfl
        have f7 := hJ.frz 7
        have c8 := hJ.cell 8 (v := .int .i64 0) rfl
        have f8 := hJ.frz 8
        have hK0 : RB B r L 45 #[Value.int .i64 0, Value.int .i64 0, Value.int .i64 0, Value.int .i64 0, Value.int .i64 0, Value.int .i64 0, Value.int .i64 0, Value.int .i64 0, Value.int .i64 0] w (w3.setCell ⟨w.heap.size + 1, 2, none⟩ (.int .i64 v3.k0)) q3 #[Value.int .i64 v1, Value.int .i64 v2, Value.int .i64 v3.k0, Value.int .i64 0, Value.int .i64 0, Value.int .i64 0, Value.int .i64 0, Value.int .i64 0, Value.int .i64 0] := hJ.set 2 (.int .i64 v3.k0)
        have hK1 : RB B r L 45 #[Value.int .i64 0, Value.int .i64 0, Value.int .i64 0, Value.int .i64 0, Value.int .i64 0, Value.int .i64 0, Value.int .i64 0, Value.int .i64 0, Value.int .i64 0] w ((w3.setCell ⟨w.heap.size + 1, 2, none⟩ (.int .i64 v3.k0)).setCell ⟨w.heap.size + 1, 3, none⟩ (.int .i64 v3.k1)) q3 #[Value.int .i64 v1, Value.int .i64 v2, Value.int .i64 v3.k0, Value.int .i64 v3.k1, Value.int .i64 0, Value.int .i64 0, Value.int .i64 0, Value.int .i64 0, Value.int .i64 0] := hK0.set 3 (.int .i64 v3.k1)
        have hK2 : RB B r L 45 #[Value.int .i64 0, Value.int .i64 0, Value.int .i64 0, Value.int .i64 0, Value.int .i64 0, Value.int .i64 0, Value.int .i64 0, Value.int .i64 0, Value.int .i64 0] w (((w3.setCell ⟨w.heap.size + 1, 2, none⟩ (.int .i64 v3.k0)).setCell ⟨w.heap.size + 1, 3, none⟩ (.int .i64 v3.k1)).setCell ⟨w.heap.size + 1, 4, none⟩ (.int .i64 v3.k2)) q3 #[Value.int .i64 v1, Value.int .i64 v2, Value.int .i64 v3.k0, Value.int .i64 v3.k1, Value.int .i64 v3.k2, Value.int .i64 0, Value.int .i64 0, Value.int .i64 0, Value.int .i64 0] := hK1.set 4 (.int .i64 v3.k2)
        have hK3 : RB B r L 45 #[Value.int .i64 0, Value.int .i64 0, Value.int .i64 0, Value.int .i64 0, Value.int .i64 0, Value.int .i64 0, Value.int .i64 0, Value.int .i64 0, Value.int .i64 0] w ((((w3.setCell ⟨w.heap.size + 1, 2, none⟩ (.int .i64 v3.k0)).setCell ⟨w.heap.size + 1, 3, none⟩ (.int .i64 v3.k1)).setCell ⟨w.heap.size + 1, 4, none⟩ (.int .i64 v3.k2)).setCell ⟨w.heap.size + 1, 5, none⟩ (.int .i64 v3.k3)) q3 #[Value.int .i64 v1, Value.int .i64 v2, Value.int .i64 v3.k0, Value.int .i64 v3.k1, Value.int .i64 v3.k2, Value.int .i64 v3.k3, Value.int .i64 0, Value.int .i64 0, Value.int .i64 0] := hK2.set 5 (.int .i64 v3.k3)
        have hK4 : RB B r L 45 #[Value.int .i64 0, Value.int .i64 0, Value.int .i64 0, Value.int .i64 0, Value.int .i64 0, Value.int .i64 0, Value.int .i64 0, Value.int .i64 0, Value.int .i64 0] w (((((w3.setCell ⟨w.heap.size + 1, 2, none⟩ (.int .i64 v3.k0)).setCell ⟨w.heap.size + 1, 3, none⟩ (.int .i64 v3.k1)).setCell ⟨w.heap.size + 1, 4, none⟩ (.int .i64 v3.k2)).setCell ⟨w.heap.size + 1, 5, none⟩ (.int .i64 v3.k3)).setCell ⟨w.heap.size + 1, 6, none⟩ (.int .i64 v3.k4)) q3 #[Value.int .i64 v1, Value.int .i64 v2, Value.int .i64 v3.k0, Value.int .i64 v3.k1, Value.int .i64 v3.k2, Value.int .i64 v3.k3, Value.int .i64 v3.k4, Value.int .i64 0, Value.int .i64 0] := hK3.set 6 (.int .i64 v3.k4)
        have hK5 : RB B r L 45 #[Value.int .i64 0, Value.int .i64 0, Value.int .i64 0, Value.int .i64 0, Value.int .i64 0, Value.int .i64 0, Value.int .i64 0, Value.int .i64 0, Value.int .i64 0] w ((((((w3.setCell ⟨w.heap.size + 1, 2, none⟩ (.int .i64 v3.k0)).setCell ⟨w.heap.size + 1, 3, none⟩ (.int .i64 v3.k1)).setCell ⟨w.heap.size + 1, 4, none⟩ (.int .i64 v3.k2)).setCell ⟨w.heap.size + 1, 5, none⟩ (.int .i64 v3.k3)).setCell ⟨w.heap.size + 1, 6, none⟩ (.int .i64 v3.k4)).setCell ⟨w.heap.size + 1, 7, none⟩ (.int .i64 v3.k5)) q3 #[Value.int .i64 v1, Value.int .i64 v2, Value.int .i64 v3.k0, Value.int .i64 v3.k1, Value.int .i64 v3.k2, Value.int .i64 v3.k3, Value.int .i64 v3.k4, Value.int .i64 v3.k5, Value.int .i64 0] := hK4.set 7 (.int .i64 v3.k5)
        have hK6 : RB B r L 45 #[Value.int .i64 0, Value.int .i64 0, Value.int .i64 0, Value.int .i64 0, Value.int .i64 0, Value.int .i64 0, Value.int .i64 0, Value.int .i64 0, Value.int .i64 0] w (((((((w3.setCell ⟨w.heap.size + 1, 2, none⟩ (.int .i64 v3.k0)).setCell ⟨w.heap.size + 1, 3, none⟩ (.int .i64 v3.k1)).setCell ⟨w.heap.size + 1, 4, none⟩ (.int .i64 v3.k2)).setCell ⟨w.heap.size + 1, 5, none⟩ (.int .i64 v3.k3)).setCell ⟨w.heap.size + 1, 6, none⟩ (.int .i64 v3.k4)).setCell ⟨w.heap.size + 1, 7, none⟩ (.int .i64 v3.k5)).setCell ⟨w.heap.size + 1, 8, none⟩ (.int .i64 v3.k6)) q3 #[Value.int .i64 v1, Value.int .i64 v2, Value.int .i64 v3.k0, Value.int .i64 v3.k1, Value.int .i64 v3.k2, Value.int .i64 v3.k3, Value.int .i64 v3.k4, Value.int .i64 v3.k5, Value.int .i64 v3.k6] := hK5.set 8 (.int .i64 v3.k6)
        have HK := Lib.hid hK6
        have HJ := Lib.hid hJ
        have k0 : (((((((w3.setCell ⟨w.heap.size + 1, 2, none⟩ (.int .i64 v3.k0)).setCell ⟨w.heap.size + 1, 3, none⟩ (.int .i64 v3.k1)).setCell ⟨w.heap.size + 1, 4, none⟩ (.int .i64 v3.k2)).setCell ⟨w.heap.size + 1, 5, none⟩ (.int .i64 v3.k3)).setCell ⟨w.heap.size + 1, 6, none⟩ (.int .i64 v3.k4)).setCell ⟨w.heap.size + 1, 7, none⟩ (.int .i64 v3.k5)).setCell ⟨w.heap.size + 1, 8, none⟩ (.int .i64 v3.k6)).cell? ⟨w.heap.size + 1, 0, none⟩ = some (Value.int .i64 v1) := hK6.cell 0 rfl
        have k1 : (((((((w3.setCell ⟨w.heap.size + 1, 2, none⟩ (.int .i64 v3.k0)).setCell ⟨w.heap.size + 1, 3, none⟩ (.int .i64 v3.k1)).setCell ⟨w.heap.size + 1, 4, none⟩ (.int .i64 v3.k2)).setCell ⟨w.heap.size + 1, 5, none⟩ (.int .i64 v3.k3)).setCell ⟨w.heap.size + 1, 6, none⟩ (.int .i64 v3.k4)).setCell ⟨w.heap.size + 1, 7, none⟩ (.int .i64 v3.k5)).setCell ⟨w.heap.size + 1, 8, none⟩ (.int .i64 v3.k6)).cell? ⟨w.heap.size + 1, 1, none⟩ = some (Value.int .i64 v2) := hK6.cell 1 rfl
        have k2 : (((((((w3.setCell ⟨w.heap.size + 1, 2, none⟩ (.int .i64 v3.k0)).setCell ⟨w.heap.size + 1, 3, none⟩ (.int .i64 v3.k1)).setCell ⟨w.heap.size + 1, 4, none⟩ (.int .i64 v3.k2)).setCell ⟨w.heap.size + 1, 5, none⟩ (.int .i64 v3.k3)).setCell ⟨w.heap.size + 1, 6, none⟩ (.int .i64 v3.k4)).setCell ⟨w.heap.size + 1, 7, none⟩ (.int .i64 v3.k5)).setCell ⟨w.heap.size + 1, 8, none⟩ (.int .i64 v3.k6)).cell? ⟨w.heap.size + 1, 2, none⟩ = some (Value.int .i64 v3.k0) := hK6.cell 2 rfl
        have k3 : (((((((w3.setCell ⟨w.heap.size + 1, 2, none⟩ (.int .i64 v3.k0)).setCell ⟨w.heap.size + 1, 3, none⟩ (.int .i64 v3.k1)).setCell ⟨w.heap.size + 1, 4, none⟩ (.int .i64 v3.k2)).setCell ⟨w.heap.size + 1, 5, none⟩ (.int .i64 v3.k3)).setCell ⟨w.heap.size + 1, 6, none⟩ (.int .i64 v3.k4)).setCell ⟨w.heap.size + 1, 7, none⟩ (.int .i64 v3.k5)).setCell ⟨w.heap.size + 1, 8, none⟩ (.int .i64 v3.k6)).cell? ⟨w.heap.size + 1, 3, none⟩ = some (Value.int .i64 v3.k1) := hK6.cell 3 rfl
        have k4 : (((((((w3.setCell ⟨w.heap.size + 1, 2, none⟩ (.int .i64 v3.k0)).setCell ⟨w.heap.size + 1, 3, none⟩ (.int .i64 v3.k1)).setCell ⟨w.heap.size + 1, 4, none⟩ (.int .i64 v3.k2)).setCell ⟨w.heap.size + 1, 5, none⟩ (.int .i64 v3.k3)).setCell ⟨w.heap.size + 1, 6, none⟩ (.int .i64 v3.k4)).setCell ⟨w.heap.size + 1, 7, none⟩ (.int .i64 v3.k5)).setCell ⟨w.heap.size + 1, 8, none⟩ (.int .i64 v3.k6)).cell? ⟨w.heap.size + 1, 4, none⟩ = some (Value.int .i64 v3.k2) := hK6.cell 4 rfl
        have k5 : (((((((w3.setCell ⟨w.heap.size + 1, 2, none⟩ (.int .i64 v3.k0)).setCell ⟨w.heap.size + 1, 3, none⟩ (.int .i64 v3.k1)).setCell ⟨w.heap.size + 1, 4, none⟩ (.int .i64 v3.k2)).setCell ⟨w.heap.size + 1, 5, none⟩ (.int .i64 v3.k3)).setCell ⟨w.heap.size + 1, 6, none⟩ (.int .i64 v3.k4)).setCell ⟨w.heap.size + 1, 7, none⟩ (.int .i64 v3.k5)).setCell ⟨w.heap.size + 1, 8, none⟩ (.int .i64 v3.k6)).cell? ⟨w.heap.size + 1, 5, none⟩ = some (Value.int .i64 v3.k3) := hK6.cell 5 rfl
        have k6 : (((((((w3.setCell ⟨w.heap.size + 1, 2, none⟩ (.int .i64 v3.k0)).setCell ⟨w.heap.size + 1, 3, none⟩ (.int .i64 v3.k1)).setCell ⟨w.heap.size + 1, 4, none⟩ (.int .i64 v3.k2)).setCell ⟨w.heap.size + 1, 5, none⟩ (.int .i64 v3.k3)).setCell ⟨w.heap.size + 1, 6, none⟩ (.int .i64 v3.k4)).setCell ⟨w.heap.size + 1, 7, none⟩ (.int .i64 v3.k5)).setCell ⟨w.heap.size + 1, 8, none⟩ (.int .i64 v3.k6)).cell? ⟨w.heap.size + 1, 6, none⟩ = some (Value.int .i64 v3.k4) := hK6.cell 6 rfl
        have k7 : (((((((w3.setCell ⟨w.heap.size + 1, 2, none⟩ (.int .i64 v3.k0)).setCell ⟨w.heap.size + 1, 3, none⟩ (.int .i64 v3.k1)).setCell ⟨w.heap.size + 1, 4, none⟩ (.int .i64 v3.k2)).setCell ⟨w.heap.size + 1, 5, none⟩ (.int .i64 v3.k3)).setCell ⟨w.heap.size + 1, 6, none⟩ (.int .i64 v3.k4)).setCell ⟨w.heap.size + 1, 7, none⟩ (.int .i64 v3.k5)).setCell ⟨w.heap.size + 1, 8, none⟩ (.int .i64 v3.k6)).cell? ⟨w.heap.size + 1, 7, none⟩ = some (Value.int .i64 v3.k5) := hK6.cell 7 rfl
        have k8 : (((((((w3.setCell ⟨w.heap.size + 1, 2, none⟩ (.int .i64 v3.k0)).setCell ⟨w.heap.size + 1, 3, none⟩ (.int .i64 v3.k1)).setCell ⟨w.heap.size + 1, 4, none⟩ (.int .i64 v3.k2)).setCell ⟨w.heap.size + 1, 5, none⟩ (.int .i64 v3.k3)).setCell ⟨w.heap.size + 1, 6, none⟩ (.int .i64 v3.k4)).setCell ⟨w.heap.size + 1, 7, none⟩ (.int .i64 v3.k5)).setCell ⟨w.heap.size + 1, 8, none⟩ (.int .i64 v3.k6)).cell? ⟨w.heap.size + 1, 8, none⟩ = some (Value.int .i64 v3.k6) := hK6.cell 8 rfl
        have H2 := Lib.hid hK6.b2
        clear hK0 hK1 hK2 hK3 hK4 hK5 hK6 hI2 hg hR hJ
        go_wp2_with (refine wpList_stop 13 rfl ?_)
        refine ⟨?_⟩
        clear c2 c3 c4 c5 c6 c7 c8 f2 f3 f4 f5 f6 f7 f8
        generalize (((((((w3.setCell ⟨w.heap.size + 1, 2, none⟩ (.int .i64 v3.k0)).setCell ⟨w.heap.size + 1, 3, none⟩ (.int .i64 v3.k1)).setCell ⟨w.heap.size + 1, 4, none⟩ (.int .i64 v3.k2)).setCell ⟨w.heap.size + 1, 5, none⟩ (.int .i64 v3.k3)).setCell ⟨w.heap.size + 1, 6, none⟩ (.int .i64 v3.k4)).setCell ⟨w.heap.size + 1, 7, none⟩ (.int .i64 v3.k5)).setCell ⟨w.heap.size + 1, 8, none⟩ (.int .i64 v3.k6)) = WW at *
        go_wp2_with (refine wpList_store_row rfl 45 _ _ rfl w.heap.size 45 _ _ rfl rfl H2.out (by kernel_rfl) rfl (by simp [Value.oneCell']) ?_)
        refine bodyPost_ret (results_c rfl rfl (run_ld_block (setRow_heap _ _ _ _ _ _ H2.out) Tryd.underlying45 rfl (by kernel_rfl))) rfl ?_
        unfold Reads
        rw [hfin]
        exact ⟨⟨_, rfl, rfl⟩, HK.out.end_ _⟩
end Go.Proofs.YtiblijmngokcgaaDoor
namespace Go.Proofs.YtiblijmngokcgaaDoor
open Go.RowKit
set_option maxRecDepth 100000
set_option linter.unusedVariables false
theorem encPg_one (x : PgV) : ∀ u ∈ encPg x, u.oneCell' = true := by
  intro u hu
  simp [encPg] at hu
  rcases hu with rfl | rfl <;> rfl
def PgsOwn (base : Nat) (w : World) (v : Value) (ts : List Pg) : Prop := ∃ xs, OwnR encPg 2 w base 36 v xs ∧ xs.length = ts.length ∧ ∀ (i : Nat) (x : PgV) (t : Pg), xs[i]? = some x → ts[i]? = some t → x.num = t.num ∧ Recs encZ (fun b => base ≤ b ∧ v.ownBlock ≠ some b) w (.slice x.A x.n x.c) t.cells
theorem PgsOwn.nil_ (base : Nat) (w : World) : PgsOwn base w (.slice none 0 0) [] := ⟨[], OwnR.nil_ _ _ _, rfl, fun i x t hx => by simp at hx⟩
theorem PgsOwn.pgs {base : Nat} {w : World} {v : Value} {ts : List Pg} (h : PgsOwn base w v ts) : Pgs (base ≤ ·) w v ts := by
  obtain ⟨xs, h1, h2, h3⟩ := h
  exact ⟨xs, h1.recs.mono (fun _ _ h => h.1), h2, fun i x t hx ht => ⟨(h3 i x t hx ht).1, (h3 i x t hx ht).2.mono (fun _ _ h => h.1)⟩⟩
theorem PgsOwn.len {base : Nat} {w : World} {A : Option Addr} {n c : Nat} {ts : List Pg} (h : PgsOwn base w (.slice A n c) ts) : ts.length = n ∧ n ≤ c ∧ c ≤ 9223372036854775807 := h.pgs.len
theorem PgsOwn.kept {base g : Nat} {w w' : World} {v : Value} {ts : List Pg} (h : PgsOwn base w v ts) (hg : w.grownBy w' (some g)) (hlt : g < base) : PgsOwn base w' v ts := by
  obtain ⟨xs, h1, h2, h3⟩ := h
  refine ⟨xs, h1.kept hg ?_, h2, fun i x t hx ht => ⟨(h3 i x t hx ht).1, (h3 i x t hx ht).2.keep (fun b hb hs => hg.block b hb (fun e => by cases e; omega))⟩⟩
  rcases Option.eq_none_or_eq_some v.ownBlock with h0 | ⟨m, h0⟩
  · exact .inl h0
  · refine .inr (fun e => ?_)
    rw [h0] at e
    cases e
    have := (World.ownsRow.lt h1 _ h0).1
    omega
theorem cells_keep {base : Nat} {w w' : World} {v v' : Value} {u : Value} {l : List Int} (h : Recs encZ (fun b => base ≤ b ∧ v.ownBlock ≠ some b) w u l) (hg : w.grownBy w' v.ownBlock) (hat : v'.ownBlock = v.ownBlock ∨ v'.ownBlock = some w.heap.size) :
    Recs encZ (fun b => base ≤ b ∧ v'.ownBlock ≠ some b) w' u l := by
  have h1 : Recs encZ (fun b => base ≤ b ∧ v.ownBlock ≠ some b ∧ b < w.heap.size) w u l := h.mono (fun b hb hs => ⟨hs.1, hs.2, hb⟩)
  refine (h1.keep (fun b hb hs => hg.block b hb (fun e => hs.2.1 e.symm))).mono (fun b _ hs => ⟨hs.1, fun e => ?_⟩)
  rcases hat with h2 | h2
  · exact hs.2.1 (h2.symm.trans e)
  · rw [h2] at e
    cases e
    exact Nat.lt_irrefl _ hs.2.2
theorem PgsOwn.push {base : Nat} {w w' : World} {v v' : Value} {ts : List Pg} {xs : List PgV} (hx : xs.length = ts.length ∧ ∀ (i : Nat) (x : PgV) (t : Pg), xs[i]? = some x → ts[i]? = some t → x.num = t.num ∧ Recs encZ (fun b => base ≤ b ∧ v.ownBlock ≠ some b) w (.slice x.A x.n x.c) t.cells)
    (x : PgV) (t : Pg) (h1 : x.num = t.num) (h2 : Recs encZ (fun b => base ≤ b ∧ v.ownBlock ≠ some b) w (.slice x.A x.n x.c) t.cells) (hown : OwnR encPg 2 w' base 36 v' (xs ++ [x])) (hg : w.grownBy w' v.ownBlock) (hat : v'.ownBlock = v.ownBlock ∨ v'.ownBlock = some w.heap.size) : PgsOwn base w' v' (ts ++ [t]) := by
  refine ⟨_, hown, by simp [hx.1], fun i x' t' hx' ht' => ?_⟩
  rcases Nat.lt_or_ge i xs.length with hi | hi
  · rw [List.getElem?_append_left hi] at hx'
    rw [List.getElem?_append_left (by omega)] at ht'
    obtain ⟨g1, g2⟩ := hx.2 i x' t' hx' ht'
    exact ⟨g1, cells_keep g2 hg hat⟩
  · rw [List.getElem?_append_right hi] at hx'
    rw [List.getElem?_append_right (by omega)] at ht'
    have hi' : i - xs.length = 0 := by
      rcases Nat.eq_zero_or_pos (i - xs.length) with h | h
      · exact h
      · rw [List.getElem?_eq_none (by simp; omega)] at hx'
        cases hx'
    rw [hi'] at hx'
    rw [← hx.1, hi'] at ht'
    cases hx'
    cases ht'
    exact ⟨h1, cells_keep h2 hg hat⟩
theorem infoP_ : (Tryd.prog.info? 36).map (fun i => (i.zero, i.size, i.bytes)) = some (some (.agg #[.int .i64 0, .slice none 0 0]), 2, 32) := by kernel_rfl
set_option maxHeartbeats 2000000 in
theorem listP_any (B r p : Nat) (L : List UInt8) (w : World) (h : Rdr B w r L p) :
    Calls Tryd.prog 55 #[.pointer (some ⟨r, 0, none⟩), .func (.func 56) #[] #[]] w fun e w' => Reads B r L w (rdList (rdPg L) L p) (fun a w' v => ∃ A c, v = .slice A a.length c ∧ PgsOwn w.heap.size w' v a) e w' := by
  have hlt := h.lt
  go_enter Tryd.func55, Tryd.ntmps55
  go_wp2_with fail
  refine (rint_any B r p L w h).mono ?_
  intro e w1 h1
  unfold Reads at h1
  cases hx : rdInt L p with
  | error k =>
    rw [hx] at h1
    obtain ⟨rfl, hg⟩ := h1
    have hfin : rdList (rdPg L) L p = .error k := by unfold rdList; rw [bnd_er hx]
    go_wp2
    refine ⟨rfl, ?_⟩
    unfold Reads
    rw [hfin]
    exact ⟨rfl, hg⟩
  | ok vq =>
    obtain ⟨n, q⟩ := vq
    rw [hx] at h1
    obtain ⟨⟨_, rfl, rfl⟩, hR1, hg1⟩ := h1
    have HR := Lib.hid hR1
    obtain ⟨hB, A, c, hrow, hby, hq, hL⟩ := hR1
    have h0 : w1.cell? ⟨r, 0, none⟩ = some (.slice A L.length c) := by rw [cell_of_row _ _ _ _ _ _ hrow]; rfl
    have h1 : w1.cell? ⟨r, 1, none⟩ = some (.int .i64 (q : Int)) := by rw [cell_of_row _ _ _ _ _ _ hrow]; rfl
    clear hrow hby h
    by_cases hneg : n < 0
    · have d0 : decide (n < 0) = true := by simp; omega
      have hfin : rdList (rdPg L) L p = .error 9 := rdList_bad hx (.inl hneg)
      go_wp2_with fail
      refine wp_region_lex (fun _ => True) (by kernel_rfl) (by kernel_rfl) trivial ?_
      repeat (first | (refine lex_q rfl ⟨default, trivial⟩ ?_; go_big_quiet_step (fail); refine wpQuiet_nil ?_) | (refine lex_skip rfl rfl trivial ?_; simp only [Act.put, List.setIfInBounds_toArray, List.set_cons_succ, List.set_cons_zero]) | (refine lex_e rfl ?_; go_wp2_with fail; refine lex_go trivial ?_))
      refine lex_nil ?_
      go_wp2_with fail
      go_wp2
      refine ⟨rfl, ?_⟩
      unfold Reads
      rw [hfin]
      exact ⟨rfl, grown_drew hg1⟩
    · have d0 : decide (n < 0) = false := by simp; omega
      by_cases hbig : (L.length : Int) - (q : Int) < n
      · have d1 : decide ((L.length : Int) - (q : Int) < n) = true := by simp; omega
        have hfin : rdList (rdPg L) L p = .error 9 := rdList_bad hx (.inr hbig)
        go_wp2_with fail
        refine wp_region_lex (fun _ => True) (by kernel_rfl) (by kernel_rfl) trivial ?_
        repeat (refine lex_q rfl ⟨default, trivial⟩ ?_; go_big_quiet_step (fail); refine wpQuiet_nil ?_)
        refine lex_e rfl ?_
        go_wp2_with fail
        refine lex_go trivial ?_
        repeat (refine lex_q rfl ⟨default, trivial⟩ ?_; go_big_quiet_step (fail); refine wpQuiet_nil ?_)
        refine lex_e rfl ?_
        go_wp2_with fail
        refine lex_go trivial ?_
        repeat (refine lex_q rfl ⟨default, trivial⟩ ?_; go_big_quiet_step (fail); refine wpQuiet_nil ?_)
        refine lex_nil ?_
        go_wp2_with fail
        go_wp2
        refine ⟨rfl, ?_⟩
        unfold Reads
        rw [hfin]
        exact ⟨rfl, grown_drew hg1⟩
      · have d1 : decide ((L.length : Int) - (q : Int) < n) = false := by simp; omega
        obtain ⟨m, rfl⟩ : ∃ m : Nat, n = (m : Int) := ⟨n.toNat, by omega⟩
        have hstart : rdList (rdPg L) L p = _ := rdList_start hx hbig
        have HS := Lib.hid hstart
        have hm : m ≤ 1000000000 := by omega
        clear hstart
        go_wp2_with fail
        refine wp_region_lex (fun _ => True) (by kernel_rfl) (by kernel_rfl) trivial ?_
        repeat (refine lex_q rfl ⟨default, trivial⟩ ?_; go_big_quiet_step (fail); refine wpQuiet_nil ?_)
        refine lex_e rfl ?_
        go_wp2_with fail
        refine lex_go trivial ?_
        repeat (refine lex_q rfl ⟨default, trivial⟩ ?_; go_big_quiet_step (fail); refine wpQuiet_nil ?_)
        refine lex_e rfl ?_
        go_wp2_with fail
        refine lex_go trivial ?_
        repeat (refine lex_q rfl ⟨default, trivial⟩ ?_; go_big_quiet_step (fail); refine wpQuiet_nil ?_)
        refine lex_nil ?_
        go_wp2_with fail
        go_wp2
        go_loopw [6, 28] (fun v i wr => ∃ (k q' : Nat) (A' : Option Addr) (c' : Nat) (acc : List (Pg)), i = .int .i64 k ∧ v = .slice A' k c' ∧ k ≤ m ∧ PgsOwn w.heap.size wr (.slice A' k c') acc ∧ Rdr B wr r L q' ∧ w.grownBy wr (some r) ∧ rdList (rdPg L) L p = bnd (rdRep (rdPg L) (m - k) q') (fun l q'' => .ok (acc ++ l, q''))) (fun _ i _ => m - (intOf i).toNat)
        case atStart => exact ⟨0, q, none, 0, [], rfl, rfl, by omega, PgsOwn.nil_ _ _, HR.out.drew, grown_drew hg1, HS.out⟩
        case round =>
          clear HR hg1 HS h0 h1
          obtain ⟨k, q', A', c', acc, rfl, rfl, hk, hown, hR, hg, heq⟩ := hrel
          have HE := Lib.hid heq
          have HOW : RowKit.Hid (∃ xs, OwnR encPg 2 wr w.heap.size 36 (.slice A' k c') xs) := Lib.hid (by obtain ⟨xs, hxo, _⟩ := hown; exact ⟨xs, hxo⟩)
          clear heq
          by_cases hlt2 : k < m
          · have dk : decide ((k : Int) < (m : Int)) = true := by simp; omega
            have dk' : decide (k < m) = true := by simp; omega
            obtain ⟨j, hj⟩ : ∃ j, m - k = j + 1 := ⟨m - k - 1, by omega⟩
            go_wp2_with fail
            refine (rpage_any B r q' L wr hR).mono ?_
            intro e w2 h2
            unfold Reads at h2
            cases hy : rdPg L q' with
            | error x =>
              rw [hy] at h2
              obtain ⟨rfl, hg2⟩ := h2
              have hfin : rdList (rdPg L) L p = .error x := by rw [HE.out, hj]; exact rdRep_err hy
              go_wp2
              refine ⟨rfl, ?_⟩
              unfold Reads
              rw [hfin]
              exact ⟨rfl, grown_tr hg hg2⟩
            | ok aq =>
              obtain ⟨a, q2⟩ := aq
              rw [hy] at h2
              obtain ⟨⟨_, rfl, Ac, cc, rfl, hOc⟩, hR2, hg2⟩ := h2
              have hstep : rdList (rdPg L) L p = bnd (rdRep (rdPg L) (m - (k + 1)) q2) (fun l q'' => .ok ((acc ++ [a]) ++ l, q'')) := by rw [HE.out, hj, rdRep_step hy, show m - (k + 1) = j by omega]
              have HST := Lib.hid hstep
              have hown1 := hown.kept hg2 hlt
              have hl2 := hown1.len
              obtain ⟨xs, hown2, hxl, hxe⟩ := hown1
              have hlx : xs.length = k := by omega
              have Hl2 := Lib.hid hlx
              have sz := hg.size
              have sz2 := hg2.size
              have ha : Below w2.heap.size w2 (w2.alloc (.cells #[.int .i64 a.num, .slice Ac a.cells.length cc] 36)) := (Below.refl _ _).alloc (Nat.le_refl _) _
              have hone : Recs encPg (fun _ => True) (w2.alloc (.cells #[.int .i64 a.num, .slice Ac a.cells.length cc] 36)) (.slice (some ⟨w2.heap.size, 0, none⟩) 1 1) [⟨a.num, Ac, a.cells.length, cc⟩] := ⟨_, 1, rfl, by simp, by simp [maxLen], Cs.lit _ _ _ _ _ trivial rfl⟩
              have hcl : Recs encZ (fun b => w.heap.size ≤ b ∧ (Value.slice A' k c').ownBlock ≠ some b) w2 (.slice Ac a.cells.length cc) a.cells := hOc.recs.mono (fun b _ hs => ⟨by have := hs.1; omega, fun e => by
                obtain ⟨ys, hyo⟩ := HOW.out
                have := (World.ownsRow.lt hyo _ e).2
                have := hs.1
                omega⟩)
              clear hstep
              go_wp2_with (refine wpList_appR (o := ⟨some 35, _, _, _, _, _⟩) encPg_len encPg_one (.agg #[.int .i64 0, .slice none 0 0]) 32 _ _ 38 36 w.heap.size xs [⟨a.num, Ac, a.cells.length, cc⟩] (some ⟨w2.heap.size, 0, none⟩) 1 1 (.slice A' k c') (k + 1) rfl rfl Tryd.underlying38 infoP_ rfl (by omega) rfl rfl (hown2.ext ha) hone (by rw [Hl2.out]) (by have := Hl2.out; omega) (by have := Hl2.out; omega) (by simp; omega) ?_; intro A9 c9 w9 hown9 hgr9 hat9 hc91 hc92)
              have hrow9 : ∀ b, (Value.slice A' k c').ownBlock = some b → w.heap.size ≤ b := fun b e => (World.ownsRow.lt hown2 _ e).1
              have hR9 := (hR2.ext ha).grown hgr9 (fun b hb => by have := hrow9 b hb; omega)
              have hG9 := grown_nw (grown_tr (grown_tr hg hg2) (grown_bl ha (some r))) hgr9 (fun b hb => .inl (hrow9 b hb))
              refine ⟨⟨k + 1, q2, A9, c9, acc ++ [a], by congr 1, rfl, by omega, PgsOwn.push ⟨hxl, fun i x' t' hx' ht' => ⟨(hxe i x' t' hx' ht').1, (hxe i x' t' hx' ht').2.ext ha⟩⟩ ⟨a.num, Ac, a.cells.length, cc⟩ a rfl (hcl.ext ha) hown9 hgr9 hat9, hR9, hG9, HST.out⟩, by simp [intOf]; omega⟩
          · obtain rfl : k = m := by omega
            have dk : decide ((k : Int) < (k : Int)) = false := by simp
            have hfin : rdList (rdPg L) L p = .ok (acc, q') := by rw [HE.out, Nat.sub_self]; show Except.ok (acc ++ [], q') = _; rw [List.append_nil]
            go_wp2
            go_ret
            unfold Reads
            rw [hfin]
            exact ⟨⟨_, rfl, A', c', by show Value.slice A' k c' = _; rw [hown.len.1], hown⟩, hR, hg⟩
set_option maxHeartbeats 1000000 in
theorem rpages_any (B r p : Nat) (L : List UInt8) (w : World) (h : Rdr B w r L p) :
    Calls Tryd.prog 36 #[.pointer (some ⟨r, 0, none⟩)] w fun e w' => Reads B r L w (rdPgs L p) (fun a w' v => ∃ A c, v = .slice A a.length c ∧ PgsOwn w.heap.size w' v a) e w' := by
  unfold rdPgs
  go_enter Tryd.func36, Tryd.ntmps36
  go_wp2_with fail
  refine (listP_any B r p L w h).mono ?_
  intro e w1 h1
  unfold Reads at h1
  cases hx : rdList (rdPg L) L p with
  | error k =>
    rw [hx] at h1
    obtain ⟨rfl, hg⟩ := h1
    go_wp2
    refine ⟨rfl, ?_⟩
    unfold Reads
    rw [hx]
    exact ⟨rfl, hg⟩
  | ok vq =>
    obtain ⟨v, q⟩ := vq
    rw [hx] at h1
    obtain ⟨⟨_, rfl, A, c, rfl, hO⟩, hR, hg⟩ := h1
    go_wp2
    go_ret
    unfold Reads
    rw [hx]
    exact ⟨⟨_, rfl, A, c, rfl, hO⟩, hR, hg⟩
end Go.Proofs.YtiblijmngokcgaaDoor
namespace Go.Proofs.YtiblijmngokcgaaDoor
open Go.RowKit
set_option maxRecDepth 100000
set_option linter.unusedVariables false
theorem leaves_ccc {P : Program} {fn : Func} {tmps : Array Value} {R : Ending → World → Prop} {u : FrameMode} {w : World} {v : Value} (hu : settle u = .returning) (hres : (results fn tmps).run P w = .ok v w) (h : R (.returned v) w) : Leaves P fn tmps R [] (settle u) w := by
  rw [hu]
  exact ⟨v, hres, h⟩
theorem results_ccc {P : Program} {fn : Func} {tmps : Array Value} {w : World} {a b c : Tmp} {t t' t2 : TypeId} {A A' A2 : Addr} {x y z : Value} (h : fn.results = #[.cell a t, .cell b t', .cell c t2]) (ha : tmps.getD a undef = .pointer (some A)) (hb : tmps.getD b undef = .pointer (some A')) (hc : tmps.getD c undef = .pointer (some A2)) (hl : (loadVar t A).run P w = .ok x w) (hl' : (loadVar t' A').run P w = .ok y w) (hl2 : (loadVar t2 A2).run P w = .ok z w) : (results fn tmps).run P w = .ok (.tuple #[x, y, z]) w := by
  have ha' : tmps[a]?.getD undef = .pointer (some A) := by simpa using ha
  have hb' : tmps[b]?.getD undef = .pointer (some A') := by simpa using hb
  have hc' : tmps[c]?.getD undef = .pointer (some A2) := by simpa using hc
  simp [results, h, asAddr, ha', hb', hc', hl, hl', hl2]
def RdOut {α : Type} (x : Except Nat (α × Nat)) (z : Value) (V : α → World → Value → Prop) (e : Ending) (w' : World) : Prop :=
  match x with
  | .ok (a, q) => ∃ v, e = .returned (.tuple #[v, .int .i64 (q : Int), .int .i64 0]) ∧ V a w' v
  | .error k => e = .returned (.tuple #[z, .int .i64 0, .int .i64 (k : Int)])
theorem catchD_idle (p q s : Addr) (w : World) : CallsD Tryd.prog 57 #[.pointer (some p), .pointer (some q), .pointer (some s)] .returning w fun e u' w' => e = .returned (.tuple #[]) ∧ u' = .returning ∧ w' = w := by
  refine callsD_of_wpS Tryd.func57 rfl fun c₀ cs hu => ?_
  apply wpS_seq
  apply wpS_region
  generalize hQ : Exit.thenS _ _ = Q0
  simp [wpOpsS, go_sem, recoverD, hu, Tryd.ntmps57, Array.replicate]
  subst hQ
  refine wpS_of_wp ?_
  go_wp2
  cases c₀
  simp_all [bodyPostS, results, Tryd.results57]
set_option maxHeartbeats 1000000 in
theorem catchD_fail (k b6 b7 b8 : Nat) (x6 : Array Value) (x7 x8 : Int) (w w0 : World) (B : Nat) (h6 : w.heap[b6]? = some (.cells x6 45 (0, 0))) (hx6 : x6.size = 9) (h7 : w.heap[b7]? = some (.cells #[.int .i64 x7] 3 (0, 0))) (h8 : w.heap[b8]? = some (.cells #[.int .i64 x8] 47 (0, 0))) (hne : b6 ≠ b7 ∧ b6 ≠ b8 ∧ b7 ≠ b8) (hB : B ≤ b6 ∧ B ≤ b7 ∧ B ≤ b8) (hw : Below B w0 w) :
    CallsD Tryd.prog 57 #[.pointer (some ⟨b6, 0, none⟩), .pointer (some ⟨b7, 0, none⟩), .pointer (some ⟨b8, 0, none⟩)] (.panicking (failP k)) w fun e u' w' => e = .returned (.tuple #[]) ∧ u' = .panicking [{ v := failV k, recovered := true }] ∧ w'.heap[b6]? = some (.cells #[Value.int .i64 0, Value.int .i64 0, Value.int .i64 0, Value.int .i64 0, Value.int .i64 0, Value.int .i64 0, Value.int .i64 0, Value.int .i64 0, Value.int .i64 0] 45 (0, 0)) ∧ w'.cell? ⟨b7, 0, none⟩ = some (.int .i64 0) ∧ w'.cell? ⟨b8, 0, none⟩ = some (.int .i64 (k : Int)) ∧ Below B w0 w' := by
  have l6 := (Array.getElem?_eq_some_iff.1 h6).1
  have l7 := (Array.getElem?_eq_some_iff.1 h7).1
  have l8 := (Array.getElem?_eq_some_iff.1 h8).1
  obtain ⟨n1, n2, n3⟩ := hne
  have n1' := n1.symm
  have n2' := n2.symm
  have n3' := n3.symm
  have ha : Below w.heap.size w (w.alloc (.cells #[Value.int .i64 0, Value.int .i64 0, Value.int .i64 0, Value.int .i64 0, Value.int .i64 0, Value.int .i64 0, Value.int .i64 0, Value.int .i64 0, Value.int .i64 0] 45)) := (Below.refl _ _).alloc (Nat.le_refl _) _
  have a6 := (ha.block b6 l6).trans h6
  have A6 := Lib.hid a6
  have w6 : ((w.alloc (.cells #[Value.int .i64 0, Value.int .i64 0, Value.int .i64 0, Value.int .i64 0, Value.int .i64 0, Value.int .i64 0, Value.int .i64 0, Value.int .i64 0, Value.int .i64 0] 45)).setRow b6 #[Value.int .i64 0, Value.int .i64 0, Value.int .i64 0, Value.int .i64 0, Value.int .i64 0, Value.int .i64 0, Value.int .i64 0, Value.int .i64 0, Value.int .i64 0]).heap[b6]? = some (.cells #[Value.int .i64 0, Value.int .i64 0, Value.int .i64 0, Value.int .i64 0, Value.int .i64 0, Value.int .i64 0, Value.int .i64 0, Value.int .i64 0, Value.int .i64 0] 45 (0, 0)) := setRow_heap _ _ _ _ _ _ a6
  have w7 : ((w.alloc (.cells #[Value.int .i64 0, Value.int .i64 0, Value.int .i64 0, Value.int .i64 0, Value.int .i64 0, Value.int .i64 0, Value.int .i64 0, Value.int .i64 0, Value.int .i64 0] 45)).setRow b6 #[Value.int .i64 0, Value.int .i64 0, Value.int .i64 0, Value.int .i64 0, Value.int .i64 0, Value.int .i64 0, Value.int .i64 0, Value.int .i64 0, Value.int .i64 0]).heap[b7]? = some (.cells #[.int .i64 x7] 3 (0, 0)) := (setRow_other _ _ _ _ n1').trans ((ha.block b7 l7).trans h7)
  have w8 : ((w.alloc (.cells #[Value.int .i64 0, Value.int .i64 0, Value.int .i64 0, Value.int .i64 0, Value.int .i64 0, Value.int .i64 0, Value.int .i64 0, Value.int .i64 0, Value.int .i64 0] 45)).setRow b6 #[Value.int .i64 0, Value.int .i64 0, Value.int .i64 0, Value.int .i64 0, Value.int .i64 0, Value.int .i64 0, Value.int .i64 0, Value.int .i64 0, Value.int .i64 0]).heap[b8]? = some (.cells #[.int .i64 x8] 47 (0, 0)) := (setRow_other _ _ _ _ n2').trans ((ha.block b8 l8).trans h8)
  have hw2 : Below B w0 ((w.alloc (.cells #[Value.int .i64 0, Value.int .i64 0, Value.int .i64 0, Value.int .i64 0, Value.int .i64 0, Value.int .i64 0, Value.int .i64 0, Value.int .i64 0, Value.int .i64 0] 45)).setRow b6 #[Value.int .i64 0, Value.int .i64 0, Value.int .i64 0, Value.int .i64 0, Value.int .i64 0, Value.int .i64 0, Value.int .i64 0, Value.int .i64 0, Value.int .i64 0]) := Below.setRow (hw.alloc (by omega) _) hB.1 _
  have c7 : ((w.alloc (.cells #[Value.int .i64 0, Value.int .i64 0, Value.int .i64 0, Value.int .i64 0, Value.int .i64 0, Value.int .i64 0, Value.int .i64 0, Value.int .i64 0, Value.int .i64 0] 45)).setRow b6 #[Value.int .i64 0, Value.int .i64 0, Value.int .i64 0, Value.int .i64 0, Value.int .i64 0, Value.int .i64 0, Value.int .i64 0, Value.int .i64 0, Value.int .i64 0]).cell? ⟨b7, 0, none⟩ = some (.int .i64 x7) := by rw [cell_of_row _ _ _ _ _ _ w7]; rfl
  have c8 : ((w.alloc (.cells #[Value.int .i64 0, Value.int .i64 0, Value.int .i64 0, Value.int .i64 0, Value.int .i64 0, Value.int .i64 0, Value.int .i64 0, Value.int .i64 0, Value.int .i64 0] 45)).setRow b6 #[Value.int .i64 0, Value.int .i64 0, Value.int .i64 0, Value.int .i64 0, Value.int .i64 0, Value.int .i64 0, Value.int .i64 0, Value.int .i64 0, Value.int .i64 0]).cell? ⟨b8, 0, none⟩ = some (.int .i64 x8) := by rw [cell_of_row _ _ _ _ _ _ w8]; rfl
  have f7 := frozen_of_row _ _ 0 _ _ w7
  have f8 := frozen_of_row _ _ 0 _ _ w8
  have hsz : ((w.alloc (.cells #[Value.int .i64 0, Value.int .i64 0, Value.int .i64 0, Value.int .i64 0, Value.int .i64 0, Value.int .i64 0, Value.int .i64 0, Value.int .i64 0, Value.int .i64 0] 45)).setRow b6 #[Value.int .i64 0, Value.int .i64 0, Value.int .i64 0, Value.int .i64 0, Value.int .i64 0, Value.int .i64 0, Value.int .i64 0, Value.int .i64 0, Value.int .i64 0]).heap.size = w.heap.size + 1 := by rw [setRow_size]; simp
  have H6 := Lib.hid w6
  have H7 := Lib.hid w7
  have H8 := Lib.hid w8
  have HW := Lib.hid hw2
  clear h6 h7 h8 a6 w6 w7 w8 ha hw2
  unfold failP
  refine callsD_of_wpS Tryd.func57 rfl fun c₀ cs hu => ?_
  apply wpS_seq
  apply wpS_region
  generalize hQ : Exit.thenS _ _ = Q0
  simp [wpOpsS, go_sem, recoverD, hu, Tryd.ntmps57, Array.replicate]
  subst hQ
  refine wpS_of_wp ?_
  unfold failV
  have hta := run_assert (.agg #[.int .i64 (k : Int)])
  go_wp2_with (refine wpList_store_row rfl 45 _ _ rfl b6 45 _ _ rfl rfl A6.out (by kernel_rfl) (by rw [hx6]; rfl) (by simp [Value.oneCell']) ?_; generalize (w.alloc (.cells #[Value.int .i64 0, Value.int .i64 0, Value.int .i64 0, Value.int .i64 0, Value.int .i64 0, Value.int .i64 0, Value.int .i64 0, Value.int .i64 0, Value.int .i64 0] 45)).setRow b6 #[Value.int .i64 0, Value.int .i64 0, Value.int .i64 0, Value.int .i64 0, Value.int .i64 0, Value.int .i64 0, Value.int .i64 0, Value.int .i64 0, Value.int .i64 0] = W2 at *)
  refine ⟨rfl, _, rfl, _, results_none rfl _ _ _, rfl, rfl, ?_, ?_, ?_, ?_⟩
  · have r1 : (((W2.setCell ⟨b7, 0, none⟩ (.int .i64 0)).setCell ⟨b8, 0, none⟩ (.int .i64 9)).setCell ⟨b8, 0, none⟩ (.int .i64 (k : Int))).heap[b6]? = some (.cells #[Value.int .i64 0, Value.int .i64 0, Value.int .i64 0, Value.int .i64 0, Value.int .i64 0, Value.int .i64 0, Value.int .i64 0, Value.int .i64 0, Value.int .i64 0] 45 (0, 0)) := by
      rw [heap_setCell_other _ _ _ _ n2, heap_setCell_other _ _ _ _ n2, heap_setCell_other _ _ _ _ n1]
      exact H6.out
    exact (((Below.refl _ _).alloc (Nat.le_refl _) _).block b6 (Array.getElem?_eq_some_iff.1 r1).1).trans r1
  · go_simp
  · have r2 : ((W2.setCell ⟨b7, 0, none⟩ (.int .i64 0)).setCell ⟨b8, 0, none⟩ (.int .i64 9)).heap[b8]? = some (.cells #[.int .i64 9] 47 (0, 0)) := heap_setCell_same _ b8 0 _ _ _ ((heap_setCell_other _ ⟨b7, 0, none⟩ _ _ n3').trans H8.out)
    have r3 : (((W2.setCell ⟨b7, 0, none⟩ (.int .i64 0)).setCell ⟨b8, 0, none⟩ (.int .i64 9)).setCell ⟨b8, 0, none⟩ (.int .i64 (k : Int))).heap[b8]? = some (.cells #[.int .i64 (k : Int)] 47 (0, 0)) := heap_setCell_same _ b8 0 _ _ _ r2
    have r4 := cell_of_row _ _ 0 _ _ _ r3
    go_simp
  · exact Below.alloc (Below.setCell (p := ⟨b8, 0, none⟩) (Below.setCell (p := ⟨b8, 0, none⟩) (Below.setCell (p := ⟨b7, 0, none⟩) HW.out hB.2.1 _) hB.2.2 _) hB.2.2 _) (by simp; omega) _
set_option maxHeartbeats 2000000 in
theorem readD_any (A : Option Addr) (n c : Nat) (k : Int) (L : List UInt8) (S : Nat → Prop) (w : World) (hb : Bytes S w (.slice A n c) L) (hn : n ≤ 100000000) :
    Calls Tryd.prog 37 #[.slice A n c, .int .i64 k, .func (.func 38) #[] #[]] w fun e w' => RdOut (rdAt rdDt L k) (.agg #[Value.int .i64 0, Value.int .i64 0, Value.int .i64 0, Value.int .i64 0, Value.int .i64 0, Value.int .i64 0, Value.int .i64 0, Value.int .i64 0, Value.int .i64 0]) (fun a w' v => v = dtV a) e w' ∧ Below w.heap.size w w' := by
  have hmf : ∀ (fn : Fn) (first cap : Array Value) (w : World), (Instr.makeFunc fn first cap).run Tryd.prog w = .ok (.func fn first cap) w := fun _ _ _ _ => rfl
  have hag : ∀ w : World, (isAgg 3).run Tryd.prog w = .ok false w := fun w => by simp [isAgg, run_underlying Tryd.underlying3]
  have hae : ∀ w : World, (isAgg 47).run Tryd.prog w = .ok false w := fun w => by simp [isAgg, run_underlying Tryd.underlying47]
  have hln := hb.len
  obtain ⟨W, hW, hbW, hsW, r6, r7, r8⟩ := boxes3 w (.cells #[Value.int .i64 0, Value.int .i64 0, Value.int .i64 0, Value.int .i64 0, Value.int .i64 0, Value.int .i64 0, Value.int .i64 0, Value.int .i64 0, Value.int .i64 0] 45) (.cells #[.int .i64 0] 3) (.cells #[.int .i64 0] 47)
  by_cases hk : k < 0 ∨ (L.length : Int) < k
  · have hcat := catchD_fail 3 w.heap.size (w.heap.size + 1) (w.heap.size + 1 + 1) _ _ _ W w w.heap.size r6 rfl r7 r8 ⟨by omega, by omega, by omega⟩ ⟨by omega, by omega, by omega⟩ hbW
    have Hcat := Lib.hid hcat
    clear hcat r6 r7 r8
    have hfin : rdAt rdDt L k = .error 3 := if_pos hk
    rw [hfin]
    by_cases h0 : k < 0
    · have d0 : decide (k < 0) = true := by simpa using h0
      go_enter_defers Tryd.func37, Tryd.ntmps37
      go_wp2
      rw [← hW]
      refine leaves_cons (f := 57) (args := #[.pointer (some ⟨w.heap.size, 0, none⟩), .pointer (some ⟨w.heap.size + 1, 0, none⟩), .pointer (some ⟨w.heap.size + 1 + 1, 0, none⟩)]) (by simp) (by simp [go_sem]) ?_
      refine Hcat.out.mono ?_
      rintro e u' w'' ⟨rfl, rfl, g6, g7, g8, hbb⟩
      refine leaves_ccc rfl (results_ccc rfl rfl rfl rfl (run_ld_block g6 Tryd.underlying45 rfl (by kernel_rfl)) (run_ld1 (hag _) g7) (run_ld1 (hae _) g8)) ?_
      exact ⟨rfl, hbb⟩
    · have d0 : decide (k < 0) = false := by simpa using h0
      have d1 : decide ((n : Int) < k) = true := by simp; omega
      go_enter_defers Tryd.func37, Tryd.ntmps37
      go_wp2
      rw [← hW]
      refine leaves_cons (f := 57) (args := #[.pointer (some ⟨w.heap.size, 0, none⟩), .pointer (some ⟨w.heap.size + 1, 0, none⟩), .pointer (some ⟨w.heap.size + 1 + 1, 0, none⟩)]) (by simp) (by simp [go_sem]) ?_
      refine Hcat.out.mono ?_
      rintro e u' w'' ⟨rfl, rfl, g6, g7, g8, hbb⟩
      refine leaves_ccc rfl (results_ccc rfl rfl rfl rfl (run_ld_block g6 Tryd.underlying45 rfl (by kernel_rfl)) (run_ld1 (hag _) g7) (run_ld1 (hae _) g8)) ?_
      exact ⟨rfl, hbb⟩
  · obtain ⟨p, rfl⟩ := Int.eq_ofNat_of_zero_le (show 0 ≤ k by omega)
    have hp : p ≤ n := by omega
    have hfin : rdAt rdDt L (p : Int) = rdDt L p := (if_neg hk).trans (by rw [Int.toNat_natCast])
    rw [hfin]
    clear hfin hk
    have d0 : decide ((p : Int) < 0) = false := by simp
    have d1 : decide ((n : Int) < (p : Int)) = false := by simp; omega
    have d2 : decide (n < p) = false := by simp; omega
    obtain ⟨W2, hW2⟩ : ∃ W2, W2 = W.alloc (.cells #[.slice A n c, .int .i64 (p : Int)] 108) := ⟨_, rfl⟩
    have hb2 : Below W.heap.size W W2 := by rw [hW2]; exact (Below.refl _ _).alloc (Nat.le_refl _) _
    have r9 : W2.heap[W.heap.size]? = some (.cells #[.slice A n c, .int .i64 (p : Int)] 108 (0, 0)) := by rw [hW2]; exact heap_alloc_new _ _
    have hRd : Rdr w.heap.size W2 W.heap.size L p := by
      have h1 := hln.1
      subst h1
      exact ⟨by omega, A, c, r9, (hb.mono (fun _ h _ => h)).ext (Below.ext hbW hb2), by omega, by omega⟩
    go_enter_defers Tryd.func37, Tryd.ntmps37
    go_wp2_with fail
    rw [← hW, ← hsW, ← hW2]
    refine (rdet_any w.heap.size W.heap.size p L W2 hRd).mono ?_
    intro e w3 h3
    have s2 := hb2.size
    have hs3 : w.heap.size + 1 + 1 < W.heap.size := by omega
    clear hsW hW hW2
    have hlt9 : W.heap.size < W2.heap.size := hRd.lt
    unfold Reads at h3
    cases hx : rdDt L p with
    | error x =>
      rw [hx] at h3
      obtain ⟨rfl, hg3⟩ := h3
      have k6 := (hg3.block w.heap.size (by omega) (by simp; omega)).trans ((hb2.block _ (by omega)).trans r6)
      have k7 := (hg3.block (w.heap.size + 1) (by omega) (by simp; omega)).trans ((hb2.block _ (by omega)).trans r7)
      have k8 := (hg3.block (w.heap.size + 1 + 1) (by omega) (by simp; omega)).trans ((hb2.block _ (by omega)).trans r8)
      have hcat := catchD_fail x w.heap.size (w.heap.size + 1) (w.heap.size + 1 + 1) _ _ _ w3 w w.heap.size k6 rfl k7 k8 ⟨by omega, by omega, by omega⟩ ⟨by omega, by omega, by omega⟩ (Below.grow (Below.ext hbW hb2) hg3 (by omega))
      have Hcat := Lib.hid hcat
      clear hcat r6 r7 r8 k6 k7 k8 hRd r9
      go_wp2
      refine leaves_cons (f := 57) (args := #[.pointer (some ⟨w.heap.size, 0, none⟩), .pointer (some ⟨w.heap.size + 1, 0, none⟩), .pointer (some ⟨w.heap.size + 1 + 1, 0, none⟩)]) (by simp [failP]) (by simp [go_sem]) ?_
      refine Hcat.out.mono ?_
      rintro e u' w'' ⟨rfl, rfl, g6, g7, g8, hbb⟩
      refine leaves_ccc rfl (results_ccc rfl rfl rfl rfl (run_ld_block g6 Tryd.underlying45 rfl (by kernel_rfl)) (run_ld1 (hag _) g7) (run_ld1 (hae _) g8)) ?_
      rw [hx]
      exact ⟨rfl, hbb⟩
    | ok vq =>
      obtain ⟨v, q⟩ := vq
      rw [hx] at h3
      obtain ⟨⟨_, rfl, hV⟩, hR3, hg3⟩ := h3
      unfold dtV at hV
      subst hV
      have k6 := (hg3.block w.heap.size (by omega) (by simp; omega)).trans ((hb2.block _ (by omega)).trans r6)
      have k7 := (hg3.block (w.heap.size + 1) (by omega) (by simp; omega)).trans ((hb2.block _ (by omega)).trans r7)
      have k8 := (hg3.block (w.heap.size + 1 + 1) (by omega) (by simp; omega)).trans ((hb2.block _ (by omega)).trans r8)
      have b3 := Below.grow (Below.ext hbW hb2) hg3 (by omega)
      have hs33 := hg3.size
      have k9 : ∃ A' c', w3.heap[W.heap.size]? = some (.cells #[.slice A' L.length c', .int .i64 (q : Int)] 108 (0, 0)) := by obtain ⟨_, A', c', h1, _⟩ := hR3; exact ⟨A', c', h1⟩
      obtain ⟨Ar, cr, k9⟩ := k9
      have K6 := Lib.hid k6
      have m6 : (w3.setRow w.heap.size #[Value.int .i64 v.proc, Value.int .i64 v.index, Value.int .i64 v.ev.k0, Value.int .i64 v.ev.k1, Value.int .i64 v.ev.k2, Value.int .i64 v.ev.k3, Value.int .i64 v.ev.k4, Value.int .i64 v.ev.k5, Value.int .i64 v.ev.k6]).heap[w.heap.size]? = some (.cells #[Value.int .i64 v.proc, Value.int .i64 v.index, Value.int .i64 v.ev.k0, Value.int .i64 v.ev.k1, Value.int .i64 v.ev.k2, Value.int .i64 v.ev.k3, Value.int .i64 v.ev.k4, Value.int .i64 v.ev.k5, Value.int .i64 v.ev.k6] 45 (0, 0)) := setRow_heap _ _ _ _ _ _ k6
      have m7 := (setRow_other w3 w.heap.size (w.heap.size + 1) #[Value.int .i64 v.proc, Value.int .i64 v.index, Value.int .i64 v.ev.k0, Value.int .i64 v.ev.k1, Value.int .i64 v.ev.k2, Value.int .i64 v.ev.k3, Value.int .i64 v.ev.k4, Value.int .i64 v.ev.k5, Value.int .i64 v.ev.k6] (by omega)).trans k7
      have m8 := (setRow_other w3 w.heap.size (w.heap.size + 1 + 1) #[Value.int .i64 v.proc, Value.int .i64 v.index, Value.int .i64 v.ev.k0, Value.int .i64 v.ev.k1, Value.int .i64 v.ev.k2, Value.int .i64 v.ev.k3, Value.int .i64 v.ev.k4, Value.int .i64 v.ev.k5, Value.int .i64 v.ev.k6] (by omega)).trans k8
      have m9 := (setRow_other w3 w.heap.size W.heap.size #[Value.int .i64 v.proc, Value.int .i64 v.index, Value.int .i64 v.ev.k0, Value.int .i64 v.ev.k1, Value.int .i64 v.ev.k2, Value.int .i64 v.ev.k3, Value.int .i64 v.ev.k4, Value.int .i64 v.ev.k5, Value.int .i64 v.ev.k6] (by omega)).trans k9
      have mb : Below w.heap.size w (w3.setRow w.heap.size #[Value.int .i64 v.proc, Value.int .i64 v.index, Value.int .i64 v.ev.k0, Value.int .i64 v.ev.k1, Value.int .i64 v.ev.k2, Value.int .i64 v.ev.k3, Value.int .i64 v.ev.k4, Value.int .i64 v.ev.k5, Value.int .i64 v.ev.k6]) := Below.setRow b3 (Nat.le_refl _) _
      have mg : w3.grownBy (w3.setRow w.heap.size #[Value.int .i64 v.proc, Value.int .i64 v.index, Value.int .i64 v.ev.k0, Value.int .i64 v.ev.k1, Value.int .i64 v.ev.k2, Value.int .i64 v.ev.k3, Value.int .i64 v.ev.k4, Value.int .i64 v.ev.k5, Value.int .i64 v.ev.k6]) (some w.heap.size) := grown_setRow _ _ _
      have ms : (w3.setRow w.heap.size #[Value.int .i64 v.proc, Value.int .i64 v.index, Value.int .i64 v.ev.k0, Value.int .i64 v.ev.k1, Value.int .i64 v.ev.k2, Value.int .i64 v.ev.k3, Value.int .i64 v.ev.k4, Value.int .i64 v.ev.k5, Value.int .i64 v.ev.k6]).heap.size = w3.heap.size := setRow_size _ _ _
      have M6 := Lib.hid m6
      have M7 := Lib.hid m7
      have M8 := Lib.hid m8
      have M9 := Lib.hid m9
      clear r6 r7 r8 k6 k7 k8 k9 hRd r9 m6 m7 m8 m9 b3 mg
      have n9 : W.heap.size ≠ w.heap.size := by omega
      go_wp2_with (refine wpList_store_row rfl 45 _ _ rfl w.heap.size 45 _ _ rfl rfl K6.out (by kernel_rfl) rfl (by simp [Value.oneCell']) ?_)
      generalize w3.setRow w.heap.size #[Value.int .i64 v.proc, Value.int .i64 v.index, Value.int .i64 v.ev.k0, Value.int .i64 v.ev.k1, Value.int .i64 v.ev.k2, Value.int .i64 v.ev.k3, Value.int .i64 v.ev.k4, Value.int .i64 v.ev.k5, Value.int .i64 v.ev.k6] = W4 at *
      have e9 : W4.cell? ⟨W.heap.size, 1, none⟩ = some (.int .i64 (q : Int)) := by rw [cell_of_row _ _ _ _ _ _ M9.out]; rfl
      have E9 := Lib.hid e9
      clear e9
      refine wp_region_lexL (fun w' => w'.heap[w.heap.size]? = some (.cells #[Value.int .i64 v.proc, Value.int .i64 v.index, Value.int .i64 v.ev.k0, Value.int .i64 v.ev.k1, Value.int .i64 v.ev.k2, Value.int .i64 v.ev.k3, Value.int .i64 v.ev.k4, Value.int .i64 v.ev.k5, Value.int .i64 v.ev.k6] 45 (0, 0)) ∧ w'.cell? ⟨W.heap.size, 1, none⟩ = some (.int .i64 (q : Int))) (by kernel_rfl) (by kernel_rfl) ⟨M6.out, E9.out⟩ ?_
      repeat (first | (refine lexL_q0 rfl ?_; go_big_quiet_step (fail); refine wpQuiet_nil ?_) | (refine lexL_skip0 rfl rfl ?_; simp only [Act.put, List.setIfInBounds_toArray, List.set_cons_succ, List.set_cons_zero]))
      refine lexL_ld (⟨w.heap.size, 0, none⟩) (.agg #[Value.int .i64 v.proc, Value.int .i64 v.index, Value.int .i64 v.ev.k0, Value.int .i64 v.ev.k1, Value.int .i64 v.ev.k2, Value.int .i64 v.ev.k3, Value.int .i64 v.ev.k4, Value.int .i64 v.ev.k5, Value.int .i64 v.ev.k6]) rfl rfl rfl (fun w' hw' => run_ld_block hw'.1 Tryd.underlying45 rfl (by kernel_rfl)) ?_
      simp only [Act.put, List.setIfInBounds_toArray, List.set_cons_succ, List.set_cons_zero]
      repeat (first | (refine lexL_q0 rfl ?_; go_big_quiet_step (fail); refine wpQuiet_nil ?_) | (refine lexL_skip0 rfl rfl ?_; simp only [Act.put, List.setIfInBounds_toArray, List.set_cons_succ, List.set_cons_zero]))
      refine lexL_ld (⟨W.heap.size, 1, none⟩) (.int .i64 (q : Int)) rfl rfl rfl (fun w' hw' => run_ld1 (hag _) hw'.2) ?_
      simp only [Act.put, List.setIfInBounds_toArray, List.set_cons_succ, List.set_cons_zero]
      repeat (first | (refine lexL_q0 rfl ?_; go_big_quiet_step (fail); refine wpQuiet_nil ?_) | (refine lexL_skip0 rfl rfl ?_; simp only [Act.put, List.setIfInBounds_toArray, List.set_cons_succ, List.set_cons_zero]))
      have D6 : RowKit.Hid (W4.drew.heap[w.heap.size]? = some (.cells #[Value.int .i64 v.proc, Value.int .i64 v.index, Value.int .i64 v.ev.k0, Value.int .i64 v.ev.k1, Value.int .i64 v.ev.k2, Value.int .i64 v.ev.k3, Value.int .i64 v.ev.k4, Value.int .i64 v.ev.k5, Value.int .i64 v.ev.k6] 45 (0, 0))) := Lib.hid M6.out
      refine lexL_e rfl ?_
      refine wpList_store_row rfl 45 _ _ rfl w.heap.size 45 _ _ rfl rfl D6.out (by kernel_rfl) rfl (by simp [Value.oneCell']) ?_
      have u6 : (W4.drew.setRow w.heap.size #[Value.int .i64 v.proc, Value.int .i64 v.index, Value.int .i64 v.ev.k0, Value.int .i64 v.ev.k1, Value.int .i64 v.ev.k2, Value.int .i64 v.ev.k3, Value.int .i64 v.ev.k4, Value.int .i64 v.ev.k5, Value.int .i64 v.ev.k6]).heap[w.heap.size]? = some (.cells #[Value.int .i64 v.proc, Value.int .i64 v.index, Value.int .i64 v.ev.k0, Value.int .i64 v.ev.k1, Value.int .i64 v.ev.k2, Value.int .i64 v.ev.k3, Value.int .i64 v.ev.k4, Value.int .i64 v.ev.k5, Value.int .i64 v.ev.k6] 45 (0, 0)) := setRow_heap _ _ _ _ _ _ D6.out
      have u7 := (setRow_other W4.drew w.heap.size (w.heap.size + 1) #[Value.int .i64 v.proc, Value.int .i64 v.index, Value.int .i64 v.ev.k0, Value.int .i64 v.ev.k1, Value.int .i64 v.ev.k2, Value.int .i64 v.ev.k3, Value.int .i64 v.ev.k4, Value.int .i64 v.ev.k5, Value.int .i64 v.ev.k6] (by omega)).trans M7.out
      have u8 := (setRow_other W4.drew w.heap.size (w.heap.size + 1 + 1) #[Value.int .i64 v.proc, Value.int .i64 v.index, Value.int .i64 v.ev.k0, Value.int .i64 v.ev.k1, Value.int .i64 v.ev.k2, Value.int .i64 v.ev.k3, Value.int .i64 v.ev.k4, Value.int .i64 v.ev.k5, Value.int .i64 v.ev.k6] (by omega)).trans M8.out
      have u9 := (setRow_other W4.drew w.heap.size W.heap.size #[Value.int .i64 v.proc, Value.int .i64 v.index, Value.int .i64 v.ev.k0, Value.int .i64 v.ev.k1, Value.int .i64 v.ev.k2, Value.int .i64 v.ev.k3, Value.int .i64 v.ev.k4, Value.int .i64 v.ev.k5, Value.int .i64 v.ev.k6] (by omega)).trans M9.out
      have ub : Below w.heap.size w (W4.drew.setRow w.heap.size #[Value.int .i64 v.proc, Value.int .i64 v.index, Value.int .i64 v.ev.k0, Value.int .i64 v.ev.k1, Value.int .i64 v.ev.k2, Value.int .i64 v.ev.k3, Value.int .i64 v.ev.k4, Value.int .i64 v.ev.k5, Value.int .i64 v.ev.k6]) := Below.setRow mb.drew (Nat.le_refl _) _
      have ug : W4.drew.grownBy (W4.drew.setRow w.heap.size #[Value.int .i64 v.proc, Value.int .i64 v.index, Value.int .i64 v.ev.k0, Value.int .i64 v.ev.k1, Value.int .i64 v.ev.k2, Value.int .i64 v.ev.k3, Value.int .i64 v.ev.k4, Value.int .i64 v.ev.k5, Value.int .i64 v.ev.k6]) (some w.heap.size) := grown_setRow _ _ _
      generalize W4.drew.setRow w.heap.size #[Value.int .i64 v.proc, Value.int .i64 v.index, Value.int .i64 v.ev.k0, Value.int .i64 v.ev.k1, Value.int .i64 v.ev.k2, Value.int .i64 v.ev.k3, Value.int .i64 v.ev.k4, Value.int .i64 v.ev.k5, Value.int .i64 v.ev.k6] = W5 at *
      have c9 : W5.cell? ⟨W.heap.size, 1, none⟩ = some (.int .i64 (q : Int)) := by rw [cell_of_row _ _ _ _ _ _ u9]; rfl
      have c7 : W5.cell? ⟨w.heap.size + 1, 0, none⟩ = some (.int .i64 0) := by rw [cell_of_row _ _ _ _ _ _ u7]; rfl
      have c8 : W5.cell? ⟨w.heap.size + 1 + 1, 0, none⟩ = some (.int .i64 0) := by rw [cell_of_row _ _ _ _ _ _ u8]; rfl
      have f7 := frozen_of_row _ _ 0 _ _ u7
      have f8 := frozen_of_row _ _ 0 _ _ u8
      have U6 := Lib.hid u6
      clear u6 u7 u8 u9 ug
      refine lexL_go ⟨U6.out, c9⟩ ?_
      simp only [Act.put]
      repeat (first | (refine lexL_q0 rfl ?_; go_big_quiet_step (fail); refine wpQuiet_nil ?_) | (refine lexL_skip0 rfl rfl ?_; simp only [Act.put, List.setIfInBounds_toArray, List.set_cons_succ, List.set_cons_zero]))
      refine lexL_e rfl ?_
      go_wp2_with fail
      go_wp2_with fail
      refine lexL_go (⟨(heap_setCell_other _ ⟨w.heap.size + 1, 0, none⟩ _ _ (show w.heap.size ≠ w.heap.size + 1 by omega)).trans U6.out, by go_simp⟩) ?_
      repeat (first | (refine lexL_q0 rfl ?_; go_big_quiet_step (fail); refine wpQuiet_nil ?_) | (refine lexL_skip0 rfl rfl ?_; simp only [Act.put, List.setIfInBounds_toArray, List.set_cons_succ, List.set_cons_zero]))
      refine lexL_e rfl ?_
      go_wp2_with fail
      go_wp2_with fail
      refine lexL_go (⟨(heap_setCell_other _ ⟨w.heap.size + 1 + 1, 0, none⟩ _ _ (show w.heap.size ≠ w.heap.size + 1 + 1 by omega)).trans ((heap_setCell_other _ ⟨w.heap.size + 1, 0, none⟩ _ _ (show w.heap.size ≠ w.heap.size + 1 by omega)).trans U6.out), by go_simp⟩) ?_
      repeat (first | (refine lexL_q0 rfl ?_; go_big_quiet_step (fail); refine wpQuiet_nil ?_) | (refine lexL_skip0 rfl rfl ?_; simp only [Act.put, List.setIfInBounds_toArray, List.set_cons_succ, List.set_cons_zero]))
      refine lexL_nil ?_
      go_wp2_with fail
      have g6 : ((W5.setCell ⟨w.heap.size + 1, 0, none⟩ (.int .i64 (q : Int))).setCell ⟨w.heap.size + 1 + 1, 0, none⟩ (.int .i64 0)).heap[w.heap.size]? = some (.cells #[Value.int .i64 v.proc, Value.int .i64 v.index, Value.int .i64 v.ev.k0, Value.int .i64 v.ev.k1, Value.int .i64 v.ev.k2, Value.int .i64 v.ev.k3, Value.int .i64 v.ev.k4, Value.int .i64 v.ev.k5, Value.int .i64 v.ev.k6] 45 (0, 0)) := (heap_setCell_other _ ⟨w.heap.size + 1 + 1, 0, none⟩ _ _ (show w.heap.size ≠ w.heap.size + 1 + 1 by omega)).trans ((heap_setCell_other _ ⟨w.heap.size + 1, 0, none⟩ _ _ (show w.heap.size ≠ w.heap.size + 1 by omega)).trans U6.out)
      have g7 : ((W5.setCell ⟨w.heap.size + 1, 0, none⟩ (.int .i64 (q : Int))).setCell ⟨w.heap.size + 1 + 1, 0, none⟩ (.int .i64 0)).cell? ⟨w.heap.size + 1, 0, none⟩ = some (.int .i64 (q : Int)) := by go_simp
      have g8 : ((W5.setCell ⟨w.heap.size + 1, 0, none⟩ (.int .i64 (q : Int))).setCell ⟨w.heap.size + 1 + 1, 0, none⟩ (.int .i64 0)).cell? ⟨w.heap.size + 1 + 1, 0, none⟩ = some (.int .i64 0) := by go_simp
      have b7 := (ub.setCell (p := ⟨w.heap.size + 1, 0, none⟩) (show _ ≤ w.heap.size + 1 by omega) (.int .i64 (q : Int))).setCell (p := ⟨w.heap.size + 1 + 1, 0, none⟩) (show _ ≤ w.heap.size + 1 + 1 by omega) (.int .i64 0)
      have vg1 : W5.grownBy (W5.setCell ⟨w.heap.size + 1, 0, none⟩ (.int .i64 (q : Int))) (some (w.heap.size + 1)) := grown_set ⟨rfl, rfl, rfl, Nat.le_refl _, fun _ _ _ => rfl⟩
      have vg2 : (W5.setCell ⟨w.heap.size + 1, 0, none⟩ (.int .i64 (q : Int))).grownBy ((W5.setCell ⟨w.heap.size + 1, 0, none⟩ (.int .i64 (q : Int))).setCell ⟨w.heap.size + 1 + 1, 0, none⟩ (.int .i64 0)) (some (w.heap.size + 1 + 1)) := grown_set ⟨rfl, rfl, rfl, Nat.le_refl _, fun _ _ _ => rfl⟩
      generalize ((W5.setCell ⟨w.heap.size + 1, 0, none⟩ (.int .i64 (q : Int))).setCell ⟨w.heap.size + 1 + 1, 0, none⟩ (.int .i64 0)) = W7 at *
      refine leaves_cons (f := 57) (args := #[.pointer (some ⟨w.heap.size, 0, none⟩), .pointer (some ⟨w.heap.size + 1, 0, none⟩), .pointer (some ⟨w.heap.size + 1 + 1, 0, none⟩)]) (by simp) (by simp [go_sem]) ?_
      refine (catchD_idle _ _ _ W7).mono ?_
      rintro e u' w'' ⟨rfl, rfl, rfl⟩
      refine leaves_ccc rfl (results_ccc rfl rfl rfl rfl (run_ld_block g6 Tryd.underlying45 rfl (by kernel_rfl)) (run_ld1 (hag _) g7) (run_ld1 (hae _) g8)) ?_
      refine ⟨?_, b7⟩
      rw [hx]
      exact ⟨_, rfl, rfl⟩
theorem catchS_idle (p q s : Addr) (w : World) : CallsD Tryd.prog 46 #[.pointer (some p), .pointer (some q), .pointer (some s)] .returning w fun e u' w' => e = .returned (.tuple #[]) ∧ u' = .returning ∧ w' = w := by
  refine callsD_of_wpS Tryd.func46 rfl fun c₀ cs hu => ?_
  apply wpS_seq
  apply wpS_region
  generalize hQ : Exit.thenS _ _ = Q0
  simp [wpOpsS, go_sem, recoverD, hu, Tryd.ntmps46, Array.replicate]
  subst hQ
  refine wpS_of_wp ?_
  go_wp2
  cases c₀
  simp_all [bodyPostS, results, Tryd.results46]
set_option maxHeartbeats 1000000 in
theorem catchS_fail (k b6 b7 b8 : Nat) (x6 : Array Value) (x7 x8 : Int) (w w0 : World) (B : Nat) (h6 : w.heap[b6]? = some (.cells x6 31 (0, 0))) (hx6 : x6.size = 4) (h7 : w.heap[b7]? = some (.cells #[.int .i64 x7] 3 (0, 0))) (h8 : w.heap[b8]? = some (.cells #[.int .i64 x8] 47 (0, 0))) (hne : b6 ≠ b7 ∧ b6 ≠ b8 ∧ b7 ≠ b8) (hB : B ≤ b6 ∧ B ≤ b7 ∧ B ≤ b8) (hw : Below B w0 w) :
    CallsD Tryd.prog 46 #[.pointer (some ⟨b6, 0, none⟩), .pointer (some ⟨b7, 0, none⟩), .pointer (some ⟨b8, 0, none⟩)] (.panicking (failP k)) w fun e u' w' => e = .returned (.tuple #[]) ∧ u' = .panicking [{ v := failV k, recovered := true }] ∧ w'.heap[b6]? = some (.cells #[Value.slice none 0 0, Value.slice none 0 0, Value.slice none 0 0, Value.slice none 0 0] 31 (0, 0)) ∧ w'.cell? ⟨b7, 0, none⟩ = some (.int .i64 0) ∧ w'.cell? ⟨b8, 0, none⟩ = some (.int .i64 (k : Int)) ∧ Below B w0 w' := by
  have l6 := (Array.getElem?_eq_some_iff.1 h6).1
  have l7 := (Array.getElem?_eq_some_iff.1 h7).1
  have l8 := (Array.getElem?_eq_some_iff.1 h8).1
  obtain ⟨n1, n2, n3⟩ := hne
  have n1' := n1.symm
  have n2' := n2.symm
  have n3' := n3.symm
  have ha : Below w.heap.size w (w.alloc (.cells #[Value.slice none 0 0, Value.slice none 0 0, Value.slice none 0 0, Value.slice none 0 0] 31)) := (Below.refl _ _).alloc (Nat.le_refl _) _
  have a6 := (ha.block b6 l6).trans h6
  have A6 := Lib.hid a6
  have w6 : ((w.alloc (.cells #[Value.slice none 0 0, Value.slice none 0 0, Value.slice none 0 0, Value.slice none 0 0] 31)).setRow b6 #[Value.slice none 0 0, Value.slice none 0 0, Value.slice none 0 0, Value.slice none 0 0]).heap[b6]? = some (.cells #[Value.slice none 0 0, Value.slice none 0 0, Value.slice none 0 0, Value.slice none 0 0] 31 (0, 0)) := setRow_heap _ _ _ _ _ _ a6
  have w7 : ((w.alloc (.cells #[Value.slice none 0 0, Value.slice none 0 0, Value.slice none 0 0, Value.slice none 0 0] 31)).setRow b6 #[Value.slice none 0 0, Value.slice none 0 0, Value.slice none 0 0, Value.slice none 0 0]).heap[b7]? = some (.cells #[.int .i64 x7] 3 (0, 0)) := (setRow_other _ _ _ _ n1').trans ((ha.block b7 l7).trans h7)
  have w8 : ((w.alloc (.cells #[Value.slice none 0 0, Value.slice none 0 0, Value.slice none 0 0, Value.slice none 0 0] 31)).setRow b6 #[Value.slice none 0 0, Value.slice none 0 0, Value.slice none 0 0, Value.slice none 0 0]).heap[b8]? = some (.cells #[.int .i64 x8] 47 (0, 0)) := (setRow_other _ _ _ _ n2').trans ((ha.block b8 l8).trans h8)
  have hw2 : Below B w0 ((w.alloc (.cells #[Value.slice none 0 0, Value.slice none 0 0, Value.slice none 0 0, Value.slice none 0 0] 31)).setRow b6 #[Value.slice none 0 0, Value.slice none 0 0, Value.slice none 0 0, Value.slice none 0 0]) := Below.setRow (hw.alloc (by omega) _) hB.1 _
  have c7 : ((w.alloc (.cells #[Value.slice none 0 0, Value.slice none 0 0, Value.slice none 0 0, Value.slice none 0 0] 31)).setRow b6 #[Value.slice none 0 0, Value.slice none 0 0, Value.slice none 0 0, Value.slice none 0 0]).cell? ⟨b7, 0, none⟩ = some (.int .i64 x7) := by rw [cell_of_row _ _ _ _ _ _ w7]; rfl
  have c8 : ((w.alloc (.cells #[Value.slice none 0 0, Value.slice none 0 0, Value.slice none 0 0, Value.slice none 0 0] 31)).setRow b6 #[Value.slice none 0 0, Value.slice none 0 0, Value.slice none 0 0, Value.slice none 0 0]).cell? ⟨b8, 0, none⟩ = some (.int .i64 x8) := by rw [cell_of_row _ _ _ _ _ _ w8]; rfl
  have f7 := frozen_of_row _ _ 0 _ _ w7
  have f8 := frozen_of_row _ _ 0 _ _ w8
  have hsz : ((w.alloc (.cells #[Value.slice none 0 0, Value.slice none 0 0, Value.slice none 0 0, Value.slice none 0 0] 31)).setRow b6 #[Value.slice none 0 0, Value.slice none 0 0, Value.slice none 0 0, Value.slice none 0 0]).heap.size = w.heap.size + 1 := by rw [setRow_size]; simp
  have H6 := Lib.hid w6
  have H7 := Lib.hid w7
  have H8 := Lib.hid w8
  have HW := Lib.hid hw2
  clear h6 h7 h8 a6 w6 w7 w8 ha hw2
  unfold failP
  refine callsD_of_wpS Tryd.func46 rfl fun c₀ cs hu => ?_
  apply wpS_seq
  apply wpS_region
  generalize hQ : Exit.thenS _ _ = Q0
  simp [wpOpsS, go_sem, recoverD, hu, Tryd.ntmps46, Array.replicate]
  subst hQ
  refine wpS_of_wp ?_
  unfold failV
  have hta := run_assert (.agg #[.int .i64 (k : Int)])
  go_wp2_with (refine wpList_store_row rfl 31 _ _ rfl b6 31 _ _ rfl rfl A6.out (by kernel_rfl) (by rw [hx6]; rfl) (by simp [Value.oneCell']) ?_; generalize (w.alloc (.cells #[Value.slice none 0 0, Value.slice none 0 0, Value.slice none 0 0, Value.slice none 0 0] 31)).setRow b6 #[Value.slice none 0 0, Value.slice none 0 0, Value.slice none 0 0, Value.slice none 0 0] = W2 at *)
  refine ⟨rfl, _, rfl, _, results_none rfl _ _ _, rfl, rfl, ?_, ?_, ?_, ?_⟩
  · have r1 : (((W2.setCell ⟨b7, 0, none⟩ (.int .i64 0)).setCell ⟨b8, 0, none⟩ (.int .i64 9)).setCell ⟨b8, 0, none⟩ (.int .i64 (k : Int))).heap[b6]? = some (.cells #[Value.slice none 0 0, Value.slice none 0 0, Value.slice none 0 0, Value.slice none 0 0] 31 (0, 0)) := by
      rw [heap_setCell_other _ _ _ _ n2, heap_setCell_other _ _ _ _ n2, heap_setCell_other _ _ _ _ n1]
      exact H6.out
    exact (((Below.refl _ _).alloc (Nat.le_refl _) _).block b6 (Array.getElem?_eq_some_iff.1 r1).1).trans r1
  · go_simp
  · have r2 : ((W2.setCell ⟨b7, 0, none⟩ (.int .i64 0)).setCell ⟨b8, 0, none⟩ (.int .i64 9)).heap[b8]? = some (.cells #[.int .i64 9] 47 (0, 0)) := heap_setCell_same _ b8 0 _ _ _ ((heap_setCell_other _ ⟨b7, 0, none⟩ _ _ n3').trans H8.out)
    have r3 : (((W2.setCell ⟨b7, 0, none⟩ (.int .i64 0)).setCell ⟨b8, 0, none⟩ (.int .i64 9)).setCell ⟨b8, 0, none⟩ (.int .i64 (k : Int))).heap[b8]? = some (.cells #[.int .i64 (k : Int)] 47 (0, 0)) := heap_setCell_same _ b8 0 _ _ _ r2
    have r4 := cell_of_row _ _ 0 _ _ _ r3
    go_simp
  · exact Below.alloc (Below.setCell (p := ⟨b8, 0, none⟩) (Below.setCell (p := ⟨b8, 0, none⟩) (Below.setCell (p := ⟨b7, 0, none⟩) HW.out hB.2.1 _) hB.2.2 _) hB.2.2 _) (by simp; omega) _
set_option maxHeartbeats 2000000 in
theorem readS_any (A : Option Addr) (n c : Nat) (k : Int) (L : List UInt8) (S : Nat → Prop) (w : World) (hb : Bytes S w (.slice A n c) L) (hn : n ≤ 100000000) :
    Calls Tryd.prog 29 #[.slice A n c, .int .i64 k, .func (.func 30) #[] #[]] w fun e w' => RdOut (rdAt rdSt L k) (.agg #[Value.slice none 0 0, Value.slice none 0 0, Value.slice none 0 0, Value.slice none 0 0]) (fun a w' v => StO w' w.heap.size v a) e w' ∧ Below w.heap.size w w' := by
  have hmf : ∀ (fn : Fn) (first cap : Array Value) (w : World), (Instr.makeFunc fn first cap).run Tryd.prog w = .ok (.func fn first cap) w := fun _ _ _ _ => rfl
  have hag : ∀ w : World, (isAgg 3).run Tryd.prog w = .ok false w := fun w => by simp [isAgg, run_underlying Tryd.underlying3]
  have hae : ∀ w : World, (isAgg 47).run Tryd.prog w = .ok false w := fun w => by simp [isAgg, run_underlying Tryd.underlying47]
  have hln := hb.len
  obtain ⟨W, hW, hbW, hsW, r6, r7, r8⟩ := boxes3 w (.cells #[Value.slice none 0 0, Value.slice none 0 0, Value.slice none 0 0, Value.slice none 0 0] 31) (.cells #[.int .i64 0] 3) (.cells #[.int .i64 0] 47)
  by_cases hk : k < 0 ∨ (L.length : Int) < k
  · have hcat := catchS_fail 3 w.heap.size (w.heap.size + 1) (w.heap.size + 1 + 1) _ _ _ W w w.heap.size r6 rfl r7 r8 ⟨by omega, by omega, by omega⟩ ⟨by omega, by omega, by omega⟩ hbW
    have Hcat := Lib.hid hcat
    clear hcat r6 r7 r8
    have hfin : rdAt rdSt L k = .error 3 := if_pos hk
    rw [hfin]
    by_cases h0 : k < 0
    · have d0 : decide (k < 0) = true := by simpa using h0
      go_enter_defers Tryd.func29, Tryd.ntmps29
      go_wp2
      rw [← hW]
      refine leaves_cons (f := 46) (args := #[.pointer (some ⟨w.heap.size, 0, none⟩), .pointer (some ⟨w.heap.size + 1, 0, none⟩), .pointer (some ⟨w.heap.size + 1 + 1, 0, none⟩)]) (by simp) (by simp [go_sem]) ?_
      refine Hcat.out.mono ?_
      rintro e u' w'' ⟨rfl, rfl, g6, g7, g8, hbb⟩
      refine leaves_ccc rfl (results_ccc rfl rfl rfl rfl (run_ld_block g6 Tryd.underlying31 rfl (by kernel_rfl)) (run_ld1 (hag _) g7) (run_ld1 (hae _) g8)) ?_
      exact ⟨rfl, hbb⟩
    · have d0 : decide (k < 0) = false := by simpa using h0
      have d1 : decide ((n : Int) < k) = true := by simp; omega
      go_enter_defers Tryd.func29, Tryd.ntmps29
      go_wp2
      rw [← hW]
      refine leaves_cons (f := 46) (args := #[.pointer (some ⟨w.heap.size, 0, none⟩), .pointer (some ⟨w.heap.size + 1, 0, none⟩), .pointer (some ⟨w.heap.size + 1 + 1, 0, none⟩)]) (by simp) (by simp [go_sem]) ?_
      refine Hcat.out.mono ?_
      rintro e u' w'' ⟨rfl, rfl, g6, g7, g8, hbb⟩
      refine leaves_ccc rfl (results_ccc rfl rfl rfl rfl (run_ld_block g6 Tryd.underlying31 rfl (by kernel_rfl)) (run_ld1 (hag _) g7) (run_ld1 (hae _) g8)) ?_
      exact ⟨rfl, hbb⟩
  · obtain ⟨p, rfl⟩ := Int.eq_ofNat_of_zero_le (show 0 ≤ k by omega)
    have hp : p ≤ n := by omega
    have hfin : rdAt rdSt L (p : Int) = rdSt L p := (if_neg hk).trans (by rw [Int.toNat_natCast])
    rw [hfin]
    clear hfin hk
    have d0 : decide ((p : Int) < 0) = false := by simp
    have d1 : decide ((n : Int) < (p : Int)) = false := by simp; omega
    have d2 : decide (n < p) = false := by simp; omega
    obtain ⟨W2, hW2⟩ : ∃ W2, W2 = W.alloc (.cells #[.slice A n c, .int .i64 (p : Int)] 108) := ⟨_, rfl⟩
    have hb2 : Below W.heap.size W W2 := by rw [hW2]; exact (Below.refl _ _).alloc (Nat.le_refl _) _
    have r9 : W2.heap[W.heap.size]? = some (.cells #[.slice A n c, .int .i64 (p : Int)] 108 (0, 0)) := by rw [hW2]; exact heap_alloc_new _ _
    have hRd : Rdr w.heap.size W2 W.heap.size L p := by
      have h1 := hln.1
      subst h1
      exact ⟨by omega, A, c, r9, (hb.mono (fun _ h _ => h)).ext (Below.ext hbW hb2), by omega, by omega⟩
    go_enter_defers Tryd.func29, Tryd.ntmps29
    go_wp2_with fail
    rw [← hW, ← hsW, ← hW2]
    refine (rstate_any w.heap.size W.heap.size p L W2 hRd).mono ?_
    intro e w3 h3
    have s2 := hb2.size
    have hs3 : w.heap.size + 1 + 1 < W.heap.size := by omega
    clear hsW hW hW2
    have hlt9 : W.heap.size < W2.heap.size := hRd.lt
    unfold Reads at h3
    cases hx : rdSt L p with
    | error x =>
      rw [hx] at h3
      obtain ⟨rfl, hg3⟩ := h3
      have k6 := (hg3.block w.heap.size (by omega) (by simp; omega)).trans ((hb2.block _ (by omega)).trans r6)
      have k7 := (hg3.block (w.heap.size + 1) (by omega) (by simp; omega)).trans ((hb2.block _ (by omega)).trans r7)
      have k8 := (hg3.block (w.heap.size + 1 + 1) (by omega) (by simp; omega)).trans ((hb2.block _ (by omega)).trans r8)
      have hcat := catchS_fail x w.heap.size (w.heap.size + 1) (w.heap.size + 1 + 1) _ _ _ w3 w w.heap.size k6 rfl k7 k8 ⟨by omega, by omega, by omega⟩ ⟨by omega, by omega, by omega⟩ (Below.grow (Below.ext hbW hb2) hg3 (by omega))
      have Hcat := Lib.hid hcat
      clear hcat r6 r7 r8 k6 k7 k8 hRd r9
      go_wp2
      refine leaves_cons (f := 46) (args := #[.pointer (some ⟨w.heap.size, 0, none⟩), .pointer (some ⟨w.heap.size + 1, 0, none⟩), .pointer (some ⟨w.heap.size + 1 + 1, 0, none⟩)]) (by simp [failP]) (by simp [go_sem]) ?_
      refine Hcat.out.mono ?_
      rintro e u' w'' ⟨rfl, rfl, g6, g7, g8, hbb⟩
      refine leaves_ccc rfl (results_ccc rfl rfl rfl rfl (run_ld_block g6 Tryd.underlying31 rfl (by kernel_rfl)) (run_ld1 (hag _) g7) (run_ld1 (hae _) g8)) ?_
      rw [hx]
      exact ⟨rfl, hbb⟩
    | ok vq =>
      obtain ⟨v, q⟩ := vq
      rw [hx] at h3
      obtain ⟨⟨_, rfl, hV⟩, hR3, hg3⟩ := h3
      obtain ⟨A1, c1, A2, c2, A3, c3, A4, c4, rfl, hO1, hO2, hO3, hO4⟩ := hV
      have k6 := (hg3.block w.heap.size (by omega) (by simp; omega)).trans ((hb2.block _ (by omega)).trans r6)
      have k7 := (hg3.block (w.heap.size + 1) (by omega) (by simp; omega)).trans ((hb2.block _ (by omega)).trans r7)
      have k8 := (hg3.block (w.heap.size + 1 + 1) (by omega) (by simp; omega)).trans ((hb2.block _ (by omega)).trans r8)
      have b3 := Below.grow (Below.ext hbW hb2) hg3 (by omega)
      have hs33 := hg3.size
      have k9 : ∃ A' c', w3.heap[W.heap.size]? = some (.cells #[.slice A' L.length c', .int .i64 (q : Int)] 108 (0, 0)) := by obtain ⟨_, A', c', h1, _⟩ := hR3; exact ⟨A', c', h1⟩
      obtain ⟨Ar, cr, k9⟩ := k9
      have K6 := Lib.hid k6
      have m6 : (w3.setRow w.heap.size #[Value.slice A1 v.cells.length c1, Value.slice A2 v.evs.length c2, Value.slice A3 v.sent.length c3, Value.slice A4 v.outs.length c4]).heap[w.heap.size]? = some (.cells #[Value.slice A1 v.cells.length c1, Value.slice A2 v.evs.length c2, Value.slice A3 v.sent.length c3, Value.slice A4 v.outs.length c4] 31 (0, 0)) := setRow_heap _ _ _ _ _ _ k6
      have m7 := (setRow_other w3 w.heap.size (w.heap.size + 1) #[Value.slice A1 v.cells.length c1, Value.slice A2 v.evs.length c2, Value.slice A3 v.sent.length c3, Value.slice A4 v.outs.length c4] (by omega)).trans k7
      have m8 := (setRow_other w3 w.heap.size (w.heap.size + 1 + 1) #[Value.slice A1 v.cells.length c1, Value.slice A2 v.evs.length c2, Value.slice A3 v.sent.length c3, Value.slice A4 v.outs.length c4] (by omega)).trans k8
      have m9 := (setRow_other w3 w.heap.size W.heap.size #[Value.slice A1 v.cells.length c1, Value.slice A2 v.evs.length c2, Value.slice A3 v.sent.length c3, Value.slice A4 v.outs.length c4] (by omega)).trans k9
      have mb : Below w.heap.size w (w3.setRow w.heap.size #[Value.slice A1 v.cells.length c1, Value.slice A2 v.evs.length c2, Value.slice A3 v.sent.length c3, Value.slice A4 v.outs.length c4]) := Below.setRow b3 (Nat.le_refl _) _
      have mg : w3.grownBy (w3.setRow w.heap.size #[Value.slice A1 v.cells.length c1, Value.slice A2 v.evs.length c2, Value.slice A3 v.sent.length c3, Value.slice A4 v.outs.length c4]) (some w.heap.size) := grown_setRow _ _ _
      have hO1 := hO1.kept_lt mg (by omega)
      have hO2 := hO2.kept_lt mg (by omega)
      have hO3 := hO3.kept_lt mg (by omega)
      have hO4 := hO4.kept_lt mg (by omega)
      have ms : (w3.setRow w.heap.size #[Value.slice A1 v.cells.length c1, Value.slice A2 v.evs.length c2, Value.slice A3 v.sent.length c3, Value.slice A4 v.outs.length c4]).heap.size = w3.heap.size := setRow_size _ _ _
      have M6 := Lib.hid m6
      have M7 := Lib.hid m7
      have M8 := Lib.hid m8
      have M9 := Lib.hid m9
      clear r6 r7 r8 k6 k7 k8 k9 hRd r9 m6 m7 m8 m9 b3 mg
      have n9 : W.heap.size ≠ w.heap.size := by omega
      go_wp2_with (refine wpList_store_row rfl 31 _ _ rfl w.heap.size 31 _ _ rfl rfl K6.out (by kernel_rfl) rfl (by simp [Value.oneCell']) ?_)
      generalize w3.setRow w.heap.size #[Value.slice A1 v.cells.length c1, Value.slice A2 v.evs.length c2, Value.slice A3 v.sent.length c3, Value.slice A4 v.outs.length c4] = W4 at *
      have e9 : W4.cell? ⟨W.heap.size, 1, none⟩ = some (.int .i64 (q : Int)) := by rw [cell_of_row _ _ _ _ _ _ M9.out]; rfl
      have E9 := Lib.hid e9
      clear e9
      refine wp_region_lexL (fun w' => w'.heap[w.heap.size]? = some (.cells #[Value.slice A1 v.cells.length c1, Value.slice A2 v.evs.length c2, Value.slice A3 v.sent.length c3, Value.slice A4 v.outs.length c4] 31 (0, 0)) ∧ w'.cell? ⟨W.heap.size, 1, none⟩ = some (.int .i64 (q : Int))) (by kernel_rfl) (by kernel_rfl) ⟨M6.out, E9.out⟩ ?_
      repeat (first | (refine lexL_q0 rfl ?_; go_big_quiet_step (fail); refine wpQuiet_nil ?_) | (refine lexL_skip0 rfl rfl ?_; simp only [Act.put, List.setIfInBounds_toArray, List.set_cons_succ, List.set_cons_zero]))
      refine lexL_ld (⟨w.heap.size, 0, none⟩) (.agg #[Value.slice A1 v.cells.length c1, Value.slice A2 v.evs.length c2, Value.slice A3 v.sent.length c3, Value.slice A4 v.outs.length c4]) rfl rfl rfl (fun w' hw' => run_ld_block hw'.1 Tryd.underlying31 rfl (by kernel_rfl)) ?_
      simp only [Act.put, List.setIfInBounds_toArray, List.set_cons_succ, List.set_cons_zero]
      repeat (first | (refine lexL_q0 rfl ?_; go_big_quiet_step (fail); refine wpQuiet_nil ?_) | (refine lexL_skip0 rfl rfl ?_; simp only [Act.put, List.setIfInBounds_toArray, List.set_cons_succ, List.set_cons_zero]))
      refine lexL_ld (⟨W.heap.size, 1, none⟩) (.int .i64 (q : Int)) rfl rfl rfl (fun w' hw' => run_ld1 (hag _) hw'.2) ?_
      simp only [Act.put, List.setIfInBounds_toArray, List.set_cons_succ, List.set_cons_zero]
      repeat (first | (refine lexL_q0 rfl ?_; go_big_quiet_step (fail); refine wpQuiet_nil ?_) | (refine lexL_skip0 rfl rfl ?_; simp only [Act.put, List.setIfInBounds_toArray, List.set_cons_succ, List.set_cons_zero]))
      have D6 : RowKit.Hid (W4.drew.heap[w.heap.size]? = some (.cells #[Value.slice A1 v.cells.length c1, Value.slice A2 v.evs.length c2, Value.slice A3 v.sent.length c3, Value.slice A4 v.outs.length c4] 31 (0, 0))) := Lib.hid M6.out
      refine lexL_e rfl ?_
      refine wpList_store_row rfl 31 _ _ rfl w.heap.size 31 _ _ rfl rfl D6.out (by kernel_rfl) rfl (by simp [Value.oneCell']) ?_
      have u6 : (W4.drew.setRow w.heap.size #[Value.slice A1 v.cells.length c1, Value.slice A2 v.evs.length c2, Value.slice A3 v.sent.length c3, Value.slice A4 v.outs.length c4]).heap[w.heap.size]? = some (.cells #[Value.slice A1 v.cells.length c1, Value.slice A2 v.evs.length c2, Value.slice A3 v.sent.length c3, Value.slice A4 v.outs.length c4] 31 (0, 0)) := setRow_heap _ _ _ _ _ _ D6.out
      have u7 := (setRow_other W4.drew w.heap.size (w.heap.size + 1) #[Value.slice A1 v.cells.length c1, Value.slice A2 v.evs.length c2, Value.slice A3 v.sent.length c3, Value.slice A4 v.outs.length c4] (by omega)).trans M7.out
      have u8 := (setRow_other W4.drew w.heap.size (w.heap.size + 1 + 1) #[Value.slice A1 v.cells.length c1, Value.slice A2 v.evs.length c2, Value.slice A3 v.sent.length c3, Value.slice A4 v.outs.length c4] (by omega)).trans M8.out
      have u9 := (setRow_other W4.drew w.heap.size W.heap.size #[Value.slice A1 v.cells.length c1, Value.slice A2 v.evs.length c2, Value.slice A3 v.sent.length c3, Value.slice A4 v.outs.length c4] (by omega)).trans M9.out
      have ub : Below w.heap.size w (W4.drew.setRow w.heap.size #[Value.slice A1 v.cells.length c1, Value.slice A2 v.evs.length c2, Value.slice A3 v.sent.length c3, Value.slice A4 v.outs.length c4]) := Below.setRow mb.drew (Nat.le_refl _) _
      have ug : W4.drew.grownBy (W4.drew.setRow w.heap.size #[Value.slice A1 v.cells.length c1, Value.slice A2 v.evs.length c2, Value.slice A3 v.sent.length c3, Value.slice A4 v.outs.length c4]) (some w.heap.size) := grown_setRow _ _ _
      have hO1 := (hO1.ext (w' := W4.drew) (Below.refl _ _).drew).kept_lt ug (by omega)
      have hO2 := (hO2.ext (w' := W4.drew) (Below.refl _ _).drew).kept_lt ug (by omega)
      have hO3 := (hO3.ext (w' := W4.drew) (Below.refl _ _).drew).kept_lt ug (by omega)
      have hO4 := (hO4.ext (w' := W4.drew) (Below.refl _ _).drew).kept_lt ug (by omega)
      generalize W4.drew.setRow w.heap.size #[Value.slice A1 v.cells.length c1, Value.slice A2 v.evs.length c2, Value.slice A3 v.sent.length c3, Value.slice A4 v.outs.length c4] = W5 at *
      have c9 : W5.cell? ⟨W.heap.size, 1, none⟩ = some (.int .i64 (q : Int)) := by rw [cell_of_row _ _ _ _ _ _ u9]; rfl
      have c7 : W5.cell? ⟨w.heap.size + 1, 0, none⟩ = some (.int .i64 0) := by rw [cell_of_row _ _ _ _ _ _ u7]; rfl
      have c8 : W5.cell? ⟨w.heap.size + 1 + 1, 0, none⟩ = some (.int .i64 0) := by rw [cell_of_row _ _ _ _ _ _ u8]; rfl
      have f7 := frozen_of_row _ _ 0 _ _ u7
      have f8 := frozen_of_row _ _ 0 _ _ u8
      have U6 := Lib.hid u6
      clear u6 u7 u8 u9 ug
      refine lexL_go ⟨U6.out, c9⟩ ?_
      simp only [Act.put]
      repeat (first | (refine lexL_q0 rfl ?_; go_big_quiet_step (fail); refine wpQuiet_nil ?_) | (refine lexL_skip0 rfl rfl ?_; simp only [Act.put, List.setIfInBounds_toArray, List.set_cons_succ, List.set_cons_zero]))
      refine lexL_e rfl ?_
      go_wp2_with fail
      go_wp2_with fail
      refine lexL_go (⟨(heap_setCell_other _ ⟨w.heap.size + 1, 0, none⟩ _ _ (show w.heap.size ≠ w.heap.size + 1 by omega)).trans U6.out, by go_simp⟩) ?_
      repeat (first | (refine lexL_q0 rfl ?_; go_big_quiet_step (fail); refine wpQuiet_nil ?_) | (refine lexL_skip0 rfl rfl ?_; simp only [Act.put, List.setIfInBounds_toArray, List.set_cons_succ, List.set_cons_zero]))
      refine lexL_e rfl ?_
      go_wp2_with fail
      go_wp2_with fail
      refine lexL_go (⟨(heap_setCell_other _ ⟨w.heap.size + 1 + 1, 0, none⟩ _ _ (show w.heap.size ≠ w.heap.size + 1 + 1 by omega)).trans ((heap_setCell_other _ ⟨w.heap.size + 1, 0, none⟩ _ _ (show w.heap.size ≠ w.heap.size + 1 by omega)).trans U6.out), by go_simp⟩) ?_
      repeat (first | (refine lexL_q0 rfl ?_; go_big_quiet_step (fail); refine wpQuiet_nil ?_) | (refine lexL_skip0 rfl rfl ?_; simp only [Act.put, List.setIfInBounds_toArray, List.set_cons_succ, List.set_cons_zero]))
      refine lexL_nil ?_
      go_wp2_with fail
      have g6 : ((W5.setCell ⟨w.heap.size + 1, 0, none⟩ (.int .i64 (q : Int))).setCell ⟨w.heap.size + 1 + 1, 0, none⟩ (.int .i64 0)).heap[w.heap.size]? = some (.cells #[Value.slice A1 v.cells.length c1, Value.slice A2 v.evs.length c2, Value.slice A3 v.sent.length c3, Value.slice A4 v.outs.length c4] 31 (0, 0)) := (heap_setCell_other _ ⟨w.heap.size + 1 + 1, 0, none⟩ _ _ (show w.heap.size ≠ w.heap.size + 1 + 1 by omega)).trans ((heap_setCell_other _ ⟨w.heap.size + 1, 0, none⟩ _ _ (show w.heap.size ≠ w.heap.size + 1 by omega)).trans U6.out)
      have g7 : ((W5.setCell ⟨w.heap.size + 1, 0, none⟩ (.int .i64 (q : Int))).setCell ⟨w.heap.size + 1 + 1, 0, none⟩ (.int .i64 0)).cell? ⟨w.heap.size + 1, 0, none⟩ = some (.int .i64 (q : Int)) := by go_simp
      have g8 : ((W5.setCell ⟨w.heap.size + 1, 0, none⟩ (.int .i64 (q : Int))).setCell ⟨w.heap.size + 1 + 1, 0, none⟩ (.int .i64 0)).cell? ⟨w.heap.size + 1 + 1, 0, none⟩ = some (.int .i64 0) := by go_simp
      have b7 := (ub.setCell (p := ⟨w.heap.size + 1, 0, none⟩) (show _ ≤ w.heap.size + 1 by omega) (.int .i64 (q : Int))).setCell (p := ⟨w.heap.size + 1 + 1, 0, none⟩) (show _ ≤ w.heap.size + 1 + 1 by omega) (.int .i64 0)
      have vg1 : W5.grownBy (W5.setCell ⟨w.heap.size + 1, 0, none⟩ (.int .i64 (q : Int))) (some (w.heap.size + 1)) := grown_set ⟨rfl, rfl, rfl, Nat.le_refl _, fun _ _ _ => rfl⟩
      have vg2 : (W5.setCell ⟨w.heap.size + 1, 0, none⟩ (.int .i64 (q : Int))).grownBy ((W5.setCell ⟨w.heap.size + 1, 0, none⟩ (.int .i64 (q : Int))).setCell ⟨w.heap.size + 1 + 1, 0, none⟩ (.int .i64 0)) (some (w.heap.size + 1 + 1)) := grown_set ⟨rfl, rfl, rfl, Nat.le_refl _, fun _ _ _ => rfl⟩
      have hO1 := (hO1.kept_lt vg1 (by omega)).kept_lt vg2 (by omega)
      have hO2 := (hO2.kept_lt vg1 (by omega)).kept_lt vg2 (by omega)
      have hO3 := (hO3.kept_lt vg1 (by omega)).kept_lt vg2 (by omega)
      have hO4 := (hO4.kept_lt vg1 (by omega)).kept_lt vg2 (by omega)
      generalize ((W5.setCell ⟨w.heap.size + 1, 0, none⟩ (.int .i64 (q : Int))).setCell ⟨w.heap.size + 1 + 1, 0, none⟩ (.int .i64 0)) = W7 at *
      refine leaves_cons (f := 46) (args := #[.pointer (some ⟨w.heap.size, 0, none⟩), .pointer (some ⟨w.heap.size + 1, 0, none⟩), .pointer (some ⟨w.heap.size + 1 + 1, 0, none⟩)]) (by simp) (by simp [go_sem]) ?_
      refine (catchS_idle _ _ _ W7).mono ?_
      rintro e u' w'' ⟨rfl, rfl, rfl⟩
      refine leaves_ccc rfl (results_ccc rfl rfl rfl rfl (run_ld_block g6 Tryd.underlying31 rfl (by kernel_rfl)) (run_ld1 (hag _) g7) (run_ld1 (hae _) g8)) ?_
      refine ⟨?_, b7⟩
      rw [hx]
      exact ⟨_, rfl, A1, c1, A2, c2, A3, c3, A4, c4, rfl, hO1.weak (by omega), hO2.weak (by omega), hO3.weak (by omega), hO4.weak (by omega)⟩
theorem PgsOwn.dr {base : Nat} {w : World} {v : Value} {ts : List Pg} (h : PgsOwn base w v ts) : PgsOwn base w.drew v ts := by
  obtain ⟨xs, h1, h2, h3⟩ := h
  exact ⟨xs, h1.ext (Below.refl _ _).drew, h2, fun i x t hx ht => ⟨(h3 i x t hx ht).1, (h3 i x t hx ht).2.ext (Below.refl _ _).drew⟩⟩
theorem PgsOwn.weak {base base' : Nat} {w : World} {v : Value} {ts : List Pg} (h : PgsOwn base w v ts) (hle : base' ≤ base) : PgsOwn base' w v ts := by
  obtain ⟨xs, h1, h2, h3⟩ := h
  exact ⟨xs, h1.weak hle, h2, fun i x t hx ht => ⟨(h3 i x t hx ht).1, (h3 i x t hx ht).2.mono (fun _ _ h => ⟨by have := h.1; omega, h.2⟩)⟩⟩
theorem catchP_idle (p q s : Addr) (w : World) : CallsD Tryd.prog 54 #[.pointer (some p), .pointer (some q), .pointer (some s)] .returning w fun e u' w' => e = .returned (.tuple #[]) ∧ u' = .returning ∧ w' = w := by
  refine callsD_of_wpS Tryd.func54 rfl fun c₀ cs hu => ?_
  apply wpS_seq
  apply wpS_region
  generalize hQ : Exit.thenS _ _ = Q0
  simp [wpOpsS, go_sem, recoverD, hu, Tryd.ntmps54, Array.replicate]
  subst hQ
  refine wpS_of_wp ?_
  go_wp2
  cases c₀
  simp_all [bodyPostS, results, Tryd.results54]
theorem catchP_fail (k b6 b7 b8 : Nat) (x6 : Value) (x7 x8 : Int) (w w0 : World) (B : Nat) (h6 : w.heap[b6]? = some (.cells #[x6] 38 (0, 0))) (h7 : w.heap[b7]? = some (.cells #[.int .i64 x7] 3 (0, 0))) (h8 : w.heap[b8]? = some (.cells #[.int .i64 x8] 47 (0, 0))) (hne : b6 ≠ b7 ∧ b6 ≠ b8 ∧ b7 ≠ b8) (hB : B ≤ b6 ∧ B ≤ b7 ∧ B ≤ b8) (hw : Below B w0 w) :
    CallsD Tryd.prog 54 #[.pointer (some ⟨b6, 0, none⟩), .pointer (some ⟨b7, 0, none⟩), .pointer (some ⟨b8, 0, none⟩)] (.panicking (failP k)) w fun e u' w' => e = .returned (.tuple #[]) ∧ u' = .panicking [{ v := failV k, recovered := true }] ∧ w'.cell? ⟨b6, 0, none⟩ = some (.slice none 0 0) ∧ w'.cell? ⟨b7, 0, none⟩ = some (.int .i64 0) ∧ w'.cell? ⟨b8, 0, none⟩ = some (.int .i64 (k : Int)) ∧ Below B w0 w' := by
  have c6 : w.cell? ⟨b6, 0, none⟩ = some x6 := by rw [cell_of_row _ _ _ _ _ _ h6]; rfl
  have c7 : w.cell? ⟨b7, 0, none⟩ = some (.int .i64 x7) := by rw [cell_of_row _ _ _ _ _ _ h7]; rfl
  have c8 : w.cell? ⟨b8, 0, none⟩ = some (.int .i64 x8) := by rw [cell_of_row _ _ _ _ _ _ h8]; rfl
  have f6 := frozen_of_row _ _ 0 _ _ h6
  have f7 := frozen_of_row _ _ 0 _ _ h7
  have f8 := frozen_of_row _ _ 0 _ _ h8
  have l6 := (Array.getElem?_eq_some_iff.1 h6).1
  have l7 := (Array.getElem?_eq_some_iff.1 h7).1
  have l8 := (Array.getElem?_eq_some_iff.1 h8).1
  obtain ⟨n1, n2, n3⟩ := hne
  have n1' := n1.symm
  have n2' := n2.symm
  have n3' := n3.symm
  have H6 := Lib.hid h6
  have H7 := Lib.hid h7
  have H8 := Lib.hid h8
  clear h6 h7 h8
  unfold failP
  refine callsD_of_wpS Tryd.func54 rfl fun c₀ cs hu => ?_
  apply wpS_seq
  apply wpS_region
  generalize hQ : Exit.thenS _ _ = Q0
  simp [wpOpsS, go_sem, recoverD, hu, Tryd.ntmps54, Array.replicate]
  subst hQ
  refine wpS_of_wp ?_
  unfold failV
  have hta := run_assert (.agg #[.int .i64 (k : Int)])
  go_wp2
  refine ⟨rfl, _, rfl, _, results_none rfl _ _ _, rfl, rfl, ?_, ?_, ?_, ?_⟩
  · go_simp
  · go_simp
  · have r1 : ((w.setCell ⟨b6, 0, none⟩ (.slice none 0 0)).setCell ⟨b7, 0, none⟩ (.int .i64 0)).heap[b8]? = some (.cells #[.int .i64 x8] 47 (0, 0)) := by
      rw [heap_setCell_other _ _ _ _ n3', heap_setCell_other _ _ _ _ n2']
      exact H8.out
    have r2 : (((w.setCell ⟨b6, 0, none⟩ (.slice none 0 0)).setCell ⟨b7, 0, none⟩ (.int .i64 0)).setCell ⟨b8, 0, none⟩ (.int .i64 9)).heap[b8]? = some (.cells #[.int .i64 9] 47 (0, 0)) := heap_setCell_same _ b8 0 _ _ _ r1
    have r3 : ((((w.setCell ⟨b6, 0, none⟩ (.slice none 0 0)).setCell ⟨b7, 0, none⟩ (.int .i64 0)).setCell ⟨b8, 0, none⟩ (.int .i64 9)).setCell ⟨b8, 0, none⟩ (.int .i64 (k : Int))).heap[b8]? = some (.cells #[.int .i64 (k : Int)] 47 (0, 0)) := heap_setCell_same _ b8 0 _ _ _ r2
    have r4 := cell_of_row _ _ 0 _ _ _ r3
    go_simp
  · exact Below.alloc (Below.setCell (p := ⟨b8, 0, none⟩) (Below.setCell (p := ⟨b8, 0, none⟩) (Below.setCell (p := ⟨b7, 0, none⟩) (Below.setCell (p := ⟨b6, 0, none⟩) hw hB.1 _) hB.2.1 _) hB.2.2 _) hB.2.2 _) (by simp; omega) _
set_option maxHeartbeats 2000000 in
theorem readP_any (A : Option Addr) (n c : Nat) (k : Int) (L : List UInt8) (S : Nat → Prop) (w : World) (hb : Bytes S w (.slice A n c) L) (hn : n ≤ 100000000) :
    Calls Tryd.prog 35 #[.slice A n c, .int .i64 k, .func (.func 36) #[] #[]] w fun e w' => RdOut (rdAt rdPgs L k) (.slice none 0 0) (fun a w' v => ∃ A c, v = .slice A a.length c ∧ PgsOwn w.heap.size w' v a) e w' ∧ Below w.heap.size w w' := by
  have hmf : ∀ (fn : Fn) (first cap : Array Value) (w : World), (Instr.makeFunc fn first cap).run Tryd.prog w = .ok (.func fn first cap) w := fun _ _ _ _ => rfl
  have hag : ∀ w : World, (isAgg 3).run Tryd.prog w = .ok false w := fun w => by simp [isAgg, run_underlying Tryd.underlying3]
  have hae : ∀ w : World, (isAgg 47).run Tryd.prog w = .ok false w := fun w => by simp [isAgg, run_underlying Tryd.underlying47]
  have hap : ∀ w : World, (isAgg 38).run Tryd.prog w = .ok false w := fun w => by simp [isAgg, run_underlying Tryd.underlying38]
  have hln := hb.len
  obtain ⟨W, hW, hbW, hsW, r6, r7, r8⟩ := boxes3 w (.cells #[.slice none 0 0] 38) (.cells #[.int .i64 0] 3) (.cells #[.int .i64 0] 47)
  by_cases hk : k < 0 ∨ (L.length : Int) < k
  · have hcat := catchP_fail 3 w.heap.size (w.heap.size + 1) (w.heap.size + 1 + 1) _ _ _ W w w.heap.size r6 r7 r8 ⟨by omega, by omega, by omega⟩ ⟨by omega, by omega, by omega⟩ hbW
    have Hcat := Lib.hid hcat
    clear hcat r6 r7 r8
    have hfin : rdAt rdPgs L k = .error 3 := if_pos hk
    rw [hfin]
    by_cases h0 : k < 0
    · have d0 : decide (k < 0) = true := by simpa using h0
      go_enter_defers Tryd.func35, Tryd.ntmps35
      go_wp2
      rw [← hW]
      refine leaves_cons (f := 54) (args := #[.pointer (some ⟨w.heap.size, 0, none⟩), .pointer (some ⟨w.heap.size + 1, 0, none⟩), .pointer (some ⟨w.heap.size + 1 + 1, 0, none⟩)]) (by simp) (by simp [go_sem]) ?_
      refine Hcat.out.mono ?_
      rintro e u' w'' ⟨rfl, rfl, g6, g7, g8, hbb⟩
      refine leaves_ccc rfl (results_ccc rfl rfl rfl rfl (run_ld1 (hap _) g6) (run_ld1 (hag _) g7) (run_ld1 (hae _) g8)) ?_
      exact ⟨rfl, hbb⟩
    · have d0 : decide (k < 0) = false := by simpa using h0
      have d1 : decide ((n : Int) < k) = true := by simp; omega
      go_enter_defers Tryd.func35, Tryd.ntmps35
      go_wp2
      rw [← hW]
      refine leaves_cons (f := 54) (args := #[.pointer (some ⟨w.heap.size, 0, none⟩), .pointer (some ⟨w.heap.size + 1, 0, none⟩), .pointer (some ⟨w.heap.size + 1 + 1, 0, none⟩)]) (by simp) (by simp [go_sem]) ?_
      refine Hcat.out.mono ?_
      rintro e u' w'' ⟨rfl, rfl, g6, g7, g8, hbb⟩
      refine leaves_ccc rfl (results_ccc rfl rfl rfl rfl (run_ld1 (hap _) g6) (run_ld1 (hag _) g7) (run_ld1 (hae _) g8)) ?_
      exact ⟨rfl, hbb⟩
  · obtain ⟨p, rfl⟩ := Int.eq_ofNat_of_zero_le (show 0 ≤ k by omega)
    have hp : p ≤ n := by omega
    have hfin : rdAt rdPgs L (p : Int) = rdPgs L p := (if_neg hk).trans (by rw [Int.toNat_natCast])
    rw [hfin]
    clear hfin hk
    have d0 : decide ((p : Int) < 0) = false := by simp
    have d1 : decide ((n : Int) < (p : Int)) = false := by simp; omega
    have d2 : decide (n < p) = false := by simp; omega
    obtain ⟨W2, hW2⟩ : ∃ W2, W2 = W.alloc (.cells #[.slice A n c, .int .i64 (p : Int)] 108) := ⟨_, rfl⟩
    have hb2 : Below W.heap.size W W2 := by rw [hW2]; exact (Below.refl _ _).alloc (Nat.le_refl _) _
    have r9 : W2.heap[W.heap.size]? = some (.cells #[.slice A n c, .int .i64 (p : Int)] 108 (0, 0)) := by rw [hW2]; exact heap_alloc_new _ _
    have hRd : Rdr w.heap.size W2 W.heap.size L p := by
      have h1 := hln.1
      subst h1
      exact ⟨by omega, A, c, r9, (hb.mono (fun _ h _ => h)).ext (Below.ext hbW hb2), by omega, by omega⟩
    go_enter_defers Tryd.func35, Tryd.ntmps35
    go_wp2_with fail
    rw [← hW, ← hsW, ← hW2]
    refine (rpages_any w.heap.size W.heap.size p L W2 hRd).mono ?_
    intro e w3 h3
    have s2 := hb2.size
    have hs3 : w.heap.size + 1 + 1 < W.heap.size := by omega
    clear hsW hW hW2
    have hlt9 : W.heap.size < W2.heap.size := hRd.lt
    unfold Reads at h3
    cases hx : rdPgs L p with
    | error x =>
      rw [hx] at h3
      obtain ⟨rfl, hg3⟩ := h3
      have k6 := (hg3.block w.heap.size (by omega) (by simp; omega)).trans ((hb2.block _ (by omega)).trans r6)
      have k7 := (hg3.block (w.heap.size + 1) (by omega) (by simp; omega)).trans ((hb2.block _ (by omega)).trans r7)
      have k8 := (hg3.block (w.heap.size + 1 + 1) (by omega) (by simp; omega)).trans ((hb2.block _ (by omega)).trans r8)
      have hcat := catchP_fail x w.heap.size (w.heap.size + 1) (w.heap.size + 1 + 1) _ _ _ w3 w w.heap.size k6 k7 k8 ⟨by omega, by omega, by omega⟩ ⟨by omega, by omega, by omega⟩ (Below.grow (Below.ext hbW hb2) hg3 (by omega))
      have Hcat := Lib.hid hcat
      clear hcat r6 r7 r8 k6 k7 k8 hRd r9
      go_wp2
      refine leaves_cons (f := 54) (args := #[.pointer (some ⟨w.heap.size, 0, none⟩), .pointer (some ⟨w.heap.size + 1, 0, none⟩), .pointer (some ⟨w.heap.size + 1 + 1, 0, none⟩)]) (by simp [failP]) (by simp [go_sem]) ?_
      refine Hcat.out.mono ?_
      rintro e u' w'' ⟨rfl, rfl, g6, g7, g8, hbb⟩
      refine leaves_ccc rfl (results_ccc rfl rfl rfl rfl (run_ld1 (hap _) g6) (run_ld1 (hag _) g7) (run_ld1 (hae _) g8)) ?_
      rw [hx]
      exact ⟨rfl, hbb⟩
    | ok vq =>
      obtain ⟨v, q⟩ := vq
      rw [hx] at h3
      obtain ⟨⟨_, rfl, Av, cv, rfl, hO⟩, hR3, hg3⟩ := h3
      have k6 := (hg3.block w.heap.size (by omega) (by simp; omega)).trans ((hb2.block _ (by omega)).trans r6)
      have k7 := (hg3.block (w.heap.size + 1) (by omega) (by simp; omega)).trans ((hb2.block _ (by omega)).trans r7)
      have k8 := (hg3.block (w.heap.size + 1 + 1) (by omega) (by simp; omega)).trans ((hb2.block _ (by omega)).trans r8)
      have c6 : w3.cell? ⟨w.heap.size, 0, none⟩ = some (.slice none 0 0) := by rw [cell_of_row _ _ _ _ _ _ k6]; rfl
      have c7 : w3.cell? ⟨w.heap.size + 1, 0, none⟩ = some (.int .i64 0) := by rw [cell_of_row _ _ _ _ _ _ k7]; rfl
      have c8 : w3.cell? ⟨w.heap.size + 1 + 1, 0, none⟩ = some (.int .i64 0) := by rw [cell_of_row _ _ _ _ _ _ k8]; rfl
      have f6 := frozen_of_row _ _ 0 _ _ k6
      have f7 := frozen_of_row _ _ 0 _ _ k7
      have f8 := frozen_of_row _ _ 0 _ _ k8
      have b3 := Below.grow (Below.ext hbW hb2) hg3 (by omega)
      have c9 : w3.cell? ⟨W.heap.size, 1, none⟩ = some (.int .i64 (q : Int)) := by
        obtain ⟨_, A', c', h1, _⟩ := hR3
        rw [cell_of_row _ _ _ _ _ _ h1]; rfl
      clear r6 r7 r8 k6 k7 k8 hRd r9
      have n9 : W.heap.size ≠ w.heap.size := by omega
      go_wp2_with fail
      have e6 : (w3.setCell ⟨w.heap.size, 0, none⟩ (.slice Av v.length cv)).cell? ⟨w.heap.size, 0, none⟩ = some (.slice Av v.length cv) := by go_simp
      have e9 : (w3.setCell ⟨w.heap.size, 0, none⟩ (.slice Av v.length cv)).cell? ⟨W.heap.size, 1, none⟩ = some (.int .i64 (q : Int)) := by go_simp
      have f6' : (w3.setCell ⟨w.heap.size, 0, none⟩ (.slice Av v.length cv)).frozen? ⟨w.heap.size, 0, none⟩ = false := by go_simp
      have bS := b3.setCell (p := ⟨w.heap.size, 0, none⟩) (Nat.le_refl _) (.slice Av v.length cv)
      have e7 : (w3.setCell ⟨w.heap.size, 0, none⟩ (.slice Av v.length cv)).cell? ⟨w.heap.size + 1, 0, none⟩ = some (.int .i64 0) := by go_simp
      have e8 : (w3.setCell ⟨w.heap.size, 0, none⟩ (.slice Av v.length cv)).cell? ⟨w.heap.size + 1 + 1, 0, none⟩ = some (.int .i64 0) := by go_simp
      have f7' : (w3.setCell ⟨w.heap.size, 0, none⟩ (.slice Av v.length cv)).frozen? ⟨w.heap.size + 1, 0, none⟩ = false := by go_simp
      have f8' : (w3.setCell ⟨w.heap.size, 0, none⟩ (.slice Av v.length cv)).frozen? ⟨w.heap.size + 1 + 1, 0, none⟩ = false := by go_simp
      clear c6 c7 c8 f6 f7 f8 c9 b3
      have hO := hO.kept (grown_set (j := 0) (v := .slice Av v.length cv) ⟨rfl, rfl, rfl, Nat.le_refl _, fun _ _ _ => rfl⟩ : w3.grownBy (w3.setCell ⟨w.heap.size, 0, none⟩ (.slice Av v.length cv)) (some w.heap.size)) (by omega)
      generalize w3.setCell ⟨w.heap.size, 0, none⟩ (.slice Av v.length cv) = W4 at *
      refine wp_region_lexL (fun w' => w'.cell? ⟨w.heap.size, 0, none⟩ = some (.slice Av v.length cv) ∧ w'.cell? ⟨W.heap.size, 1, none⟩ = some (.int .i64 (q : Int))) (by kernel_rfl) (by kernel_rfl) ⟨e6, e9⟩ ?_
      repeat (first | (refine lexL_q0 rfl ?_; go_big_quiet_step (fail); refine wpQuiet_nil ?_) | (refine lexL_skip0 rfl rfl ?_; simp only [Act.put, List.setIfInBounds_toArray, List.set_cons_succ, List.set_cons_zero]))
      refine lexL_ld (⟨w.heap.size, 0, none⟩) (.slice Av v.length cv) rfl rfl rfl (fun w' hw' => run_ld1 (hap _) hw'.1) ?_
      simp only [Act.put, List.setIfInBounds_toArray, List.set_cons_succ, List.set_cons_zero]
      repeat (first | (refine lexL_q0 rfl ?_; go_big_quiet_step (fail); refine wpQuiet_nil ?_) | (refine lexL_skip0 rfl rfl ?_; simp only [Act.put, List.setIfInBounds_toArray, List.set_cons_succ, List.set_cons_zero]))
      refine lexL_ld (⟨W.heap.size, 1, none⟩) (.int .i64 (q : Int)) rfl rfl rfl (fun w' hw' => run_ld1 (hag _) hw'.2) ?_
      simp only [Act.put, List.setIfInBounds_toArray, List.set_cons_succ, List.set_cons_zero]
      repeat (first | (refine lexL_q0 rfl ?_; go_big_quiet_step (fail); refine wpQuiet_nil ?_) | (refine lexL_skip0 rfl rfl ?_; simp only [Act.put, List.setIfInBounds_toArray, List.set_cons_succ, List.set_cons_zero]))
      refine lexL_e rfl ?_
      go_wp2_with fail
      go_wp2_with fail
      refine lexL_go (⟨by go_simp, by go_simp⟩) ?_
      repeat (first | (refine lexL_q0 rfl ?_; go_big_quiet_step (fail); refine wpQuiet_nil ?_) | (refine lexL_skip0 rfl rfl ?_; simp only [Act.put, List.setIfInBounds_toArray, List.set_cons_succ, List.set_cons_zero]))
      refine lexL_e rfl ?_
      go_wp2_with fail
      go_wp2_with fail
      refine lexL_go (⟨by go_simp, by go_simp⟩) ?_
      repeat (first | (refine lexL_q0 rfl ?_; go_big_quiet_step (fail); refine wpQuiet_nil ?_) | (refine lexL_skip0 rfl rfl ?_; simp only [Act.put, List.setIfInBounds_toArray, List.set_cons_succ, List.set_cons_zero]))
      refine lexL_e rfl ?_
      go_wp2_with fail
      go_wp2_with fail
      refine lexL_go (⟨by go_simp, by go_simp⟩) ?_
      repeat (first | (refine lexL_q0 rfl ?_; go_big_quiet_step (fail); refine wpQuiet_nil ?_) | (refine lexL_skip0 rfl rfl ?_; simp only [Act.put, List.setIfInBounds_toArray, List.set_cons_succ, List.set_cons_zero]))
      refine lexL_nil ?_
      go_wp2_with fail
      have g6 : (((W4.setCell ⟨w.heap.size, 0, none⟩ (.slice Av v.length cv)).setCell ⟨w.heap.size + 1, 0, none⟩ (.int .i64 (q : Int))).setCell ⟨w.heap.size + 1 + 1, 0, none⟩ (.int .i64 0)).drew.cell? ⟨w.heap.size, 0, none⟩ = some (.slice Av v.length cv) := by go_simp
      have g7 : (((W4.setCell ⟨w.heap.size, 0, none⟩ (.slice Av v.length cv)).setCell ⟨w.heap.size + 1, 0, none⟩ (.int .i64 (q : Int))).setCell ⟨w.heap.size + 1 + 1, 0, none⟩ (.int .i64 0)).drew.cell? ⟨w.heap.size + 1, 0, none⟩ = some (.int .i64 (q : Int)) := by go_simp
      have g8 : (((W4.setCell ⟨w.heap.size, 0, none⟩ (.slice Av v.length cv)).setCell ⟨w.heap.size + 1, 0, none⟩ (.int .i64 (q : Int))).setCell ⟨w.heap.size + 1 + 1, 0, none⟩ (.int .i64 0)).drew.cell? ⟨w.heap.size + 1 + 1, 0, none⟩ = some (.int .i64 0) := by go_simp
      have b7 := (((bS.setCell (p := ⟨w.heap.size, 0, none⟩) (Nat.le_refl _) (.slice Av v.length cv)).setCell (p := ⟨w.heap.size + 1, 0, none⟩) (show _ ≤ w.heap.size + 1 by omega) (.int .i64 (q : Int))).setCell (p := ⟨w.heap.size + 1 + 1, 0, none⟩) (show _ ≤ w.heap.size + 1 + 1 by omega) (.int .i64 0)).drew
      have vg0 : W4.grownBy (W4.setCell ⟨w.heap.size, 0, none⟩ (.slice Av v.length cv)) (some w.heap.size) := grown_set ⟨rfl, rfl, rfl, Nat.le_refl _, fun _ _ _ => rfl⟩
      have vg1 : (W4.setCell ⟨w.heap.size, 0, none⟩ (.slice Av v.length cv)).grownBy ((W4.setCell ⟨w.heap.size, 0, none⟩ (.slice Av v.length cv)).setCell ⟨w.heap.size + 1, 0, none⟩ (.int .i64 (q : Int))) (some (w.heap.size + 1)) := grown_set ⟨rfl, rfl, rfl, Nat.le_refl _, fun _ _ _ => rfl⟩
      have vg2 : ((W4.setCell ⟨w.heap.size, 0, none⟩ (.slice Av v.length cv)).setCell ⟨w.heap.size + 1, 0, none⟩ (.int .i64 (q : Int))).grownBy (((W4.setCell ⟨w.heap.size, 0, none⟩ (.slice Av v.length cv)).setCell ⟨w.heap.size + 1, 0, none⟩ (.int .i64 (q : Int))).setCell ⟨w.heap.size + 1 + 1, 0, none⟩ (.int .i64 0)) (some (w.heap.size + 1 + 1)) := grown_set ⟨rfl, rfl, rfl, Nat.le_refl _, fun _ _ _ => rfl⟩
      have hO := (((hO.kept vg0 (by omega)).kept vg1 (by omega)).kept vg2 (by omega)).dr
      clear vg0 vg1 vg2
      generalize (((W4.setCell ⟨w.heap.size, 0, none⟩ (.slice Av v.length cv)).setCell ⟨w.heap.size + 1, 0, none⟩ (.int .i64 (q : Int))).setCell ⟨w.heap.size + 1 + 1, 0, none⟩ (.int .i64 0)).drew = W7 at *
      refine leaves_cons (f := 54) (args := #[.pointer (some ⟨w.heap.size, 0, none⟩), .pointer (some ⟨w.heap.size + 1, 0, none⟩), .pointer (some ⟨w.heap.size + 1 + 1, 0, none⟩)]) (by simp) (by simp [go_sem]) ?_
      refine (catchP_idle _ _ _ W7).mono ?_
      rintro e u' w'' ⟨rfl, rfl, rfl⟩
      refine leaves_ccc rfl (results_ccc rfl rfl rfl rfl (run_ld1 (hap _) g6) (run_ld1 (hag _) g7) (run_ld1 (hae _) g8)) ?_
      refine ⟨?_, b7⟩
      rw [hx]
      exact ⟨_, rfl, Av, cv, rfl, hO.weak (by omega)⟩
theorem codecPages_any (A : Option Addr) (n c : Nat) (k : Int) (L : List UInt8) (S : Nat → Prop) (w : World) (hb : Bytes S w (.slice A n c) L) (hn : n ≤ 100000000) :
    Calls Tryd.prog 16 #[.slice A n c, .int .i64 k] w fun e w' => RdOut (rdAt rdPgs L k) (.slice none 0 0) (fun a w' v => ∃ A c, v = .slice A a.length c ∧ PgsOwn w.heap.size w' v a) e w' ∧ Below w.heap.size w w' := by
  go_enter Tryd.func16, Tryd.ntmps16
  go_wp2_with fail
  refine (readP_any A n c k L S w hb hn).mono ?_
  rintro e w1 ⟨h1, hb1⟩
  unfold RdOut at h1
  cases hx : rdAt rdPgs L k with
  | error x =>
    rw [hx] at h1
    subst h1
    go_wp2
    refine bodyPost_ret (results_tmp3 rfl _ _ _) rfl ?_
    rw [hx]
    exact ⟨rfl, hb1⟩
  | ok vq =>
    obtain ⟨v, q⟩ := vq
    rw [hx] at h1
    obtain ⟨u, rfl, hV⟩ := h1
    go_wp2
    refine bodyPost_ret (results_tmp3 rfl _ _ _) rfl ?_
    rw [hx]
    exact ⟨⟨_, rfl, hV⟩, hb1⟩
end Go.Proofs.YtiblijmngokcgaaDoor
namespace Go.Proofs.YtiblijmngokcgaaDoor
open Go.RowKit
set_option maxRecDepth 100000
set_option linter.unusedVariables false
set_option maxHeartbeats 1000000 in
theorem codecDet_any (A : Option Addr) (n c : Nat) (k : Int) (L : List UInt8) (S : Nat → Prop) (w : World) (hb : Bytes S w (.slice A n c) L) (hn : n ≤ 100000000) :
    Calls Tryd.prog 19 #[.slice A n c, .int .i64 k] w fun e w' => RdOut (rdAt rdDt L k) (.agg #[Value.int .i64 0, Value.int .i64 0, Value.int .i64 0, Value.int .i64 0, Value.int .i64 0, Value.int .i64 0, Value.int .i64 0, Value.int .i64 0, Value.int .i64 0]) (fun a w' v => v = dtV a) e w' ∧ Below w.heap.size w w' := by
  obtain ⟨W, hW⟩ : ∃ W, W = w.alloc (.cells #[Value.int .i64 0, Value.int .i64 0, Value.int .i64 0, Value.int .i64 0, Value.int .i64 0, Value.int .i64 0, Value.int .i64 0, Value.int .i64 0, Value.int .i64 0] 45) := ⟨_, rfl⟩
  have hbW : Below w.heap.size w W := by rw [hW]; exact (Below.refl _ _).alloc (Nat.le_refl _) _
  have r0 : W.heap[w.heap.size]? = some (.cells #[Value.int .i64 0, Value.int .i64 0, Value.int .i64 0, Value.int .i64 0, Value.int .i64 0, Value.int .i64 0, Value.int .i64 0, Value.int .i64 0, Value.int .i64 0] 45 (0, 0)) := by rw [hW]; exact heap_alloc_new _ _
  have hsW : W.heap.size = w.heap.size + 1 := by rw [hW]; simp
  go_enter Tryd.func19, Tryd.ntmps19
  go_wp2_with fail
  rw [← hW]
  clear hW
  refine (readD_any A n c k L S W (hb.ext hbW) hn).mono ?_
  rintro e w1 ⟨h1, hb1⟩
  have R1 := Lib.hid ((hb1.block w.heap.size (by omega)).trans r0)
  have b1 := Below.ext hbW hb1
  clear r0 hb1
  unfold RdOut at h1
  cases hx : rdAt rdDt L k with
  | error x =>
    rw [hx] at h1
    subst h1
    go_wp2_with (refine wpList_store_row rfl 45 _ _ rfl w.heap.size 45 _ _ rfl rfl R1.out (by kernel_rfl) rfl (by simp [Value.oneCell']) ?_)
    refine bodyPost_ret (results_ctt rfl rfl (run_ld_block (setRow_heap _ _ _ _ _ _ R1.out) Tryd.underlying45 rfl (by kernel_rfl))) rfl ?_
    rw [hx]
    exact ⟨rfl, Below.setRow b1 (Nat.le_refl _) _⟩
  | ok vq =>
    obtain ⟨v, q⟩ := vq
    rw [hx] at h1
    obtain ⟨u, rfl, hV⟩ := h1
    unfold dtV at hV
    subst hV
    have hg : w1.grownBy (w1.setRow w.heap.size #[Value.int .i64 v.proc, Value.int .i64 v.index, Value.int .i64 v.ev.k0, Value.int .i64 v.ev.k1, Value.int .i64 v.ev.k2, Value.int .i64 v.ev.k3, Value.int .i64 v.ev.k4, Value.int .i64 v.ev.k5, Value.int .i64 v.ev.k6]) (some w.heap.size) := grown_setRow _ _ _
    go_wp2_with (refine wpList_store_row rfl 45 _ _ rfl w.heap.size 45 _ _ rfl rfl R1.out (by kernel_rfl) rfl (by simp [Value.oneCell']) ?_)
    refine bodyPost_ret (results_ctt rfl rfl (run_ld_block (setRow_heap _ _ _ _ _ _ R1.out) Tryd.underlying45 rfl (by kernel_rfl))) rfl ?_
    rw [hx]
    exact ⟨⟨_, rfl, rfl⟩, Below.setRow b1 (Nat.le_refl _) _⟩
set_option maxHeartbeats 1000000 in
theorem codecState_any (A : Option Addr) (n c : Nat) (k : Int) (L : List UInt8) (S : Nat → Prop) (w : World) (hb : Bytes S w (.slice A n c) L) (hn : n ≤ 100000000) :
    Calls Tryd.prog 12 #[.slice A n c, .int .i64 k] w fun e w' => RdOut (rdAt rdSt L k) (.agg #[Value.slice none 0 0, Value.slice none 0 0, Value.slice none 0 0, Value.slice none 0 0]) (fun a w' v => StO w' w.heap.size v a) e w' ∧ Below w.heap.size w w' := by
  obtain ⟨W, hW⟩ : ∃ W, W = w.alloc (.cells #[Value.slice none 0 0, Value.slice none 0 0, Value.slice none 0 0, Value.slice none 0 0] 31) := ⟨_, rfl⟩
  have hbW : Below w.heap.size w W := by rw [hW]; exact (Below.refl _ _).alloc (Nat.le_refl _) _
  have r0 : W.heap[w.heap.size]? = some (.cells #[Value.slice none 0 0, Value.slice none 0 0, Value.slice none 0 0, Value.slice none 0 0] 31 (0, 0)) := by rw [hW]; exact heap_alloc_new _ _
  have hsW : W.heap.size = w.heap.size + 1 := by rw [hW]; simp
  go_enter Tryd.func12, Tryd.ntmps12
  go_wp2_with fail
  rw [← hW]
  clear hW
  refine (readS_any A n c k L S W (hb.ext hbW) hn).mono ?_
  rintro e w1 ⟨h1, hb1⟩
  have R1 := Lib.hid ((hb1.block w.heap.size (by omega)).trans r0)
  have b1 := Below.ext hbW hb1
  clear r0 hb1
  unfold RdOut at h1
  cases hx : rdAt rdSt L k with
  | error x =>
    rw [hx] at h1
    subst h1
    go_wp2_with (refine wpList_store_row rfl 31 _ _ rfl w.heap.size 31 _ _ rfl rfl R1.out (by kernel_rfl) rfl (by simp [Value.oneCell']) ?_)
    refine bodyPost_ret (results_ctt rfl rfl (run_ld_block (setRow_heap _ _ _ _ _ _ R1.out) Tryd.underlying31 rfl (by kernel_rfl))) rfl ?_
    rw [hx]
    exact ⟨rfl, Below.setRow b1 (Nat.le_refl _) _⟩
  | ok vq =>
    obtain ⟨v, q⟩ := vq
    rw [hx] at h1
    obtain ⟨u, rfl, hV⟩ := h1
    obtain ⟨A1, c1, A2, c2, A3, c3, A4, c4, rfl, hO1, hO2, hO3, hO4⟩ := hV
    have hg : w1.grownBy (w1.setRow w.heap.size #[Value.slice A1 v.cells.length c1, Value.slice A2 v.evs.length c2, Value.slice A3 v.sent.length c3, Value.slice A4 v.outs.length c4]) (some w.heap.size) := grown_setRow _ _ _
    have hO1 := hO1.kept_lt hg (by omega)
    have hO2 := hO2.kept_lt hg (by omega)
    have hO3 := hO3.kept_lt hg (by omega)
    have hO4 := hO4.kept_lt hg (by omega)
    go_wp2_with (refine wpList_store_row rfl 31 _ _ rfl w.heap.size 31 _ _ rfl rfl R1.out (by kernel_rfl) rfl (by simp [Value.oneCell']) ?_)
    refine bodyPost_ret (results_ctt rfl rfl (run_ld_block (setRow_heap _ _ _ _ _ _ R1.out) Tryd.underlying31 rfl (by kernel_rfl))) rfl ?_
    rw [hx]
    exact ⟨⟨_, rfl, A1, c1, A2, c2, A3, c3, A4, c4, rfl, hO1.weak (by omega), hO2.weak (by omega), hO3.weak (by omega), hO4.weak (by omega)⟩, Below.setRow b1 (Nat.le_refl _) _⟩
end Go.Proofs.YtiblijmngokcgaaDoor
