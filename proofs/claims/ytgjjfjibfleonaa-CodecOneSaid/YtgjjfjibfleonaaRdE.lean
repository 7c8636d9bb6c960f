/-
  codec.reader: structs of numbers.
-/
import Derived.Test.YtgjjfjibfleonaaRd
namespace Go.Proofs.Ytgjjfjibfleonaa
open Go.RowKit
set_option maxRecDepth 100000
set_option linter.unusedVariables false

set_option maxHeartbeats 2000000 in
theorem rout_any (B r p : Nat) (L : List UInt8) (w : World) (h : Rdr B w r L p) :
    Calls Try.prog 68 #[.pointer (some ⟨r, 0, none⟩)] w fun e w' => Reads B r L w (rdOu L p) (fun a _ v => v = ouV a) e w' := by
  obtain ⟨W0, hW, hI0⟩ := RB.new (T := 75) (c2 := #[Value.int .i64 0, Value.int .i64 0]) (c3 := #[Value.int .i64 0, Value.int .i64 0]) h
  go_enter Try.func68, Try.ntmps68
  go_wp2_with fail
  rw [← hW]
  clear hW
  refine (rint_any B r p L W0 hI0.rd).mono ?_
  intro e w1 h1
  unfold Reads at h1
  cases hx1 : rdInt L p with
  | error k =>
    rw [hx1] at h1
    obtain ⟨rfl, hg⟩ := h1
    have hgr := grown_tr hI0.gr hg
    have hfin : rdOu L p = .error k := by unfold rdOu; rw [bnd_er hx1]
    clear hI0
    go_wp2
    refine ⟨rfl, ?_⟩
    unfold Reads
    rw [hfin]
    exact ⟨rfl, hgr⟩
  | ok vq =>
    obtain ⟨v1, q1⟩ := vq
    rw [hx1] at h1
    obtain ⟨⟨_, rfl, rfl⟩, hR, hg⟩ := h1
    have hJ := hI0.call hR hg
    have hc := hJ.cell 0 (v := .int .i64 0) rfl
    have hf := hJ.frz 0
    have hI1 : RB B r L 75 #[Value.int .i64 0, Value.int .i64 0] w (w1.setCell ⟨w.heap.size + 1, 0, none⟩ (.int .i64 v1)) q1 #[Value.int .i64 v1, Value.int .i64 0] := hJ.set 0 (.int .i64 v1)
    clear hJ hI0 hg hR
    go_wp2_with fail
    clear hc hf
    generalize w1.setCell ⟨w.heap.size + 1, 0, none⟩ (.int .i64 v1) = W1 at *
    refine (rint_any B r q1 L W1 hI1.rd).mono ?_
    intro e w2 h2
    unfold Reads at h2
    cases hx2 : rdInt L q1 with
    | error k =>
      rw [hx2] at h2
      obtain ⟨rfl, hg⟩ := h2
      have hgr := grown_tr hI1.gr hg
      have hfin : rdOu L p = .error k := by unfold rdOu; rw [bnd_ok hx1, bnd_er hx2]
      clear hI1
      go_wp2
      refine ⟨rfl, ?_⟩
      unfold Reads
      rw [hfin]
      exact ⟨rfl, hgr⟩
    | ok vq =>
      obtain ⟨v2, q2⟩ := vq
      rw [hx2] at h2
      obtain ⟨⟨_, rfl, rfl⟩, hR, hg⟩ := h2
      have hJ := hI1.call hR hg
      have hc := hJ.cell 1 (v := .int .i64 0) rfl
      have hf := hJ.frz 1
      have hI2 : RB B r L 75 #[Value.int .i64 0, Value.int .i64 0] w (w2.setCell ⟨w.heap.size + 1, 1, none⟩ (.int .i64 v2)) q2 #[Value.int .i64 v1, Value.int .i64 v2] := hJ.set 1 (.int .i64 v2)
      clear hJ hI1 hg hR
      have hfin : rdOu L p = .ok (⟨v1, v2⟩, q2) := by unfold rdOu; rw [bnd_ok hx1, bnd_ok hx2]
      have k0 : (w2.setCell ⟨w.heap.size + 1, 1, none⟩ (.int .i64 v2)).cell? ⟨w.heap.size + 1, 0, none⟩ = some (.int .i64 v1) := hI2.cell 0 rfl
      have k1 : (w2.setCell ⟨w.heap.size + 1, 1, none⟩ (.int .i64 v2)).cell? ⟨w.heap.size + 1, 1, none⟩ = some (.int .i64 v2) := hI2.cell 1 rfl
      have H2 := Lib.hid hI2.b2
      have HI := Lib.hid hI2
      clear hI2
      go_wp2_with (first | (refine wpList_store_row rfl 75 _ _ rfl w.heap.size 75 _ _ rfl rfl H2.out (by kernel_rfl) rfl (by simp [Value.oneCell']) ?_))
      refine bodyPost_ret (results_c rfl rfl (run_ld_block (setRow_heap _ _ _ _ _ _ H2.out) Try.underlying75 rfl (by kernel_rfl))) rfl ?_
      unfold Reads
      rw [hfin]
      exact ⟨⟨_, rfl, rfl⟩, HI.out.end_ _⟩

set_option maxHeartbeats 2000000 in
theorem rsend_any (B r p : Nat) (L : List UInt8) (w : World) (h : Rdr B w r L p) :
    Calls Try.prog 66 #[.pointer (some ⟨r, 0, none⟩)] w fun e w' => Reads B r L w (rdSn L p) (fun a _ v => v = snV a) e w' := by
  obtain ⟨W0, hW, hI0⟩ := RB.new (T := 73) (c2 := #[Value.int .i64 0, Value.int .i64 0, Value.int .i64 0, Value.int .i64 0]) (c3 := #[Value.int .i64 0, Value.int .i64 0, Value.int .i64 0, Value.int .i64 0]) h
  go_enter Try.func66, Try.ntmps66
  go_wp2_with fail
  rw [← hW]
  clear hW
  refine (rint_any B r p L W0 hI0.rd).mono ?_
  intro e w1 h1
  unfold Reads at h1
  cases hx1 : rdInt L p with
  | error k =>
    rw [hx1] at h1
    obtain ⟨rfl, hg⟩ := h1
    have hgr := grown_tr hI0.gr hg
    have hfin : rdSn L p = .error k := by unfold rdSn; rw [bnd_er hx1]
    clear hI0
    go_wp2
    refine ⟨rfl, ?_⟩
    unfold Reads
    rw [hfin]
    exact ⟨rfl, hgr⟩
  | ok vq =>
    obtain ⟨v1, q1⟩ := vq
    rw [hx1] at h1
    obtain ⟨⟨_, rfl, rfl⟩, hR, hg⟩ := h1
    have hJ := hI0.call hR hg
    have hc := hJ.cell 0 (v := .int .i64 0) rfl
    have hf := hJ.frz 0
    have hI1 : RB B r L 73 #[Value.int .i64 0, Value.int .i64 0, Value.int .i64 0, Value.int .i64 0] w (w1.setCell ⟨w.heap.size + 1, 0, none⟩ (.int .i64 v1)) q1 #[Value.int .i64 v1, Value.int .i64 0, Value.int .i64 0, Value.int .i64 0] := hJ.set 0 (.int .i64 v1)
    clear hJ hI0 hg hR
    go_wp2_with fail
    clear hc hf
    generalize w1.setCell ⟨w.heap.size + 1, 0, none⟩ (.int .i64 v1) = W1 at *
    refine (rint_any B r q1 L W1 hI1.rd).mono ?_
    intro e w2 h2
    unfold Reads at h2
    cases hx2 : rdInt L q1 with
    | error k =>
      rw [hx2] at h2
      obtain ⟨rfl, hg⟩ := h2
      have hgr := grown_tr hI1.gr hg
      have hfin : rdSn L p = .error k := by unfold rdSn; rw [bnd_ok hx1, bnd_er hx2]
      clear hI1
      go_wp2
      refine ⟨rfl, ?_⟩
      unfold Reads
      rw [hfin]
      exact ⟨rfl, hgr⟩
    | ok vq =>
      obtain ⟨v2, q2⟩ := vq
      rw [hx2] at h2
      obtain ⟨⟨_, rfl, rfl⟩, hR, hg⟩ := h2
      have hJ := hI1.call hR hg
      have hc := hJ.cell 1 (v := .int .i64 0) rfl
      have hf := hJ.frz 1
      have hI2 : RB B r L 73 #[Value.int .i64 0, Value.int .i64 0, Value.int .i64 0, Value.int .i64 0] w (w2.setCell ⟨w.heap.size + 1, 1, none⟩ (.int .i64 v2)) q2 #[Value.int .i64 v1, Value.int .i64 v2, Value.int .i64 0, Value.int .i64 0] := hJ.set 1 (.int .i64 v2)
      clear hJ hI1 hg hR
      go_wp2_with fail
      clear hc hf
      generalize w2.setCell ⟨w.heap.size + 1, 1, none⟩ (.int .i64 v2) = W2 at *
      refine (rint_any B r q2 L W2 hI2.rd).mono ?_
      intro e w3 h3
      unfold Reads at h3
      cases hx3 : rdInt L q2 with
      | error k =>
        rw [hx3] at h3
        obtain ⟨rfl, hg⟩ := h3
        have hgr := grown_tr hI2.gr hg
        have hfin : rdSn L p = .error k := by unfold rdSn; rw [bnd_ok hx1, bnd_ok hx2, bnd_er hx3]
        clear hI2
        go_wp2
        refine ⟨rfl, ?_⟩
        unfold Reads
        rw [hfin]
        exact ⟨rfl, hgr⟩
      | ok vq =>
        obtain ⟨v3, q3⟩ := vq
        rw [hx3] at h3
        obtain ⟨⟨_, rfl, rfl⟩, hR, hg⟩ := h3
        have hJ := hI2.call hR hg
        have hc := hJ.cell 2 (v := .int .i64 0) rfl
        have hf := hJ.frz 2
        have hI3 : RB B r L 73 #[Value.int .i64 0, Value.int .i64 0, Value.int .i64 0, Value.int .i64 0] w (w3.setCell ⟨w.heap.size + 1, 2, none⟩ (.int .i64 v3)) q3 #[Value.int .i64 v1, Value.int .i64 v2, Value.int .i64 v3, Value.int .i64 0] := hJ.set 2 (.int .i64 v3)
        clear hJ hI2 hg hR
        go_wp2_with fail
        clear hc hf
        generalize w3.setCell ⟨w.heap.size + 1, 2, none⟩ (.int .i64 v3) = W3 at *
        refine (rint_any B r q3 L W3 hI3.rd).mono ?_
        intro e w4 h4
        unfold Reads at h4
        cases hx4 : rdInt L q3 with
        | error k =>
          rw [hx4] at h4
          obtain ⟨rfl, hg⟩ := h4
          have hgr := grown_tr hI3.gr hg
          have hfin : rdSn L p = .error k := by unfold rdSn; rw [bnd_ok hx1, bnd_ok hx2, bnd_ok hx3, bnd_er hx4]
          clear hI3
          go_wp2
          refine ⟨rfl, ?_⟩
          unfold Reads
          rw [hfin]
          exact ⟨rfl, hgr⟩
        | ok vq =>
          obtain ⟨v4, q4⟩ := vq
          rw [hx4] at h4
          obtain ⟨⟨_, rfl, rfl⟩, hR, hg⟩ := h4
          have hJ := hI3.call hR hg
          have hc := hJ.cell 3 (v := .int .i64 0) rfl
          have hf := hJ.frz 3
          have hI4 : RB B r L 73 #[Value.int .i64 0, Value.int .i64 0, Value.int .i64 0, Value.int .i64 0] w (w4.setCell ⟨w.heap.size + 1, 3, none⟩ (.int .i64 v4)) q4 #[Value.int .i64 v1, Value.int .i64 v2, Value.int .i64 v3, Value.int .i64 v4] := hJ.set 3 (.int .i64 v4)
          clear hJ hI3 hg hR
          have hfin : rdSn L p = .ok (⟨v1, v2, v3, v4⟩, q4) := by unfold rdSn; rw [bnd_ok hx1, bnd_ok hx2, bnd_ok hx3, bnd_ok hx4]
          have k0 : (w4.setCell ⟨w.heap.size + 1, 3, none⟩ (.int .i64 v4)).cell? ⟨w.heap.size + 1, 0, none⟩ = some (.int .i64 v1) := hI4.cell 0 rfl
          have k1 : (w4.setCell ⟨w.heap.size + 1, 3, none⟩ (.int .i64 v4)).cell? ⟨w.heap.size + 1, 1, none⟩ = some (.int .i64 v2) := hI4.cell 1 rfl
          have k2 : (w4.setCell ⟨w.heap.size + 1, 3, none⟩ (.int .i64 v4)).cell? ⟨w.heap.size + 1, 2, none⟩ = some (.int .i64 v3) := hI4.cell 2 rfl
          have k3 : (w4.setCell ⟨w.heap.size + 1, 3, none⟩ (.int .i64 v4)).cell? ⟨w.heap.size + 1, 3, none⟩ = some (.int .i64 v4) := hI4.cell 3 rfl
          have H2 := Lib.hid hI4.b2
          have HI := Lib.hid hI4
          clear hI4
          go_wp2_with (first | (refine wpList_store_row rfl 73 _ _ rfl w.heap.size 73 _ _ rfl rfl H2.out (by kernel_rfl) rfl (by simp [Value.oneCell']) ?_))
          refine bodyPost_ret (results_c rfl rfl (run_ld_block (setRow_heap _ _ _ _ _ _ H2.out) Try.underlying73 rfl (by kernel_rfl))) rfl ?_
          unfold Reads
          rw [hfin]
          exact ⟨⟨_, rfl, rfl⟩, HI.out.end_ _⟩

set_option maxHeartbeats 2000000 in
theorem revent_any (B r p : Nat) (L : List UInt8) (w : World) (h : Rdr B w r L p) :
    Calls Try.prog 42 #[.pointer (some ⟨r, 0, none⟩)] w fun e w' => Reads B r L w (rdEv L p) (fun a _ v => v = evV a) e w' := by
  obtain ⟨W0, hW, hI0⟩ := RB.new (T := 35) (c2 := #[Value.int .i64 0, Value.int .i64 0, Value.int .i64 0, Value.int .i64 0, Value.int .i64 0, Value.int .i64 0, Value.int .i64 0]) (c3 := #[Value.int .i64 0, Value.int .i64 0, Value.int .i64 0, Value.int .i64 0, Value.int .i64 0, Value.int .i64 0, Value.int .i64 0]) h
  go_enter Try.func42, Try.ntmps42
  go_wp2_with fail
  rw [← hW]
  clear hW
  refine (rint_any B r p L W0 hI0.rd).mono ?_
  intro e w1 h1
  unfold Reads at h1
  cases hx1 : rdInt L p with
  | error k =>
    rw [hx1] at h1
    obtain ⟨rfl, hg⟩ := h1
    have hgr := grown_tr hI0.gr hg
    have hfin : rdEv L p = .error k := by unfold rdEv; rw [bnd_er hx1]
    clear hI0
    go_wp2
    refine ⟨rfl, ?_⟩
    unfold Reads
    rw [hfin]
    exact ⟨rfl, hgr⟩
  | ok vq =>
    obtain ⟨v1, q1⟩ := vq
    rw [hx1] at h1
    obtain ⟨⟨_, rfl, rfl⟩, hR, hg⟩ := h1
    have hJ := hI0.call hR hg
    have hc := hJ.cell 0 (v := .int .i64 0) rfl
    have hf := hJ.frz 0
    have hI1 : RB B r L 35 #[Value.int .i64 0, Value.int .i64 0, Value.int .i64 0, Value.int .i64 0, Value.int .i64 0, Value.int .i64 0, Value.int .i64 0] w (w1.setCell ⟨w.heap.size + 1, 0, none⟩ (.int .i64 v1)) q1 #[Value.int .i64 v1, Value.int .i64 0, Value.int .i64 0, Value.int .i64 0, Value.int .i64 0, Value.int .i64 0, Value.int .i64 0] := hJ.set 0 (.int .i64 v1)
    clear hJ hI0 hg hR
    go_wp2_with fail
    clear hc hf
    generalize w1.setCell ⟨w.heap.size + 1, 0, none⟩ (.int .i64 v1) = W1 at *
    refine (rint_any B r q1 L W1 hI1.rd).mono ?_
    intro e w2 h2
    unfold Reads at h2
    cases hx2 : rdInt L q1 with
    | error k =>
      rw [hx2] at h2
      obtain ⟨rfl, hg⟩ := h2
      have hgr := grown_tr hI1.gr hg
      have hfin : rdEv L p = .error k := by unfold rdEv; rw [bnd_ok hx1, bnd_er hx2]
      clear hI1
      go_wp2
      refine ⟨rfl, ?_⟩
      unfold Reads
      rw [hfin]
      exact ⟨rfl, hgr⟩
    | ok vq =>
      obtain ⟨v2, q2⟩ := vq
      rw [hx2] at h2
      obtain ⟨⟨_, rfl, rfl⟩, hR, hg⟩ := h2
      have hJ := hI1.call hR hg
      have hc := hJ.cell 1 (v := .int .i64 0) rfl
      have hf := hJ.frz 1
      have hI2 : RB B r L 35 #[Value.int .i64 0, Value.int .i64 0, Value.int .i64 0, Value.int .i64 0, Value.int .i64 0, Value.int .i64 0, Value.int .i64 0] w (w2.setCell ⟨w.heap.size + 1, 1, none⟩ (.int .i64 v2)) q2 #[Value.int .i64 v1, Value.int .i64 v2, Value.int .i64 0, Value.int .i64 0, Value.int .i64 0, Value.int .i64 0, Value.int .i64 0] := hJ.set 1 (.int .i64 v2)
      clear hJ hI1 hg hR
      go_wp2_with fail
      clear hc hf
      generalize w2.setCell ⟨w.heap.size + 1, 1, none⟩ (.int .i64 v2) = W2 at *
      refine (rint_any B r q2 L W2 hI2.rd).mono ?_
      intro e w3 h3
      unfold Reads at h3
      cases hx3 : rdInt L q2 with
      | error k =>
        rw [hx3] at h3
        obtain ⟨rfl, hg⟩ := h3
        have hgr := grown_tr hI2.gr hg
        have hfin : rdEv L p = .error k := by unfold rdEv; rw [bnd_ok hx1, bnd_ok hx2, bnd_er hx3]
        clear hI2
        go_wp2
        refine ⟨rfl, ?_⟩
        unfold Reads
        rw [hfin]
        exact ⟨rfl, hgr⟩
      | ok vq =>
        obtain ⟨v3, q3⟩ := vq
        rw [hx3] at h3
        obtain ⟨⟨_, rfl, rfl⟩, hR, hg⟩ := h3
        have hJ := hI2.call hR hg
        have hc := hJ.cell 2 (v := .int .i64 0) rfl
        have hf := hJ.frz 2
        have hI3 : RB B r L 35 #[Value.int .i64 0, Value.int .i64 0, Value.int .i64 0, Value.int .i64 0, Value.int .i64 0, Value.int .i64 0, Value.int .i64 0] w (w3.setCell ⟨w.heap.size + 1, 2, none⟩ (.int .i64 v3)) q3 #[Value.int .i64 v1, Value.int .i64 v2, Value.int .i64 v3, Value.int .i64 0, Value.int .i64 0, Value.int .i64 0, Value.int .i64 0] := hJ.set 2 (.int .i64 v3)
        clear hJ hI2 hg hR
        go_wp2_with fail
        clear hc hf
        generalize w3.setCell ⟨w.heap.size + 1, 2, none⟩ (.int .i64 v3) = W3 at *
        refine (rint_any B r q3 L W3 hI3.rd).mono ?_
        intro e w4 h4
        unfold Reads at h4
        cases hx4 : rdInt L q3 with
        | error k =>
          rw [hx4] at h4
          obtain ⟨rfl, hg⟩ := h4
          have hgr := grown_tr hI3.gr hg
          have hfin : rdEv L p = .error k := by unfold rdEv; rw [bnd_ok hx1, bnd_ok hx2, bnd_ok hx3, bnd_er hx4]
          clear hI3
          go_wp2
          refine ⟨rfl, ?_⟩
          unfold Reads
          rw [hfin]
          exact ⟨rfl, hgr⟩
        | ok vq =>
          obtain ⟨v4, q4⟩ := vq
          rw [hx4] at h4
          obtain ⟨⟨_, rfl, rfl⟩, hR, hg⟩ := h4
          have hJ := hI3.call hR hg
          have hc := hJ.cell 3 (v := .int .i64 0) rfl
          have hf := hJ.frz 3
          have hI4 : RB B r L 35 #[Value.int .i64 0, Value.int .i64 0, Value.int .i64 0, Value.int .i64 0, Value.int .i64 0, Value.int .i64 0, Value.int .i64 0] w (w4.setCell ⟨w.heap.size + 1, 3, none⟩ (.int .i64 v4)) q4 #[Value.int .i64 v1, Value.int .i64 v2, Value.int .i64 v3, Value.int .i64 v4, Value.int .i64 0, Value.int .i64 0, Value.int .i64 0] := hJ.set 3 (.int .i64 v4)
          clear hJ hI3 hg hR
          go_wp2_with fail
          clear hc hf
          generalize w4.setCell ⟨w.heap.size + 1, 3, none⟩ (.int .i64 v4) = W4 at *
          refine (rint_any B r q4 L W4 hI4.rd).mono ?_
          intro e w5 h5
          unfold Reads at h5
          cases hx5 : rdInt L q4 with
          | error k =>
            rw [hx5] at h5
            obtain ⟨rfl, hg⟩ := h5
            have hgr := grown_tr hI4.gr hg
            have hfin : rdEv L p = .error k := by unfold rdEv; rw [bnd_ok hx1, bnd_ok hx2, bnd_ok hx3, bnd_ok hx4, bnd_er hx5]
            clear hI4
            go_wp2
            refine ⟨rfl, ?_⟩
            unfold Reads
            rw [hfin]
            exact ⟨rfl, hgr⟩
          | ok vq =>
            obtain ⟨v5, q5⟩ := vq
            rw [hx5] at h5
            obtain ⟨⟨_, rfl, rfl⟩, hR, hg⟩ := h5
            have hJ := hI4.call hR hg
            have hc := hJ.cell 4 (v := .int .i64 0) rfl
            have hf := hJ.frz 4
            have hI5 : RB B r L 35 #[Value.int .i64 0, Value.int .i64 0, Value.int .i64 0, Value.int .i64 0, Value.int .i64 0, Value.int .i64 0, Value.int .i64 0] w (w5.setCell ⟨w.heap.size + 1, 4, none⟩ (.int .i64 v5)) q5 #[Value.int .i64 v1, Value.int .i64 v2, Value.int .i64 v3, Value.int .i64 v4, Value.int .i64 v5, Value.int .i64 0, Value.int .i64 0] := hJ.set 4 (.int .i64 v5)
            clear hJ hI4 hg hR
            go_wp2_with fail
            clear hc hf
            generalize w5.setCell ⟨w.heap.size + 1, 4, none⟩ (.int .i64 v5) = W5 at *
            refine (rint_any B r q5 L W5 hI5.rd).mono ?_
            intro e w6 h6
            unfold Reads at h6
            cases hx6 : rdInt L q5 with
            | error k =>
              rw [hx6] at h6
              obtain ⟨rfl, hg⟩ := h6
              have hgr := grown_tr hI5.gr hg
              have hfin : rdEv L p = .error k := by unfold rdEv; rw [bnd_ok hx1, bnd_ok hx2, bnd_ok hx3, bnd_ok hx4, bnd_ok hx5, bnd_er hx6]
              clear hI5
              go_wp2
              refine ⟨rfl, ?_⟩
              unfold Reads
              rw [hfin]
              exact ⟨rfl, hgr⟩
            | ok vq =>
              obtain ⟨v6, q6⟩ := vq
              rw [hx6] at h6
              obtain ⟨⟨_, rfl, rfl⟩, hR, hg⟩ := h6
              have hJ := hI5.call hR hg
              have hc := hJ.cell 5 (v := .int .i64 0) rfl
              have hf := hJ.frz 5
              have hI6 : RB B r L 35 #[Value.int .i64 0, Value.int .i64 0, Value.int .i64 0, Value.int .i64 0, Value.int .i64 0, Value.int .i64 0, Value.int .i64 0] w (w6.setCell ⟨w.heap.size + 1, 5, none⟩ (.int .i64 v6)) q6 #[Value.int .i64 v1, Value.int .i64 v2, Value.int .i64 v3, Value.int .i64 v4, Value.int .i64 v5, Value.int .i64 v6, Value.int .i64 0] := hJ.set 5 (.int .i64 v6)
              clear hJ hI5 hg hR
              go_wp2_with fail
              clear hc hf
              generalize w6.setCell ⟨w.heap.size + 1, 5, none⟩ (.int .i64 v6) = W6 at *
              refine (rint_any B r q6 L W6 hI6.rd).mono ?_
              intro e w7 h7
              unfold Reads at h7
              cases hx7 : rdInt L q6 with
              | error k =>
                rw [hx7] at h7
                obtain ⟨rfl, hg⟩ := h7
                have hgr := grown_tr hI6.gr hg
                have hfin : rdEv L p = .error k := by unfold rdEv; rw [bnd_ok hx1, bnd_ok hx2, bnd_ok hx3, bnd_ok hx4, bnd_ok hx5, bnd_ok hx6, bnd_er hx7]
                clear hI6
                go_wp2
                refine ⟨rfl, ?_⟩
                unfold Reads
                rw [hfin]
                exact ⟨rfl, hgr⟩
              | ok vq =>
                obtain ⟨v7, q7⟩ := vq
                rw [hx7] at h7
                obtain ⟨⟨_, rfl, rfl⟩, hR, hg⟩ := h7
                have hJ := hI6.call hR hg
                have hc := hJ.cell 6 (v := .int .i64 0) rfl
                have hf := hJ.frz 6
                have hI7 : RB B r L 35 #[Value.int .i64 0, Value.int .i64 0, Value.int .i64 0, Value.int .i64 0, Value.int .i64 0, Value.int .i64 0, Value.int .i64 0] w (w7.setCell ⟨w.heap.size + 1, 6, none⟩ (.int .i64 v7)) q7 #[Value.int .i64 v1, Value.int .i64 v2, Value.int .i64 v3, Value.int .i64 v4, Value.int .i64 v5, Value.int .i64 v6, Value.int .i64 v7] := hJ.set 6 (.int .i64 v7)
                clear hJ hI6 hg hR
                have hfin : rdEv L p = .ok (⟨v1, v2, v3, v4, v5, v6, v7⟩, q7) := by unfold rdEv; rw [bnd_ok hx1, bnd_ok hx2, bnd_ok hx3, bnd_ok hx4, bnd_ok hx5, bnd_ok hx6, bnd_ok hx7]
                have k0 : (w7.setCell ⟨w.heap.size + 1, 6, none⟩ (.int .i64 v7)).cell? ⟨w.heap.size + 1, 0, none⟩ = some (.int .i64 v1) := hI7.cell 0 rfl
                have k1 : (w7.setCell ⟨w.heap.size + 1, 6, none⟩ (.int .i64 v7)).cell? ⟨w.heap.size + 1, 1, none⟩ = some (.int .i64 v2) := hI7.cell 1 rfl
                have k2 : (w7.setCell ⟨w.heap.size + 1, 6, none⟩ (.int .i64 v7)).cell? ⟨w.heap.size + 1, 2, none⟩ = some (.int .i64 v3) := hI7.cell 2 rfl
                have k3 : (w7.setCell ⟨w.heap.size + 1, 6, none⟩ (.int .i64 v7)).cell? ⟨w.heap.size + 1, 3, none⟩ = some (.int .i64 v4) := hI7.cell 3 rfl
                have k4 : (w7.setCell ⟨w.heap.size + 1, 6, none⟩ (.int .i64 v7)).cell? ⟨w.heap.size + 1, 4, none⟩ = some (.int .i64 v5) := hI7.cell 4 rfl
                have k5 : (w7.setCell ⟨w.heap.size + 1, 6, none⟩ (.int .i64 v7)).cell? ⟨w.heap.size + 1, 5, none⟩ = some (.int .i64 v6) := hI7.cell 5 rfl
                have k6 : (w7.setCell ⟨w.heap.size + 1, 6, none⟩ (.int .i64 v7)).cell? ⟨w.heap.size + 1, 6, none⟩ = some (.int .i64 v7) := hI7.cell 6 rfl
                have H2 := Lib.hid hI7.b2
                have HI := Lib.hid hI7
                clear hI7
                go_wp2_with (first | (refine wpList_store_row rfl 35 _ _ rfl w.heap.size 35 _ _ rfl rfl H2.out (by kernel_rfl) rfl (by simp [Value.oneCell']) ?_))
                refine bodyPost_ret (results_c rfl rfl (run_ld_block (setRow_heap _ _ _ _ _ _ H2.out) Try.underlying35 rfl (by kernel_rfl))) rfl ?_
                unfold Reads
                rw [hfin]
                exact ⟨⟨_, rfl, rfl⟩, HI.out.end_ _⟩

end Go.Proofs.Ytgjjfjibfleonaa
