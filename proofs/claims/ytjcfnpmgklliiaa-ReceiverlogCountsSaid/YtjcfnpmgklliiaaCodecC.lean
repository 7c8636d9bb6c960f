/-
  Joined from texts of ours: XRdE, XRdL, XRdP, XRdQ, XRdR, XRdS.
-/
import Derived.Test.YtjcfnpmgklliiaaCodecB
namespace Go.Proofs.Ytjcfnpmgklliiaa
open Go.RowKit
set_option maxRecDepth 100000
set_option linter.unusedVariables false

set_option maxHeartbeats 2000000 in
theorem revent_any (B r p : Nat) (L : List UInt8) (w : World) (h : Rdr B w r L p) :
    Calls Try.prog 108 #[.pointer (some ⟨r, 0, none⟩)] w fun e w' => Reads B r L w (rdEv L p) (fun a _ v => v = evV a) e w' := by
  obtain ⟨W0, hW, hI0⟩ := RB.new (T := 36) (c2 := #[Value.int .i64 0, Value.int .i64 0, Value.int .i64 0, Value.int .i64 0, Value.int .i64 0, Value.int .i64 0, Value.int .i64 0]) (c3 := #[Value.int .i64 0, Value.int .i64 0, Value.int .i64 0, Value.int .i64 0, Value.int .i64 0, Value.int .i64 0, Value.int .i64 0]) h
  go_enter Try.func108, Try.ntmps108
  go_wp2_with fail
  rw [← hW]
  clear hW
  refine (rint_any B r p L W0 hI0.rd).mono ?_
  intro e w1 h1
  unfold Reads at h1
  cases hx1 : rdInt L p with
  | error k =>
    rw [hx1] at h1
    obtain ⟨rfl, hg⟩ := h1
    have hgr := grown_tr hI0.gr hg
    have hfin : rdEv L p = .error k := by unfold rdEv; rw [bnd_er hx1]
    clear hI0
    go_wp2
    refine ⟨rfl, ?_⟩
    unfold Reads
    rw [hfin]
    exact ⟨rfl, hgr⟩
  | ok vq =>
    obtain ⟨v1, q1⟩ := vq
    rw [hx1] at h1
    obtain ⟨⟨_, rfl, rfl⟩, hR, hg⟩ := h1
    have hJ := hI0.call hR hg
    have hc := hJ.cell 0 (v := .int .i64 0) rfl
    have hf := hJ.frz 0
    have hI1 : RB B r L 36 #[Value.int .i64 0, Value.int .i64 0, Value.int .i64 0, Value.int .i64 0, Value.int .i64 0, Value.int .i64 0, Value.int .i64 0] w (w1.setCell ⟨w.heap.size + 1, 0, none⟩ (.int .i64 v1)) q1 #[Value.int .i64 v1, Value.int .i64 0, Value.int .i64 0, Value.int .i64 0, Value.int .i64 0, Value.int .i64 0, Value.int .i64 0] := hJ.set 0 (.int .i64 v1)
    clear hJ hI0 hg hR
    go_wp2_with fail
    clear hc hf
    generalize w1.setCell ⟨w.heap.size + 1, 0, none⟩ (.int .i64 v1) = W1 at *
    refine (rint_any B r q1 L W1 hI1.rd).mono ?_
    intro e w2 h2
    unfold Reads at h2
    cases hx2 : rdInt L q1 with
    | error k =>
      rw [hx2] at h2
      obtain ⟨rfl, hg⟩ := h2
      have hgr := grown_tr hI1.gr hg
      have hfin : rdEv L p = .error k := by unfold rdEv; rw [bnd_ok hx1, bnd_er hx2]
      clear hI1
      go_wp2
      refine ⟨rfl, ?_⟩
      unfold Reads
      rw [hfin]
      exact ⟨rfl, hgr⟩
    | ok vq =>
      obtain ⟨v2, q2⟩ := vq
      rw [hx2] at h2
      obtain ⟨⟨_, rfl, rfl⟩, hR, hg⟩ := h2
      have hJ := hI1.call hR hg
      have hc := hJ.cell 1 (v := .int .i64 0) rfl
      have hf := hJ.frz 1
      have hI2 : RB B r L 36 #[Value.int .i64 0, Value.int .i64 0, Value.int .i64 0, Value.int .i64 0, Value.int .i64 0, Value.int .i64 0, Value.int .i64 0] w (w2.setCell ⟨w.heap.size + 1, 1, none⟩ (.int .i64 v2)) q2 #[Value.int .i64 v1, Value.int .i64 v2, Value.int .i64 0, Value.int .i64 0, Value.int .i64 0, Value.int .i64 0, Value.int .i64 0] := hJ.set 1 (.int .i64 v2)
      clear hJ hI1 hg hR
      go_wp2_with fail
      clear hc hf
      generalize w2.setCell ⟨w.heap.size + 1, 1, none⟩ (.int .i64 v2) = W2 at *
      refine (rint_any B r q2 L W2 hI2.rd).mono ?_
      intro e w3 h3
      unfold Reads at h3
      cases hx3 : rdInt L q2 with
      | error k =>
        rw [hx3] at h3
        obtain ⟨rfl, hg⟩ := h3
        have hgr := grown_tr hI2.gr hg
        have hfin : rdEv L p = .error k := by unfold rdEv; rw [bnd_ok hx1, bnd_ok hx2, bnd_er hx3]
        clear hI2
        go_wp2
        refine ⟨rfl, ?_⟩
        unfold Reads
        rw [hfin]
        exact ⟨rfl, hgr⟩
      | ok vq =>
        obtain ⟨v3, q3⟩ := vq
        rw [hx3] at h3
        obtain ⟨⟨_, rfl, rfl⟩, hR, hg⟩ := h3
        have hJ := hI2.call hR hg
        have hc := hJ.cell 2 (v := .int .i64 0) rfl
        have hf := hJ.frz 2
        have hI3 : RB B r L 36 #[Value.int .i64 0, Value.int .i64 0, Value.int .i64 0, Value.int .i64 0, Value.int .i64 0, Value.int .i64 0, Value.int .i64 0] w (w3.setCell ⟨w.heap.size + 1, 2, none⟩ (.int .i64 v3)) q3 #[Value.int .i64 v1, Value.int .i64 v2, Value.int .i64 v3, Value.int .i64 0, Value.int .i64 0, Value.int .i64 0, Value.int .i64 0] := hJ.set 2 (.int .i64 v3)
        clear hJ hI2 hg hR
        go_wp2_with fail
        clear hc hf
        generalize w3.setCell ⟨w.heap.size + 1, 2, none⟩ (.int .i64 v3) = W3 at *
        refine (rint_any B r q3 L W3 hI3.rd).mono ?_
        intro e w4 h4
        unfold Reads at h4
        cases hx4 : rdInt L q3 with
        | error k =>
          rw [hx4] at h4
          obtain ⟨rfl, hg⟩ := h4
          have hgr := grown_tr hI3.gr hg
          have hfin : rdEv L p = .error k := by unfold rdEv; rw [bnd_ok hx1, bnd_ok hx2, bnd_ok hx3, bnd_er hx4]
          clear hI3
          go_wp2
          refine ⟨rfl, ?_⟩
          unfold Reads
          rw [hfin]
          exact ⟨rfl, hgr⟩
        | ok vq =>
          obtain ⟨v4, q4⟩ := vq
          rw [hx4] at h4
          obtain ⟨⟨_, rfl, rfl⟩, hR, hg⟩ := h4
          have hJ := hI3.call hR hg
          have hc := hJ.cell 3 (v := .int .i64 0) rfl
          have hf := hJ.frz 3
          have hI4 : RB B r L 36 #[Value.int .i64 0, Value.int .i64 0, Value.int .i64 0, Value.int .i64 0, Value.int .i64 0, Value.int .i64 0, Value.int .i64 0] w (w4.setCell ⟨w.heap.size + 1, 3, none⟩ (.int .i64 v4)) q4 #[Value.int .i64 v1, Value.int .i64 v2, Value.int .i64 v3, Value.int .i64 v4, Value.int .i64 0, Value.int .i64 0, Value.int .i64 0] := hJ.set 3 (.int .i64 v4)
          clear hJ hI3 hg hR
          go_wp2_with fail
          clear hc hf
          generalize w4.setCell ⟨w.heap.size + 1, 3, none⟩ (.int .i64 v4) = W4 at *
          refine (rint_any B r q4 L W4 hI4.rd).mono ?_
          intro e w5 h5
          unfold Reads at h5
          cases hx5 : rdInt L q4 with
          | error k =>
            rw [hx5] at h5
            obtain ⟨rfl, hg⟩ := h5
            have hgr := grown_tr hI4.gr hg
            have hfin : rdEv L p = .error k := by unfold rdEv; rw [bnd_ok hx1, bnd_ok hx2, bnd_ok hx3, bnd_ok hx4, bnd_er hx5]
            clear hI4
            go_wp2
            refine ⟨rfl, ?_⟩
            unfold Reads
            rw [hfin]
            exact ⟨rfl, hgr⟩
          | ok vq =>
            obtain ⟨v5, q5⟩ := vq
            rw [hx5] at h5
            obtain ⟨⟨_, rfl, rfl⟩, hR, hg⟩ := h5
            have hJ := hI4.call hR hg
            have hc := hJ.cell 4 (v := .int .i64 0) rfl
            have hf := hJ.frz 4
            have hI5 : RB B r L 36 #[Value.int .i64 0, Value.int .i64 0, Value.int .i64 0, Value.int .i64 0, Value.int .i64 0, Value.int .i64 0, Value.int .i64 0] w (w5.setCell ⟨w.heap.size + 1, 4, none⟩ (.int .i64 v5)) q5 #[Value.int .i64 v1, Value.int .i64 v2, Value.int .i64 v3, Value.int .i64 v4, Value.int .i64 v5, Value.int .i64 0, Value.int .i64 0] := hJ.set 4 (.int .i64 v5)
            clear hJ hI4 hg hR
            go_wp2_with fail
            clear hc hf
            generalize w5.setCell ⟨w.heap.size + 1, 4, none⟩ (.int .i64 v5) = W5 at *
            refine (rint_any B r q5 L W5 hI5.rd).mono ?_
            intro e w6 h6
            unfold Reads at h6
            cases hx6 : rdInt L q5 with
            | error k =>
              rw [hx6] at h6
              obtain ⟨rfl, hg⟩ := h6
              have hgr := grown_tr hI5.gr hg
              have hfin : rdEv L p = .error k := by unfold rdEv; rw [bnd_ok hx1, bnd_ok hx2, bnd_ok hx3, bnd_ok hx4, bnd_ok hx5, bnd_er hx6]
              clear hI5
              go_wp2
              refine ⟨rfl, ?_⟩
              unfold Reads
              rw [hfin]
              exact ⟨rfl, hgr⟩
            | ok vq =>
              obtain ⟨v6, q6⟩ := vq
              rw [hx6] at h6
              obtain ⟨⟨_, rfl, rfl⟩, hR, hg⟩ := h6
              have hJ := hI5.call hR hg
              have hc := hJ.cell 5 (v := .int .i64 0) rfl
              have hf := hJ.frz 5
              have hI6 : RB B r L 36 #[Value.int .i64 0, Value.int .i64 0, Value.int .i64 0, Value.int .i64 0, Value.int .i64 0, Value.int .i64 0, Value.int .i64 0] w (w6.setCell ⟨w.heap.size + 1, 5, none⟩ (.int .i64 v6)) q6 #[Value.int .i64 v1, Value.int .i64 v2, Value.int .i64 v3, Value.int .i64 v4, Value.int .i64 v5, Value.int .i64 v6, Value.int .i64 0] := hJ.set 5 (.int .i64 v6)
              clear hJ hI5 hg hR
              go_wp2_with fail
              clear hc hf
              generalize w6.setCell ⟨w.heap.size + 1, 5, none⟩ (.int .i64 v6) = W6 at *
              refine (rint_any B r q6 L W6 hI6.rd).mono ?_
              intro e w7 h7
              unfold Reads at h7
              cases hx7 : rdInt L q6 with
              | error k =>
                rw [hx7] at h7
                obtain ⟨rfl, hg⟩ := h7
                have hgr := grown_tr hI6.gr hg
                have hfin : rdEv L p = .error k := by unfold rdEv; rw [bnd_ok hx1, bnd_ok hx2, bnd_ok hx3, bnd_ok hx4, bnd_ok hx5, bnd_ok hx6, bnd_er hx7]
                clear hI6
                go_wp2
                refine ⟨rfl, ?_⟩
                unfold Reads
                rw [hfin]
                exact ⟨rfl, hgr⟩
              | ok vq =>
                obtain ⟨v7, q7⟩ := vq
                rw [hx7] at h7
                obtain ⟨⟨_, rfl, rfl⟩, hR, hg⟩ := h7
                have hJ := hI6.call hR hg
                have hc := hJ.cell 6 (v := .int .i64 0) rfl
                have hf := hJ.frz 6
                have hI7 : RB B r L 36 #[Value.int .i64 0, Value.int .i64 0, Value.int .i64 0, Value.int .i64 0, Value.int .i64 0, Value.int .i64 0, Value.int .i64 0] w (w7.setCell ⟨w.heap.size + 1, 6, none⟩ (.int .i64 v7)) q7 #[Value.int .i64 v1, Value.int .i64 v2, Value.int .i64 v3, Value.int .i64 v4, Value.int .i64 v5, Value.int .i64 v6, Value.int .i64 v7] := hJ.set 6 (.int .i64 v7)
                clear hJ hI6 hg hR
                have hfin : rdEv L p = .ok (⟨v1, v2, v3, v4, v5, v6, v7⟩, q7) := by unfold rdEv; rw [bnd_ok hx1, bnd_ok hx2, bnd_ok hx3, bnd_ok hx4, bnd_ok hx5, bnd_ok hx6, bnd_ok hx7]
                have k0 : (w7.setCell ⟨w.heap.size + 1, 6, none⟩ (.int .i64 v7)).cell? ⟨w.heap.size + 1, 0, none⟩ = some (.int .i64 v1) := hI7.cell 0 rfl
                have k1 : (w7.setCell ⟨w.heap.size + 1, 6, none⟩ (.int .i64 v7)).cell? ⟨w.heap.size + 1, 1, none⟩ = some (.int .i64 v2) := hI7.cell 1 rfl
                have k2 : (w7.setCell ⟨w.heap.size + 1, 6, none⟩ (.int .i64 v7)).cell? ⟨w.heap.size + 1, 2, none⟩ = some (.int .i64 v3) := hI7.cell 2 rfl
                have k3 : (w7.setCell ⟨w.heap.size + 1, 6, none⟩ (.int .i64 v7)).cell? ⟨w.heap.size + 1, 3, none⟩ = some (.int .i64 v4) := hI7.cell 3 rfl
                have k4 : (w7.setCell ⟨w.heap.size + 1, 6, none⟩ (.int .i64 v7)).cell? ⟨w.heap.size + 1, 4, none⟩ = some (.int .i64 v5) := hI7.cell 4 rfl
                have k5 : (w7.setCell ⟨w.heap.size + 1, 6, none⟩ (.int .i64 v7)).cell? ⟨w.heap.size + 1, 5, none⟩ = some (.int .i64 v6) := hI7.cell 5 rfl
                have k6 : (w7.setCell ⟨w.heap.size + 1, 6, none⟩ (.int .i64 v7)).cell? ⟨w.heap.size + 1, 6, none⟩ = some (.int .i64 v7) := hI7.cell 6 rfl
                have H2 := Lib.hid hI7.b2
                have HI := Lib.hid hI7
                clear hI7
                go_wp2_with (first | (refine wpList_store_row rfl 36 _ _ rfl w.heap.size 36 _ _ rfl rfl H2.out (by kernel_rfl) rfl (by simp [Value.oneCell']) ?_))
                refine bodyPost_ret (results_c rfl rfl (run_ld_block (setRow_heap _ _ _ _ _ _ H2.out) Try.underlying36 rfl (by kernel_rfl))) rfl ?_
                unfold Reads
                rw [hfin]
                exact ⟨⟨_, rfl, rfl⟩, HI.out.end_ _⟩

end Go.Proofs.Ytjcfnpmgklliiaa

namespace Go.Proofs.Ytjcfnpmgklliiaa
open Go.RowKit
set_option maxRecDepth 100000
set_option linter.unusedVariables false

theorem grown_nw {a b c : World} {g : Nat} {row : Option Nat} (h : a.grownBy b (some g)) (k : b.grownBy c row) (hr : ∀ m, row = some m → a.heap.size ≤ m ∨ m = g) : a.grownBy c (some g) :=
  ⟨k.os.trans h.os, k.tape.trans h.tape, k.output.trans h.output, Nat.le_trans h.size k.size, fun i hi hne => (k.block i (Nat.lt_of_lt_of_le hi h.size) (fun e => by
    rcases hr i e.symm with h' | h'
    · omega
    · exact hne (by rw [h']))).trans (h.block i hi hne)⟩
theorem grown_bl {a b : World} (h : Below a.heap.size a b) (row : Option Nat) : a.grownBy b row := ⟨h.os, h.tape, h.output, h.size, fun i hi _ => h.block i hi⟩
theorem OwnR.kept_lt {α : Type} {enc : α → List Value} {k : Nat} {w w' : World} {base g : Nat} {e : TypeId} {v : Value} {l : List α} (h : OwnR enc k w base e v l) (hg : w.grownBy w' (some g)) (hlt : g < base) : OwnR enc k w' base e v l := by
  refine h.kept hg ?_
  rcases Option.eq_none_or_eq_some v.ownBlock with h0 | ⟨m, h0⟩
  · exact .inl h0
  · refine .inr (fun e => ?_)
    rw [h0] at e
    cases e
    have := (World.ownsRow.lt h _ h0).1
    omega
theorem encEv_one (x : Ev) : ∀ u ∈ encEv x, u.oneCell' = true := by
  intro u hu
  simp [encEv] at hu
  rcases hu with rfl | rfl | rfl | rfl | rfl | rfl | rfl <;> rfl
theorem encSn_one (x : Snd) : ∀ u ∈ encSn x, u.oneCell' = true := by
  intro u hu
  simp [encSn] at hu
  rcases hu with rfl | rfl | rfl | rfl <;> rfl
theorem encOu_one (x : Ou) : ∀ u ∈ encOu x, u.oneCell' = true := by
  intro u hu
  simp [encOu] at hu
  rcases hu with rfl | rfl <;> rfl
theorem infoI_ : (Try.prog.info? 3).map (fun i => (i.zero, i.size, i.bytes)) = some (some (.int .i64 0), 1, 8) := by kernel_rfl
theorem infoE_ : (Try.prog.info? 36).map (fun i => (i.zero, i.size, i.bytes)) = some (some (.agg #[.int .i64 0, .int .i64 0, .int .i64 0, .int .i64 0, .int .i64 0, .int .i64 0, .int .i64 0]), 7, 56) := by kernel_rfl
end Go.Proofs.Ytjcfnpmgklliiaa

namespace Go.Proofs.Ytjcfnpmgklliiaa
open Go.RowKit
set_option maxRecDepth 100000
set_option linter.unusedVariables false

structure Stop (p : Prop) : Prop where
  out : p

/-- a walk stops ahead of the operation that fills the slot d -/
theorem wpList_stop {P : Program} {ops : Array Oper} {Q : Exit → Act → World → Prop} {rest : List Oper} {o : Oper} {a : Act} {w : World} (d : Nat) (hd : o.dst = some d) (h : Stop (wpList P ops Q (o :: rest) a w)) : wpList P ops Q (o :: rest) a w := h.out

set_option maxHeartbeats 2000000 in
theorem rdet_any (B r p : Nat) (L : List UInt8) (w : World) (h : Rdr B w r L p) :
    Calls Try.prog 89 #[.pointer (some ⟨r, 0, none⟩)] w fun e w' => Reads B r L w (rdDt L p) (fun a _ v => v = dtV a) e w' := by
  obtain ⟨W0, hW, hI0⟩ := RB.new (T := 38) (c2 := #[Value.int .i64 0, Value.int .i64 0, Value.int .i64 0, Value.int .i64 0, Value.int .i64 0, Value.int .i64 0, Value.int .i64 0, Value.int .i64 0, Value.int .i64 0]) (c3 := #[Value.int .i64 0, Value.int .i64 0, Value.int .i64 0, Value.int .i64 0, Value.int .i64 0, Value.int .i64 0, Value.int .i64 0, Value.int .i64 0, Value.int .i64 0]) h
  go_enter Try.func89, Try.ntmps89
  go_wp2_with fail
  rw [← hW]
  clear hW
  refine (rint_any B r p L W0 hI0.rd).mono ?_
  intro e w1 h1
  unfold Reads at h1
  cases hx1 : rdInt L p with
  | error k =>
    rw [hx1] at h1
    obtain ⟨rfl, hg⟩ := h1
    have hgr := grown_tr hI0.gr hg
    have hfin : rdDt L p = .error k := by unfold rdDt; rw [bnd_er hx1]
    clear hI0
    go_wp2
    refine ⟨rfl, ?_⟩
    unfold Reads
    rw [hfin]
    exact ⟨rfl, hgr⟩
  | ok vq =>
    obtain ⟨v1, q1⟩ := vq
    rw [hx1] at h1
    obtain ⟨⟨_, rfl, rfl⟩, hR, hg⟩ := h1
    have hJ := hI0.call hR hg
    have hc := hJ.cell 0 (v := .int .i64 0) rfl
    have hf := hJ.frz 0
    have hI1 : RB B r L 38 #[Value.int .i64 0, Value.int .i64 0, Value.int .i64 0, Value.int .i64 0, Value.int .i64 0, Value.int .i64 0, Value.int .i64 0, Value.int .i64 0, Value.int .i64 0] w (w1.setCell ⟨w.heap.size + 1, 0, none⟩ (.int .i64 v1)) q1 #[Value.int .i64 v1, Value.int .i64 0, Value.int .i64 0, Value.int .i64 0, Value.int .i64 0, Value.int .i64 0, Value.int .i64 0, Value.int .i64 0, Value.int .i64 0] := hJ.set 0 (.int .i64 v1)
    clear hJ hI0 hg hR
    go_wp2_with fail
    clear hc hf
    generalize w1.setCell ⟨w.heap.size + 1, 0, none⟩ (.int .i64 v1) = W1 at *
    refine (rint_any B r q1 L W1 hI1.rd).mono ?_
    intro e w2 h2
    unfold Reads at h2
    cases hx2 : rdInt L q1 with
    | error k =>
      rw [hx2] at h2
      obtain ⟨rfl, hg⟩ := h2
      have hgr := grown_tr hI1.gr hg
      have hfin : rdDt L p = .error k := by unfold rdDt; rw [bnd_ok hx1, bnd_er hx2]
      clear hI1
      go_wp2
      refine ⟨rfl, ?_⟩
      unfold Reads
      rw [hfin]
      exact ⟨rfl, hgr⟩
    | ok vq =>
      obtain ⟨v2, q2⟩ := vq
      rw [hx2] at h2
      obtain ⟨⟨_, rfl, rfl⟩, hR, hg⟩ := h2
      have hJ := hI1.call hR hg
      have hc := hJ.cell 1 (v := .int .i64 0) rfl
      have hf := hJ.frz 1
      have hI2 : RB B r L 38 #[Value.int .i64 0, Value.int .i64 0, Value.int .i64 0, Value.int .i64 0, Value.int .i64 0, Value.int .i64 0, Value.int .i64 0, Value.int .i64 0, Value.int .i64 0] w (w2.setCell ⟨w.heap.size + 1, 1, none⟩ (.int .i64 v2)) q2 #[Value.int .i64 v1, Value.int .i64 v2, Value.int .i64 0, Value.int .i64 0, Value.int .i64 0, Value.int .i64 0, Value.int .i64 0, Value.int .i64 0, Value.int .i64 0] := hJ.set 1 (.int .i64 v2)
      clear hJ hI1 hg hR
      go_wp2_with fail
      clear hc hf
      generalize w2.setCell ⟨w.heap.size + 1, 1, none⟩ (.int .i64 v2) = W2 at *
      refine (revent_any B r q2 L W2 hI2.rd).mono ?_
      intro e w3 h3
      unfold Reads at h3
      cases hx3 : rdEv L q2 with
      | error k =>
        rw [hx3] at h3
        obtain ⟨rfl, hg⟩ := h3
        have hgr := grown_tr hI2.gr hg
        have hfin : rdDt L p = .error k := by unfold rdDt; rw [bnd_ok hx1, bnd_ok hx2, bnd_er hx3]
        clear hI2
        go_wp2
        refine ⟨rfl, ?_⟩
        unfold Reads
        rw [hfin]
        exact ⟨rfl, hgr⟩
      | ok vq =>
        obtain ⟨v3, q3⟩ := vq
        rw [hx3] at h3
        obtain ⟨⟨_, rfl, hv⟩, hR, hg⟩ := h3
        unfold evV at hv
        subst hv
        have hJ := hI2.call hR hg
        have hfin : rdDt L p = .ok (⟨v1, v2, v3⟩, q3) := by unfold rdDt; rw [bnd_ok hx1, bnd_ok hx2, bnd_ok hx3]
        have c2 := hJ.cell 2 (v := .int .i64 0) rfl
        have f2 := hJ.frz 2
        have c3 := hJ.cell 3 (v := .int .i64 0) rfl
        have f3 := hJ.frz 3
        have c4 := hJ.cell 4 (v := .int .i64 0) rfl
        have f4 := hJ.frz 4
        have c5 := hJ.cell 5 (v := .int .i64 0) rfl
        have f5 := hJ.frz 5
        have c6 := hJ.cell 6 (v := .int .i64 0) rfl
        have f6 := hJ.frz 6
        have c7 := hJ.cell 7 (v := .int .i64 0) rfl
        have f7 := hJ.frz 7
        have c8 := hJ.cell 8 (v := .int .i64 0) rfl
        have f8 := hJ.frz 8
        have hK0 : RB B r L 38 #[Value.int .i64 0, Value.int .i64 0, Value.int .i64 0, Value.int .i64 0, Value.int .i64 0, Value.int .i64 0, Value.int .i64 0, Value.int .i64 0, Value.int .i64 0] w (w3.setCell ⟨w.heap.size + 1, 2, none⟩ (.int .i64 v3.k0)) q3 #[Value.int .i64 v1, Value.int .i64 v2, Value.int .i64 v3.k0, Value.int .i64 0, Value.int .i64 0, Value.int .i64 0, Value.int .i64 0, Value.int .i64 0, Value.int .i64 0] := hJ.set 2 (.int .i64 v3.k0)
        have hK1 : RB B r L 38 #[Value.int .i64 0, Value.int .i64 0, Value.int .i64 0, Value.int .i64 0, Value.int .i64 0, Value.int .i64 0, Value.int .i64 0, Value.int .i64 0, Value.int .i64 0] w ((w3.setCell ⟨w.heap.size + 1, 2, none⟩ (.int .i64 v3.k0)).setCell ⟨w.heap.size + 1, 3, none⟩ (.int .i64 v3.k1)) q3 #[Value.int .i64 v1, Value.int .i64 v2, Value.int .i64 v3.k0, Value.int .i64 v3.k1, Value.int .i64 0, Value.int .i64 0, Value.int .i64 0, Value.int .i64 0, Value.int .i64 0] := hK0.set 3 (.int .i64 v3.k1)
        have hK2 : RB B r L 38 #[Value.int .i64 0, Value.int .i64 0, Value.int .i64 0, Value.int .i64 0, Value.int .i64 0, Value.int .i64 0, Value.int .i64 0, Value.int .i64 0, Value.int .i64 0] w (((w3.setCell ⟨w.heap.size + 1, 2, none⟩ (.int .i64 v3.k0)).setCell ⟨w.heap.size + 1, 3, none⟩ (.int .i64 v3.k1)).setCell ⟨w.heap.size + 1, 4, none⟩ (.int .i64 v3.k2)) q3 #[Value.int .i64 v1, Value.int .i64 v2, Value.int .i64 v3.k0, Value.int .i64 v3.k1, Value.int .i64 v3.k2, Value.int .i64 0, Value.int .i64 0, Value.int .i64 0, Value.int .i64 0] := hK1.set 4 (.int .i64 v3.k2)
        have hK3 : RB B r L 38 #[Value.int .i64 0, Value.int .i64 0, Value.int .i64 0, Value.int .i64 0, Value.int .i64 0, Value.int .i64 0, Value.int .i64 0, Value.int .i64 0, Value.int .i64 0] w ((((w3.setCell ⟨w.heap.size + 1, 2, none⟩ (.int .i64 v3.k0)).setCell ⟨w.heap.size + 1, 3, none⟩ (.int .i64 v3.k1)).setCell ⟨w.heap.size + 1, 4, none⟩ (.int .i64 v3.k2)).setCell ⟨w.heap.size + 1, 5, none⟩ (.int .i64 v3.k3)) q3 #[Value.int .i64 v1, Value.int .i64 v2, Value.int .i64 v3.k0, Value.int .i64 v3.k1, Value.int .i64 v3.k2, Value.int .i64 v3.k3, Value.int .i64 0, Value.int .i64 0, Value.int .i64 0] := hK2.set 5 (.int .i64 v3.k3)
        have hK4 : RB B r L 38 #[Value.int .i64 0, Value.int .i64 0, Value.int .i64 0, Value.int .i64 0, Value.int .i64 0, Value.int .i64 0, Value.int .i64 0, Value.int .i64 0, Value.int .i64 0] w (((((w3.setCell ⟨w.heap.size + 1, 2, none⟩ (.int .i64 v3.k0)).setCell ⟨w.heap.size + 1, 3, none⟩ (.int .i64 v3.k1)).setCell ⟨w.heap.size + 1, 4, none⟩ (.int .i64 v3.k2)).setCell ⟨w.heap.size + 1, 5, none⟩ (.int .i64 v3.k3)).setCell ⟨w.heap.size + 1, 6, none⟩ (.int .i64 v3.k4)) q3 #[Value.int .i64 v1, Value.int .i64 v2, Value.int .i64 v3.k0, Value.int .i64 v3.k1, Value.int .i64 v3.k2, Value.int .i64 v3.k3, Value.int .i64 v3.k4, Value.int .i64 0, Value.int .i64 0] := hK3.set 6 (.int .i64 v3.k4)
        have hK5 : RB B r L 38 #[Value.int .i64 0, Value.int .i64 0, Value.int .i64 0, Value.int .i64 0, Value.int .i64 0, Value.int .i64 0, Value.int .i64 0, Value.int .i64 0, Value.int .i64 0] w ((((((w3.setCell ⟨w.heap.size + 1, 2, none⟩ (.int .i64 v3.k0)).setCell ⟨w.heap.size + 1, 3, none⟩ (.int .i64 v3.k1)).setCell ⟨w.heap.size + 1, 4, none⟩ (.int .i64 v3.k2)).setCell ⟨w.heap.size + 1, 5, none⟩ (.int .i64 v3.k3)).setCell ⟨w.heap.size + 1, 6, none⟩ (.int .i64 v3.k4)).setCell ⟨w.heap.size + 1, 7, none⟩ (.int .i64 v3.k5)) q3 #[Value.int .i64 v1, Value.int .i64 v2, Value.int .i64 v3.k0, Value.int .i64 v3.k1, Value.int .i64 v3.k2, Value.int .i64 v3.k3, Value.int .i64 v3.k4, Value.int .i64 v3.k5, Value.int .i64 0] := hK4.set 7 (.int .i64 v3.k5)
        have hK6 : RB B r L 38 #[Value.int .i64 0, Value.int .i64 0, Value.int .i64 0, Value.int .i64 0, Value.int .i64 0, Value.int .i64 0, Value.int .i64 0, Value.int .i64 0, Value.int .i64 0] w (((((((w3.setCell ⟨w.heap.size + 1, 2, none⟩ (.int .i64 v3.k0)).setCell ⟨w.heap.size + 1, 3, none⟩ (.int .i64 v3.k1)).setCell ⟨w.heap.size + 1, 4, none⟩ (.int .i64 v3.k2)).setCell ⟨w.heap.size + 1, 5, none⟩ (.int .i64 v3.k3)).setCell ⟨w.heap.size + 1, 6, none⟩ (.int .i64 v3.k4)).setCell ⟨w.heap.size + 1, 7, none⟩ (.int .i64 v3.k5)).setCell ⟨w.heap.size + 1, 8, none⟩ (.int .i64 v3.k6)) q3 #[Value.int .i64 v1, Value.int .i64 v2, Value.int .i64 v3.k0, Value.int .i64 v3.k1, Value.int .i64 v3.k2, Value.int .i64 v3.k3, Value.int .i64 v3.k4, Value.int .i64 v3.k5, Value.int .i64 v3.k6] := hK5.set 8 (.int .i64 v3.k6)
        have HK := Lib.hid hK6
        have HJ := Lib.hid hJ
        have k0 : (((((((w3.setCell ⟨w.heap.size + 1, 2, none⟩ (.int .i64 v3.k0)).setCell ⟨w.heap.size + 1, 3, none⟩ (.int .i64 v3.k1)).setCell ⟨w.heap.size + 1, 4, none⟩ (.int .i64 v3.k2)).setCell ⟨w.heap.size + 1, 5, none⟩ (.int .i64 v3.k3)).setCell ⟨w.heap.size + 1, 6, none⟩ (.int .i64 v3.k4)).setCell ⟨w.heap.size + 1, 7, none⟩ (.int .i64 v3.k5)).setCell ⟨w.heap.size + 1, 8, none⟩ (.int .i64 v3.k6)).cell? ⟨w.heap.size + 1, 0, none⟩ = some (Value.int .i64 v1) := hK6.cell 0 rfl
        have k1 : (((((((w3.setCell ⟨w.heap.size + 1, 2, none⟩ (.int .i64 v3.k0)).setCell ⟨w.heap.size + 1, 3, none⟩ (.int .i64 v3.k1)).setCell ⟨w.heap.size + 1, 4, none⟩ (.int .i64 v3.k2)).setCell ⟨w.heap.size + 1, 5, none⟩ (.int .i64 v3.k3)).setCell ⟨w.heap.size + 1, 6, none⟩ (.int .i64 v3.k4)).setCell ⟨w.heap.size + 1, 7, none⟩ (.int .i64 v3.k5)).setCell ⟨w.heap.size + 1, 8, none⟩ (.int .i64 v3.k6)).cell? ⟨w.heap.size + 1, 1, none⟩ = some (Value.int .i64 v2) := hK6.cell 1 rfl
        have k2 : (((((((w3.setCell ⟨w.heap.size + 1, 2, none⟩ (.int .i64 v3.k0)).setCell ⟨w.heap.size + 1, 3, none⟩ (.int .i64 v3.k1)).setCell ⟨w.heap.size + 1, 4, none⟩ (.int .i64 v3.k2)).setCell ⟨w.heap.size + 1, 5, none⟩ (.int .i64 v3.k3)).setCell ⟨w.heap.size + 1, 6, none⟩ (.int .i64 v3.k4)).setCell ⟨w.heap.size + 1, 7, none⟩ (.int .i64 v3.k5)).setCell ⟨w.heap.size + 1, 8, none⟩ (.int .i64 v3.k6)).cell? ⟨w.heap.size + 1, 2, none⟩ = some (Value.int .i64 v3.k0) := hK6.cell 2 rfl
        have k3 : (((((((w3.setCell ⟨w.heap.size + 1, 2, none⟩ (.int .i64 v3.k0)).setCell ⟨w.heap.size + 1, 3, none⟩ (.int .i64 v3.k1)).setCell ⟨w.heap.size + 1, 4, none⟩ (.int .i64 v3.k2)).setCell ⟨w.heap.size + 1, 5, none⟩ (.int .i64 v3.k3)).setCell ⟨w.heap.size + 1, 6, none⟩ (.int .i64 v3.k4)).setCell ⟨w.heap.size + 1, 7, none⟩ (.int .i64 v3.k5)).setCell ⟨w.heap.size + 1, 8, none⟩ (.int .i64 v3.k6)).cell? ⟨w.heap.size + 1, 3, none⟩ = some (Value.int .i64 v3.k1) := hK6.cell 3 rfl
        have k4 : (((((((w3.setCell ⟨w.heap.size + 1, 2, none⟩ (.int .i64 v3.k0)).setCell ⟨w.heap.size + 1, 3, none⟩ (.int .i64 v3.k1)).setCell ⟨w.heap.size + 1, 4, none⟩ (.int .i64 v3.k2)).setCell ⟨w.heap.size + 1, 5, none⟩ (.int .i64 v3.k3)).setCell ⟨w.heap.size + 1, 6, none⟩ (.int .i64 v3.k4)).setCell ⟨w.heap.size + 1, 7, none⟩ (.int .i64 v3.k5)).setCell ⟨w.heap.size + 1, 8, none⟩ (.int .i64 v3.k6)).cell? ⟨w.heap.size + 1, 4, none⟩ = some (Value.int .i64 v3.k2) := hK6.cell 4 rfl
        have k5 : (((((((w3.setCell ⟨w.heap.size + 1, 2, none⟩ (.int .i64 v3.k0)).setCell ⟨w.heap.size + 1, 3, none⟩ (.int .i64 v3.k1)).setCell ⟨w.heap.size + 1, 4, none⟩ (.int .i64 v3.k2)).setCell ⟨w.heap.size + 1, 5, none⟩ (.int .i64 v3.k3)).setCell ⟨w.heap.size + 1, 6, none⟩ (.int .i64 v3.k4)).setCell ⟨w.heap.size + 1, 7, none⟩ (.int .i64 v3.k5)).setCell ⟨w.heap.size + 1, 8, none⟩ (.int .i64 v3.k6)).cell? ⟨w.heap.size + 1, 5, none⟩ = some (Value.int .i64 v3.k3) := hK6.cell 5 rfl
        have k6 : (((((((w3.setCell ⟨w.heap.size + 1, 2, none⟩ (.int .i64 v3.k0)).setCell ⟨w.heap.size + 1, 3, none⟩ (.int .i64 v3.k1)).setCell ⟨w.heap.size + 1, 4, none⟩ (.int .i64 v3.k2)).setCell ⟨w.heap.size + 1, 5, none⟩ (.int .i64 v3.k3)).setCell ⟨w.heap.size + 1, 6, none⟩ (.int .i64 v3.k4)).setCell ⟨w.heap.size + 1, 7, none⟩ (.int .i64 v3.k5)).setCell ⟨w.heap.size + 1, 8, none⟩ (.int .i64 v3.k6)).cell? ⟨w.heap.size + 1, 6, none⟩ = some (Value.int .i64 v3.k4) := hK6.cell 6 rfl
        have k7 : (((((((w3.setCell ⟨w.heap.size + 1, 2, none⟩ (.int .i64 v3.k0)).setCell ⟨w.heap.size + 1, 3, none⟩ (.int .i64 v3.k1)).setCell ⟨w.heap.size + 1, 4, none⟩ (.int .i64 v3.k2)).setCell ⟨w.heap.size + 1, 5, none⟩ (.int .i64 v3.k3)).setCell ⟨w.heap.size + 1, 6, none⟩ (.int .i64 v3.k4)).setCell ⟨w.heap.size + 1, 7, none⟩ (.int .i64 v3.k5)).setCell ⟨w.heap.size + 1, 8, none⟩ (.int .i64 v3.k6)).cell? ⟨w.heap.size + 1, 7, none⟩ = some (Value.int .i64 v3.k5) := hK6.cell 7 rfl
        have k8 : (((((((w3.setCell ⟨w.heap.size + 1, 2, none⟩ (.int .i64 v3.k0)).setCell ⟨w.heap.size + 1, 3, none⟩ (.int .i64 v3.k1)).setCell ⟨w.heap.size + 1, 4, none⟩ (.int .i64 v3.k2)).setCell ⟨w.heap.size + 1, 5, none⟩ (.int .i64 v3.k3)).setCell ⟨w.heap.size + 1, 6, none⟩ (.int .i64 v3.k4)).setCell ⟨w.heap.size + 1, 7, none⟩ (.int .i64 v3.k5)).setCell ⟨w.heap.size + 1, 8, none⟩ (.int .i64 v3.k6)).cell? ⟨w.heap.size + 1, 8, none⟩ = some (Value.int .i64 v3.k6) := hK6.cell 8 rfl
        have H2 := Lib.hid hK6.b2
        clear hK0 hK1 hK2 hK3 hK4 hK5 hK6 hI2 hg hR hJ
        go_wp2_with (refine wpList_stop 13 rfl ?_)
        refine ⟨?_⟩
        clear c2 c3 c4 c5 c6 c7 c8 f2 f3 f4 f5 f6 f7 f8
        generalize (((((((w3.setCell ⟨w.heap.size + 1, 2, none⟩ (.int .i64 v3.k0)).setCell ⟨w.heap.size + 1, 3, none⟩ (.int .i64 v3.k1)).setCell ⟨w.heap.size + 1, 4, none⟩ (.int .i64 v3.k2)).setCell ⟨w.heap.size + 1, 5, none⟩ (.int .i64 v3.k3)).setCell ⟨w.heap.size + 1, 6, none⟩ (.int .i64 v3.k4)).setCell ⟨w.heap.size + 1, 7, none⟩ (.int .i64 v3.k5)).setCell ⟨w.heap.size + 1, 8, none⟩ (.int .i64 v3.k6)) = WW at *
        go_wp2_with (refine wpList_store_row rfl 38 _ _ rfl w.heap.size 38 _ _ rfl rfl H2.out (by kernel_rfl) rfl (by simp [Value.oneCell']) ?_)
        refine bodyPost_ret (results_c rfl rfl (run_ld_block (setRow_heap _ _ _ _ _ _ H2.out) Try.underlying38 rfl (by kernel_rfl))) rfl ?_
        unfold Reads
        rw [hfin]
        exact ⟨⟨_, rfl, rfl⟩, HK.out.end_ _⟩

end Go.Proofs.Ytjcfnpmgklliiaa

namespace Go.Proofs.Ytjcfnpmgklliiaa
open Go.RowKit
set_option maxRecDepth 100000
set_option linter.unusedVariables false

theorem encPg_one (x : PgV) : ∀ u ∈ encPg x, u.oneCell' = true := by
  intro u hu
  simp [encPg] at hu
  rcases hu with rfl | rfl <;> rfl
theorem cells_keep {base : Nat} {w w' : World} {v v' : Value} {u : Value} {l : List Int} (h : Recs encZ (fun b => base ≤ b ∧ v.ownBlock ≠ some b) w u l) (hg : w.grownBy w' v.ownBlock) (hat : v'.ownBlock = v.ownBlock ∨ v'.ownBlock = some w.heap.size) :
    Recs encZ (fun b => base ≤ b ∧ v'.ownBlock ≠ some b) w' u l := by
  have h1 : Recs encZ (fun b => base ≤ b ∧ v.ownBlock ≠ some b ∧ b < w.heap.size) w u l := h.mono (fun b hb hs => ⟨hs.1, hs.2, hb⟩)
  refine (h1.keep (fun b hb hs => hg.block b hb (fun e => hs.2.1 e.symm))).mono (fun b _ hs => ⟨hs.1, fun e => ?_⟩)
  rcases hat with h2 | h2
  · exact hs.2.1 (h2.symm.trans e)
  · rw [h2] at e
    cases e
    exact Nat.lt_irrefl _ hs.2.2
end Go.Proofs.Ytjcfnpmgklliiaa

namespace Go.Proofs.Ytjcfnpmgklliiaa
open Go.RowKit
set_option maxRecDepth 100000
set_option linter.unusedVariables false

theorem leaves_ccc {P : Program} {fn : Func} {tmps : Array Value} {R : Ending → World → Prop} {u : FrameMode} {w : World} {v : Value} (hu : settle u = .returning) (hres : (results fn tmps).run P w = .ok v w) (h : R (.returned v) w) : Leaves P fn tmps R [] (settle u) w := by
  rw [hu]
  exact ⟨v, hres, h⟩
theorem results_ccc {P : Program} {fn : Func} {tmps : Array Value} {w : World} {a b c : Tmp} {t t' t2 : TypeId} {A A' A2 : Addr} {x y z : Value} (h : fn.results = #[.cell a t, .cell b t', .cell c t2]) (ha : tmps.getD a undef = .pointer (some A)) (hb : tmps.getD b undef = .pointer (some A')) (hc : tmps.getD c undef = .pointer (some A2)) (hl : (loadVar t A).run P w = .ok x w) (hl' : (loadVar t' A').run P w = .ok y w) (hl2 : (loadVar t2 A2).run P w = .ok z w) : (results fn tmps).run P w = .ok (.tuple #[x, y, z]) w := by
  have ha' : tmps[a]?.getD undef = .pointer (some A) := by simpa using ha
  have hb' : tmps[b]?.getD undef = .pointer (some A') := by simpa using hb
  have hc' : tmps[c]?.getD undef = .pointer (some A2) := by simpa using hc
  simp [results, h, asAddr, ha', hb', hc', hl, hl', hl2]
/-- the three results of a reading -/
def RdOut {α : Type} (x : Except Nat (α × Nat)) (z : Value) (V : α → World → Value → Prop) (e : Ending) (w' : World) : Prop :=
  match x with
  | .ok (a, q) => ∃ v, e = .returned (.tuple #[v, .int .i64 (q : Int), .int .i64 0]) ∧ V a w' v
  | .error k => e = .returned (.tuple #[z, .int .i64 0, .int .i64 (k : Int)])

theorem catchD_idle (p q s : Addr) (w : World) : CallsD Try.prog 106 #[.pointer (some p), .pointer (some q), .pointer (some s)] .returning w fun e u' w' => e = .returned (.tuple #[]) ∧ u' = .returning ∧ w' = w := by
  refine callsD_of_wpS Try.func106 rfl fun c₀ cs hu => ?_
  apply wpS_seq
  apply wpS_region
  generalize hQ : Exit.thenS _ _ = Q0
  simp [wpOpsS, go_sem, recoverD, hu, Try.ntmps106, Array.replicate]
  subst hQ
  refine wpS_of_wp ?_
  go_wp2
  cases c₀
  simp_all [bodyPostS, results, Try.results106]

set_option maxHeartbeats 1000000 in
theorem catchD_fail (k b6 b7 b8 : Nat) (x6 : Array Value) (x7 x8 : Int) (w w0 : World) (B : Nat) (h6 : w.heap[b6]? = some (.cells x6 38 (0, 0))) (hx6 : x6.size = 9) (h7 : w.heap[b7]? = some (.cells #[.int .i64 x7] 3 (0, 0))) (h8 : w.heap[b8]? = some (.cells #[.int .i64 x8] 29 (0, 0))) (hne : b6 ≠ b7 ∧ b6 ≠ b8 ∧ b7 ≠ b8) (hB : B ≤ b6 ∧ B ≤ b7 ∧ B ≤ b8) (hw : Below B w0 w) :
    CallsD Try.prog 106 #[.pointer (some ⟨b6, 0, none⟩), .pointer (some ⟨b7, 0, none⟩), .pointer (some ⟨b8, 0, none⟩)] (.panicking (failP k)) w fun e u' w' => e = .returned (.tuple #[]) ∧ u' = .panicking [{ v := failV k, recovered := true }] ∧ w'.heap[b6]? = some (.cells #[Value.int .i64 0, Value.int .i64 0, Value.int .i64 0, Value.int .i64 0, Value.int .i64 0, Value.int .i64 0, Value.int .i64 0, Value.int .i64 0, Value.int .i64 0] 38 (0, 0)) ∧ w'.cell? ⟨b7, 0, none⟩ = some (.int .i64 0) ∧ w'.cell? ⟨b8, 0, none⟩ = some (.int .i64 (k : Int)) ∧ Below B w0 w' := by
  have l6 := (Array.getElem?_eq_some_iff.1 h6).1
  have l7 := (Array.getElem?_eq_some_iff.1 h7).1
  have l8 := (Array.getElem?_eq_some_iff.1 h8).1
  obtain ⟨n1, n2, n3⟩ := hne
  have n1' := n1.symm
  have n2' := n2.symm
  have n3' := n3.symm
  have ha : Below w.heap.size w (w.alloc (.cells #[Value.int .i64 0, Value.int .i64 0, Value.int .i64 0, Value.int .i64 0, Value.int .i64 0, Value.int .i64 0, Value.int .i64 0, Value.int .i64 0, Value.int .i64 0] 38)) := (Below.refl _ _).alloc (Nat.le_refl _) _
  have a6 := (ha.block b6 l6).trans h6
  have A6 := Lib.hid a6
  have w6 : ((w.alloc (.cells #[Value.int .i64 0, Value.int .i64 0, Value.int .i64 0, Value.int .i64 0, Value.int .i64 0, Value.int .i64 0, Value.int .i64 0, Value.int .i64 0, Value.int .i64 0] 38)).setRow b6 #[Value.int .i64 0, Value.int .i64 0, Value.int .i64 0, Value.int .i64 0, Value.int .i64 0, Value.int .i64 0, Value.int .i64 0, Value.int .i64 0, Value.int .i64 0]).heap[b6]? = some (.cells #[Value.int .i64 0, Value.int .i64 0, Value.int .i64 0, Value.int .i64 0, Value.int .i64 0, Value.int .i64 0, Value.int .i64 0, Value.int .i64 0, Value.int .i64 0] 38 (0, 0)) := setRow_heap _ _ _ _ _ _ a6
  have w7 : ((w.alloc (.cells #[Value.int .i64 0, Value.int .i64 0, Value.int .i64 0, Value.int .i64 0, Value.int .i64 0, Value.int .i64 0, Value.int .i64 0, Value.int .i64 0, Value.int .i64 0] 38)).setRow b6 #[Value.int .i64 0, Value.int .i64 0, Value.int .i64 0, Value.int .i64 0, Value.int .i64 0, Value.int .i64 0, Value.int .i64 0, Value.int .i64 0, Value.int .i64 0]).heap[b7]? = some (.cells #[.int .i64 x7] 3 (0, 0)) := (setRow_other _ _ _ _ n1').trans ((ha.block b7 l7).trans h7)
  have w8 : ((w.alloc (.cells #[Value.int .i64 0, Value.int .i64 0, Value.int .i64 0, Value.int .i64 0, Value.int .i64 0, Value.int .i64 0, Value.int .i64 0, Value.int .i64 0, Value.int .i64 0] 38)).setRow b6 #[Value.int .i64 0, Value.int .i64 0, Value.int .i64 0, Value.int .i64 0, Value.int .i64 0, Value.int .i64 0, Value.int .i64 0, Value.int .i64 0, Value.int .i64 0]).heap[b8]? = some (.cells #[.int .i64 x8] 29 (0, 0)) := (setRow_other _ _ _ _ n2').trans ((ha.block b8 l8).trans h8)
  have hw2 : Below B w0 ((w.alloc (.cells #[Value.int .i64 0, Value.int .i64 0, Value.int .i64 0, Value.int .i64 0, Value.int .i64 0, Value.int .i64 0, Value.int .i64 0, Value.int .i64 0, Value.int .i64 0] 38)).setRow b6 #[Value.int .i64 0, Value.int .i64 0, Value.int .i64 0, Value.int .i64 0, Value.int .i64 0, Value.int .i64 0, Value.int .i64 0, Value.int .i64 0, Value.int .i64 0]) := Below.setRow (hw.alloc (by omega) _) hB.1 _
  have c7 : ((w.alloc (.cells #[Value.int .i64 0, Value.int .i64 0, Value.int .i64 0, Value.int .i64 0, Value.int .i64 0, Value.int .i64 0, Value.int .i64 0, Value.int .i64 0, Value.int .i64 0] 38)).setRow b6 #[Value.int .i64 0, Value.int .i64 0, Value.int .i64 0, Value.int .i64 0, Value.int .i64 0, Value.int .i64 0, Value.int .i64 0, Value.int .i64 0, Value.int .i64 0]).cell? ⟨b7, 0, none⟩ = some (.int .i64 x7) := by rw [cell_of_row _ _ _ _ _ _ w7]; rfl
  have c8 : ((w.alloc (.cells #[Value.int .i64 0, Value.int .i64 0, Value.int .i64 0, Value.int .i64 0, Value.int .i64 0, Value.int .i64 0, Value.int .i64 0, Value.int .i64 0, Value.int .i64 0] 38)).setRow b6 #[Value.int .i64 0, Value.int .i64 0, Value.int .i64 0, Value.int .i64 0, Value.int .i64 0, Value.int .i64 0, Value.int .i64 0, Value.int .i64 0, Value.int .i64 0]).cell? ⟨b8, 0, none⟩ = some (.int .i64 x8) := by rw [cell_of_row _ _ _ _ _ _ w8]; rfl
  have f7 := frozen_of_row _ _ 0 _ _ w7
  have f8 := frozen_of_row _ _ 0 _ _ w8
  have hsz : ((w.alloc (.cells #[Value.int .i64 0, Value.int .i64 0, Value.int .i64 0, Value.int .i64 0, Value.int .i64 0, Value.int .i64 0, Value.int .i64 0, Value.int .i64 0, Value.int .i64 0] 38)).setRow b6 #[Value.int .i64 0, Value.int .i64 0, Value.int .i64 0, Value.int .i64 0, Value.int .i64 0, Value.int .i64 0, Value.int .i64 0, Value.int .i64 0, Value.int .i64 0]).heap.size = w.heap.size + 1 := by rw [setRow_size]; simp
  have H6 := Lib.hid w6
  have H7 := Lib.hid w7
  have H8 := Lib.hid w8
  have HW := Lib.hid hw2
  clear h6 h7 h8 a6 w6 w7 w8 ha hw2
  unfold failP
  refine callsD_of_wpS Try.func106 rfl fun c₀ cs hu => ?_
  apply wpS_seq
  apply wpS_region
  generalize hQ : Exit.thenS _ _ = Q0
  simp [wpOpsS, go_sem, recoverD, hu, Try.ntmps106, Array.replicate]
  subst hQ
  refine wpS_of_wp ?_
  unfold failV
  have hta := run_assert (.agg #[.int .i64 (k : Int)])
  go_wp2_with (refine wpList_store_row rfl 38 _ _ rfl b6 38 _ _ rfl rfl A6.out (by kernel_rfl) (by rw [hx6]; rfl) (by simp [Value.oneCell']) ?_; generalize (w.alloc (.cells #[Value.int .i64 0, Value.int .i64 0, Value.int .i64 0, Value.int .i64 0, Value.int .i64 0, Value.int .i64 0, Value.int .i64 0, Value.int .i64 0, Value.int .i64 0] 38)).setRow b6 #[Value.int .i64 0, Value.int .i64 0, Value.int .i64 0, Value.int .i64 0, Value.int .i64 0, Value.int .i64 0, Value.int .i64 0, Value.int .i64 0, Value.int .i64 0] = W2 at *)
  refine ⟨rfl, _, rfl, _, results_none rfl _ _ _, rfl, rfl, ?_, ?_, ?_, ?_⟩
  · have r1 : (((W2.setCell ⟨b7, 0, none⟩ (.int .i64 0)).setCell ⟨b8, 0, none⟩ (.int .i64 9)).setCell ⟨b8, 0, none⟩ (.int .i64 (k : Int))).heap[b6]? = some (.cells #[Value.int .i64 0, Value.int .i64 0, Value.int .i64 0, Value.int .i64 0, Value.int .i64 0, Value.int .i64 0, Value.int .i64 0, Value.int .i64 0, Value.int .i64 0] 38 (0, 0)) := by
      rw [heap_setCell_other _ _ _ _ n2, heap_setCell_other _ _ _ _ n2, heap_setCell_other _ _ _ _ n1]
      exact H6.out
    exact (((Below.refl _ _).alloc (Nat.le_refl _) _).block b6 (Array.getElem?_eq_some_iff.1 r1).1).trans r1
  · go_simp
  · have r2 : ((W2.setCell ⟨b7, 0, none⟩ (.int .i64 0)).setCell ⟨b8, 0, none⟩ (.int .i64 9)).heap[b8]? = some (.cells #[.int .i64 9] 29 (0, 0)) := heap_setCell_same _ b8 0 _ _ _ ((heap_setCell_other _ ⟨b7, 0, none⟩ _ _ n3').trans H8.out)
    have r3 : (((W2.setCell ⟨b7, 0, none⟩ (.int .i64 0)).setCell ⟨b8, 0, none⟩ (.int .i64 9)).setCell ⟨b8, 0, none⟩ (.int .i64 (k : Int))).heap[b8]? = some (.cells #[.int .i64 (k : Int)] 29 (0, 0)) := heap_setCell_same _ b8 0 _ _ _ r2
    have r4 := cell_of_row _ _ 0 _ _ _ r3
    go_simp
  · exact Below.alloc (Below.setCell (p := ⟨b8, 0, none⟩) (Below.setCell (p := ⟨b8, 0, none⟩) (Below.setCell (p := ⟨b7, 0, none⟩) HW.out hB.2.1 _) hB.2.2 _) hB.2.2 _) (by simp; omega) _

set_option maxHeartbeats 2000000 in
theorem readD_any (A : Option Addr) (n c : Nat) (k : Int) (L : List UInt8) (S : Nat → Prop) (w : World) (hb : Bytes S w (.slice A n c) L) (hn : n ≤ 100000000) :
    Calls Try.prog 88 #[.slice A n c, .int .i64 k, .func (.func 89) #[] #[]] w fun e w' => RdOut (rdAt rdDt L k) (.agg #[Value.int .i64 0, Value.int .i64 0, Value.int .i64 0, Value.int .i64 0, Value.int .i64 0, Value.int .i64 0, Value.int .i64 0, Value.int .i64 0, Value.int .i64 0]) (fun a w' v => v = dtV a) e w' ∧ Below w.heap.size w w' := by
  have hmf : ∀ (fn : Fn) (first cap : Array Value) (w : World), (Instr.makeFunc fn first cap).run Try.prog w = .ok (.func fn first cap) w := fun _ _ _ _ => rfl
  have hag : ∀ w : World, (isAgg 3).run Try.prog w = .ok false w := fun w => by simp [isAgg, run_underlying Try.underlying3]
  have hae : ∀ w : World, (isAgg 29).run Try.prog w = .ok false w := fun w => by simp [isAgg, run_underlying Try.underlying29]
  have hln := hb.len
  obtain ⟨W, hW, hbW, hsW, r6, r7, r8⟩ := boxes3 w (.cells #[Value.int .i64 0, Value.int .i64 0, Value.int .i64 0, Value.int .i64 0, Value.int .i64 0, Value.int .i64 0, Value.int .i64 0, Value.int .i64 0, Value.int .i64 0] 38) (.cells #[.int .i64 0] 3) (.cells #[.int .i64 0] 29)
  by_cases hk : k < 0 ∨ (L.length : Int) < k
  · have hcat := catchD_fail 3 w.heap.size (w.heap.size + 1) (w.heap.size + 1 + 1) _ _ _ W w w.heap.size r6 rfl r7 r8 ⟨by omega, by omega, by omega⟩ ⟨by omega, by omega, by omega⟩ hbW
    have Hcat := Lib.hid hcat
    clear hcat r6 r7 r8
    have hfin : rdAt rdDt L k = .error 3 := if_pos hk
    rw [hfin]
    by_cases h0 : k < 0
    · have d0 : decide (k < 0) = true := by simpa using h0
      go_enter_defers Try.func88, Try.ntmps88
      go_wp2
      rw [← hW]
      refine leaves_cons (f := 106) (args := #[.pointer (some ⟨w.heap.size, 0, none⟩), .pointer (some ⟨w.heap.size + 1, 0, none⟩), .pointer (some ⟨w.heap.size + 1 + 1, 0, none⟩)]) (by simp) (by simp [go_sem]) ?_
      refine Hcat.out.mono ?_
      rintro e u' w'' ⟨rfl, rfl, g6, g7, g8, hbb⟩
      refine leaves_ccc rfl (results_ccc rfl rfl rfl rfl (run_ld_block g6 Try.underlying38 rfl (by kernel_rfl)) (run_ld1 (hag _) g7) (run_ld1 (hae _) g8)) ?_
      exact ⟨rfl, hbb⟩
    · have d0 : decide (k < 0) = false := by simpa using h0
      have d1 : decide ((n : Int) < k) = true := by simp; omega
      go_enter_defers Try.func88, Try.ntmps88
      go_wp2
      rw [← hW]
      refine leaves_cons (f := 106) (args := #[.pointer (some ⟨w.heap.size, 0, none⟩), .pointer (some ⟨w.heap.size + 1, 0, none⟩), .pointer (some ⟨w.heap.size + 1 + 1, 0, none⟩)]) (by simp) (by simp [go_sem]) ?_
      refine Hcat.out.mono ?_
      rintro e u' w'' ⟨rfl, rfl, g6, g7, g8, hbb⟩
      refine leaves_ccc rfl (results_ccc rfl rfl rfl rfl (run_ld_block g6 Try.underlying38 rfl (by kernel_rfl)) (run_ld1 (hag _) g7) (run_ld1 (hae _) g8)) ?_
      exact ⟨rfl, hbb⟩
  · obtain ⟨p, rfl⟩ := Int.eq_ofNat_of_zero_le (show 0 ≤ k by omega)
    have hp : p ≤ n := by omega
    have hfin : rdAt rdDt L (p : Int) = rdDt L p := (if_neg hk).trans (by rw [Int.toNat_natCast])
    rw [hfin]
    clear hfin hk
    have d0 : decide ((p : Int) < 0) = false := by simp
    have d1 : decide ((n : Int) < (p : Int)) = false := by simp; omega
    have d2 : decide (n < p) = false := by simp; omega
    obtain ⟨W2, hW2⟩ : ∃ W2, W2 = W.alloc (.cells #[.slice A n c, .int .i64 (p : Int)] 134) := ⟨_, rfl⟩
    have hb2 : Below W.heap.size W W2 := by rw [hW2]; exact (Below.refl _ _).alloc (Nat.le_refl _) _
    have r9 : W2.heap[W.heap.size]? = some (.cells #[.slice A n c, .int .i64 (p : Int)] 134 (0, 0)) := by rw [hW2]; exact heap_alloc_new _ _
    have hRd : Rdr w.heap.size W2 W.heap.size L p := by
      have h1 := hln.1
      subst h1
      exact ⟨by omega, A, c, r9, (hb.mono (fun _ h _ => h)).ext (Below.ext hbW hb2), by omega, by omega⟩
    go_enter_defers Try.func88, Try.ntmps88
    go_wp2_with fail
    rw [← hW, ← hsW, ← hW2]
    refine (rdet_any w.heap.size W.heap.size p L W2 hRd).mono ?_
    intro e w3 h3
    have s2 := hb2.size
    have hs3 : w.heap.size + 1 + 1 < W.heap.size := by omega
    clear hsW hW hW2
    have hlt9 : W.heap.size < W2.heap.size := hRd.lt
    unfold Reads at h3
    cases hx : rdDt L p with
    | error x =>
      rw [hx] at h3
      obtain ⟨rfl, hg3⟩ := h3
      have k6 := (hg3.block w.heap.size (by omega) (by simp; omega)).trans ((hb2.block _ (by omega)).trans r6)
      have k7 := (hg3.block (w.heap.size + 1) (by omega) (by simp; omega)).trans ((hb2.block _ (by omega)).trans r7)
      have k8 := (hg3.block (w.heap.size + 1 + 1) (by omega) (by simp; omega)).trans ((hb2.block _ (by omega)).trans r8)
      have hcat := catchD_fail x w.heap.size (w.heap.size + 1) (w.heap.size + 1 + 1) _ _ _ w3 w w.heap.size k6 rfl k7 k8 ⟨by omega, by omega, by omega⟩ ⟨by omega, by omega, by omega⟩ (Below.grow (Below.ext hbW hb2) hg3 (by omega))
      have Hcat := Lib.hid hcat
      clear hcat r6 r7 r8 k6 k7 k8 hRd r9
      go_wp2
      refine leaves_cons (f := 106) (args := #[.pointer (some ⟨w.heap.size, 0, none⟩), .pointer (some ⟨w.heap.size + 1, 0, none⟩), .pointer (some ⟨w.heap.size + 1 + 1, 0, none⟩)]) (by simp [failP]) (by simp [go_sem]) ?_
      refine Hcat.out.mono ?_
      rintro e u' w'' ⟨rfl, rfl, g6, g7, g8, hbb⟩
      refine leaves_ccc rfl (results_ccc rfl rfl rfl rfl (run_ld_block g6 Try.underlying38 rfl (by kernel_rfl)) (run_ld1 (hag _) g7) (run_ld1 (hae _) g8)) ?_
      rw [hx]
      exact ⟨rfl, hbb⟩
    | ok vq =>
      obtain ⟨v, q⟩ := vq
      rw [hx] at h3
      obtain ⟨⟨_, rfl, hV⟩, hR3, hg3⟩ := h3
      unfold dtV at hV
      subst hV
      have k6 := (hg3.block w.heap.size (by omega) (by simp; omega)).trans ((hb2.block _ (by omega)).trans r6)
      have k7 := (hg3.block (w.heap.size + 1) (by omega) (by simp; omega)).trans ((hb2.block _ (by omega)).trans r7)
      have k8 := (hg3.block (w.heap.size + 1 + 1) (by omega) (by simp; omega)).trans ((hb2.block _ (by omega)).trans r8)
      have b3 := Below.grow (Below.ext hbW hb2) hg3 (by omega)
      have hs33 := hg3.size
      have k9 : ∃ A' c', w3.heap[W.heap.size]? = some (.cells #[.slice A' L.length c', .int .i64 (q : Int)] 134 (0, 0)) := by obtain ⟨_, A', c', h1, _⟩ := hR3; exact ⟨A', c', h1⟩
      obtain ⟨Ar, cr, k9⟩ := k9
      have K6 := Lib.hid k6
      have m6 : (w3.setRow w.heap.size #[Value.int .i64 v.proc, Value.int .i64 v.index, Value.int .i64 v.ev.k0, Value.int .i64 v.ev.k1, Value.int .i64 v.ev.k2, Value.int .i64 v.ev.k3, Value.int .i64 v.ev.k4, Value.int .i64 v.ev.k5, Value.int .i64 v.ev.k6]).heap[w.heap.size]? = some (.cells #[Value.int .i64 v.proc, Value.int .i64 v.index, Value.int .i64 v.ev.k0, Value.int .i64 v.ev.k1, Value.int .i64 v.ev.k2, Value.int .i64 v.ev.k3, Value.int .i64 v.ev.k4, Value.int .i64 v.ev.k5, Value.int .i64 v.ev.k6] 38 (0, 0)) := setRow_heap _ _ _ _ _ _ k6
      have m7 := (setRow_other w3 w.heap.size (w.heap.size + 1) #[Value.int .i64 v.proc, Value.int .i64 v.index, Value.int .i64 v.ev.k0, Value.int .i64 v.ev.k1, Value.int .i64 v.ev.k2, Value.int .i64 v.ev.k3, Value.int .i64 v.ev.k4, Value.int .i64 v.ev.k5, Value.int .i64 v.ev.k6] (by omega)).trans k7
      have m8 := (setRow_other w3 w.heap.size (w.heap.size + 1 + 1) #[Value.int .i64 v.proc, Value.int .i64 v.index, Value.int .i64 v.ev.k0, Value.int .i64 v.ev.k1, Value.int .i64 v.ev.k2, Value.int .i64 v.ev.k3, Value.int .i64 v.ev.k4, Value.int .i64 v.ev.k5, Value.int .i64 v.ev.k6] (by omega)).trans k8
      have m9 := (setRow_other w3 w.heap.size W.heap.size #[Value.int .i64 v.proc, Value.int .i64 v.index, Value.int .i64 v.ev.k0, Value.int .i64 v.ev.k1, Value.int .i64 v.ev.k2, Value.int .i64 v.ev.k3, Value.int .i64 v.ev.k4, Value.int .i64 v.ev.k5, Value.int .i64 v.ev.k6] (by omega)).trans k9
      have mb : Below w.heap.size w (w3.setRow w.heap.size #[Value.int .i64 v.proc, Value.int .i64 v.index, Value.int .i64 v.ev.k0, Value.int .i64 v.ev.k1, Value.int .i64 v.ev.k2, Value.int .i64 v.ev.k3, Value.int .i64 v.ev.k4, Value.int .i64 v.ev.k5, Value.int .i64 v.ev.k6]) := Below.setRow b3 (Nat.le_refl _) _
      have mg : w3.grownBy (w3.setRow w.heap.size #[Value.int .i64 v.proc, Value.int .i64 v.index, Value.int .i64 v.ev.k0, Value.int .i64 v.ev.k1, Value.int .i64 v.ev.k2, Value.int .i64 v.ev.k3, Value.int .i64 v.ev.k4, Value.int .i64 v.ev.k5, Value.int .i64 v.ev.k6]) (some w.heap.size) := grown_setRow _ _ _
      have ms : (w3.setRow w.heap.size #[Value.int .i64 v.proc, Value.int .i64 v.index, Value.int .i64 v.ev.k0, Value.int .i64 v.ev.k1, Value.int .i64 v.ev.k2, Value.int .i64 v.ev.k3, Value.int .i64 v.ev.k4, Value.int .i64 v.ev.k5, Value.int .i64 v.ev.k6]).heap.size = w3.heap.size := setRow_size _ _ _
      have M6 := Lib.hid m6
      have M7 := Lib.hid m7
      have M8 := Lib.hid m8
      have M9 := Lib.hid m9
      clear r6 r7 r8 k6 k7 k8 k9 hRd r9 m6 m7 m8 m9 b3 mg
      have n9 : W.heap.size ≠ w.heap.size := by omega
      go_wp2_with (refine wpList_store_row rfl 38 _ _ rfl w.heap.size 38 _ _ rfl rfl K6.out (by kernel_rfl) rfl (by simp [Value.oneCell']) ?_)
      generalize w3.setRow w.heap.size #[Value.int .i64 v.proc, Value.int .i64 v.index, Value.int .i64 v.ev.k0, Value.int .i64 v.ev.k1, Value.int .i64 v.ev.k2, Value.int .i64 v.ev.k3, Value.int .i64 v.ev.k4, Value.int .i64 v.ev.k5, Value.int .i64 v.ev.k6] = W4 at *
      have e9 : W4.cell? ⟨W.heap.size, 1, none⟩ = some (.int .i64 (q : Int)) := by rw [cell_of_row _ _ _ _ _ _ M9.out]; rfl
      have E9 := Lib.hid e9
      clear e9
      refine wp_region_lexL (fun w' => w'.heap[w.heap.size]? = some (.cells #[Value.int .i64 v.proc, Value.int .i64 v.index, Value.int .i64 v.ev.k0, Value.int .i64 v.ev.k1, Value.int .i64 v.ev.k2, Value.int .i64 v.ev.k3, Value.int .i64 v.ev.k4, Value.int .i64 v.ev.k5, Value.int .i64 v.ev.k6] 38 (0, 0)) ∧ w'.cell? ⟨W.heap.size, 1, none⟩ = some (.int .i64 (q : Int))) (by kernel_rfl) (by kernel_rfl) ⟨M6.out, E9.out⟩ ?_
      repeat (first | (refine lexL_q0 rfl ?_; go_big_quiet_step (fail); refine wpQuiet_nil ?_) | (refine lexL_skip0 rfl rfl ?_; simp only [Act.put, List.setIfInBounds_toArray, List.set_cons_succ, List.set_cons_zero]))
      refine lexL_ld (⟨w.heap.size, 0, none⟩) (.agg #[Value.int .i64 v.proc, Value.int .i64 v.index, Value.int .i64 v.ev.k0, Value.int .i64 v.ev.k1, Value.int .i64 v.ev.k2, Value.int .i64 v.ev.k3, Value.int .i64 v.ev.k4, Value.int .i64 v.ev.k5, Value.int .i64 v.ev.k6]) rfl rfl rfl (fun w' hw' => run_ld_block hw'.1 Try.underlying38 rfl (by kernel_rfl)) ?_
      simp only [Act.put, List.setIfInBounds_toArray, List.set_cons_succ, List.set_cons_zero]
      repeat (first | (refine lexL_q0 rfl ?_; go_big_quiet_step (fail); refine wpQuiet_nil ?_) | (refine lexL_skip0 rfl rfl ?_; simp only [Act.put, List.setIfInBounds_toArray, List.set_cons_succ, List.set_cons_zero]))
      refine lexL_ld (⟨W.heap.size, 1, none⟩) (.int .i64 (q : Int)) rfl rfl rfl (fun w' hw' => run_ld1 (hag _) hw'.2) ?_
      simp only [Act.put, List.setIfInBounds_toArray, List.set_cons_succ, List.set_cons_zero]
      repeat (first | (refine lexL_q0 rfl ?_; go_big_quiet_step (fail); refine wpQuiet_nil ?_) | (refine lexL_skip0 rfl rfl ?_; simp only [Act.put, List.setIfInBounds_toArray, List.set_cons_succ, List.set_cons_zero]))
      have D6 : RowKit.Hid (W4.drew.heap[w.heap.size]? = some (.cells #[Value.int .i64 v.proc, Value.int .i64 v.index, Value.int .i64 v.ev.k0, Value.int .i64 v.ev.k1, Value.int .i64 v.ev.k2, Value.int .i64 v.ev.k3, Value.int .i64 v.ev.k4, Value.int .i64 v.ev.k5, Value.int .i64 v.ev.k6] 38 (0, 0))) := Lib.hid M6.out
      refine lexL_e rfl ?_
      refine wpList_store_row rfl 38 _ _ rfl w.heap.size 38 _ _ rfl rfl D6.out (by kernel_rfl) rfl (by simp [Value.oneCell']) ?_
      have u6 : (W4.drew.setRow w.heap.size #[Value.int .i64 v.proc, Value.int .i64 v.index, Value.int .i64 v.ev.k0, Value.int .i64 v.ev.k1, Value.int .i64 v.ev.k2, Value.int .i64 v.ev.k3, Value.int .i64 v.ev.k4, Value.int .i64 v.ev.k5, Value.int .i64 v.ev.k6]).heap[w.heap.size]? = some (.cells #[Value.int .i64 v.proc, Value.int .i64 v.index, Value.int .i64 v.ev.k0, Value.int .i64 v.ev.k1, Value.int .i64 v.ev.k2, Value.int .i64 v.ev.k3, Value.int .i64 v.ev.k4, Value.int .i64 v.ev.k5, Value.int .i64 v.ev.k6] 38 (0, 0)) := setRow_heap _ _ _ _ _ _ D6.out
      have u7 := (setRow_other W4.drew w.heap.size (w.heap.size + 1) #[Value.int .i64 v.proc, Value.int .i64 v.index, Value.int .i64 v.ev.k0, Value.int .i64 v.ev.k1, Value.int .i64 v.ev.k2, Value.int .i64 v.ev.k3, Value.int .i64 v.ev.k4, Value.int .i64 v.ev.k5, Value.int .i64 v.ev.k6] (by omega)).trans M7.out
      have u8 := (setRow_other W4.drew w.heap.size (w.heap.size + 1 + 1) #[Value.int .i64 v.proc, Value.int .i64 v.index, Value.int .i64 v.ev.k0, Value.int .i64 v.ev.k1, Value.int .i64 v.ev.k2, Value.int .i64 v.ev.k3, Value.int .i64 v.ev.k4, Value.int .i64 v.ev.k5, Value.int .i64 v.ev.k6] (by omega)).trans M8.out
      have u9 := (setRow_other W4.drew w.heap.size W.heap.size #[Value.int .i64 v.proc, Value.int .i64 v.index, Value.int .i64 v.ev.k0, Value.int .i64 v.ev.k1, Value.int .i64 v.ev.k2, Value.int .i64 v.ev.k3, Value.int .i64 v.ev.k4, Value.int .i64 v.ev.k5, Value.int .i64 v.ev.k6] (by omega)).trans M9.out
      have ub : Below w.heap.size w (W4.drew.setRow w.heap.size #[Value.int .i64 v.proc, Value.int .i64 v.index, Value.int .i64 v.ev.k0, Value.int .i64 v.ev.k1, Value.int .i64 v.ev.k2, Value.int .i64 v.ev.k3, Value.int .i64 v.ev.k4, Value.int .i64 v.ev.k5, Value.int .i64 v.ev.k6]) := Below.setRow mb.drew (Nat.le_refl _) _
      have ug : W4.drew.grownBy (W4.drew.setRow w.heap.size #[Value.int .i64 v.proc, Value.int .i64 v.index, Value.int .i64 v.ev.k0, Value.int .i64 v.ev.k1, Value.int .i64 v.ev.k2, Value.int .i64 v.ev.k3, Value.int .i64 v.ev.k4, Value.int .i64 v.ev.k5, Value.int .i64 v.ev.k6]) (some w.heap.size) := grown_setRow _ _ _
      generalize W4.drew.setRow w.heap.size #[Value.int .i64 v.proc, Value.int .i64 v.index, Value.int .i64 v.ev.k0, Value.int .i64 v.ev.k1, Value.int .i64 v.ev.k2, Value.int .i64 v.ev.k3, Value.int .i64 v.ev.k4, Value.int .i64 v.ev.k5, Value.int .i64 v.ev.k6] = W5 at *
      have c9 : W5.cell? ⟨W.heap.size, 1, none⟩ = some (.int .i64 (q : Int)) := by rw [cell_of_row _ _ _ _ _ _ u9]; rfl
      have c7 : W5.cell? ⟨w.heap.size + 1, 0, none⟩ = some (.int .i64 0) := by rw [cell_of_row _ _ _ _ _ _ u7]; rfl
      have c8 : W5.cell? ⟨w.heap.size + 1 + 1, 0, none⟩ = some (.int .i64 0) := by rw [cell_of_row _ _ _ _ _ _ u8]; rfl
      have f7 := frozen_of_row _ _ 0 _ _ u7
      have f8 := frozen_of_row _ _ 0 _ _ u8
      have U6 := Lib.hid u6
      clear u6 u7 u8 u9 ug
      refine lexL_go ⟨U6.out, c9⟩ ?_
      simp only [Act.put]
      repeat (first | (refine lexL_q0 rfl ?_; go_big_quiet_step (fail); refine wpQuiet_nil ?_) | (refine lexL_skip0 rfl rfl ?_; simp only [Act.put, List.setIfInBounds_toArray, List.set_cons_succ, List.set_cons_zero]))
      refine lexL_e rfl ?_
      go_wp2_with fail
      go_wp2_with fail
      refine lexL_go (⟨(heap_setCell_other _ ⟨w.heap.size + 1, 0, none⟩ _ _ (show w.heap.size ≠ w.heap.size + 1 by omega)).trans U6.out, by go_simp⟩) ?_
      repeat (first | (refine lexL_q0 rfl ?_; go_big_quiet_step (fail); refine wpQuiet_nil ?_) | (refine lexL_skip0 rfl rfl ?_; simp only [Act.put, List.setIfInBounds_toArray, List.set_cons_succ, List.set_cons_zero]))
      refine lexL_e rfl ?_
      go_wp2_with fail
      go_wp2_with fail
      refine lexL_go (⟨(heap_setCell_other _ ⟨w.heap.size + 1 + 1, 0, none⟩ _ _ (show w.heap.size ≠ w.heap.size + 1 + 1 by omega)).trans ((heap_setCell_other _ ⟨w.heap.size + 1, 0, none⟩ _ _ (show w.heap.size ≠ w.heap.size + 1 by omega)).trans U6.out), by go_simp⟩) ?_
      repeat (first | (refine lexL_q0 rfl ?_; go_big_quiet_step (fail); refine wpQuiet_nil ?_) | (refine lexL_skip0 rfl rfl ?_; simp only [Act.put, List.setIfInBounds_toArray, List.set_cons_succ, List.set_cons_zero]))
      refine lexL_nil ?_
      go_wp2_with fail
      have g6 : ((W5.setCell ⟨w.heap.size + 1, 0, none⟩ (.int .i64 (q : Int))).setCell ⟨w.heap.size + 1 + 1, 0, none⟩ (.int .i64 0)).heap[w.heap.size]? = some (.cells #[Value.int .i64 v.proc, Value.int .i64 v.index, Value.int .i64 v.ev.k0, Value.int .i64 v.ev.k1, Value.int .i64 v.ev.k2, Value.int .i64 v.ev.k3, Value.int .i64 v.ev.k4, Value.int .i64 v.ev.k5, Value.int .i64 v.ev.k6] 38 (0, 0)) := (heap_setCell_other _ ⟨w.heap.size + 1 + 1, 0, none⟩ _ _ (show w.heap.size ≠ w.heap.size + 1 + 1 by omega)).trans ((heap_setCell_other _ ⟨w.heap.size + 1, 0, none⟩ _ _ (show w.heap.size ≠ w.heap.size + 1 by omega)).trans U6.out)
      have g7 : ((W5.setCell ⟨w.heap.size + 1, 0, none⟩ (.int .i64 (q : Int))).setCell ⟨w.heap.size + 1 + 1, 0, none⟩ (.int .i64 0)).cell? ⟨w.heap.size + 1, 0, none⟩ = some (.int .i64 (q : Int)) := by go_simp
      have g8 : ((W5.setCell ⟨w.heap.size + 1, 0, none⟩ (.int .i64 (q : Int))).setCell ⟨w.heap.size + 1 + 1, 0, none⟩ (.int .i64 0)).cell? ⟨w.heap.size + 1 + 1, 0, none⟩ = some (.int .i64 0) := by go_simp
      have b7 := (ub.setCell (p := ⟨w.heap.size + 1, 0, none⟩) (show _ ≤ w.heap.size + 1 by omega) (.int .i64 (q : Int))).setCell (p := ⟨w.heap.size + 1 + 1, 0, none⟩) (show _ ≤ w.heap.size + 1 + 1 by omega) (.int .i64 0)
      have vg1 : W5.grownBy (W5.setCell ⟨w.heap.size + 1, 0, none⟩ (.int .i64 (q : Int))) (some (w.heap.size + 1)) := grown_set ⟨rfl, rfl, rfl, Nat.le_refl _, fun _ _ _ => rfl⟩
      have vg2 : (W5.setCell ⟨w.heap.size + 1, 0, none⟩ (.int .i64 (q : Int))).grownBy ((W5.setCell ⟨w.heap.size + 1, 0, none⟩ (.int .i64 (q : Int))).setCell ⟨w.heap.size + 1 + 1, 0, none⟩ (.int .i64 0)) (some (w.heap.size + 1 + 1)) := grown_set ⟨rfl, rfl, rfl, Nat.le_refl _, fun _ _ _ => rfl⟩
      generalize ((W5.setCell ⟨w.heap.size + 1, 0, none⟩ (.int .i64 (q : Int))).setCell ⟨w.heap.size + 1 + 1, 0, none⟩ (.int .i64 0)) = W7 at *
      refine leaves_cons (f := 106) (args := #[.pointer (some ⟨w.heap.size, 0, none⟩), .pointer (some ⟨w.heap.size + 1, 0, none⟩), .pointer (some ⟨w.heap.size + 1 + 1, 0, none⟩)]) (by simp) (by simp [go_sem]) ?_
      refine (catchD_idle _ _ _ W7).mono ?_
      rintro e u' w'' ⟨rfl, rfl, rfl⟩
      refine leaves_ccc rfl (results_ccc rfl rfl rfl rfl (run_ld_block g6 Try.underlying38 rfl (by kernel_rfl)) (run_ld1 (hag _) g7) (run_ld1 (hae _) g8)) ?_
      refine ⟨?_, b7⟩
      rw [hx]
      exact ⟨_, rfl, rfl⟩

end Go.Proofs.Ytjcfnpmgklliiaa

namespace Go.Proofs.Ytjcfnpmgklliiaa
open Go.RowKit
set_option maxRecDepth 100000
set_option linter.unusedVariables false

set_option maxHeartbeats 1000000 in
theorem codecDet_any (A : Option Addr) (n c : Nat) (k : Int) (L : List UInt8) (S : Nat → Prop) (w : World) (hb : Bytes S w (.slice A n c) L) (hn : n ≤ 100000000) :
    Calls Try.prog 60 #[.slice A n c, .int .i64 k] w fun e w' => RdOut (rdAt rdDt L k) (.agg #[Value.int .i64 0, Value.int .i64 0, Value.int .i64 0, Value.int .i64 0, Value.int .i64 0, Value.int .i64 0, Value.int .i64 0, Value.int .i64 0, Value.int .i64 0]) (fun a w' v => v = dtV a) e w' ∧ Below w.heap.size w w' := by
  obtain ⟨W, hW⟩ : ∃ W, W = w.alloc (.cells #[Value.int .i64 0, Value.int .i64 0, Value.int .i64 0, Value.int .i64 0, Value.int .i64 0, Value.int .i64 0, Value.int .i64 0, Value.int .i64 0, Value.int .i64 0] 38) := ⟨_, rfl⟩
  have hbW : Below w.heap.size w W := by rw [hW]; exact (Below.refl _ _).alloc (Nat.le_refl _) _
  have r0 : W.heap[w.heap.size]? = some (.cells #[Value.int .i64 0, Value.int .i64 0, Value.int .i64 0, Value.int .i64 0, Value.int .i64 0, Value.int .i64 0, Value.int .i64 0, Value.int .i64 0, Value.int .i64 0] 38 (0, 0)) := by rw [hW]; exact heap_alloc_new _ _
  have hsW : W.heap.size = w.heap.size + 1 := by rw [hW]; simp
  go_enter Try.func60, Try.ntmps60
  go_wp2_with fail
  rw [← hW]
  clear hW
  refine (readD_any A n c k L S W (hb.ext hbW) hn).mono ?_
  rintro e w1 ⟨h1, hb1⟩
  have R1 := Lib.hid ((hb1.block w.heap.size (by omega)).trans r0)
  have b1 := Below.ext hbW hb1
  clear r0 hb1
  unfold RdOut at h1
  cases hx : rdAt rdDt L k with
  | error x =>
    rw [hx] at h1
    subst h1
    go_wp2_with (refine wpList_store_row rfl 38 _ _ rfl w.heap.size 38 _ _ rfl rfl R1.out (by kernel_rfl) rfl (by simp [Value.oneCell']) ?_)
    refine bodyPost_ret (results_ctt rfl rfl (run_ld_block (setRow_heap _ _ _ _ _ _ R1.out) Try.underlying38 rfl (by kernel_rfl))) rfl ?_
    rw [hx]
    exact ⟨rfl, Below.setRow b1 (Nat.le_refl _) _⟩
  | ok vq =>
    obtain ⟨v, q⟩ := vq
    rw [hx] at h1
    obtain ⟨u, rfl, hV⟩ := h1
    unfold dtV at hV
    subst hV
    have hg : w1.grownBy (w1.setRow w.heap.size #[Value.int .i64 v.proc, Value.int .i64 v.index, Value.int .i64 v.ev.k0, Value.int .i64 v.ev.k1, Value.int .i64 v.ev.k2, Value.int .i64 v.ev.k3, Value.int .i64 v.ev.k4, Value.int .i64 v.ev.k5, Value.int .i64 v.ev.k6]) (some w.heap.size) := grown_setRow _ _ _
    go_wp2_with (refine wpList_store_row rfl 38 _ _ rfl w.heap.size 38 _ _ rfl rfl R1.out (by kernel_rfl) rfl (by simp [Value.oneCell']) ?_)
    refine bodyPost_ret (results_ctt rfl rfl (run_ld_block (setRow_heap _ _ _ _ _ _ R1.out) Try.underlying38 rfl (by kernel_rfl))) rfl ?_
    rw [hx]
    exact ⟨⟨_, rfl, rfl⟩, Below.setRow b1 (Nat.le_refl _) _⟩

end Go.Proofs.Ytjcfnpmgklliiaa
