/-
  codec.reader: pages, states, determinants.
-/
import Derived.Test.YtgjjfjibfleonaaRdL
namespace Go.Proofs.Ytgjjfjibfleonaa
open Go.RowKit
set_option maxRecDepth 100000
set_option linter.unusedVariables false

structure Stop (p : Prop) : Prop where
  out : p

/-- a walk stops ahead of the operation that fills the slot d -/
theorem wpList_stop {P : Program} {ops : Array Oper} {Q : Exit → Act → World → Prop} {rest : List Oper} {o : Oper} {a : Act} {w : World} (d : Nat) (hd : o.dst = some d) (h : Stop (wpList P ops Q (o :: rest) a w)) : wpList P ops Q (o :: rest) a w := h.out

set_option maxHeartbeats 2000000 in
theorem rpage_any (B r p : Nat) (L : List UInt8) (w : World) (h : Rdr B w r L p) :
    Calls Try.prog 61 #[.pointer (some ⟨r, 0, none⟩)] w fun e w' => Reads B r L w (rdPg L p) (fun a w' v => ∃ A c, v = .agg #[.int .i64 a.num, .slice A a.cells.length c] ∧ OwnR encZ 1 w' w.heap.size 3 (.slice A a.cells.length c) a.cells) e w' := by
  have hlt := h.lt
  obtain ⟨W0, hW, hI0⟩ := RB.new (T := 71) (c2 := #[Value.int .i64 0, Value.slice none 0 0]) (c3 := #[Value.int .i64 0, Value.slice none 0 0]) h
  go_enter Try.func61, Try.ntmps61
  go_wp2_with fail
  rw [← hW]
  clear hW
  refine (rint_any B r p L W0 hI0.rd).mono ?_
  intro e w1 h1
  unfold Reads at h1
  cases hx1 : rdInt L p with
  | error k =>
    rw [hx1] at h1
    obtain ⟨rfl, hg⟩ := h1
    have hgr := grown_tr hI0.gr hg
    have hfin : rdPg L p = .error k := by unfold rdPg; rw [bnd_er hx1]
    clear hI0
    go_wp2
    refine ⟨rfl, ?_⟩
    unfold Reads
    rw [hfin]
    exact ⟨rfl, hgr⟩
  | ok vq =>
    obtain ⟨v1, q1⟩ := vq
    rw [hx1] at h1
    obtain ⟨⟨_, rfl, rfl⟩, hR, hg⟩ := h1
    have hs1 := hI0.sz
    have hJ := hI0.call hR hg
    have hc := hJ.cell 0 (v := .int .i64 0) rfl
    have hf := hJ.frz 0
    have hgS : w1.grownBy (w1.setCell ⟨w.heap.size + 1, 0, none⟩ (.int .i64 v1)) (some (w.heap.size + 1)) := grown_set ⟨rfl, rfl, rfl, Nat.le_refl _, fun _ _ _ => rfl⟩
    have hI1 : RB B r L 71 #[Value.int .i64 0, Value.slice none 0 0] w (w1.setCell ⟨w.heap.size + 1, 0, none⟩ (.int .i64 v1)) q1 #[Value.int .i64 v1, Value.slice none 0 0] := hJ.set 0 (.int .i64 v1)
    clear hJ hI0 hg hR hgS
    go_wp2_with fail
    clear hc hf
    generalize w1.setCell ⟨w.heap.size + 1, 0, none⟩ (.int .i64 v1) = W1 at *
    refine (listI_any B r q1 L W1 hI1.rd).mono ?_
    intro e w2 h2
    unfold Reads at h2
    cases hx2 : rdList (rdInt L) L q1 with
    | error k =>
      rw [hx2] at h2
      obtain ⟨rfl, hg⟩ := h2
      have hgr := grown_tr hI1.gr hg
      have hfin : rdPg L p = .error k := by unfold rdPg; rw [bnd_ok hx1, bnd_er hx2]
      clear hI1
      go_wp2
      refine ⟨rfl, ?_⟩
      unfold Reads
      rw [hfin]
      exact ⟨rfl, hgr⟩
    | ok vq =>
      obtain ⟨v2, q2⟩ := vq
      rw [hx2] at h2
      obtain ⟨⟨_, rfl, A2, c2, rfl, hO2⟩, hR, hg⟩ := h2
      have hs2 := hI1.sz
      have hO2 : OwnR encZ 1 w2 (w.heap.size + 2) 3 (.slice A2 v2.length c2) v2 := hO2.weak (by omega)
      have hJ := hI1.call hR hg
      have hc := hJ.cell 1 (v := .slice none 0 0) rfl
      have hf := hJ.frz 1
      have hgS : w2.grownBy (w2.setCell ⟨w.heap.size + 1, 1, none⟩ (.slice A2 v2.length c2)) (some (w.heap.size + 1)) := grown_set ⟨rfl, rfl, rfl, Nat.le_refl _, fun _ _ _ => rfl⟩
      have hO2 := hO2.kept_lt hgS (by omega)
      have hI2 : RB B r L 71 #[Value.int .i64 0, Value.slice none 0 0] w (w2.setCell ⟨w.heap.size + 1, 1, none⟩ (.slice A2 v2.length c2)) q2 #[Value.int .i64 v1, Value.slice A2 v2.length c2] := hJ.set 1 (.slice A2 v2.length c2)
      clear hJ hI1 hg hR hgS
      have hfin : rdPg L p = .ok (⟨v1, v2⟩, q2) := by unfold rdPg; rw [bnd_ok hx1, bnd_ok hx2]
      have hgR : (w2.setCell ⟨w.heap.size + 1, 1, none⟩ (.slice A2 v2.length c2)).grownBy ((w2.setCell ⟨w.heap.size + 1, 1, none⟩ (.slice A2 v2.length c2)).setRow w.heap.size #[Value.int .i64 v1, Value.slice A2 v2.length c2]) (some w.heap.size) := grown_setRow _ _ _
      have hO2 := hO2.kept_lt hgR (by omega)
      have k0 : (w2.setCell ⟨w.heap.size + 1, 1, none⟩ (.slice A2 v2.length c2)).cell? ⟨w.heap.size + 1, 0, none⟩ = some (Value.int .i64 v1) := hI2.cell 0 rfl
      have k1 : (w2.setCell ⟨w.heap.size + 1, 1, none⟩ (.slice A2 v2.length c2)).cell? ⟨w.heap.size + 1, 1, none⟩ = some (Value.slice A2 v2.length c2) := hI2.cell 1 rfl
      have H2 := Lib.hid hI2.b2
      have HI := Lib.hid hI2
      clear hI2 hgR
      go_wp2_with (refine wpList_store_row rfl 71 _ _ rfl w.heap.size 71 _ _ rfl rfl H2.out (by kernel_rfl) rfl (by simp [Value.oneCell']) ?_)
      refine bodyPost_ret (results_c rfl rfl (run_ld_block (setRow_heap _ _ _ _ _ _ H2.out) Try.underlying71 rfl (by kernel_rfl))) rfl ?_
      unfold Reads
      rw [hfin]
      exact ⟨⟨_, rfl, A2, c2, rfl, hO2.weak (by omega)⟩, HI.out.end_ _⟩

/-- a state of the call's own making -/
def StO (w : World) (base : Nat) (v : Value) (s : Stt) : Prop := ∃ A1 c1 A2 c2 A3 c3 A4 c4, v = .agg #[.slice A1 s.cells.length c1, .slice A2 s.evs.length c2, .slice A3 s.sent.length c3, .slice A4 s.outs.length c4] ∧ OwnR encZ 1 w base 3 (.slice A1 s.cells.length c1) s.cells ∧ OwnR encEv 7 w base 35 (.slice A2 s.evs.length c2) s.evs ∧ OwnR encSn 4 w base 73 (.slice A3 s.sent.length c3) s.sent ∧ OwnR encOu 2 w base 75 (.slice A4 s.outs.length c4) s.outs
set_option maxHeartbeats 2000000 in
theorem rstate_any (B r p : Nat) (L : List UInt8) (w : World) (h : Rdr B w r L p) :
    Calls Try.prog 46 #[.pointer (some ⟨r, 0, none⟩)] w fun e w' => Reads B r L w (rdSt L p) (fun a w' v => StO w' w.heap.size v a) e w' := by
  have hlt := h.lt
  obtain ⟨W0, hW, hI0⟩ := RB.new (T := 43) (c2 := #[Value.slice none 0 0, Value.slice none 0 0, Value.slice none 0 0, Value.slice none 0 0]) (c3 := #[Value.slice none 0 0, Value.slice none 0 0, Value.slice none 0 0, Value.slice none 0 0]) h
  go_enter Try.func46, Try.ntmps46
  go_wp2_with fail
  rw [← hW]
  clear hW
  refine (listI_any B r p L W0 hI0.rd).mono ?_
  intro e w1 h1
  unfold Reads at h1
  cases hx1 : rdList (rdInt L) L p with
  | error k =>
    rw [hx1] at h1
    obtain ⟨rfl, hg⟩ := h1
    have hgr := grown_tr hI0.gr hg
    have hfin : rdSt L p = .error k := by unfold rdSt; rw [bnd_er hx1]
    clear hI0
    go_wp2
    refine ⟨rfl, ?_⟩
    unfold Reads
    rw [hfin]
    exact ⟨rfl, hgr⟩
  | ok vq =>
    obtain ⟨v1, q1⟩ := vq
    rw [hx1] at h1
    obtain ⟨⟨_, rfl, A1, c1, rfl, hO1⟩, hR, hg⟩ := h1
    have hs1 := hI0.sz
    have hO1 : OwnR encZ 1 w1 (w.heap.size + 2) 3 (.slice A1 v1.length c1) v1 := hO1.weak (by omega)
    have hJ := hI0.call hR hg
    have hc := hJ.cell 0 (v := .slice none 0 0) rfl
    have hf := hJ.frz 0
    have hgS : w1.grownBy (w1.setCell ⟨w.heap.size + 1, 0, none⟩ (.slice A1 v1.length c1)) (some (w.heap.size + 1)) := grown_set ⟨rfl, rfl, rfl, Nat.le_refl _, fun _ _ _ => rfl⟩
    have hO1 := hO1.kept_lt hgS (by omega)
    have hI1 : RB B r L 43 #[Value.slice none 0 0, Value.slice none 0 0, Value.slice none 0 0, Value.slice none 0 0] w (w1.setCell ⟨w.heap.size + 1, 0, none⟩ (.slice A1 v1.length c1)) q1 #[Value.slice A1 v1.length c1, Value.slice none 0 0, Value.slice none 0 0, Value.slice none 0 0] := hJ.set 0 (.slice A1 v1.length c1)
    clear hJ hI0 hg hR hgS
    go_wp2_with fail
    clear hc hf
    generalize w1.setCell ⟨w.heap.size + 1, 0, none⟩ (.slice A1 v1.length c1) = W1 at *
    refine (listE_any B r q1 L W1 hI1.rd).mono ?_
    intro e w2 h2
    unfold Reads at h2
    cases hx2 : rdList (rdEv L) L q1 with
    | error k =>
      rw [hx2] at h2
      obtain ⟨rfl, hg⟩ := h2
      have hgr := grown_tr hI1.gr hg
      have hfin : rdSt L p = .error k := by unfold rdSt; rw [bnd_ok hx1, bnd_er hx2]
      clear hI1
      go_wp2
      refine ⟨rfl, ?_⟩
      unfold Reads
      rw [hfin]
      exact ⟨rfl, hgr⟩
    | ok vq =>
      obtain ⟨v2, q2⟩ := vq
      rw [hx2] at h2
      obtain ⟨⟨_, rfl, A2, c2, rfl, hO2⟩, hR, hg⟩ := h2
      have hs2 := hI1.sz
      have hO1 := hO1.kept_lt hg (by omega)
      have hO2 : OwnR encEv 7 w2 (w.heap.size + 2) 35 (.slice A2 v2.length c2) v2 := hO2.weak (by omega)
      have hJ := hI1.call hR hg
      have hc := hJ.cell 1 (v := .slice none 0 0) rfl
      have hf := hJ.frz 1
      have hgS : w2.grownBy (w2.setCell ⟨w.heap.size + 1, 1, none⟩ (.slice A2 v2.length c2)) (some (w.heap.size + 1)) := grown_set ⟨rfl, rfl, rfl, Nat.le_refl _, fun _ _ _ => rfl⟩
      have hO1 := hO1.kept_lt hgS (by omega)
      have hO2 := hO2.kept_lt hgS (by omega)
      have hI2 : RB B r L 43 #[Value.slice none 0 0, Value.slice none 0 0, Value.slice none 0 0, Value.slice none 0 0] w (w2.setCell ⟨w.heap.size + 1, 1, none⟩ (.slice A2 v2.length c2)) q2 #[Value.slice A1 v1.length c1, Value.slice A2 v2.length c2, Value.slice none 0 0, Value.slice none 0 0] := hJ.set 1 (.slice A2 v2.length c2)
      clear hJ hI1 hg hR hgS
      go_wp2_with fail
      clear hc hf
      generalize w2.setCell ⟨w.heap.size + 1, 1, none⟩ (.slice A2 v2.length c2) = W2 at *
      refine (listS_any B r q2 L W2 hI2.rd).mono ?_
      intro e w3 h3
      unfold Reads at h3
      cases hx3 : rdList (rdSn L) L q2 with
      | error k =>
        rw [hx3] at h3
        obtain ⟨rfl, hg⟩ := h3
        have hgr := grown_tr hI2.gr hg
        have hfin : rdSt L p = .error k := by unfold rdSt; rw [bnd_ok hx1, bnd_ok hx2, bnd_er hx3]
        clear hI2
        go_wp2
        refine ⟨rfl, ?_⟩
        unfold Reads
        rw [hfin]
        exact ⟨rfl, hgr⟩
      | ok vq =>
        obtain ⟨v3, q3⟩ := vq
        rw [hx3] at h3
        obtain ⟨⟨_, rfl, A3, c3, rfl, hO3⟩, hR, hg⟩ := h3
        have hs3 := hI2.sz
        have hO1 := hO1.kept_lt hg (by omega)
        have hO2 := hO2.kept_lt hg (by omega)
        have hO3 : OwnR encSn 4 w3 (w.heap.size + 2) 73 (.slice A3 v3.length c3) v3 := hO3.weak (by omega)
        have hJ := hI2.call hR hg
        have hc := hJ.cell 2 (v := .slice none 0 0) rfl
        have hf := hJ.frz 2
        have hgS : w3.grownBy (w3.setCell ⟨w.heap.size + 1, 2, none⟩ (.slice A3 v3.length c3)) (some (w.heap.size + 1)) := grown_set ⟨rfl, rfl, rfl, Nat.le_refl _, fun _ _ _ => rfl⟩
        have hO1 := hO1.kept_lt hgS (by omega)
        have hO2 := hO2.kept_lt hgS (by omega)
        have hO3 := hO3.kept_lt hgS (by omega)
        have hI3 : RB B r L 43 #[Value.slice none 0 0, Value.slice none 0 0, Value.slice none 0 0, Value.slice none 0 0] w (w3.setCell ⟨w.heap.size + 1, 2, none⟩ (.slice A3 v3.length c3)) q3 #[Value.slice A1 v1.length c1, Value.slice A2 v2.length c2, Value.slice A3 v3.length c3, Value.slice none 0 0] := hJ.set 2 (.slice A3 v3.length c3)
        clear hJ hI2 hg hR hgS
        go_wp2_with fail
        clear hc hf
        generalize w3.setCell ⟨w.heap.size + 1, 2, none⟩ (.slice A3 v3.length c3) = W3 at *
        refine (listO_any B r q3 L W3 hI3.rd).mono ?_
        intro e w4 h4
        unfold Reads at h4
        cases hx4 : rdList (rdOu L) L q3 with
        | error k =>
          rw [hx4] at h4
          obtain ⟨rfl, hg⟩ := h4
          have hgr := grown_tr hI3.gr hg
          have hfin : rdSt L p = .error k := by unfold rdSt; rw [bnd_ok hx1, bnd_ok hx2, bnd_ok hx3, bnd_er hx4]
          clear hI3
          go_wp2
          refine ⟨rfl, ?_⟩
          unfold Reads
          rw [hfin]
          exact ⟨rfl, hgr⟩
        | ok vq =>
          obtain ⟨v4, q4⟩ := vq
          rw [hx4] at h4
          obtain ⟨⟨_, rfl, A4, c4, rfl, hO4⟩, hR, hg⟩ := h4
          have hs4 := hI3.sz
          have hO1 := hO1.kept_lt hg (by omega)
          have hO2 := hO2.kept_lt hg (by omega)
          have hO3 := hO3.kept_lt hg (by omega)
          have hO4 : OwnR encOu 2 w4 (w.heap.size + 2) 75 (.slice A4 v4.length c4) v4 := hO4.weak (by omega)
          have hJ := hI3.call hR hg
          have hc := hJ.cell 3 (v := .slice none 0 0) rfl
          have hf := hJ.frz 3
          have hgS : w4.grownBy (w4.setCell ⟨w.heap.size + 1, 3, none⟩ (.slice A4 v4.length c4)) (some (w.heap.size + 1)) := grown_set ⟨rfl, rfl, rfl, Nat.le_refl _, fun _ _ _ => rfl⟩
          have hO1 := hO1.kept_lt hgS (by omega)
          have hO2 := hO2.kept_lt hgS (by omega)
          have hO3 := hO3.kept_lt hgS (by omega)
          have hO4 := hO4.kept_lt hgS (by omega)
          have hI4 : RB B r L 43 #[Value.slice none 0 0, Value.slice none 0 0, Value.slice none 0 0, Value.slice none 0 0] w (w4.setCell ⟨w.heap.size + 1, 3, none⟩ (.slice A4 v4.length c4)) q4 #[Value.slice A1 v1.length c1, Value.slice A2 v2.length c2, Value.slice A3 v3.length c3, Value.slice A4 v4.length c4] := hJ.set 3 (.slice A4 v4.length c4)
          clear hJ hI3 hg hR hgS
          have hfin : rdSt L p = .ok (⟨v1, v2, v3, v4⟩, q4) := by unfold rdSt; rw [bnd_ok hx1, bnd_ok hx2, bnd_ok hx3, bnd_ok hx4]
          have hgR : (w4.setCell ⟨w.heap.size + 1, 3, none⟩ (.slice A4 v4.length c4)).grownBy ((w4.setCell ⟨w.heap.size + 1, 3, none⟩ (.slice A4 v4.length c4)).setRow w.heap.size #[Value.slice A1 v1.length c1, Value.slice A2 v2.length c2, Value.slice A3 v3.length c3, Value.slice A4 v4.length c4]) (some w.heap.size) := grown_setRow _ _ _
          have hO1 := hO1.kept_lt hgR (by omega)
          have hO2 := hO2.kept_lt hgR (by omega)
          have hO3 := hO3.kept_lt hgR (by omega)
          have hO4 := hO4.kept_lt hgR (by omega)
          have k0 : (w4.setCell ⟨w.heap.size + 1, 3, none⟩ (.slice A4 v4.length c4)).cell? ⟨w.heap.size + 1, 0, none⟩ = some (Value.slice A1 v1.length c1) := hI4.cell 0 rfl
          have k1 : (w4.setCell ⟨w.heap.size + 1, 3, none⟩ (.slice A4 v4.length c4)).cell? ⟨w.heap.size + 1, 1, none⟩ = some (Value.slice A2 v2.length c2) := hI4.cell 1 rfl
          have k2 : (w4.setCell ⟨w.heap.size + 1, 3, none⟩ (.slice A4 v4.length c4)).cell? ⟨w.heap.size + 1, 2, none⟩ = some (Value.slice A3 v3.length c3) := hI4.cell 2 rfl
          have k3 : (w4.setCell ⟨w.heap.size + 1, 3, none⟩ (.slice A4 v4.length c4)).cell? ⟨w.heap.size + 1, 3, none⟩ = some (Value.slice A4 v4.length c4) := hI4.cell 3 rfl
          have H2 := Lib.hid hI4.b2
          have HI := Lib.hid hI4
          clear hI4 hgR
          go_wp2_with (refine wpList_store_row rfl 43 _ _ rfl w.heap.size 43 _ _ rfl rfl H2.out (by kernel_rfl) rfl (by simp [Value.oneCell']) ?_)
          refine bodyPost_ret (results_c rfl rfl (run_ld_block (setRow_heap _ _ _ _ _ _ H2.out) Try.underlying43 rfl (by kernel_rfl))) rfl ?_
          unfold Reads
          rw [hfin]
          exact ⟨⟨_, rfl, A1, c1, A2, c2, A3, c3, A4, c4, rfl, hO1.weak (by omega), hO2.weak (by omega), hO3.weak (by omega), hO4.weak (by omega)⟩, HI.out.end_ _⟩

set_option maxHeartbeats 2000000 in
theorem rdet_any (B r p : Nat) (L : List UInt8) (w : World) (h : Rdr B w r L p) :
    Calls Try.prog 51 #[.pointer (some ⟨r, 0, none⟩)] w fun e w' => Reads B r L w (rdDt L p) (fun a _ v => v = dtV a) e w' := by
  obtain ⟨W0, hW, hI0⟩ := RB.new (T := 37) (c2 := #[Value.int .i64 0, Value.int .i64 0, Value.int .i64 0, Value.int .i64 0, Value.int .i64 0, Value.int .i64 0, Value.int .i64 0, Value.int .i64 0, Value.int .i64 0]) (c3 := #[Value.int .i64 0, Value.int .i64 0, Value.int .i64 0, Value.int .i64 0, Value.int .i64 0, Value.int .i64 0, Value.int .i64 0, Value.int .i64 0, Value.int .i64 0]) h
  go_enter Try.func51, Try.ntmps51
  go_wp2_with fail
  rw [← hW]
  clear hW
  refine (rint_any B r p L W0 hI0.rd).mono ?_
  intro e w1 h1
  unfold Reads at h1
  cases hx1 : rdInt L p with
  | error k =>
    rw [hx1] at h1
    obtain ⟨rfl, hg⟩ := h1
    have hgr := grown_tr hI0.gr hg
    have hfin : rdDt L p = .error k := by unfold rdDt; rw [bnd_er hx1]
    clear hI0
    go_wp2
    refine ⟨rfl, ?_⟩
    unfold Reads
    rw [hfin]
    exact ⟨rfl, hgr⟩
  | ok vq =>
    obtain ⟨v1, q1⟩ := vq
    rw [hx1] at h1
    obtain ⟨⟨_, rfl, rfl⟩, hR, hg⟩ := h1
    have hJ := hI0.call hR hg
    have hc := hJ.cell 0 (v := .int .i64 0) rfl
    have hf := hJ.frz 0
    have hI1 : RB B r L 37 #[Value.int .i64 0, Value.int .i64 0, Value.int .i64 0, Value.int .i64 0, Value.int .i64 0, Value.int .i64 0, Value.int .i64 0, Value.int .i64 0, Value.int .i64 0] w (w1.setCell ⟨w.heap.size + 1, 0, none⟩ (.int .i64 v1)) q1 #[Value.int .i64 v1, Value.int .i64 0, Value.int .i64 0, Value.int .i64 0, Value.int .i64 0, Value.int .i64 0, Value.int .i64 0, Value.int .i64 0, Value.int .i64 0] := hJ.set 0 (.int .i64 v1)
    clear hJ hI0 hg hR
    go_wp2_with fail
    clear hc hf
    generalize w1.setCell ⟨w.heap.size + 1, 0, none⟩ (.int .i64 v1) = W1 at *
    refine (rint_any B r q1 L W1 hI1.rd).mono ?_
    intro e w2 h2
    unfold Reads at h2
    cases hx2 : rdInt L q1 with
    | error k =>
      rw [hx2] at h2
      obtain ⟨rfl, hg⟩ := h2
      have hgr := grown_tr hI1.gr hg
      have hfin : rdDt L p = .error k := by unfold rdDt; rw [bnd_ok hx1, bnd_er hx2]
      clear hI1
      go_wp2
      refine ⟨rfl, ?_⟩
      unfold Reads
      rw [hfin]
      exact ⟨rfl, hgr⟩
    | ok vq =>
      obtain ⟨v2, q2⟩ := vq
      rw [hx2] at h2
      obtain ⟨⟨_, rfl, rfl⟩, hR, hg⟩ := h2
      have hJ := hI1.call hR hg
      have hc := hJ.cell 1 (v := .int .i64 0) rfl
      have hf := hJ.frz 1
      have hI2 : RB B r L 37 #[Value.int .i64 0, Value.int .i64 0, Value.int .i64 0, Value.int .i64 0, Value.int .i64 0, Value.int .i64 0, Value.int .i64 0, Value.int .i64 0, Value.int .i64 0] w (w2.setCell ⟨w.heap.size + 1, 1, none⟩ (.int .i64 v2)) q2 #[Value.int .i64 v1, Value.int .i64 v2, Value.int .i64 0, Value.int .i64 0, Value.int .i64 0, Value.int .i64 0, Value.int .i64 0, Value.int .i64 0, Value.int .i64 0] := hJ.set 1 (.int .i64 v2)
      clear hJ hI1 hg hR
      go_wp2_with fail
      clear hc hf
      generalize w2.setCell ⟨w.heap.size + 1, 1, none⟩ (.int .i64 v2) = W2 at *
      refine (revent_any B r q2 L W2 hI2.rd).mono ?_
      intro e w3 h3
      unfold Reads at h3
      cases hx3 : rdEv L q2 with
      | error k =>
        rw [hx3] at h3
        obtain ⟨rfl, hg⟩ := h3
        have hgr := grown_tr hI2.gr hg
        have hfin : rdDt L p = .error k := by unfold rdDt; rw [bnd_ok hx1, bnd_ok hx2, bnd_er hx3]
        clear hI2
        go_wp2
        refine ⟨rfl, ?_⟩
        unfold Reads
        rw [hfin]
        exact ⟨rfl, hgr⟩
      | ok vq =>
        obtain ⟨v3, q3⟩ := vq
        rw [hx3] at h3
        obtain ⟨⟨_, rfl, hv⟩, hR, hg⟩ := h3
        unfold evV at hv
        subst hv
        have hJ := hI2.call hR hg
        have hfin : rdDt L p = .ok (⟨v1, v2, v3⟩, q3) := by unfold rdDt; rw [bnd_ok hx1, bnd_ok hx2, bnd_ok hx3]
        have c2 := hJ.cell 2 (v := .int .i64 0) rfl
        have f2 := hJ.frz 2
        have c3 := hJ.cell 3 (v := .int .i64 0) rfl
        have f3 := hJ.frz 3
        have c4 := hJ.cell 4 (v := .int .i64 0) rfl
        have f4 := hJ.frz 4
        have c5 := hJ.cell 5 (v := .int .i64 0) rfl
        have f5 := hJ.frz 5
        have c6 := hJ.cell 6 (v := .int .i64 0) rfl
        have f6 := hJ.frz 6
        have c7 := hJ.cell 7 (v := .int .i64 0) rfl
        have f7 := hJ.frz 7
        have c8 := hJ.cell 8 (v := .int .i64 0) rfl
        have f8 := hJ.frz 8
        have hK0 : RB B r L 37 #[Value.int .i64 0, Value.int .i64 0, Value.int .i64 0, Value.int .i64 0, Value.int .i64 0, Value.int .i64 0, Value.int .i64 0, Value.int .i64 0, Value.int .i64 0] w (w3.setCell ⟨w.heap.size + 1, 2, none⟩ (.int .i64 v3.k0)) q3 #[Value.int .i64 v1, Value.int .i64 v2, Value.int .i64 v3.k0, Value.int .i64 0, Value.int .i64 0, Value.int .i64 0, Value.int .i64 0, Value.int .i64 0, Value.int .i64 0] := hJ.set 2 (.int .i64 v3.k0)
        have hK1 : RB B r L 37 #[Value.int .i64 0, Value.int .i64 0, Value.int .i64 0, Value.int .i64 0, Value.int .i64 0, Value.int .i64 0, Value.int .i64 0, Value.int .i64 0, Value.int .i64 0] w ((w3.setCell ⟨w.heap.size + 1, 2, none⟩ (.int .i64 v3.k0)).setCell ⟨w.heap.size + 1, 3, none⟩ (.int .i64 v3.k1)) q3 #[Value.int .i64 v1, Value.int .i64 v2, Value.int .i64 v3.k0, Value.int .i64 v3.k1, Value.int .i64 0, Value.int .i64 0, Value.int .i64 0, Value.int .i64 0, Value.int .i64 0] := hK0.set 3 (.int .i64 v3.k1)
        have hK2 : RB B r L 37 #[Value.int .i64 0, Value.int .i64 0, Value.int .i64 0, Value.int .i64 0, Value.int .i64 0, Value.int .i64 0, Value.int .i64 0, Value.int .i64 0, Value.int .i64 0] w (((w3.setCell ⟨w.heap.size + 1, 2, none⟩ (.int .i64 v3.k0)).setCell ⟨w.heap.size + 1, 3, none⟩ (.int .i64 v3.k1)).setCell ⟨w.heap.size + 1, 4, none⟩ (.int .i64 v3.k2)) q3 #[Value.int .i64 v1, Value.int .i64 v2, Value.int .i64 v3.k0, Value.int .i64 v3.k1, Value.int .i64 v3.k2, Value.int .i64 0, Value.int .i64 0, Value.int .i64 0, Value.int .i64 0] := hK1.set 4 (.int .i64 v3.k2)
        have hK3 : RB B r L 37 #[Value.int .i64 0, Value.int .i64 0, Value.int .i64 0, Value.int .i64 0, Value.int .i64 0, Value.int .i64 0, Value.int .i64 0, Value.int .i64 0, Value.int .i64 0] w ((((w3.setCell ⟨w.heap.size + 1, 2, none⟩ (.int .i64 v3.k0)).setCell ⟨w.heap.size + 1, 3, none⟩ (.int .i64 v3.k1)).setCell ⟨w.heap.size + 1, 4, none⟩ (.int .i64 v3.k2)).setCell ⟨w.heap.size + 1, 5, none⟩ (.int .i64 v3.k3)) q3 #[Value.int .i64 v1, Value.int .i64 v2, Value.int .i64 v3.k0, Value.int .i64 v3.k1, Value.int .i64 v3.k2, Value.int .i64 v3.k3, Value.int .i64 0, Value.int .i64 0, Value.int .i64 0] := hK2.set 5 (.int .i64 v3.k3)
        have hK4 : RB B r L 37 #[Value.int .i64 0, Value.int .i64 0, Value.int .i64 0, Value.int .i64 0, Value.int .i64 0, Value.int .i64 0, Value.int .i64 0, Value.int .i64 0, Value.int .i64 0] w (((((w3.setCell ⟨w.heap.size + 1, 2, none⟩ (.int .i64 v3.k0)).setCell ⟨w.heap.size + 1, 3, none⟩ (.int .i64 v3.k1)).setCell ⟨w.heap.size + 1, 4, none⟩ (.int .i64 v3.k2)).setCell ⟨w.heap.size + 1, 5, none⟩ (.int .i64 v3.k3)).setCell ⟨w.heap.size + 1, 6, none⟩ (.int .i64 v3.k4)) q3 #[Value.int .i64 v1, Value.int .i64 v2, Value.int .i64 v3.k0, Value.int .i64 v3.k1, Value.int .i64 v3.k2, Value.int .i64 v3.k3, Value.int .i64 v3.k4, Value.int .i64 0, Value.int .i64 0] := hK3.set 6 (.int .i64 v3.k4)
        have hK5 : RB B r L 37 #[Value.int .i64 0, Value.int .i64 0, Value.int .i64 0, Value.int .i64 0, Value.int .i64 0, Value.int .i64 0, Value.int .i64 0, Value.int .i64 0, Value.int .i64 0] w ((((((w3.setCell ⟨w.heap.size + 1, 2, none⟩ (.int .i64 v3.k0)).setCell ⟨w.heap.size + 1, 3, none⟩ (.int .i64 v3.k1)).setCell ⟨w.heap.size + 1, 4, none⟩ (.int .i64 v3.k2)).setCell ⟨w.heap.size + 1, 5, none⟩ (.int .i64 v3.k3)).setCell ⟨w.heap.size + 1, 6, none⟩ (.int .i64 v3.k4)).setCell ⟨w.heap.size + 1, 7, none⟩ (.int .i64 v3.k5)) q3 #[Value.int .i64 v1, Value.int .i64 v2, Value.int .i64 v3.k0, Value.int .i64 v3.k1, Value.int .i64 v3.k2, Value.int .i64 v3.k3, Value.int .i64 v3.k4, Value.int .i64 v3.k5, Value.int .i64 0] := hK4.set 7 (.int .i64 v3.k5)
        have hK6 : RB B r L 37 #[Value.int .i64 0, Value.int .i64 0, Value.int .i64 0, Value.int .i64 0, Value.int .i64 0, Value.int .i64 0, Value.int .i64 0, Value.int .i64 0, Value.int .i64 0] w (((((((w3.setCell ⟨w.heap.size + 1, 2, none⟩ (.int .i64 v3.k0)).setCell ⟨w.heap.size + 1, 3, none⟩ (.int .i64 v3.k1)).setCell ⟨w.heap.size + 1, 4, none⟩ (.int .i64 v3.k2)).setCell ⟨w.heap.size + 1, 5, none⟩ (.int .i64 v3.k3)).setCell ⟨w.heap.size + 1, 6, none⟩ (.int .i64 v3.k4)).setCell ⟨w.heap.size + 1, 7, none⟩ (.int .i64 v3.k5)).setCell ⟨w.heap.size + 1, 8, none⟩ (.int .i64 v3.k6)) q3 #[Value.int .i64 v1, Value.int .i64 v2, Value.int .i64 v3.k0, Value.int .i64 v3.k1, Value.int .i64 v3.k2, Value.int .i64 v3.k3, Value.int .i64 v3.k4, Value.int .i64 v3.k5, Value.int .i64 v3.k6] := hK5.set 8 (.int .i64 v3.k6)
        have HK := Lib.hid hK6
        have HJ := Lib.hid hJ
        have k0 : (((((((w3.setCell ⟨w.heap.size + 1, 2, none⟩ (.int .i64 v3.k0)).setCell ⟨w.heap.size + 1, 3, none⟩ (.int .i64 v3.k1)).setCell ⟨w.heap.size + 1, 4, none⟩ (.int .i64 v3.k2)).setCell ⟨w.heap.size + 1, 5, none⟩ (.int .i64 v3.k3)).setCell ⟨w.heap.size + 1, 6, none⟩ (.int .i64 v3.k4)).setCell ⟨w.heap.size + 1, 7, none⟩ (.int .i64 v3.k5)).setCell ⟨w.heap.size + 1, 8, none⟩ (.int .i64 v3.k6)).cell? ⟨w.heap.size + 1, 0, none⟩ = some (Value.int .i64 v1) := hK6.cell 0 rfl
        have k1 : (((((((w3.setCell ⟨w.heap.size + 1, 2, none⟩ (.int .i64 v3.k0)).setCell ⟨w.heap.size + 1, 3, none⟩ (.int .i64 v3.k1)).setCell ⟨w.heap.size + 1, 4, none⟩ (.int .i64 v3.k2)).setCell ⟨w.heap.size + 1, 5, none⟩ (.int .i64 v3.k3)).setCell ⟨w.heap.size + 1, 6, none⟩ (.int .i64 v3.k4)).setCell ⟨w.heap.size + 1, 7, none⟩ (.int .i64 v3.k5)).setCell ⟨w.heap.size + 1, 8, none⟩ (.int .i64 v3.k6)).cell? ⟨w.heap.size + 1, 1, none⟩ = some (Value.int .i64 v2) := hK6.cell 1 rfl
        have k2 : (((((((w3.setCell ⟨w.heap.size + 1, 2, none⟩ (.int .i64 v3.k0)).setCell ⟨w.heap.size + 1, 3, none⟩ (.int .i64 v3.k1)).setCell ⟨w.heap.size + 1, 4, none⟩ (.int .i64 v3.k2)).setCell ⟨w.heap.size + 1, 5, none⟩ (.int .i64 v3.k3)).setCell ⟨w.heap.size + 1, 6, none⟩ (.int .i64 v3.k4)).setCell ⟨w.heap.size + 1, 7, none⟩ (.int .i64 v3.k5)).setCell ⟨w.heap.size + 1, 8, none⟩ (.int .i64 v3.k6)).cell? ⟨w.heap.size + 1, 2, none⟩ = some (Value.int .i64 v3.k0) := hK6.cell 2 rfl
        have k3 : (((((((w3.setCell ⟨w.heap.size + 1, 2, none⟩ (.int .i64 v3.k0)).setCell ⟨w.heap.size + 1, 3, none⟩ (.int .i64 v3.k1)).setCell ⟨w.heap.size + 1, 4, none⟩ (.int .i64 v3.k2)).setCell ⟨w.heap.size + 1, 5, none⟩ (.int .i64 v3.k3)).setCell ⟨w.heap.size + 1, 6, none⟩ (.int .i64 v3.k4)).setCell ⟨w.heap.size + 1, 7, none⟩ (.int .i64 v3.k5)).setCell ⟨w.heap.size + 1, 8, none⟩ (.int .i64 v3.k6)).cell? ⟨w.heap.size + 1, 3, none⟩ = some (Value.int .i64 v3.k1) := hK6.cell 3 rfl
        have k4 : (((((((w3.setCell ⟨w.heap.size + 1, 2, none⟩ (.int .i64 v3.k0)).setCell ⟨w.heap.size + 1, 3, none⟩ (.int .i64 v3.k1)).setCell ⟨w.heap.size + 1, 4, none⟩ (.int .i64 v3.k2)).setCell ⟨w.heap.size + 1, 5, none⟩ (.int .i64 v3.k3)).setCell ⟨w.heap.size + 1, 6, none⟩ (.int .i64 v3.k4)).setCell ⟨w.heap.size + 1, 7, none⟩ (.int .i64 v3.k5)).setCell ⟨w.heap.size + 1, 8, none⟩ (.int .i64 v3.k6)).cell? ⟨w.heap.size + 1, 4, none⟩ = some (Value.int .i64 v3.k2) := hK6.cell 4 rfl
        have k5 : (((((((w3.setCell ⟨w.heap.size + 1, 2, none⟩ (.int .i64 v3.k0)).setCell ⟨w.heap.size + 1, 3, none⟩ (.int .i64 v3.k1)).setCell ⟨w.heap.size + 1, 4, none⟩ (.int .i64 v3.k2)).setCell ⟨w.heap.size + 1, 5, none⟩ (.int .i64 v3.k3)).setCell ⟨w.heap.size + 1, 6, none⟩ (.int .i64 v3.k4)).setCell ⟨w.heap.size + 1, 7, none⟩ (.int .i64 v3.k5)).setCell ⟨w.heap.size + 1, 8, none⟩ (.int .i64 v3.k6)).cell? ⟨w.heap.size + 1, 5, none⟩ = some (Value.int .i64 v3.k3) := hK6.cell 5 rfl
        have k6 : (((((((w3.setCell ⟨w.heap.size + 1, 2, none⟩ (.int .i64 v3.k0)).setCell ⟨w.heap.size + 1, 3, none⟩ (.int .i64 v3.k1)).setCell ⟨w.heap.size + 1, 4, none⟩ (.int .i64 v3.k2)).setCell ⟨w.heap.size + 1, 5, none⟩ (.int .i64 v3.k3)).setCell ⟨w.heap.size + 1, 6, none⟩ (.int .i64 v3.k4)).setCell ⟨w.heap.size + 1, 7, none⟩ (.int .i64 v3.k5)).setCell ⟨w.heap.size + 1, 8, none⟩ (.int .i64 v3.k6)).cell? ⟨w.heap.size + 1, 6, none⟩ = some (Value.int .i64 v3.k4) := hK6.cell 6 rfl
        have k7 : (((((((w3.setCell ⟨w.heap.size + 1, 2, none⟩ (.int .i64 v3.k0)).setCell ⟨w.heap.size + 1, 3, none⟩ (.int .i64 v3.k1)).setCell ⟨w.heap.size + 1, 4, none⟩ (.int .i64 v3.k2)).setCell ⟨w.heap.size + 1, 5, none⟩ (.int .i64 v3.k3)).setCell ⟨w.heap.size + 1, 6, none⟩ (.int .i64 v3.k4)).setCell ⟨w.heap.size + 1, 7, none⟩ (.int .i64 v3.k5)).setCell ⟨w.heap.size + 1, 8, none⟩ (.int .i64 v3.k6)).cell? ⟨w.heap.size + 1, 7, none⟩ = some (Value.int .i64 v3.k5) := hK6.cell 7 rfl
        have k8 : (((((((w3.setCell ⟨w.heap.size + 1, 2, none⟩ (.int .i64 v3.k0)).setCell ⟨w.heap.size + 1, 3, none⟩ (.int .i64 v3.k1)).setCell ⟨w.heap.size + 1, 4, none⟩ (.int .i64 v3.k2)).setCell ⟨w.heap.size + 1, 5, none⟩ (.int .i64 v3.k3)).setCell ⟨w.heap.size + 1, 6, none⟩ (.int .i64 v3.k4)).setCell ⟨w.heap.size + 1, 7, none⟩ (.int .i64 v3.k5)).setCell ⟨w.heap.size + 1, 8, none⟩ (.int .i64 v3.k6)).cell? ⟨w.heap.size + 1, 8, none⟩ = some (Value.int .i64 v3.k6) := hK6.cell 8 rfl
        have H2 := Lib.hid hK6.b2
        clear hK0 hK1 hK2 hK3 hK4 hK5 hK6 hI2 hg hR hJ
        go_wp2_with (refine wpList_stop 13 rfl ?_)
        refine ⟨?_⟩
        clear c2 c3 c4 c5 c6 c7 c8 f2 f3 f4 f5 f6 f7 f8
        generalize (((((((w3.setCell ⟨w.heap.size + 1, 2, none⟩ (.int .i64 v3.k0)).setCell ⟨w.heap.size + 1, 3, none⟩ (.int .i64 v3.k1)).setCell ⟨w.heap.size + 1, 4, none⟩ (.int .i64 v3.k2)).setCell ⟨w.heap.size + 1, 5, none⟩ (.int .i64 v3.k3)).setCell ⟨w.heap.size + 1, 6, none⟩ (.int .i64 v3.k4)).setCell ⟨w.heap.size + 1, 7, none⟩ (.int .i64 v3.k5)).setCell ⟨w.heap.size + 1, 8, none⟩ (.int .i64 v3.k6)) = WW at *
        go_wp2_with (refine wpList_store_row rfl 37 _ _ rfl w.heap.size 37 _ _ rfl rfl H2.out (by kernel_rfl) rfl (by simp [Value.oneCell']) ?_)
        refine bodyPost_ret (results_c rfl rfl (run_ld_block (setRow_heap _ _ _ _ _ _ H2.out) Try.underlying37 rfl (by kernel_rfl))) rfl ?_
        unfold Reads
        rw [hfin]
        exact ⟨⟨_, rfl, rfl⟩, HK.out.end_ _⟩

end Go.Proofs.Ytgjjfjibfleonaa
