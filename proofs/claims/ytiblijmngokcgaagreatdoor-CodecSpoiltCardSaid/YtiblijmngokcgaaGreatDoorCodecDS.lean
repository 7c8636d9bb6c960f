import Derived.Test.YtiblijmngokcgaaGreatDoorCodecCS
import Derived.Test.YtiblijmngokcgaaGreatDoorKitS
import Derived.Deep.Cut
import Derived.Deep.CutRange
import Derived.Deep.CutBlock
namespace Go.Proofs.YtiblijmngokcgaaGreatDoor
open Go.RowKit
set_option maxRecDepth 100000
set_option linter.unusedVariables false
def bndS {α : Type} (s : Except Nat Nat) (f : Nat → Except Nat (α × Nat)) : Except Nat (α × Nat) := match s with | .ok p => f p | .error k => .error k
def stOf {α : Type} (x : Except Nat (α × Nat)) : Except Nat Nat := match x with | .ok (_, q) => .ok q | .error k => .error k
def StepF {α : Type} (f : Nat → Except Nat (α × Nat)) (s : Except Nat Nat) (a : α) (s' : Except Nat Nat) : Prop := s' = stOf (bndS s f) ∧ ∀ b q, bndS s f = .ok (b, q) → a = b
theorem StepF.pure_ {α : Type} (c : α) (s : Except Nat Nat) : StepF (fun p => .ok (c, p)) s c s := by
  cases s with
  | ok p => exact ⟨rfl, fun b q h => by cases h; rfl⟩
  | error k => exact ⟨rfl, fun b q h => by cases h⟩
theorem StepF.er {α : Type} (f : Nat → Except Nat (α × Nat)) (k : Nat) (a : α) : StepF f (.error k) a (.error k) := ⟨rfl, fun b q h => by cases h⟩
theorem StepF.comp {α β : Type} {f : Nat → Except Nat (α × Nat)} {g : α → Nat → Except Nat (β × Nat)} {s s1 s2 : Except Nat Nat} {a : α} {c : β} (h1 : StepF f s a s1) (h2 : StepF (g a) s1 c s2) : StepF (fun p => bnd (f p) g) s c s2 := by
  obtain ⟨rfl, h1⟩ := h1
  cases s with
  | error k => exact ⟨h2.1, fun b q h => by cases h⟩
  | ok p =>
    cases hf : f p with
    | error k =>
      have e1 : bndS (.ok p) f = .error k := hf
      rw [e1] at h2
      refine ⟨?_, fun b q h => ?_⟩
      · rw [h2.1]
        show _ = stOf (bnd (f p) g)
        rw [bnd_er hf]
        rfl
      · have h' : bnd (f p) g = .ok (b, q) := h
        rw [bnd_er hf] at h'
        cases h'
    | ok vq =>
      obtain ⟨b0, q0⟩ := vq
      have e1 : bndS (.ok p) f = .ok (b0, q0) := hf
      have := h1 b0 q0 e1
      subst this
      rw [e1] at h2
      refine ⟨?_, fun b q h => ?_⟩
      · rw [h2.1]
        show _ = stOf (bnd (f p) g)
        rw [bnd_ok hf]
        rfl
      · have h' : bnd (f p) g = .ok (b, q) := h
        rw [bnd_ok hf] at h'
        exact h2.2 b q h'
theorem StepF.cons {α : Type} {f : Nat → Except Nat (α × Nat)} {s s1 s2 : Except Nat Nat} {n : Nat} {a : α} {l : List α} (h1 : StepF f s a s1) (h2 : StepF (rdRep f n) s1 l s2) : StepF (rdRep f (n + 1)) s (a :: l) s2 :=
  StepF.comp (g := fun a q => bnd (rdRep f n q) fun l q' => .ok (a :: l, q')) h1 (StepF.comp (g := fun l q' => .ok (a :: l, q')) h2 (StepF.pure_ _ _))
theorem StepF.to {α : Type} {f g : Nat → Except Nat (α × Nat)} {s s' : Except Nat Nat} {a : α} (h : StepF f s a s') (e : ∀ p, f p = g p) : StepF g s a s' := by
  have : f = g := funext e
  rw [← this]
  exact h
def rdCnt (L : List UInt8) (p : Nat) : Except Nat (Int × Nat) := bnd (rdInt L p) fun n q => if n < 0 ∨ (L.length : Int) - (q : Int) < n then .error 9 else .ok (n, q)
theorem rdList_cnt {α : Type} (f : Nat → Except Nat (α × Nat)) (L : List UInt8) (p : Nat) : bnd (rdCnt L p) (fun n q => rdRep f n.toNat q) = rdList f L p := by
  unfold rdCnt rdList
  cases rdInt L p with
  | error k => rfl
  | ok vq =>
    obtain ⟨n, q⟩ := vq
    show bnd (if _ then _ else _) _ = if _ then _ else _
    by_cases h : n < 0 ∨ (L.length : Int) - (q : Int) < n
    · rw [if_pos h, if_pos h]; rfl
    · rw [if_neg h, if_neg h]; rfl
theorem refint_s (B r : Nat) (s : Except Nat Nat) (L : List UInt8) (w : World) (h : RS B w r L s) :
    Calls Tryz.prog 145 #[.pointer (some ⟨r, 0, none⟩)] w fun e w' => ∃ v s', e = .returned (.int .i64 v) ∧ StepF (rdInt L) s v s' ∧ RS B w' r L s' ∧ w.grownBy w' (some r) := by
  refine (refint_any B r s L w h).mono ?_
  rintro e w' ⟨rfl, h1, h2⟩
  refine ⟨_, _, rfl, ⟨?_, ?_⟩, h1, h2⟩
  · cases s with
    | error k => rfl
    | ok p =>
      show (match rdInt L p with | .ok (v, q) => (v, Except.ok q) | .error k => ((0 : Int), Except.error k)).2 = stOf (rdInt L p)
      cases rdInt L p with
      | error k => rfl
      | ok vq => rfl
  · intro b q hb
    cases s with
    | error k => cases hb
    | ok p =>
      have hb' : rdInt L p = .ok (b, q) := hb
      show (match rdInt L p with | .ok (v, q) => (v, Except.ok q) | .error k => ((0 : Int), Except.error k)).1 = b
      rw [hb']
structure RF (B r : Nat) (L : List UInt8) (T : TypeId) (c2 : Array Value) (w : World) (wr : World) (s : Except Nat Nat) (c3 : Array Value) : Prop where
  rd : RS B wr r L s
  hB : B ≤ w.heap.size
  lt : r < w.heap.size
  gr : w.grownBy wr (some r)
  b2 : wr.heap[w.heap.size]? = some (.cells c2 T (0, 0))
  b3 : wr.heap[w.heap.size + 1]? = some (.cells c3 T (0, 0))
section
variable {B r : Nat} {L : List UInt8} {T : TypeId} {c2 : Array Value} {w wr w' : World} {s s' : Except Nat Nat} {c3 : Array Value}
theorem RF.new (h : RS B w r L s) (hB : B ≤ w.heap.size) : ∃ W, W = (w.alloc (.cells c2 T)).alloc (.cells c3 T) ∧ RF B r L T c2 w W s c3 := by
  have hlt := h.lt
  have hb1 : Below w.heap.size w (w.alloc (.cells c2 T)) := (Below.refl _ w).alloc (Nat.le_refl _) _
  have hb2 : Below (w.alloc (.cells c2 T)).heap.size (w.alloc (.cells c2 T)) ((w.alloc (.cells c2 T)).alloc (.cells c3 T)) := (Below.refl _ _).alloc (Nat.le_refl _) _
  have hb := Below.ext hb1 hb2
  refine ⟨_, rfl, h.ext hb, hB, hlt, ⟨hb.os, hb.tape, hb.output, hb.size, fun i hi _ => hb.block i hi⟩, (hb2.block _ (by simp)).trans (heap_alloc_new _ _), ?_⟩
  have := heap_alloc_new (w.alloc (.cells c2 T)) (.cells c3 T)
  rwa [World.size_alloc] at this
theorem RF.sz (h : RF B r L T c2 w wr s c3) : w.heap.size + 2 ≤ wr.heap.size := (Array.getElem?_eq_some_iff.1 h.b3).1
theorem RF.call (h : RF B r L T c2 w wr s c3) (hR : RS B w' r L s') (hg : wr.grownBy w' (some r)) : RF B r L T c2 w w' s' c3 :=
  have hs := h.sz
  have hl := h.lt
  ⟨hR, h.hB, h.lt, grown_tr h.gr hg, (hg.block _ (by omega) (by simp; omega)).trans h.b2, (hg.block _ (by omega) (by simp; omega)).trans h.b3⟩
theorem RF.set (h : RF B r L T c2 w wr s c3) (o : Nat) (v : Value) : RF B r L T c2 w (wr.setCell ⟨w.heap.size + 1, o, none⟩ v) s (c3.setIfInBounds o v) :=
  have hs := h.sz
  have hl := h.lt
  have hB := h.hB
  have hg : wr.grownBy (wr.setCell ⟨w.heap.size + 1, o, none⟩ v) (some (w.heap.size + 1)) := grown_set ⟨rfl, rfl, rfl, Nat.le_refl _, fun _ _ _ => rfl⟩
  ⟨h.rd.grown hg (fun m hm => by cases hm; omega), h.hB, h.lt, ⟨hg.os.trans h.gr.os, hg.tape.trans h.gr.tape, hg.output.trans h.gr.output, Nat.le_trans h.gr.size hg.size, fun i hi hne => (hg.block i (Nat.lt_of_lt_of_le hi h.gr.size) (by simp; omega)).trans (h.gr.block i hi hne)⟩,
    (hg.block _ (by omega) (by simp)).trans h.b2, heap_setCell_same _ _ o _ _ _ h.b3⟩
theorem RF.end_ (h : RF B r L T c2 w wr s c3) (cs : Array Value) : RS B (wr.setRow w.heap.size cs) r L s ∧ w.grownBy (wr.setRow w.heap.size cs) (some r) :=
  have hs := h.sz
  have hl := h.lt
  have hB := h.hB
  have hg := grown_setRow wr w.heap.size cs
  ⟨h.rd.grown hg (fun m hm => by cases hm; omega), ⟨hg.os.trans h.gr.os, hg.tape.trans h.gr.tape, hg.output.trans h.gr.output, Nat.le_trans h.gr.size hg.size, fun i hi hne => (hg.block i (Nat.lt_of_lt_of_le hi h.gr.size) (by simp; omega)).trans (h.gr.block i hi hne)⟩⟩
theorem RF.cell (h : RF B r L T c2 w wr s c3) (o : Nat) {v : Value} (hv : c3[o]? = some v) : wr.cell? ⟨w.heap.size + 1, o, none⟩ = some v := by rw [cell_of_row _ _ _ _ _ _ h.b3]; exact hv
theorem RF.frz (h : RF B r L T c2 w wr s c3) (o : Nat) : wr.frozen? ⟨w.heap.size + 1, o, none⟩ = false := frozen_of_row _ _ _ _ _ h.b3
end
set_option maxHeartbeats 2000000 in
theorem refevent_s (B r : Nat) (s : Except Nat Nat) (L : List UInt8) (w : World) (h : RS B w r L s) (hB : B ≤ w.heap.size) :
    Calls Tryz.prog 142 #[.pointer (some ⟨r, 0, none⟩)] w fun e w' => ∃ v s', e = .returned (evV v) ∧ StepF (rdEv L) s v s' ∧ RS B w' r L s' ∧ w.grownBy w' (some r) := by
  obtain ⟨W0, hW, hI0⟩ := RF.new (T := 78) (c2 := #[Value.int .i64 0, Value.int .i64 0, Value.int .i64 0, Value.int .i64 0, Value.int .i64 0, Value.int .i64 0, Value.int .i64 0]) (c3 := #[Value.int .i64 0, Value.int .i64 0, Value.int .i64 0, Value.int .i64 0, Value.int .i64 0, Value.int .i64 0, Value.int .i64 0]) h hB
  go_enter Tryz.func142, Tryz.ntmps142
  go_wp2_with fail
  rw [← hW]
  clear hW
  refine (refint_s B r s L W0 hI0.rd).mono ?_
  rintro e w1 ⟨v1, s1, rfl, hS1, hR, hg⟩
  have hJ := hI0.call hR hg
  have hc := hJ.cell 0 (v := .int .i64 0) rfl
  have hf := hJ.frz 0
  have hI1 : RF B r L 78 #[Value.int .i64 0, Value.int .i64 0, Value.int .i64 0, Value.int .i64 0, Value.int .i64 0, Value.int .i64 0, Value.int .i64 0] w (w1.setCell ⟨w.heap.size + 1, 0, none⟩ (.int .i64 v1)) s1 #[Value.int .i64 v1, Value.int .i64 0, Value.int .i64 0, Value.int .i64 0, Value.int .i64 0, Value.int .i64 0, Value.int .i64 0] := hJ.set 0 (.int .i64 v1)
  clear hJ hI0 hg hR
  go_wp2_with fail
  clear hc hf
  generalize w1.setCell ⟨w.heap.size + 1, 0, none⟩ (.int .i64 v1) = W1 at *
  refine (refint_s B r s1 L W1 hI1.rd).mono ?_
  rintro e w2 ⟨v2, s2, rfl, hS2, hR, hg⟩
  have hJ := hI1.call hR hg
  have hc := hJ.cell 1 (v := .int .i64 0) rfl
  have hf := hJ.frz 1
  have hI2 : RF B r L 78 #[Value.int .i64 0, Value.int .i64 0, Value.int .i64 0, Value.int .i64 0, Value.int .i64 0, Value.int .i64 0, Value.int .i64 0] w (w2.setCell ⟨w.heap.size + 1, 1, none⟩ (.int .i64 v2)) s2 #[Value.int .i64 v1, Value.int .i64 v2, Value.int .i64 0, Value.int .i64 0, Value.int .i64 0, Value.int .i64 0, Value.int .i64 0] := hJ.set 1 (.int .i64 v2)
  clear hJ hI1 hg hR
  go_wp2_with fail
  clear hc hf
  generalize w2.setCell ⟨w.heap.size + 1, 1, none⟩ (.int .i64 v2) = W2 at *
  refine (refint_s B r s2 L W2 hI2.rd).mono ?_
  rintro e w3 ⟨v3, s3, rfl, hS3, hR, hg⟩
  have hJ := hI2.call hR hg
  have hc := hJ.cell 2 (v := .int .i64 0) rfl
  have hf := hJ.frz 2
  have hI3 : RF B r L 78 #[Value.int .i64 0, Value.int .i64 0, Value.int .i64 0, Value.int .i64 0, Value.int .i64 0, Value.int .i64 0, Value.int .i64 0] w (w3.setCell ⟨w.heap.size + 1, 2, none⟩ (.int .i64 v3)) s3 #[Value.int .i64 v1, Value.int .i64 v2, Value.int .i64 v3, Value.int .i64 0, Value.int .i64 0, Value.int .i64 0, Value.int .i64 0] := hJ.set 2 (.int .i64 v3)
  clear hJ hI2 hg hR
  go_wp2_with fail
  clear hc hf
  generalize w3.setCell ⟨w.heap.size + 1, 2, none⟩ (.int .i64 v3) = W3 at *
  refine (refint_s B r s3 L W3 hI3.rd).mono ?_
  rintro e w4 ⟨v4, s4, rfl, hS4, hR, hg⟩
  have hJ := hI3.call hR hg
  have hc := hJ.cell 3 (v := .int .i64 0) rfl
  have hf := hJ.frz 3
  have hI4 : RF B r L 78 #[Value.int .i64 0, Value.int .i64 0, Value.int .i64 0, Value.int .i64 0, Value.int .i64 0, Value.int .i64 0, Value.int .i64 0] w (w4.setCell ⟨w.heap.size + 1, 3, none⟩ (.int .i64 v4)) s4 #[Value.int .i64 v1, Value.int .i64 v2, Value.int .i64 v3, Value.int .i64 v4, Value.int .i64 0, Value.int .i64 0, Value.int .i64 0] := hJ.set 3 (.int .i64 v4)
  clear hJ hI3 hg hR
  go_wp2_with fail
  clear hc hf
  generalize w4.setCell ⟨w.heap.size + 1, 3, none⟩ (.int .i64 v4) = W4 at *
  refine (refint_s B r s4 L W4 hI4.rd).mono ?_
  rintro e w5 ⟨v5, s5, rfl, hS5, hR, hg⟩
  have hJ := hI4.call hR hg
  have hc := hJ.cell 4 (v := .int .i64 0) rfl
  have hf := hJ.frz 4
  have hI5 : RF B r L 78 #[Value.int .i64 0, Value.int .i64 0, Value.int .i64 0, Value.int .i64 0, Value.int .i64 0, Value.int .i64 0, Value.int .i64 0] w (w5.setCell ⟨w.heap.size + 1, 4, none⟩ (.int .i64 v5)) s5 #[Value.int .i64 v1, Value.int .i64 v2, Value.int .i64 v3, Value.int .i64 v4, Value.int .i64 v5, Value.int .i64 0, Value.int .i64 0] := hJ.set 4 (.int .i64 v5)
  clear hJ hI4 hg hR
  go_wp2_with fail
  clear hc hf
  generalize w5.setCell ⟨w.heap.size + 1, 4, none⟩ (.int .i64 v5) = W5 at *
  refine (refint_s B r s5 L W5 hI5.rd).mono ?_
  rintro e w6 ⟨v6, s6, rfl, hS6, hR, hg⟩
  have hJ := hI5.call hR hg
  have hc := hJ.cell 5 (v := .int .i64 0) rfl
  have hf := hJ.frz 5
  have hI6 : RF B r L 78 #[Value.int .i64 0, Value.int .i64 0, Value.int .i64 0, Value.int .i64 0, Value.int .i64 0, Value.int .i64 0, Value.int .i64 0] w (w6.setCell ⟨w.heap.size + 1, 5, none⟩ (.int .i64 v6)) s6 #[Value.int .i64 v1, Value.int .i64 v2, Value.int .i64 v3, Value.int .i64 v4, Value.int .i64 v5, Value.int .i64 v6, Value.int .i64 0] := hJ.set 5 (.int .i64 v6)
  clear hJ hI5 hg hR
  go_wp2_with fail
  clear hc hf
  generalize w6.setCell ⟨w.heap.size + 1, 5, none⟩ (.int .i64 v6) = W6 at *
  refine (refint_s B r s6 L W6 hI6.rd).mono ?_
  rintro e w7 ⟨v7, s7, rfl, hS7, hR, hg⟩
  have hJ := hI6.call hR hg
  have hc := hJ.cell 6 (v := .int .i64 0) rfl
  have hf := hJ.frz 6
  have hI7 : RF B r L 78 #[Value.int .i64 0, Value.int .i64 0, Value.int .i64 0, Value.int .i64 0, Value.int .i64 0, Value.int .i64 0, Value.int .i64 0] w (w7.setCell ⟨w.heap.size + 1, 6, none⟩ (.int .i64 v7)) s7 #[Value.int .i64 v1, Value.int .i64 v2, Value.int .i64 v3, Value.int .i64 v4, Value.int .i64 v5, Value.int .i64 v6, Value.int .i64 v7] := hJ.set 6 (.int .i64 v7)
  clear hJ hI6 hg hR
  have k0 : (w7.setCell ⟨w.heap.size + 1, 6, none⟩ (.int .i64 v7)).cell? ⟨w.heap.size + 1, 0, none⟩ = some (.int .i64 v1) := hI7.cell 0 rfl
  have k1 : (w7.setCell ⟨w.heap.size + 1, 6, none⟩ (.int .i64 v7)).cell? ⟨w.heap.size + 1, 1, none⟩ = some (.int .i64 v2) := hI7.cell 1 rfl
  have k2 : (w7.setCell ⟨w.heap.size + 1, 6, none⟩ (.int .i64 v7)).cell? ⟨w.heap.size + 1, 2, none⟩ = some (.int .i64 v3) := hI7.cell 2 rfl
  have k3 : (w7.setCell ⟨w.heap.size + 1, 6, none⟩ (.int .i64 v7)).cell? ⟨w.heap.size + 1, 3, none⟩ = some (.int .i64 v4) := hI7.cell 3 rfl
  have k4 : (w7.setCell ⟨w.heap.size + 1, 6, none⟩ (.int .i64 v7)).cell? ⟨w.heap.size + 1, 4, none⟩ = some (.int .i64 v5) := hI7.cell 4 rfl
  have k5 : (w7.setCell ⟨w.heap.size + 1, 6, none⟩ (.int .i64 v7)).cell? ⟨w.heap.size + 1, 5, none⟩ = some (.int .i64 v6) := hI7.cell 5 rfl
  have k6 : (w7.setCell ⟨w.heap.size + 1, 6, none⟩ (.int .i64 v7)).cell? ⟨w.heap.size + 1, 6, none⟩ = some (.int .i64 v7) := hI7.cell 6 rfl
  have H2 := Lib.hid hI7.b2
  have HI := Lib.hid hI7
  clear hI7
  go_wp2_with (refine wpList_store_row rfl 78 _ _ rfl w.heap.size 78 _ _ rfl rfl H2.out (by kernel_rfl) rfl (by simp [Value.oneCell']) ?_)
  refine bodyPost_ret (results_c rfl rfl (run_ld_block (setRow_heap _ _ _ _ _ _ H2.out) Tryz.underlying78 rfl (by kernel_rfl))) rfl ?_
  exact ⟨⟨v1, v2, v3, v4, v5, v6, v7⟩, s7, rfl, StepF.comp hS1 (StepF.comp hS2 (StepF.comp hS3 (StepF.comp hS4 (StepF.comp hS5 (StepF.comp hS6 (StepF.comp hS7 (StepF.pure_ _ _))))))), HI.out.end_ _⟩
set_option maxHeartbeats 2000000 in
theorem refcount_s (B r : Nat) (s : Except Nat Nat) (L : List UInt8) (w : World) (h : RS B w r L s) :
    Calls Tryz.prog 148 #[.pointer (some ⟨r, 0, none⟩)] w fun e w' => ∃ v s', e = .returned (.int .i64 v) ∧ StepF (rdCnt L) s v s' ∧ RS B w' r L s' ∧ w.grownBy w' (some r) ∧ (∀ q, s' = .ok q → 0 ≤ v ∧ v ≤ (L.length : Int)) := by
  go_enter Tryz.func148, Tryz.ntmps148
  go_wp2_with fail
  refine (refint_s B r s L w h).mono ?_
  rintro e w1 ⟨v, s1, rfl, hS1, hR1, hg1⟩
  cases hs : s1 with
  | error k =>
    rw [hs] at hS1 hR1
    have hR1' := hR1
    obtain ⟨h0, u, p, h1⟩ := hR1
    have c2 : w1.cell? ⟨r, 2, none⟩ = some (.int .i64 (k : Int)) := by rw [cell_of_row _ _ _ _ _ _ h1]; rfl
    have d : ((k : Int) == 0) = false := by simp; omega
    clear h1
    go_wp2_with fail
    refine wp_region_lex (fun _ => True) (by kernel_rfl) (by kernel_rfl) trivial ?_
    repeat (first | (refine lex_q rfl ⟨default, trivial⟩ ?_; go_big_quiet_step (fail); refine wpQuiet_nil ?_) | (refine lex_skip rfl rfl trivial ?_; simp only [Act.put, List.setIfInBounds_toArray, List.set_cons_succ, List.set_cons_zero]) | (refine lex_e rfl ?_; go_wp2_with fail; refine lex_go trivial ?_))
    refine lex_nil ?_
    go_wp2_with fail
    go_wp2
    go_ret
    exact ⟨v, .error k, rfl, StepF.comp hS1 (StepF.er _ _ _), hR1'.drew, grown_drew hg1, fun q hq => by cases hq⟩
  | ok q =>
    rw [hs] at hS1 hR1
    have hR1' := Lib.hid hR1
    obtain ⟨hB, A, c, h1, hby, hq, hL⟩ := hR1
    have c0 : w1.cell? ⟨r, 0, none⟩ = some (.slice A L.length c) := by rw [cell_of_row _ _ _ _ _ _ h1]; rfl
    have c1 : w1.cell? ⟨r, 1, none⟩ = some (.int .i64 (q : Int)) := by rw [cell_of_row _ _ _ _ _ _ h1]; rfl
    have c2 : w1.cell? ⟨r, 2, none⟩ = some (.int .i64 0) := by rw [cell_of_row _ _ _ _ _ _ h1]; rfl
    have H1 := Lib.hid h1
    clear h1 hby
    by_cases hbad : v < 0 ∨ (L.length : Int) - (q : Int) < v
    · have hfl := rfail_any r 9 0 _ _ w1.drew H1.out
      rw [show ((9 : Nat) : Int) = 9 from rfl] at hfl
      have hst : StepF (fun q => if v < 0 ∨ (L.length : Int) - (q : Int) < v then Except.error 9 else .ok (v, q)) (.ok q) (0 : Int) (.error 9) := by
        refine ⟨?_, fun b q' hb => ?_⟩
        · show _ = stOf (if v < 0 ∨ (L.length : Int) - (q : Int) < v then Except.error 9 else Except.ok (v, q))
          rw [if_pos hbad]; rfl
        · have hb' : (if v < 0 ∨ (L.length : Int) - (q : Int) < v then Except.error 9 else Except.ok (v, q)) = Except.ok (b, q') := hb
          rw [if_pos hbad] at hb'
          cases hb'
      have HST := Lib.hid hst
      clear hst
      by_cases hneg : v < 0
      · have d0 : decide (v < 0) = true := by simpa using hneg
        go_wp2_with fail
        refine wp_region_lex (fun _ => True) (by kernel_rfl) (by kernel_rfl) trivial ?_
        repeat (first | (refine lex_q rfl ⟨default, trivial⟩ ?_; go_big_quiet_step (fail); refine wpQuiet_nil ?_) | (refine lex_skip rfl rfl trivial ?_; simp only [Act.put, List.setIfInBounds_toArray, List.set_cons_succ, List.set_cons_zero]) | (refine lex_e rfl ?_; go_wp2_with fail; refine lex_go trivial ?_))
        refine lex_nil ?_
        go_wp2_with fail
        refine hfl.mono ?_
        rintro e w5 ⟨rfl, hr5, hg5⟩
        go_wp2
        go_ret
        exact ⟨0, .error 9, rfl, StepF.comp (g := fun n q => if n < 0 ∨ (L.length : Int) - (q : Int) < n then Except.error 9 else .ok (n, q)) hS1 HST.out, ⟨by omega, _, _, hr5⟩, grown_tr (grown_drew hg1) hg5, fun q hq => by cases hq⟩
      · have d0 : decide (v < 0) = false := by simpa using hneg
        have d1 : decide ((L.length : Int) - (q : Int) < v) = true := by simp; omega
        go_wp2_with fail
        refine wp_region_lex (fun _ => True) (by kernel_rfl) (by kernel_rfl) trivial ?_
        repeat (first | (refine lex_q rfl ⟨default, trivial⟩ ?_; go_big_quiet_step (fail); refine wpQuiet_nil ?_) | (refine lex_skip rfl rfl trivial ?_; simp only [Act.put, List.setIfInBounds_toArray, List.set_cons_succ, List.set_cons_zero]) | (refine lex_e rfl ?_; go_wp2_with fail; refine lex_go trivial ?_))
        refine lex_nil ?_
        go_wp2_with fail
        refine hfl.mono ?_
        rintro e w5 ⟨rfl, hr5, hg5⟩
        go_wp2
        go_ret
        exact ⟨0, .error 9, rfl, StepF.comp (g := fun n q => if n < 0 ∨ (L.length : Int) - (q : Int) < n then Except.error 9 else .ok (n, q)) hS1 HST.out, ⟨by omega, _, _, hr5⟩, grown_tr (grown_drew hg1) hg5, fun q hq => by cases hq⟩
    · have d0 : decide (v < 0) = false := by simp; omega
      have d1 : decide ((L.length : Int) - (q : Int) < v) = false := by simp; omega
      have hst : StepF (fun q => if v < 0 ∨ (L.length : Int) - (q : Int) < v then Except.error 9 else .ok (v, q)) (.ok q) v (.ok q) := by
        refine ⟨?_, fun b q' hb => ?_⟩
        · show _ = stOf (if v < 0 ∨ (L.length : Int) - (q : Int) < v then Except.error 9 else Except.ok (v, q))
          rw [if_neg hbad]; rfl
        · have hb' : (if v < 0 ∨ (L.length : Int) - (q : Int) < v then Except.error 9 else Except.ok (v, q)) = Except.ok (b, q') := hb
          rw [if_neg hbad] at hb'
          cases hb'
          rfl
      have HST := Lib.hid hst
      clear hst
      go_wp2_with fail
      refine wp_region_lex (fun _ => True) (by kernel_rfl) (by kernel_rfl) trivial ?_
      repeat (first | (refine lex_q rfl ⟨default, trivial⟩ ?_; go_big_quiet_step (fail); refine wpQuiet_nil ?_) | (refine lex_skip rfl rfl trivial ?_; simp only [Act.put, List.setIfInBounds_toArray, List.set_cons_succ, List.set_cons_zero]) | (refine lex_e rfl ?_; go_wp2_with fail; refine lex_go trivial ?_))
      refine lex_nil ?_
      go_wp2_with fail
      go_wp2
      go_ret
      exact ⟨v, .ok q, rfl, StepF.comp (g := fun n q => if n < 0 ∨ (L.length : Int) - (q : Int) < n then Except.error 9 else .ok (n, q)) hS1 HST.out, RS.drew hR1'.out, grown_drew hg1, fun q' hq' => by cases hq'; omega⟩
set_option maxHeartbeats 2000000 in
theorem refints_s (B r : Nat) (s : Except Nat Nat) (L : List UInt8) (n : Int) (w : World) (h : RS B w r L s) (hB : B ≤ w.heap.size) (hn : ∀ q, s = .ok q → 0 ≤ n ∧ n ≤ 1000000000) :
    Calls Tryz.prog 149 #[.pointer (some ⟨r, 0, none⟩), .int .i64 n] w fun e w' => ∃ A c l s', e = .returned (.slice A l.length c) ∧ OwnR encZ 1 w' w.heap.size 3 (.slice A l.length c) l ∧ StepF (rdRep (rdInt L) n.toNat) s l s' ∧ RS B w' r L s' ∧ w.grownBy w' (some r) := by
  have hlt := h.lt
  go_enter Tryz.func149, Tryz.ntmps149
  go_wp2
  go_loopw [5, 6] (fun v i wr => ∃ (k : Nat) (A' : Option Addr) (c' : Nat) (acc : List Int) (sr : Except Nat Nat), i = .int .i64 k ∧ v = .slice A' k c' ∧ (k ≤ n.toNat) ∧ OwnR encZ 1 wr w.heap.size 3 (.slice A' k c') acc ∧ RS B wr r L sr ∧ w.grownBy wr (some r) ∧ (∀ q, sr = .ok q → 0 ≤ n ∧ n ≤ 1000000000) ∧ k ≤ 1000000000 ∧ ∀ l' s'', StepF (rdRep (rdInt L) (n.toNat - k)) sr l' s'' → StepF (rdRep (rdInt L) n.toNat) s (acc ++ l') s'') (fun _ i _ => n.toNat - (intOf i).toNat)
  case atStart => exact ⟨0, none, 0, [], s, rfl, rfl, by omega, OwnR.nil_ _ _ _, h, ⟨rfl, rfl, rfl, Nat.le_refl _, fun _ _ _ => rfl⟩, hn, by omega, fun l' s'' hh => hh⟩
  case round =>
    clear h hn
    obtain ⟨k, A', c', acc, sr, rfl, rfl, hk, hown, hR, hg, hnn, hk9, hcl⟩ := hrel
    have HCL := Lib.hid hcl
    clear hcl
    by_cases hlt2 : (k : Int) < n
    · have dk : decide ((k : Int) < n) = true := by simpa using hlt2
      cases hs : sr with
      | error x =>
        rw [hs] at hR HCL
        have hR' := Lib.hid hR
        obtain ⟨h0, u, p, h1⟩ := hR
        have c2 : wr.cell? ⟨r, 2, none⟩ = some (.int .i64 (x : Int)) := by rw [cell_of_row _ _ _ _ _ _ h1]; rfl
        have d : ((x : Int) == 0) = false := by simp; omega
        have hl := hown.len.1
        have hfin := HCL.out [] _ (StepF.er _ _ _)
        rw [List.append_nil] at hfin
        clear h1
        go_wp2
        go_ret
        exact ⟨A', c', acc, .error x, by rw [hl]; rfl, by rw [hl]; exact hown, hfin, hR'.out, hg⟩
      | ok q =>
        rw [hs] at hR HCL hnn
        have hb := hnn q rfl
        have hR' := Lib.hid hR
        obtain ⟨hB', A, c, h1, hby, hq, hL⟩ := hR
        have c2 : wr.cell? ⟨r, 2, none⟩ = some (.int .i64 0) := by rw [cell_of_row _ _ _ _ _ _ h1]; rfl
        clear h1 hby
        obtain ⟨j, hj⟩ : ∃ j, n.toNat - k = j + 1 := ⟨n.toNat - k - 1, by omega⟩
        go_wp2_with fail
        refine (refint_s B r (.ok q) L wr hR'.out).mono ?_
        rintro e w2 ⟨a, s2, rfl, hS2, hR2, hg2⟩
        have hcl2 : ∀ l' s'', StepF (rdRep (rdInt L) (n.toNat - (k + 1))) s2 l' s'' → StepF (rdRep (rdInt L) n.toNat) s ((acc ++ [a]) ++ l') s'' := fun l' s'' hh => by
          rw [List.append_assoc]
          refine HCL.out ([a] ++ l') s'' ?_
          rw [hj]
          rw [show n.toNat - (k + 1) = j by omega] at hh
          exact StepF.cons hS2 hh
        have HCL2 := Lib.hid hcl2
        have hown2 := hown.kept_lt hg2 hlt
        have hl2 := hown2.len
        have Hl2 := Lib.hid hl2.1
        have sz := hg.size
        have sz2 := hg2.size
        have ha : Below w2.heap.size w2 (w2.alloc (.cells #[.int .i64 a] 3)) := (Below.refl _ _).alloc (Nat.le_refl _) _
        have hone : Recs encZ (fun _ => True) (w2.alloc (.cells #[.int .i64 a] 3)) (.slice (some ⟨w2.heap.size, 0, none⟩) 1 1) [a] := ⟨_, 1, rfl, by simp, by simp [maxLen], Cs.lit _ _ _ _ _ trivial rfl⟩
        clear hcl2 hown c2
        go_wp2_with (refine wpList_appR (o := ⟨some 23, _, _, _, _, _⟩) encZ_len encZ_one (.int .i64 0) 8 _ _ 23 3 w.heap.size acc [a] (some ⟨w2.heap.size, 0, none⟩) 1 1 (.slice A' k c') (k + 1) rfl rfl Tryz.underlying23 infoI_ rfl (by omega) rfl rfl (hown2.ext ha) hone (by rw [Hl2.out]) (by have := Hl2.out; omega) (by have := Hl2.out; omega) (by simp; omega) ?_; intro A9 c9 w9 hown9 hgr9 hat9 hc91 hc92)
        have hrow9 : ∀ b, (Value.slice A' k c').ownBlock = some b → w.heap.size ≤ b := fun b e => (World.ownsRow.lt hown2 _ e).1
        have hR9 := (hR2.ext ha).grown hgr9 (fun b hb => by have := hrow9 b hb; omega)
        have hG9 := grown_nw (grown_tr (grown_tr hg hg2) (grown_bl ha (some r))) hgr9 (fun b hb => .inl (hrow9 b hb))
        refine ⟨⟨k + 1, A9, c9, acc ++ [a], s2, by congr 1, rfl, by omega, hown9, hR9, hG9, fun _ _ => hb, by omega, HCL2.out⟩, by simp [intOf]; omega⟩
    · have dk : decide ((k : Int) < n) = false := by simpa using hlt2
      have hl := hown.len.1
      have hfin := HCL.out [] sr (by rw [show n.toNat - k = 0 by omega]; exact StepF.pure_ _ _)
      rw [List.append_nil] at hfin
      go_wp2
      go_ret
      first | exact ⟨A', c', acc, sr, by rw [hl]; rfl, by rw [hl]; exact hown, hfin, hR, hg⟩ | exact ⟨A', c', acc, by rw [hl]; rfl, by rw [hl]; exact hown, sr, hfin, hR, hg⟩
end Go.Proofs.YtiblijmngokcgaaGreatDoor
namespace Go.Proofs.YtiblijmngokcgaaGreatDoor
open Go.RowKit
set_option maxRecDepth 100000
set_option linter.unusedVariables false
theorem rdAt_st {α : Type} (f : List UInt8 → Nat → Except Nat (α × Nat)) (L : List UInt8) (k : Int) : rdAt f L k = bndS (stB L k) (f L) := by
  unfold rdAt stB
  by_cases h : k < 0 ∨ (L.length : Int) < k
  · rw [if_pos h, if_pos h]; rfl
  · rw [if_neg h, if_neg h]; rfl
theorem StepF.ok_ {α : Type} {f : Nat → Except Nat (α × Nat)} {s : Except Nat Nat} {a : α} {q : Nat} (h : StepF f s a (.ok q)) : bndS s f = .ok (a, q) := by
  obtain ⟨h1, h2⟩ := h
  cases hx : bndS s f with
  | error k => rw [hx] at h1; cases h1
  | ok vq =>
    obtain ⟨b, q'⟩ := vq
    have := h2 b q' hx
    subst this
    rw [hx] at h1
    cases h1
    rfl
theorem StepF.err_ {α : Type} {f : Nat → Except Nat (α × Nat)} {s : Except Nat Nat} {a : α} {k : Nat} (h : StepF f s a (.error k)) : bndS s f = .error k := by
  obtain ⟨h1, h2⟩ := h
  cases hx : bndS s f with
  | error k' => rw [hx] at h1; cases h1; rfl
  | ok vq => rw [hx] at h1; cases h1
structure RK (B r : Nat) (L : List UInt8) (w : World) (b4 : Nat) (c4 : Array Value) (b8 : Nat) (T : TypeId) (wr : World) (s : Except Nat Nat) (c8 : Array Value) : Prop where
  rd : RS B wr r L s
  bl : Below w.heap.size w wr
  lo : w.heap.size ≤ r ∧ w.heap.size ≤ b4 ∧ w.heap.size ≤ b8 ∧ B ≤ b8
  ne : b4 ≠ r ∧ b8 ≠ r ∧ b4 ≠ b8
  h4 : wr.heap[b4]? = some (.cells c4 T (0, 0))
  h8 : wr.heap[b8]? = some (.cells c8 T (0, 0))
section
variable {B r : Nat} {L : List UInt8} {T : TypeId} {b4 b8 : Nat} {c4 : Array Value} {w wr w' : World} {s s' : Except Nat Nat} {c8 : Array Value}
theorem RK.call (h : RK B r L w b4 c4 b8 T wr s c8) (hR : RS B w' r L s') (hg : wr.grownBy w' (some r)) : RK B r L w b4 c4 b8 T w' s' c8 :=
  ⟨hR, Below.grow h.bl hg h.lo.1, h.lo, h.ne, (hg.block _ (Array.getElem?_eq_some_iff.1 h.h4).1 (by simpa using h.ne.1)).trans h.h4, (hg.block _ (Array.getElem?_eq_some_iff.1 h.h8).1 (by simpa using h.ne.2.1)).trans h.h8⟩
theorem RK.ext (h : RK B r L w b4 c4 b8 T wr s c8) (hb : Below wr.heap.size wr w') : RK B r L w b4 c4 b8 T w' s c8 :=
  ⟨h.rd.ext hb, Below.ext h.bl hb, h.lo, h.ne, (hb.block _ (Array.getElem?_eq_some_iff.1 h.h4).1).trans h.h4, (hb.block _ (Array.getElem?_eq_some_iff.1 h.h8).1).trans h.h8⟩
theorem RK.set (h : RK B r L w b4 c4 b8 T wr s c8) (o : Nat) (v : Value) : RK B r L w b4 c4 b8 T (wr.setCell ⟨b8, o, none⟩ v) s (c8.setIfInBounds o v) :=
  have hg : wr.grownBy (wr.setCell ⟨b8, o, none⟩ v) (some b8) := grown_set ⟨rfl, rfl, rfl, Nat.le_refl _, fun _ _ _ => rfl⟩
  ⟨h.rd.grown hg (fun m hm => by cases hm; exact ⟨h.lo.2.2.2, h.ne.2.1⟩), Below.grow h.bl hg h.lo.2.2.1, h.lo, h.ne, (hg.block _ (Array.getElem?_eq_some_iff.1 h.h4).1 (by simpa using h.ne.2.2)).trans h.h4, heap_setCell_same _ _ o _ _ _ h.h8⟩
theorem RK.cell (h : RK B r L w b4 c4 b8 T wr s c8) (o : Nat) {v : Value} (hv : c8[o]? = some v) : wr.cell? ⟨b8, o, none⟩ = some v := by rw [cell_of_row _ _ _ _ _ _ h.h8]; exact hv
theorem RK.frz (h : RK B r L w b4 c4 b8 T wr s c8) (o : Nat) : wr.frozen? ⟨b8, o, none⟩ = false := frozen_of_row _ _ _ _ _ h.h8
end
theorem ag_err : ∀ w : World, (isAgg 37).run Tryz.prog w = .ok false w := fun w => by simp [isAgg, run_underlying Tryz.underlying37]
set_option maxHeartbeats 2000000 in
theorem refEvent_any (A : Option Addr) (n c : Nat) (k : Int) (L : List UInt8) (S : Nat → Prop) (w : World) (hb : Bytes S w (.slice A n c) L) (hn : n ≤ 100000000) :
    Calls Tryz.prog 85 #[.slice A n c, .int .i64 k] w fun e w' => RdOut (rdAt rdEv L k) (.agg #[Value.int .i64 0, Value.int .i64 0, Value.int .i64 0, Value.int .i64 0, Value.int .i64 0, Value.int .i64 0, Value.int .i64 0]) (fun a w' v => v = evV a) e w' ∧ Below w.heap.size w w' := by
  obtain ⟨W, hW⟩ : ∃ W, W = w.alloc (.cells #[Value.int .i64 0, Value.int .i64 0, Value.int .i64 0, Value.int .i64 0, Value.int .i64 0, Value.int .i64 0, Value.int .i64 0] 78) := ⟨_, rfl⟩
  have hbW : Below w.heap.size w W := by rw [hW]; exact (Below.refl _ _).alloc (Nat.le_refl _) _
  have r0 : W.heap[w.heap.size]? = some (.cells #[Value.int .i64 0, Value.int .i64 0, Value.int .i64 0, Value.int .i64 0, Value.int .i64 0, Value.int .i64 0, Value.int .i64 0] 78 (0, 0)) := by rw [hW]; exact heap_alloc_new _ _
  have hsW : W.heap.size = w.heap.size + 1 := by rw [hW]; simp
  have hbL := hb.len
  go_enter Tryz.func85, Tryz.ntmps85
  go_wp2_with fail
  rw [← hW]
  clear hW
  refine (begin_any A n c k L S W (hb.ext hbW) hn).mono ?_
  rintro e w1 ⟨rfl, hR1, hb1⟩
  rw [hsW] at hR1
  rw [hsW]
  have r1 := (hb1.block w.heap.size (by omega)).trans r0
  have b1 := Below.ext hbW hb1
  have hsz1 : w.heap.size + 2 ≤ w1.heap.size := hR1.lt
  clear r0 hb1
  go_wp2_with fail
  refine (refevent_s (w.heap.size + 1) (w.heap.size + 1) (stB L k) L w1 hR1 (by omega)).mono ?_
  rintro e w2 ⟨v, s2, rfl, hS2, hR2, hg2⟩
  unfold evV
  have r2 := (hg2.block w.heap.size (by omega) (by simp)).trans r1
  have b2 := Below.grow b1 hg2 (show w.heap.size ≤ w.heap.size + 1 by omega)
  have s2z := hg2.size
  obtain ⟨W3, hW3⟩ : ∃ W3, W3 = w2.alloc (.cells #[Value.int .i64 v.k0, Value.int .i64 v.k1, Value.int .i64 v.k2, Value.int .i64 v.k3, Value.int .i64 v.k4, Value.int .i64 v.k5, Value.int .i64 v.k6] 78) := ⟨_, rfl⟩
  have hb3 : Below w2.heap.size w2 W3 := by rw [hW3]; exact (Below.refl _ _).alloc (Nat.le_refl _) _
  have r8 : W3.heap[w2.heap.size]? = some (.cells #[Value.int .i64 v.k0, Value.int .i64 v.k1, Value.int .i64 v.k2, Value.int .i64 v.k3, Value.int .i64 v.k4, Value.int .i64 v.k5, Value.int .i64 v.k6] 78 (0, 0)) := by rw [hW3]; exact heap_alloc_new _ _
  have HK : RowKit.Hid (RK (w.heap.size + 1) (w.heap.size + 1) L w w.heap.size #[Value.int .i64 0, Value.int .i64 0, Value.int .i64 0, Value.int .i64 0, Value.int .i64 0, Value.int .i64 0, Value.int .i64 0] w2.heap.size 78 W3 s2 #[Value.int .i64 v.k0, Value.int .i64 v.k1, Value.int .i64 v.k2, Value.int .i64 v.k3, Value.int .i64 v.k4, Value.int .i64 v.k5, Value.int .i64 v.k6]) := Lib.hid ⟨hR2.ext hb3, Below.ext b2 hb3, ⟨by omega, by omega, by omega, by omega⟩, ⟨by omega, by omega, by omega⟩, (hb3.block _ (by omega)).trans r2, r8⟩
  have HSP := Lib.hid hS2
  have hrS := HK.out.rd
  clear r2 b2 hg2 hR2 hS2 r8 hb3 r1 b1 hR1
  obtain ⟨x3, hx3⟩ : ∃ x : Int, W3.cell? ⟨w.heap.size + 1, 2, none⟩ = some (.int .i64 x) := by
    cases s2 with
    | error x => obtain ⟨_, _, _, h1⟩ := hrS; exact ⟨x, by rw [cell_of_row _ _ _ _ _ _ h1]; rfl⟩
    | ok q => obtain ⟨_, _, _, h1, _⟩ := hrS; exact ⟨0, by rw [cell_of_row _ _ _ _ _ _ h1]; rfl⟩
  go_wp2_with (refine wpList_stop 17 rfl ?_)
  rw [← hW3]
  refine ⟨?_⟩
  clear hW3 hx3 hrS
  have hfk : ∀ (cs : Array Value), W3.drew.grownBy (W3.drew.setRow w.heap.size cs) (some w.heap.size) := fun cs => grown_setRow _ _ _
  cases hs : s2 with
  | error x =>
    rw [hs] at HK HSP
    have hrow := HK.out.rd
    obtain ⟨h0, u, pp, hrow⟩ := hrow
    have ce : W3.cell? ⟨(w.heap.size + 1), 2, none⟩ = some (.int .i64 (x : Int)) := by rw [cell_of_row _ _ _ _ _ _ hrow]; rfl
    have d : ((x : Int) != 0) = true := by simp; omega
    have HR := Lib.hid hrow
    have H4 : RowKit.Hid (W3.drew.heap[w.heap.size]? = some (.cells #[Value.int .i64 0, Value.int .i64 0, Value.int .i64 0, Value.int .i64 0, Value.int .i64 0, Value.int .i64 0, Value.int .i64 0] 78 (0, 0))) := Lib.hid HK.out.h4
    have hfin := HSP.out.err_
    clear hrow
    go_wp2_with fail
    refine wp_region_lexL (fun w' => w'.cell? ⟨(w.heap.size + 1), 2, none⟩ = some (.int .i64 (x : Int))) (by kernel_rfl) (by kernel_rfl) ce ?_
    repeat (first | (refine lexL_q0 rfl ?_; go_big_quiet_step (fail); refine wpQuiet_nil ?_) | (refine lexL_skip0 rfl rfl ?_; simp only [Act.put, List.setIfInBounds_toArray, List.set_cons_succ, List.set_cons_zero]))
    refine lexL_e rfl ?_
    go_wp2_with fail
    refine lexL_go ce ?_
    repeat (first | (refine lexL_q0 rfl ?_; go_big_quiet_step (fail); refine wpQuiet_nil ?_) | (refine lexL_skip0 rfl rfl ?_; simp only [Act.put, List.setIfInBounds_toArray, List.set_cons_succ, List.set_cons_zero]))
    refine lexL_ld (⟨(w.heap.size + 1), 2, none⟩) (.int .i64 (x : Int)) rfl rfl rfl (fun w' hS => run_ld1 (ag_err _) hS) ?_
    simp only [Act.put, List.setIfInBounds_toArray, List.set_cons_succ, List.set_cons_zero]
    repeat (first | (refine lexL_q0 rfl ?_; go_big_quiet_step (fail); refine wpQuiet_nil ?_) | (refine lexL_skip0 rfl rfl ?_; simp only [Act.put, List.setIfInBounds_toArray, List.set_cons_succ, List.set_cons_zero]))
    refine lexL_e rfl ?_
    refine wpList_store_row rfl 78 _ _ rfl w.heap.size 78 _ _ rfl rfl H4.out (by kernel_rfl) rfl (by simp [Value.oneCell']) ?_
    refine lexL_go ?_ ?_
    · have hr2 := (setRow_other W3.drew w.heap.size (w.heap.size + 1) #[Value.int .i64 0, Value.int .i64 0, Value.int .i64 0, Value.int .i64 0, Value.int .i64 0, Value.int .i64 0, Value.int .i64 0] HK.out.ne.1.symm).trans HR.out
      rw [cell_of_row _ _ _ _ _ _ hr2]; rfl
    simp only [Act.put]
    repeat (first | (refine lexL_q0 rfl ?_; go_big_quiet_step (fail); refine wpQuiet_nil ?_) | (refine lexL_skip0 rfl rfl ?_; simp only [Act.put, List.setIfInBounds_toArray, List.set_cons_succ, List.set_cons_zero]))
    refine lexL_nil ?_
    go_wp2_with fail
    go_wp2
    refine bodyPost_ret (results_ctt rfl rfl (run_ld_block (setRow_heap _ _ _ _ _ _ H4.out) Tryz.underlying78 rfl (by kernel_rfl))) rfl ?_
    rw [rdAt_st, hfin]
    exact ⟨rfl, Below.setRow HK.out.bl.drew (Nat.le_refl _) _⟩
  | ok q =>
    rw [hs] at HK HSP
    have hrow := HK.out.rd
    obtain ⟨hB, Ar, cr, hrow, _, hq, hL⟩ := hrow
    have ce : W3.cell? ⟨(w.heap.size + 1), 2, none⟩ = some (.int .i64 0) := by rw [cell_of_row _ _ _ _ _ _ hrow]; rfl
    have HR : RowKit.Hid (W3.drew.heap[(w.heap.size + 1)]? = _) := Lib.hid hrow
    have H4 : RowKit.Hid (W3.drew.heap[w.heap.size]? = some (.cells #[Value.int .i64 0, Value.int .i64 0, Value.int .i64 0, Value.int .i64 0, Value.int .i64 0, Value.int .i64 0, Value.int .i64 0] 78 (0, 0))) := Lib.hid HK.out.h4
    have H8 : RowKit.Hid (W3.drew.heap[w2.heap.size]? = some (.cells #[Value.int .i64 v.k0, Value.int .i64 v.k1, Value.int .i64 v.k2, Value.int .i64 v.k3, Value.int .i64 v.k4, Value.int .i64 v.k5, Value.int .i64 v.k6] 78 (0, 0))) := Lib.hid HK.out.h8
    have hfin := HSP.out.ok_
    clear hrow
    go_wp2_with fail
    refine wp_region_lexL (fun w' => w'.heap[w2.heap.size]? = some (.cells #[Value.int .i64 v.k0, Value.int .i64 v.k1, Value.int .i64 v.k2, Value.int .i64 v.k3, Value.int .i64 v.k4, Value.int .i64 v.k5, Value.int .i64 v.k6] 78 (0, 0)) ∧ w'.heap[(w.heap.size + 1)]? = _) (by kernel_rfl) (by kernel_rfl) ⟨H8.out, HR.out⟩ ?_
    repeat (first | (refine lexL_q0 rfl ?_; go_big_quiet_step (fail); refine wpQuiet_nil ?_) | (refine lexL_skip0 rfl rfl ?_; simp only [Act.put, List.setIfInBounds_toArray, List.set_cons_succ, List.set_cons_zero]))
    refine lexL_ld (⟨w2.heap.size, 0, none⟩) (.agg #[Value.int .i64 v.k0, Value.int .i64 v.k1, Value.int .i64 v.k2, Value.int .i64 v.k3, Value.int .i64 v.k4, Value.int .i64 v.k5, Value.int .i64 v.k6]) rfl rfl rfl (fun w' hS => run_ld_block hS.1 Tryz.underlying78 rfl (by kernel_rfl)) ?_
    simp only [Act.put, List.setIfInBounds_toArray, List.set_cons_succ, List.set_cons_zero]
    repeat (first | (refine lexL_q0 rfl ?_; go_big_quiet_step (fail); refine wpQuiet_nil ?_) | (refine lexL_skip0 rfl rfl ?_; simp only [Act.put, List.setIfInBounds_toArray, List.set_cons_succ, List.set_cons_zero]))
    refine lexL_ld (⟨(w.heap.size + 1), 1, none⟩) (.int .i64 (q : Int)) rfl rfl rfl (fun w' hS => run_ld1 (ag_int _) (by rw [cell_of_row _ _ _ _ _ _ hS.2]; rfl)) ?_
    simp only [Act.put, List.setIfInBounds_toArray, List.set_cons_succ, List.set_cons_zero]
    repeat (first | (refine lexL_q0 rfl ?_; go_big_quiet_step (fail); refine wpQuiet_nil ?_) | (refine lexL_skip0 rfl rfl ?_; simp only [Act.put, List.setIfInBounds_toArray, List.set_cons_succ, List.set_cons_zero]))
    refine lexL_e rfl ?_
    refine wpList_store_row rfl 78 _ _ rfl w.heap.size 78 _ _ rfl rfl H4.out (by kernel_rfl) rfl (by simp [Value.oneCell']) ?_
    refine lexL_go ⟨(setRow_other W3.drew w.heap.size w2.heap.size #[Value.int .i64 v.k0, Value.int .i64 v.k1, Value.int .i64 v.k2, Value.int .i64 v.k3, Value.int .i64 v.k4, Value.int .i64 v.k5, Value.int .i64 v.k6] HK.out.ne.2.2.symm).trans H8.out, (setRow_other W3.drew w.heap.size (w.heap.size + 1) #[Value.int .i64 v.k0, Value.int .i64 v.k1, Value.int .i64 v.k2, Value.int .i64 v.k3, Value.int .i64 v.k4, Value.int .i64 v.k5, Value.int .i64 v.k6] HK.out.ne.1.symm).trans HR.out⟩ ?_
    simp only [Act.put]
    repeat (first | (refine lexL_q0 rfl ?_; go_big_quiet_step (fail); refine wpQuiet_nil ?_) | (refine lexL_skip0 rfl rfl ?_; simp only [Act.put, List.setIfInBounds_toArray, List.set_cons_succ, List.set_cons_zero]))
    refine lexL_nil ?_
    go_wp2_with fail
    go_wp2
    refine bodyPost_ret (results_ctt rfl rfl (run_ld_block (setRow_heap _ _ _ _ _ _ H4.out) Tryz.underlying78 rfl (by kernel_rfl))) rfl ?_
    rw [rdAt_st, hfin]
    exact ⟨⟨_, rfl, rfl⟩, Below.setRow HK.out.bl.drew (Nat.le_refl _) _⟩
set_option maxHeartbeats 2000000 in
theorem refDet_any (A : Option Addr) (n c : Nat) (k : Int) (L : List UInt8) (S : Nat → Prop) (w : World) (hb : Bytes S w (.slice A n c) L) (hn : n ≤ 100000000) :
    Calls Tryz.prog 87 #[.slice A n c, .int .i64 k] w fun e w' => RdOut (rdAt rdDt L k) (.agg #[Value.int .i64 0, Value.int .i64 0, Value.int .i64 0, Value.int .i64 0, Value.int .i64 0, Value.int .i64 0, Value.int .i64 0, Value.int .i64 0, Value.int .i64 0]) (fun a w' v => v = dtV a) e w' ∧ Below w.heap.size w w' := by
  obtain ⟨W, hW⟩ : ∃ W, W = w.alloc (.cells #[Value.int .i64 0, Value.int .i64 0, Value.int .i64 0, Value.int .i64 0, Value.int .i64 0, Value.int .i64 0, Value.int .i64 0, Value.int .i64 0, Value.int .i64 0] 133) := ⟨_, rfl⟩
  have hbW : Below w.heap.size w W := by rw [hW]; exact (Below.refl _ _).alloc (Nat.le_refl _) _
  have r0 : W.heap[w.heap.size]? = some (.cells #[Value.int .i64 0, Value.int .i64 0, Value.int .i64 0, Value.int .i64 0, Value.int .i64 0, Value.int .i64 0, Value.int .i64 0, Value.int .i64 0, Value.int .i64 0] 133 (0, 0)) := by rw [hW]; exact heap_alloc_new _ _
  have hsW : W.heap.size = w.heap.size + 1 := by rw [hW]; simp
  have hbL := hb.len
  go_enter Tryz.func87, Tryz.ntmps87
  go_wp2_with fail
  rw [← hW]
  clear hW
  refine (begin_any A n c k L S W (hb.ext hbW) hn).mono ?_
  rintro e w1 ⟨rfl, hR1, hb1⟩
  rw [hsW] at hR1
  rw [hsW]
  have r1 := (hb1.block w.heap.size (by omega)).trans r0
  have b1 := Below.ext hbW hb1
  have hsz1 : w.heap.size + 2 ≤ w1.heap.size := hR1.lt
  clear r0 hb1
  obtain ⟨W0, hW0⟩ : ∃ W0, W0 = w1.alloc (.cells #[Value.int .i64 0, Value.int .i64 0, Value.int .i64 0, Value.int .i64 0, Value.int .i64 0, Value.int .i64 0, Value.int .i64 0, Value.int .i64 0, Value.int .i64 0] 133) := ⟨_, rfl⟩
  have hb0 : Below w1.heap.size w1 W0 := by rw [hW0]; exact (Below.refl _ _).alloc (Nat.le_refl _) _
  have r8 : W0.heap[w1.heap.size]? = some (.cells #[Value.int .i64 0, Value.int .i64 0, Value.int .i64 0, Value.int .i64 0, Value.int .i64 0, Value.int .i64 0, Value.int .i64 0, Value.int .i64 0, Value.int .i64 0] 133 (0, 0)) := by rw [hW0]; exact heap_alloc_new _ _
  have hI0 : RK (w.heap.size + 1) (w.heap.size + 1) L w w.heap.size #[Value.int .i64 0, Value.int .i64 0, Value.int .i64 0, Value.int .i64 0, Value.int .i64 0, Value.int .i64 0, Value.int .i64 0, Value.int .i64 0, Value.int .i64 0] w1.heap.size 133 W0 (stB L k) #[Value.int .i64 0, Value.int .i64 0, Value.int .i64 0, Value.int .i64 0, Value.int .i64 0, Value.int .i64 0, Value.int .i64 0, Value.int .i64 0, Value.int .i64 0] := ⟨hR1.ext hb0, Below.ext b1 hb0, ⟨by omega, by omega, by omega, by omega⟩, ⟨by omega, by omega, by omega⟩, (hb0.block _ (by omega)).trans r1, r8⟩
  clear r8 hb0 r1 b1 hR1
  go_wp2_with fail
  rw [← hW0]
  clear hW0
  refine (refint_s (w.heap.size + 1) (w.heap.size + 1) (stB L k) L W0 hI0.rd).mono ?_
  rintro e u1 ⟨v1, s1, rfl, hS1, hR, hg⟩
  have hJ := hI0.call hR hg
  have hc := hJ.cell 0 (v := .int .i64 0) rfl
  have hf := hJ.frz 0
  have hI1 : RK (w.heap.size + 1) (w.heap.size + 1) L w w.heap.size #[Value.int .i64 0, Value.int .i64 0, Value.int .i64 0, Value.int .i64 0, Value.int .i64 0, Value.int .i64 0, Value.int .i64 0, Value.int .i64 0, Value.int .i64 0] w1.heap.size 133 (u1.setCell ⟨w1.heap.size, 0, none⟩ (.int .i64 v1)) s1 #[Value.int .i64 v1, Value.int .i64 0, Value.int .i64 0, Value.int .i64 0, Value.int .i64 0, Value.int .i64 0, Value.int .i64 0, Value.int .i64 0, Value.int .i64 0] := hJ.set 0 (.int .i64 v1)
  clear hJ hI0 hg hR
  go_wp2_with fail
  clear hc hf
  generalize u1.setCell ⟨w1.heap.size, 0, none⟩ (.int .i64 v1) = W1 at *
  refine (refint_s (w.heap.size + 1) (w.heap.size + 1) s1 L W1 hI1.rd).mono ?_
  rintro e u2 ⟨v2, s2, rfl, hS2, hR, hg⟩
  have hJ := hI1.call hR hg
  have hc := hJ.cell 1 (v := .int .i64 0) rfl
  have hf := hJ.frz 1
  have hI2 : RK (w.heap.size + 1) (w.heap.size + 1) L w w.heap.size #[Value.int .i64 0, Value.int .i64 0, Value.int .i64 0, Value.int .i64 0, Value.int .i64 0, Value.int .i64 0, Value.int .i64 0, Value.int .i64 0, Value.int .i64 0] w1.heap.size 133 (u2.setCell ⟨w1.heap.size, 1, none⟩ (.int .i64 v2)) s2 #[Value.int .i64 v1, Value.int .i64 v2, Value.int .i64 0, Value.int .i64 0, Value.int .i64 0, Value.int .i64 0, Value.int .i64 0, Value.int .i64 0, Value.int .i64 0] := hJ.set 1 (.int .i64 v2)
  clear hJ hI1 hg hR
  go_wp2_with fail
  clear hc hf
  generalize u2.setCell ⟨w1.heap.size, 1, none⟩ (.int .i64 v2) = W2 at *
  refine (refevent_s (w.heap.size + 1) (w.heap.size + 1) s2 L W2 hI2.rd (by have := hI2.bl.size; have := (Array.getElem?_eq_some_iff.1 hI2.h8).1; omega)).mono ?_
  rintro e u3 ⟨v3, s3, rfl, hS3, hR, hg⟩
  unfold evV
  have hJ := hI2.call hR hg
  have c2 := hJ.cell 2 (v := .int .i64 0) rfl
  have f2 := hJ.frz 2
  have c3 := hJ.cell 3 (v := .int .i64 0) rfl
  have f3 := hJ.frz 3
  have c4 := hJ.cell 4 (v := .int .i64 0) rfl
  have f4 := hJ.frz 4
  have c5 := hJ.cell 5 (v := .int .i64 0) rfl
  have f5 := hJ.frz 5
  have c6 := hJ.cell 6 (v := .int .i64 0) rfl
  have f6 := hJ.frz 6
  have c7 := hJ.cell 7 (v := .int .i64 0) rfl
  have f7 := hJ.frz 7
  have c8 := hJ.cell 8 (v := .int .i64 0) rfl
  have f8 := hJ.frz 8
  have hK0 : RK (w.heap.size + 1) (w.heap.size + 1) L w w.heap.size #[Value.int .i64 0, Value.int .i64 0, Value.int .i64 0, Value.int .i64 0, Value.int .i64 0, Value.int .i64 0, Value.int .i64 0, Value.int .i64 0, Value.int .i64 0] w1.heap.size 133 (u3.setCell ⟨w1.heap.size, 2, none⟩ (.int .i64 v3.k0)) s3 #[Value.int .i64 v1, Value.int .i64 v2, Value.int .i64 v3.k0, Value.int .i64 0, Value.int .i64 0, Value.int .i64 0, Value.int .i64 0, Value.int .i64 0, Value.int .i64 0] := hJ.set 2 (.int .i64 v3.k0)
  have hK1 : RK (w.heap.size + 1) (w.heap.size + 1) L w w.heap.size #[Value.int .i64 0, Value.int .i64 0, Value.int .i64 0, Value.int .i64 0, Value.int .i64 0, Value.int .i64 0, Value.int .i64 0, Value.int .i64 0, Value.int .i64 0] w1.heap.size 133 ((u3.setCell ⟨w1.heap.size, 2, none⟩ (.int .i64 v3.k0)).setCell ⟨w1.heap.size, 3, none⟩ (.int .i64 v3.k1)) s3 #[Value.int .i64 v1, Value.int .i64 v2, Value.int .i64 v3.k0, Value.int .i64 v3.k1, Value.int .i64 0, Value.int .i64 0, Value.int .i64 0, Value.int .i64 0, Value.int .i64 0] := hK0.set 3 (.int .i64 v3.k1)
  have hK2 : RK (w.heap.size + 1) (w.heap.size + 1) L w w.heap.size #[Value.int .i64 0, Value.int .i64 0, Value.int .i64 0, Value.int .i64 0, Value.int .i64 0, Value.int .i64 0, Value.int .i64 0, Value.int .i64 0, Value.int .i64 0] w1.heap.size 133 (((u3.setCell ⟨w1.heap.size, 2, none⟩ (.int .i64 v3.k0)).setCell ⟨w1.heap.size, 3, none⟩ (.int .i64 v3.k1)).setCell ⟨w1.heap.size, 4, none⟩ (.int .i64 v3.k2)) s3 #[Value.int .i64 v1, Value.int .i64 v2, Value.int .i64 v3.k0, Value.int .i64 v3.k1, Value.int .i64 v3.k2, Value.int .i64 0, Value.int .i64 0, Value.int .i64 0, Value.int .i64 0] := hK1.set 4 (.int .i64 v3.k2)
  have hK3 : RK (w.heap.size + 1) (w.heap.size + 1) L w w.heap.size #[Value.int .i64 0, Value.int .i64 0, Value.int .i64 0, Value.int .i64 0, Value.int .i64 0, Value.int .i64 0, Value.int .i64 0, Value.int .i64 0, Value.int .i64 0] w1.heap.size 133 ((((u3.setCell ⟨w1.heap.size, 2, none⟩ (.int .i64 v3.k0)).setCell ⟨w1.heap.size, 3, none⟩ (.int .i64 v3.k1)).setCell ⟨w1.heap.size, 4, none⟩ (.int .i64 v3.k2)).setCell ⟨w1.heap.size, 5, none⟩ (.int .i64 v3.k3)) s3 #[Value.int .i64 v1, Value.int .i64 v2, Value.int .i64 v3.k0, Value.int .i64 v3.k1, Value.int .i64 v3.k2, Value.int .i64 v3.k3, Value.int .i64 0, Value.int .i64 0, Value.int .i64 0] := hK2.set 5 (.int .i64 v3.k3)
  have hK4 : RK (w.heap.size + 1) (w.heap.size + 1) L w w.heap.size #[Value.int .i64 0, Value.int .i64 0, Value.int .i64 0, Value.int .i64 0, Value.int .i64 0, Value.int .i64 0, Value.int .i64 0, Value.int .i64 0, Value.int .i64 0] w1.heap.size 133 (((((u3.setCell ⟨w1.heap.size, 2, none⟩ (.int .i64 v3.k0)).setCell ⟨w1.heap.size, 3, none⟩ (.int .i64 v3.k1)).setCell ⟨w1.heap.size, 4, none⟩ (.int .i64 v3.k2)).setCell ⟨w1.heap.size, 5, none⟩ (.int .i64 v3.k3)).setCell ⟨w1.heap.size, 6, none⟩ (.int .i64 v3.k4)) s3 #[Value.int .i64 v1, Value.int .i64 v2, Value.int .i64 v3.k0, Value.int .i64 v3.k1, Value.int .i64 v3.k2, Value.int .i64 v3.k3, Value.int .i64 v3.k4, Value.int .i64 0, Value.int .i64 0] := hK3.set 6 (.int .i64 v3.k4)
  have hK5 : RK (w.heap.size + 1) (w.heap.size + 1) L w w.heap.size #[Value.int .i64 0, Value.int .i64 0, Value.int .i64 0, Value.int .i64 0, Value.int .i64 0, Value.int .i64 0, Value.int .i64 0, Value.int .i64 0, Value.int .i64 0] w1.heap.size 133 ((((((u3.setCell ⟨w1.heap.size, 2, none⟩ (.int .i64 v3.k0)).setCell ⟨w1.heap.size, 3, none⟩ (.int .i64 v3.k1)).setCell ⟨w1.heap.size, 4, none⟩ (.int .i64 v3.k2)).setCell ⟨w1.heap.size, 5, none⟩ (.int .i64 v3.k3)).setCell ⟨w1.heap.size, 6, none⟩ (.int .i64 v3.k4)).setCell ⟨w1.heap.size, 7, none⟩ (.int .i64 v3.k5)) s3 #[Value.int .i64 v1, Value.int .i64 v2, Value.int .i64 v3.k0, Value.int .i64 v3.k1, Value.int .i64 v3.k2, Value.int .i64 v3.k3, Value.int .i64 v3.k4, Value.int .i64 v3.k5, Value.int .i64 0] := hK4.set 7 (.int .i64 v3.k5)
  have hK6 : RK (w.heap.size + 1) (w.heap.size + 1) L w w.heap.size #[Value.int .i64 0, Value.int .i64 0, Value.int .i64 0, Value.int .i64 0, Value.int .i64 0, Value.int .i64 0, Value.int .i64 0, Value.int .i64 0, Value.int .i64 0] w1.heap.size 133 (((((((u3.setCell ⟨w1.heap.size, 2, none⟩ (.int .i64 v3.k0)).setCell ⟨w1.heap.size, 3, none⟩ (.int .i64 v3.k1)).setCell ⟨w1.heap.size, 4, none⟩ (.int .i64 v3.k2)).setCell ⟨w1.heap.size, 5, none⟩ (.int .i64 v3.k3)).setCell ⟨w1.heap.size, 6, none⟩ (.int .i64 v3.k4)).setCell ⟨w1.heap.size, 7, none⟩ (.int .i64 v3.k5)).setCell ⟨w1.heap.size, 8, none⟩ (.int .i64 v3.k6)) s3 #[Value.int .i64 v1, Value.int .i64 v2, Value.int .i64 v3.k0, Value.int .i64 v3.k1, Value.int .i64 v3.k2, Value.int .i64 v3.k3, Value.int .i64 v3.k4, Value.int .i64 v3.k5, Value.int .i64 v3.k6] := hK5.set 8 (.int .i64 v3.k6)
  have HK := Lib.hid hK6
  have HSP : RowKit.Hid (StepF (rdDt L) (stB L k) ⟨v1, v2, v3⟩ s3) := Lib.hid (StepF.comp hS1 (StepF.comp hS2 (StepF.comp hS3 (StepF.pure_ _ _))))
  clear hK0 hK1 hK2 hK3 hK4 hK5 hK6 hI2 hg hR hJ hS1 hS2 hS3
  go_wp2_with (refine wpList_stop 24 rfl ?_)
  refine ⟨?_⟩
  clear c2 c3 c4 c5 c6 c7 c8 f2 f3 f4 f5 f6 f7 f8
  generalize (((((((u3.setCell ⟨w1.heap.size, 2, none⟩ (.int .i64 v3.k0)).setCell ⟨w1.heap.size, 3, none⟩ (.int .i64 v3.k1)).setCell ⟨w1.heap.size, 4, none⟩ (.int .i64 v3.k2)).setCell ⟨w1.heap.size, 5, none⟩ (.int .i64 v3.k3)).setCell ⟨w1.heap.size, 6, none⟩ (.int .i64 v3.k4)).setCell ⟨w1.heap.size, 7, none⟩ (.int .i64 v3.k5)).setCell ⟨w1.heap.size, 8, none⟩ (.int .i64 v3.k6)) = W3 at *
  have hfk : ∀ (cs : Array Value), W3.drew.grownBy (W3.drew.setRow w.heap.size cs) (some w.heap.size) := fun cs => grown_setRow _ _ _
  cases hs : s3 with
  | error x =>
    rw [hs] at HK HSP
    have hrow := HK.out.rd
    obtain ⟨h0, u, pp, hrow⟩ := hrow
    have ce : W3.cell? ⟨(w.heap.size + 1), 2, none⟩ = some (.int .i64 (x : Int)) := by rw [cell_of_row _ _ _ _ _ _ hrow]; rfl
    have d : ((x : Int) != 0) = true := by simp; omega
    have HR := Lib.hid hrow
    have H4 : RowKit.Hid (W3.drew.heap[w.heap.size]? = some (.cells #[Value.int .i64 0, Value.int .i64 0, Value.int .i64 0, Value.int .i64 0, Value.int .i64 0, Value.int .i64 0, Value.int .i64 0, Value.int .i64 0, Value.int .i64 0] 133 (0, 0))) := Lib.hid HK.out.h4
    have hfin := HSP.out.err_
    clear hrow
    go_wp2_with fail
    refine wp_region_lexL (fun w' => w'.cell? ⟨(w.heap.size + 1), 2, none⟩ = some (.int .i64 (x : Int))) (by kernel_rfl) (by kernel_rfl) ce ?_
    repeat (first | (refine lexL_q0 rfl ?_; go_big_quiet_step (fail); refine wpQuiet_nil ?_) | (refine lexL_skip0 rfl rfl ?_; simp only [Act.put, List.setIfInBounds_toArray, List.set_cons_succ, List.set_cons_zero]))
    refine lexL_e rfl ?_
    go_wp2_with fail
    refine lexL_go ce ?_
    repeat (first | (refine lexL_q0 rfl ?_; go_big_quiet_step (fail); refine wpQuiet_nil ?_) | (refine lexL_skip0 rfl rfl ?_; simp only [Act.put, List.setIfInBounds_toArray, List.set_cons_succ, List.set_cons_zero]))
    refine lexL_ld (⟨(w.heap.size + 1), 2, none⟩) (.int .i64 (x : Int)) rfl rfl rfl (fun w' hS => run_ld1 (ag_err _) hS) ?_
    simp only [Act.put, List.setIfInBounds_toArray, List.set_cons_succ, List.set_cons_zero]
    repeat (first | (refine lexL_q0 rfl ?_; go_big_quiet_step (fail); refine wpQuiet_nil ?_) | (refine lexL_skip0 rfl rfl ?_; simp only [Act.put, List.setIfInBounds_toArray, List.set_cons_succ, List.set_cons_zero]))
    refine lexL_e rfl ?_
    refine wpList_store_row rfl 133 _ _ rfl w.heap.size 133 _ _ rfl rfl H4.out (by kernel_rfl) rfl (by simp [Value.oneCell']) ?_
    refine lexL_go ?_ ?_
    · have hr2 := (setRow_other W3.drew w.heap.size (w.heap.size + 1) #[Value.int .i64 0, Value.int .i64 0, Value.int .i64 0, Value.int .i64 0, Value.int .i64 0, Value.int .i64 0, Value.int .i64 0, Value.int .i64 0, Value.int .i64 0] HK.out.ne.1.symm).trans HR.out
      rw [cell_of_row _ _ _ _ _ _ hr2]; rfl
    simp only [Act.put]
    repeat (first | (refine lexL_q0 rfl ?_; go_big_quiet_step (fail); refine wpQuiet_nil ?_) | (refine lexL_skip0 rfl rfl ?_; simp only [Act.put, List.setIfInBounds_toArray, List.set_cons_succ, List.set_cons_zero]))
    refine lexL_nil ?_
    go_wp2_with fail
    go_wp2
    refine bodyPost_ret (results_ctt rfl rfl (run_ld_block (setRow_heap _ _ _ _ _ _ H4.out) Tryz.underlying133 rfl (by kernel_rfl))) rfl ?_
    rw [rdAt_st, hfin]
    exact ⟨rfl, Below.setRow HK.out.bl.drew (Nat.le_refl _) _⟩
  | ok q =>
    rw [hs] at HK HSP
    have hrow := HK.out.rd
    obtain ⟨hB, Ar, cr, hrow, _, hq, hL⟩ := hrow
    have ce : W3.cell? ⟨(w.heap.size + 1), 2, none⟩ = some (.int .i64 0) := by rw [cell_of_row _ _ _ _ _ _ hrow]; rfl
    have HR : RowKit.Hid (W3.drew.heap[(w.heap.size + 1)]? = _) := Lib.hid hrow
    have H4 : RowKit.Hid (W3.drew.heap[w.heap.size]? = some (.cells #[Value.int .i64 0, Value.int .i64 0, Value.int .i64 0, Value.int .i64 0, Value.int .i64 0, Value.int .i64 0, Value.int .i64 0, Value.int .i64 0, Value.int .i64 0] 133 (0, 0))) := Lib.hid HK.out.h4
    have H8 : RowKit.Hid (W3.drew.heap[w1.heap.size]? = some (.cells #[Value.int .i64 v1, Value.int .i64 v2, Value.int .i64 v3.k0, Value.int .i64 v3.k1, Value.int .i64 v3.k2, Value.int .i64 v3.k3, Value.int .i64 v3.k4, Value.int .i64 v3.k5, Value.int .i64 v3.k6] 133 (0, 0))) := Lib.hid HK.out.h8
    have hfin := HSP.out.ok_
    clear hrow
    go_wp2_with fail
    refine wp_region_lexL (fun w' => w'.heap[w1.heap.size]? = some (.cells #[Value.int .i64 v1, Value.int .i64 v2, Value.int .i64 v3.k0, Value.int .i64 v3.k1, Value.int .i64 v3.k2, Value.int .i64 v3.k3, Value.int .i64 v3.k4, Value.int .i64 v3.k5, Value.int .i64 v3.k6] 133 (0, 0)) ∧ w'.heap[(w.heap.size + 1)]? = _) (by kernel_rfl) (by kernel_rfl) ⟨H8.out, HR.out⟩ ?_
    repeat (first | (refine lexL_q0 rfl ?_; go_big_quiet_step (fail); refine wpQuiet_nil ?_) | (refine lexL_skip0 rfl rfl ?_; simp only [Act.put, List.setIfInBounds_toArray, List.set_cons_succ, List.set_cons_zero]))
    refine lexL_ld (⟨w1.heap.size, 0, none⟩) (.agg #[Value.int .i64 v1, Value.int .i64 v2, Value.int .i64 v3.k0, Value.int .i64 v3.k1, Value.int .i64 v3.k2, Value.int .i64 v3.k3, Value.int .i64 v3.k4, Value.int .i64 v3.k5, Value.int .i64 v3.k6]) rfl rfl rfl (fun w' hS => run_ld_block hS.1 Tryz.underlying133 rfl (by kernel_rfl)) ?_
    simp only [Act.put, List.setIfInBounds_toArray, List.set_cons_succ, List.set_cons_zero]
    repeat (first | (refine lexL_q0 rfl ?_; go_big_quiet_step (fail); refine wpQuiet_nil ?_) | (refine lexL_skip0 rfl rfl ?_; simp only [Act.put, List.setIfInBounds_toArray, List.set_cons_succ, List.set_cons_zero]))
    refine lexL_ld (⟨(w.heap.size + 1), 1, none⟩) (.int .i64 (q : Int)) rfl rfl rfl (fun w' hS => run_ld1 (ag_int _) (by rw [cell_of_row _ _ _ _ _ _ hS.2]; rfl)) ?_
    simp only [Act.put, List.setIfInBounds_toArray, List.set_cons_succ, List.set_cons_zero]
    repeat (first | (refine lexL_q0 rfl ?_; go_big_quiet_step (fail); refine wpQuiet_nil ?_) | (refine lexL_skip0 rfl rfl ?_; simp only [Act.put, List.setIfInBounds_toArray, List.set_cons_succ, List.set_cons_zero]))
    refine lexL_e rfl ?_
    refine wpList_store_row rfl 133 _ _ rfl w.heap.size 133 _ _ rfl rfl H4.out (by kernel_rfl) rfl (by simp [Value.oneCell']) ?_
    refine lexL_go ⟨(setRow_other W3.drew w.heap.size w1.heap.size #[Value.int .i64 v1, Value.int .i64 v2, Value.int .i64 v3.k0, Value.int .i64 v3.k1, Value.int .i64 v3.k2, Value.int .i64 v3.k3, Value.int .i64 v3.k4, Value.int .i64 v3.k5, Value.int .i64 v3.k6] HK.out.ne.2.2.symm).trans H8.out, (setRow_other W3.drew w.heap.size (w.heap.size + 1) #[Value.int .i64 v1, Value.int .i64 v2, Value.int .i64 v3.k0, Value.int .i64 v3.k1, Value.int .i64 v3.k2, Value.int .i64 v3.k3, Value.int .i64 v3.k4, Value.int .i64 v3.k5, Value.int .i64 v3.k6] HK.out.ne.1.symm).trans HR.out⟩ ?_
    simp only [Act.put]
    repeat (first | (refine lexL_q0 rfl ?_; go_big_quiet_step (fail); refine wpQuiet_nil ?_) | (refine lexL_skip0 rfl rfl ?_; simp only [Act.put, List.setIfInBounds_toArray, List.set_cons_succ, List.set_cons_zero]))
    refine lexL_nil ?_
    go_wp2_with fail
    go_wp2
    refine bodyPost_ret (results_ctt rfl rfl (run_ld_block (setRow_heap _ _ _ _ _ _ H4.out) Tryz.underlying133 rfl (by kernel_rfl))) rfl ?_
    rw [rdAt_st, hfin]
    exact ⟨⟨_, rfl, rfl⟩, Below.setRow HK.out.bl.drew (Nat.le_refl _) _⟩
end Go.Proofs.YtiblijmngokcgaaGreatDoor
namespace Go.Proofs.YtiblijmngokcgaaGreatDoor
open Go.RowKit
set_option maxRecDepth 100000
set_option linter.unusedVariables false
structure RJ (B r : Nat) (L : List UInt8) (T : TypeId) (w : World) (wr : World) (s : Except Nat Nat) (c8 : Array Value) : Prop where
  rd : RS B wr r L s
  hB : B ≤ w.heap.size
  lt : r < w.heap.size
  gr : w.grownBy wr (some r)
  h8 : wr.heap[w.heap.size]? = some (.cells c8 T (0, 0))
section
variable {B r : Nat} {L : List UInt8} {T : TypeId} {w wr w' : World} {s s' : Except Nat Nat} {c8 : Array Value}
theorem RJ.new (c8 : Array Value) (T : TypeId) (h : RS B w r L s) (hB : B ≤ w.heap.size) : ∃ W, W = w.alloc (.cells c8 T) ∧ RJ B r L T w W s c8 := by
  have hlt := h.lt
  have hb1 : Below w.heap.size w (w.alloc (.cells c8 T)) := (Below.refl _ w).alloc (Nat.le_refl _) _
  exact ⟨_, rfl, h.ext hb1, hB, hlt, grown_bl hb1 _, heap_alloc_new _ _⟩
theorem RJ.sz (h : RJ B r L T w wr s c8) : w.heap.size + 1 ≤ wr.heap.size := (Array.getElem?_eq_some_iff.1 h.h8).1
theorem RJ.call (h : RJ B r L T w wr s c8) (hR : RS B w' r L s') (hg : wr.grownBy w' (some r)) : RJ B r L T w w' s' c8 :=
  ⟨hR, h.hB, h.lt, grown_tr h.gr hg, (hg.block _ (Array.getElem?_eq_some_iff.1 h.h8).1 (by have := h.lt; simp; omega)).trans h.h8⟩
theorem RJ.set (h : RJ B r L T w wr s c8) (o : Nat) (v : Value) : RJ B r L T w (wr.setCell ⟨w.heap.size, o, none⟩ v) s (c8.setIfInBounds o v) :=
  have hg : wr.grownBy (wr.setCell ⟨w.heap.size, o, none⟩ v) (some w.heap.size) := grown_set ⟨rfl, rfl, rfl, Nat.le_refl _, fun _ _ _ => rfl⟩
  ⟨h.rd.grown hg (fun m hm => by cases hm; have := h.hB; have := h.lt; omega), h.hB, h.lt, grown_nw h.gr hg (fun b hb => .inl (by cases hb; exact Nat.le_refl _)), heap_setCell_same _ _ o _ _ _ h.h8⟩
theorem RJ.cell (h : RJ B r L T w wr s c8) (o : Nat) {v : Value} (hv : c8[o]? = some v) : wr.cell? ⟨w.heap.size, o, none⟩ = some v := by rw [cell_of_row _ _ _ _ _ _ h.h8]; exact hv
theorem RJ.frz (h : RJ B r L T w wr s c8) (o : Nat) : wr.frozen? ⟨w.heap.size, o, none⟩ = false := frozen_of_row _ _ _ _ _ h.h8
end
theorem rdPg_eq (L : List UInt8) (p : Nat) : bnd (rdInt L p) (fun a p1 => bnd (rdCnt L p1) (fun n p2 => bnd (rdRep (rdInt L) n.toNat p2) (fun l p3 => .ok (⟨a, l⟩, p3)))) = rdPg L p := by
  unfold rdPg
  cases h1 : rdInt L p with
  | error k => rfl
  | ok vq =>
    obtain ⟨a, p1⟩ := vq
    show bnd (rdCnt L p1) _ = bnd (rdList (rdInt L) L p1) _
    rw [← rdList_cnt]
    cases h2 : rdCnt L p1 with
    | error k => rfl
    | ok vq => rfl
set_option maxHeartbeats 2000000 in
theorem refPages_any (A : Option Addr) (n c : Nat) (k : Int) (L : List UInt8) (S : Nat → Prop) (w : World) (hb : Bytes S w (.slice A n c) L) (hn : n ≤ 100000000) :
    Calls Tryz.prog 89 #[.slice A n c, .int .i64 k] w fun e w' => RdOut (rdAt rdPgs L k) (.slice none 0 0) (fun a w' v => ∃ A c, v = .slice A a.length c ∧ PgsOwn w.heap.size w' v a) e w' ∧ Below w.heap.size w w' := by
  have hbL := hb.len
  go_enter Tryz.func89, Tryz.ntmps89
  go_wp2_with fail
  refine (begin_any A n c k L S w hb hn).mono ?_
  rintro e w1 ⟨rfl, hR1, hb1⟩
  have hz1 := hR1.lt
  go_wp2_with fail
  refine (refcount_s w.heap.size w.heap.size (stB L k) L w1 hR1).mono ?_
  rintro e w2 ⟨m, s2, rfl, hS2, hR2, hg2, hm2⟩
  have hz2 := hg2.size
  have HS2 := Lib.hid hS2
  have hb2 := Below.grow hb1 hg2 (Nat.le_refl _)
  clear hS2
  go_wp2
  go_loopw [8, 10] (fun v i wr => ∃ (j : Nat) (A' : Option Addr) (c' : Nat) (acc : List Pg) (sr : Except Nat Nat), i = .int .i64 j ∧ v = .slice A' j c' ∧ j ≤ m.toNat ∧ PgsOwn (w.heap.size + 1) wr (.slice A' j c') acc ∧ RS w.heap.size wr w.heap.size L sr ∧ Below w.heap.size w wr ∧ (∀ q, sr = .ok q → 0 ≤ m ∧ m ≤ 1000000000) ∧ j ≤ 1000000000 ∧ ∀ l' s'', StepF (rdRep (rdPg L) (m.toNat - j)) sr l' s'' → StepF (rdRep (rdPg L) m.toNat) s2 (acc ++ l') s'') (fun _ i _ => m.toNat - (intOf i).toNat)
  case atStart => exact ⟨0, none, 0, [], s2, rfl, rfl, by omega, PgsOwn.nil_ _ _, hR2, hb2, fun q hq => by have := hm2 q hq; omega, by omega, fun l' s'' hh => hh⟩
  case round =>
    clear hR1 hR2 hm2 hg2 hb1 hb2
    obtain ⟨j, A', c', acc, sr, rfl, rfl, hj, hown, hR, hbl, hnn, hk9, hcl⟩ := hrel
    have HCL := Lib.hid hcl
    clear hcl
    have hz := hR.lt
    by_cases hgo : (j : Int) < m ∧ ∃ q, sr = .ok q
    · obtain ⟨hlt2, q, rfl⟩ := hgo
      have dk : decide ((j : Int) < m) = true := by simpa using hlt2
      have hbm := hnn q rfl
      have hR' := Lib.hid hR
      obtain ⟨hB', Ar, cr, h1, hby, hq, hL⟩ := hR
      have c2 : wr.cell? ⟨w.heap.size, 2, none⟩ = some (.int .i64 0) := by rw [cell_of_row _ _ _ _ _ _ h1]; rfl
      clear h1 hby
      obtain ⟨i, hi⟩ : ∃ i, m.toNat - j = i + 1 := ⟨m.toNat - j - 1, by omega⟩
      obtain ⟨W0, hW0, hI0⟩ := RJ.new #[.int .i64 0, .slice none 0 0] 163 hR'.out (by omega)
      go_wp2_with fail
      rw [← hW0]
      clear hW0 c2
      refine (refint_s w.heap.size w.heap.size (.ok q) L W0 hI0.rd).mono ?_
      rintro e u1 ⟨v1, s1, rfl, hS1, hR1, hg1⟩
      have hJ := hI0.call hR1 hg1
      have hc := hJ.cell 0 (v := .int .i64 0) rfl
      have hf := hJ.frz 0
      have hI1 : RJ w.heap.size w.heap.size L 163 wr (u1.setCell ⟨wr.heap.size, 0, none⟩ (.int .i64 v1)) s1 #[.int .i64 v1, .slice none 0 0] := hJ.set 0 (.int .i64 v1)
      have HS1 := Lib.hid hS1
      clear hJ hI0 hg1 hR1 hS1
      go_wp2_with fail
      clear hc hf
      generalize u1.setCell ⟨wr.heap.size, 0, none⟩ (.int .i64 v1) = W1 at *
      refine (refcount_s w.heap.size w.heap.size s1 L W1 hI1.rd).mono ?_
      rintro e u2 ⟨v2, s3, rfl, hS3, hR2, hg2, hm3⟩
      have hI2 := hI1.call hR2 hg2
      have HS3 := Lib.hid hS3
      have sz2 := hI2.sz
      clear hI1 hg2 hR2 hS3
      go_wp2_with fail
      refine (refints_s w.heap.size w.heap.size s3 L v2 u2 hI2.rd (by omega) (fun q hq => by have := hm3 q hq; omega)).mono ?_
      rintro e u3 ⟨Ac, cc, l3, s4, rfl, hO3, hS4, hR3, hg3⟩
      have hJ := hI2.call hR3 hg3
      have hc := hJ.cell 1 (v := .slice none 0 0) rfl
      have hf := hJ.frz 1
      have hgS : u3.grownBy (u3.setCell ⟨wr.heap.size, 1, none⟩ (.slice Ac l3.length cc)) (some wr.heap.size) := grown_set ⟨rfl, rfl, rfl, Nat.le_refl _, fun _ _ _ => rfl⟩
      have hI3 : RJ w.heap.size w.heap.size L 163 wr (u3.setCell ⟨wr.heap.size, 1, none⟩ (.slice Ac l3.length cc)) s4 #[.int .i64 v1, .slice Ac l3.length cc] := hJ.set 1 (.slice Ac l3.length cc)
      have hO3 := (hO3.kept_lt hgS (by omega)).weak (show wr.heap.size + 1 ≤ u2.heap.size by omega)
      have hstep : StepF (rdPg L) (.ok q) ⟨v1, l3⟩ s4 := (StepF.comp HS1.out (StepF.comp HS3.out (StepF.comp hS4 (StepF.pure_ _ _)))).to (rdPg_eq L)
      have hcl2 : ∀ l' s'', StepF (rdRep (rdPg L) (m.toNat - (j + 1))) s4 l' s'' → StepF (rdRep (rdPg L) m.toNat) s2 ((acc ++ [⟨v1, l3⟩]) ++ l') s'' := fun l' s'' hh => by
        rw [List.append_assoc]
        refine HCL.out ([⟨v1, l3⟩] ++ l') s'' ?_
        rw [hi]
        rw [show m.toNat - (j + 1) = i by omega] at hh
        exact StepF.cons hstep hh
      have HCL2 := Lib.hid hcl2
      have k0 : (u3.setCell ⟨wr.heap.size, 1, none⟩ (.slice Ac l3.length cc)).cell? ⟨wr.heap.size, 0, none⟩ = some (Value.int .i64 v1) := hI3.cell 0 rfl
      have k1 : (u3.setCell ⟨wr.heap.size, 1, none⟩ (.slice Ac l3.length cc)).cell? ⟨wr.heap.size, 1, none⟩ = some (Value.slice Ac l3.length cc) := hI3.cell 1 rfl
      have HI := Lib.hid hI3
      have hown1 := hown.kept hI3.gr (by omega)
      have HOW : RowKit.Hid (∃ xs, OwnR encPg 2 wr (w.heap.size + 1) 163 (.slice A' j c') xs) := Lib.hid (by obtain ⟨xs, hxo, _⟩ := hown; exact ⟨xs, hxo⟩)
      clear hJ hI2 hg3 hR3 hS4 hcl2 hI3 hgS hstep hR' HCL
      go_wp2_with (refine wpList_stop 40 rfl ?_)
      refine ⟨?_⟩
      clear hc hf
      generalize u3.setCell ⟨wr.heap.size, 1, none⟩ (.slice Ac l3.length cc) = W4 at *
      have szW := HI.out.sz
      have hl2 := hown1.len
      obtain ⟨xs, hown2, hxl, hxe⟩ := hown1
      have hlx : xs.length = j := by omega
      have Hl2 := Lib.hid hlx
      have ha : Below W4.heap.size W4 (W4.alloc (.cells #[.int .i64 v1, .slice Ac l3.length cc] 163)) := (Below.refl _ _).alloc (Nat.le_refl _) _
      have hone : Recs encPg (fun _ => True) (W4.alloc (.cells #[.int .i64 v1, .slice Ac l3.length cc] 163)) (.slice (some ⟨W4.heap.size, 0, none⟩) 1 1) [⟨v1, Ac, l3.length, cc⟩] := ⟨_, 1, rfl, by simp, by simp [maxLen], Cs.lit _ _ _ _ _ trivial rfl⟩
      have hcl : Recs encZ (fun b => w.heap.size + 1 ≤ b ∧ (Value.slice A' j c').ownBlock ≠ some b) W4 (.slice Ac l3.length cc) l3 := hO3.recs.mono (fun b _ hs => ⟨by have := hs.1; omega, fun e => by
        obtain ⟨ys, hyo⟩ := HOW.out
        have := (World.ownsRow.lt hyo _ e).2
        have := hs.1
        omega⟩)
      go_wp2_with (refine wpList_appR (o := ⟨some 42, _, _, _, _, _⟩) encPg_len encPg_one (.agg #[.int .i64 0, .slice none 0 0]) 32 _ _ 101 163 (w.heap.size + 1) xs [⟨v1, Ac, l3.length, cc⟩] (some ⟨W4.heap.size, 0, none⟩) 1 1 (.slice A' j c') (j + 1) rfl rfl Tryz.underlying101 infoP_ rfl (by omega) rfl rfl (hown2.ext ha) hone (by rw [Hl2.out]) (by have := Hl2.out; omega) (by have := Hl2.out; omega) (by simp; omega) ?_; intro A9 c9 w9 hown9 hgr9 hat9 hc91 hc92)
      have hrow9 : ∀ b, (Value.slice A' j c').ownBlock = some b → w.heap.size + 1 ≤ b := fun b e => (World.ownsRow.lt hown2 _ e).1
      have hR9 := (HI.out.rd.ext ha).grown hgr9 (fun b hb => by have := hrow9 b hb; omega)
      have hbl9 : Below w.heap.size w w9 := (hown2.ext ha).grow hgr9 (Below.ext (Below.grow hbl HI.out.gr (Nat.le_refl _)) ha) (by omega) (by have := ha.size; have := HI.out.sz; omega)
      refine ⟨⟨j + 1, A9, c9, acc ++ [⟨v1, l3⟩], s4, by congr 1, rfl, by omega, PgsOwn.push ⟨hxl, fun i x' t' hx' ht' => ⟨(hxe i x' t' hx' ht').1, (hxe i x' t' hx' ht').2.ext ha⟩⟩ ⟨v1, Ac, l3.length, cc⟩ ⟨v1, l3⟩ rfl (hcl.ext ha) hown9 hgr9 hat9, hR9, hbl9, fun _ _ => hbm, by omega, HCL2.out⟩, by simp [intOf]; omega⟩
    · have hfin : StepF (rdPgs L) (stB L k) acc sr := by
        have h2 : StepF (rdRep (rdPg L) m.toNat) s2 acc sr := by
          rw [← List.append_nil acc]
          refine HCL.out [] sr ?_
          cases sr with
          | error x => exact StepF.er _ _ _
          | ok q =>
            have : ¬ (j : Int) < m := fun hx => hgo ⟨hx, q, rfl⟩
            rw [show m.toNat - j = 0 by omega]
            exact StepF.pure_ _ _
        exact (StepF.comp HS2.out h2).to (rdList_cnt (rdPg L) L)
      have hl := hown.len.1
      have hownW := hown.weak (show w.heap.size ≤ w.heap.size + 1 by omega)
      clear HCL
      cases hs : sr with
      | error x =>
        rw [hs] at hR hfin
        have hf := hfin.err_
        obtain ⟨h0, u, pp, h1⟩ := hR
        have ce : wr.cell? ⟨w.heap.size, 2, none⟩ = some (.int .i64 (x : Int)) := by rw [cell_of_row _ _ _ _ _ _ h1]; rfl
        have d : ((x : Int) != 0) = true := by simp; omega
        have d' : ((x : Int) == 0) = false := by simp; omega
        clear h1 hgo hfin hnn
        have fin : ∀ (w' : World), w' = wr.drew → RdOut (rdAt rdPgs L k) (.slice none 0 0) (fun a w' v => ∃ A c, v = .slice A a.length c ∧ PgsOwn w.heap.size w' v a) (.returned (.tuple #[.slice none 0 0, .int .i64 0, .int .i64 (x : Int)])) w' ∧ Below w.heap.size w w' := by
          rintro w' rfl
          rw [rdAt_st, hf]
          exact ⟨rfl, hbl.drew⟩
        have FIN := Lib.hid fin
        clear fin hf
        by_cases hlt2 : (j : Int) < m
        · have dk : decide ((j : Int) < m) = true := by simpa using hlt2
          go_wp2_with fail
          go_wp2_with fail
          refine wp_region_lex (fun _ => True) (by kernel_rfl) (by kernel_rfl) trivial ?_
          repeat (first | (refine lex_q rfl ⟨default, trivial⟩ ?_; go_big_quiet_step (fail); refine wpQuiet_nil ?_) | (refine lex_skip rfl rfl trivial ?_; simp only [Act.put, List.setIfInBounds_toArray, List.set_cons_succ, List.set_cons_zero]) | (refine lex_e rfl ?_; go_wp2_with fail; refine lex_go trivial ?_))
          refine lex_nil ?_
          go_wp2_with fail
          go_wp2
          refine bodyPost_ret (results_tmp3 rfl _ _ _) rfl ?_
          exact FIN.out _ rfl
        · have dk : decide ((j : Int) < m) = false := by simpa using hlt2
          go_wp2_with fail
          go_wp2_with fail
          refine wp_region_lex (fun _ => True) (by kernel_rfl) (by kernel_rfl) trivial ?_
          repeat (first | (refine lex_q rfl ⟨default, trivial⟩ ?_; go_big_quiet_step (fail); refine wpQuiet_nil ?_) | (refine lex_skip rfl rfl trivial ?_; simp only [Act.put, List.setIfInBounds_toArray, List.set_cons_succ, List.set_cons_zero]) | (refine lex_e rfl ?_; go_wp2_with fail; refine lex_go trivial ?_))
          refine lex_nil ?_
          go_wp2_with fail
          go_wp2
          refine bodyPost_ret (results_tmp3 rfl _ _ _) rfl ?_
          exact FIN.out _ rfl
      | ok q =>
        rw [hs] at hR hfin
        have hf := hfin.ok_
        have hlt2 : ¬ (j : Int) < m := fun hx => hgo ⟨hx, q, hs⟩
        have dk : decide ((j : Int) < m) = false := by simpa using hlt2
        obtain ⟨hB', Ar, cr, h1, hby, hq, hL⟩ := hR
        have c1 : wr.cell? ⟨w.heap.size, 1, none⟩ = some (.int .i64 (q : Int)) := by rw [cell_of_row _ _ _ _ _ _ h1]; rfl
        have ce : wr.cell? ⟨w.heap.size, 2, none⟩ = some (.int .i64 0) := by rw [cell_of_row _ _ _ _ _ _ h1]; rfl
        clear h1 hby hgo hfin hnn hq
        go_wp2_with fail
        go_wp2_with fail
        refine wp_region_lex (fun _ => True) (by kernel_rfl) (by kernel_rfl) trivial ?_
        repeat (first | (refine lex_q rfl ⟨default, trivial⟩ ?_; go_big_quiet_step (fail); refine wpQuiet_nil ?_) | (refine lex_skip rfl rfl trivial ?_; simp only [Act.put, List.setIfInBounds_toArray, List.set_cons_succ, List.set_cons_zero]) | (refine lex_e rfl ?_; go_wp2_with fail; refine lex_go trivial ?_))
        refine lex_nil ?_
        go_wp2_with fail
        go_wp2
        refine bodyPost_ret (results_tmp3 rfl _ _ _) rfl ?_
        rw [rdAt_st, hf]
        exact ⟨⟨_, rfl, A', c', by show Value.slice A' j c' = _; rw [hl], hownW.dr⟩, hbl.drew⟩
end Go.Proofs.YtiblijmngokcgaaGreatDoor
namespace Go.Proofs.YtiblijmngokcgaaGreatDoor
open Go.RowKit
set_option maxRecDepth 100000
set_option linter.unusedVariables false
def StV (S : Nat → Prop) (w : World) (v : Value) (s : Stt) : Prop := ∃ A1 c1 A2 c2 A3 c3 A4 c4, v = .agg #[.slice A1 s.cells.length c1, .slice A2 s.evs.length c2, .slice A3 s.sent.length c3, .slice A4 s.outs.length c4] ∧ Recs encZ S w (.slice A1 s.cells.length c1) s.cells ∧ Recs encEv S w (.slice A2 s.evs.length c2) s.evs ∧ Recs encSn S w (.slice A3 s.sent.length c3) s.sent ∧ Recs encOu S w (.slice A4 s.outs.length c4) s.outs
structure SK (L : List UInt8) (w : World) (b8 base : Nat) (cs : Array Value) (K : World → Prop) (wr : World) (s : Except Nat Nat) : Prop where
  rk : RK (w.heap.size + 1) (w.heap.size + 1) L w w.heap.size #[Value.slice none 0 0, Value.slice none 0 0, Value.slice none 0 0, Value.slice none 0 0] b8 51 wr s cs
  rl : w.heap.size + 1 < b8
  lo : b8 < base
  sz : base ≤ wr.heap.size
  kp : K wr
  hK : ∀ w1 w2, Keep (fun b => b8 < b ∧ b < base) w1 w2 → K w1 → K w2
section
variable {L : List UInt8} {w wr w' : World} {b8 base : Nat} {cs : Array Value} {K : World → Prop} {s s' : Except Nat Nat}
theorem SK.call (h : SK L w b8 base cs K wr s) (hR : RS (w.heap.size + 1) w' (w.heap.size + 1) L s') (hg : wr.grownBy w' (some (w.heap.size + 1))) : SK L w b8 base cs K w' s' :=
  ⟨h.rk.call hR hg, h.rl, h.lo, Nat.le_trans h.sz hg.size, h.hK _ _ (fun b hb hs => hg.block b hb (fun e => by have := h.rl; cases e; omega)) h.kp, h.hK⟩
theorem SK.ext (h : SK L w b8 base cs K wr s) (hb : Below wr.heap.size wr w') : SK L w b8 base cs K w' s :=
  ⟨h.rk.ext hb, h.rl, h.lo, Nat.le_trans h.sz hb.size, h.hK _ _ (fun b hb' hs => hb.block b hb') h.kp, h.hK⟩
theorem SK.grown {row : Option Nat} (h : SK L w b8 base cs K wr s) (hg : wr.grownBy w' row) (hr : ∀ m, row = some m → base ≤ m) : SK L w b8 base cs K w' s :=
  have hlo := h.lo
  have hrl := h.rl
  ⟨⟨h.rk.rd.grown hg (fun m hm => by have := hr m hm; omega), h.rk.bl.grown hg (by have := h.sz; omega) (fun m hm => by have := hr m hm; omega), h.rk.lo, h.rk.ne, (hg.block _ (Array.getElem?_eq_some_iff.1 h.rk.h4).1 (fun e => by have := hr _ e.symm; omega)).trans h.rk.h4, (hg.block _ (Array.getElem?_eq_some_iff.1 h.rk.h8).1 (fun e => by have := hr _ e.symm; omega)).trans h.rk.h8⟩, h.rl, h.lo, Nat.le_trans h.sz hg.size, h.hK _ _ (fun b hb hs => hg.block b hb (fun e => by have := hr _ e.symm; omega)) h.kp, h.hK⟩
theorem SK.set (h : SK L w b8 base cs K wr s) (o : Nat) (v : Value) : SK L w b8 base (cs.setIfInBounds o v) K (wr.setCell ⟨b8, o, none⟩ v) s :=
  have hg : wr.grownBy (wr.setCell ⟨b8, o, none⟩ v) (some b8) := grown_set ⟨rfl, rfl, rfl, Nat.le_refl _, fun _ _ _ => rfl⟩
  ⟨h.rk.set o v, h.rl, h.lo, Nat.le_trans h.sz hg.size, h.hK _ _ (fun b hb hs => hg.block b hb (fun e => by cases e; omega)) h.kp, h.hK⟩
theorem SK.next {α : Type} {enc : α → List Value} {k : Nat} {e : TypeId} {v : Value} {l : List α} (h : SK L w b8 base cs K wr s) (hO : OwnR enc k wr base e v l) : ∃ K' : World → Prop, (∀ w', K' w' → K w' ∧ Recs enc (fun b => b8 < b) w' v l) ∧ SK L w b8 wr.heap.size cs K' wr s := by
  have hlo := h.lo
  have hsz := h.sz
  refine ⟨fun w' => K w' ∧ Recs enc (fun b => b8 < b ∧ b < wr.heap.size) w' v l, fun w' hw => ⟨hw.1, hw.2.mono (fun b _ hs => hs.1)⟩, h.rk, h.rl, by omega, Nat.le_refl _, ⟨h.kp, hO.recs.mono (fun b hb hs => ⟨by have := hs.1; omega, hb⟩)⟩, fun w1 w2 hk hw => ⟨h.hK w1 w2 (fun b hb hs => hk b hb ⟨hs.1, by omega⟩) hw.1, hw.2.keep hk⟩⟩
end
theorem rdSt_eq (L : List UInt8) (p : Nat) : bnd (bnd (rdCnt L p) fun n q => rdRep (rdInt L) n.toNat q) (fun a p1 => bnd (bnd (rdCnt L p1) fun n q => rdRep (rdEv L) n.toNat q) fun b p2 => bnd (bnd (rdCnt L p2) fun n q => rdRep (rdSn L) n.toNat q) fun c p3 => bnd (bnd (rdCnt L p3) fun n q => rdRep (rdOu L) n.toNat q) fun d p4 => .ok (⟨a, b, c, d⟩, p4)) = rdSt L p := by
  simp only [rdList_cnt]
  rfl
set_option maxHeartbeats 2000000 in
theorem refState_any (A : Option Addr) (n c : Nat) (k : Int) (L : List UInt8) (S : Nat → Prop) (w : World) (hb : Bytes S w (.slice A n c) L) (hn : n ≤ 100000000) :
    Calls Tryz.prog 92 #[.slice A n c, .int .i64 k] w fun e w' => RdOut (rdAt rdSt L k) (.agg #[Value.slice none 0 0, Value.slice none 0 0, Value.slice none 0 0, Value.slice none 0 0]) (fun a w' v => StV (w.heap.size ≤ ·) w' v a) e w' ∧ Below w.heap.size w w' := by
  obtain ⟨W, hW⟩ : ∃ W, W = w.alloc (.cells #[Value.slice none 0 0, Value.slice none 0 0, Value.slice none 0 0, Value.slice none 0 0] 51) := ⟨_, rfl⟩
  have hbW : Below w.heap.size w W := by rw [hW]; exact (Below.refl _ _).alloc (Nat.le_refl _) _
  have r0 : W.heap[w.heap.size]? = some (.cells #[Value.slice none 0 0, Value.slice none 0 0, Value.slice none 0 0, Value.slice none 0 0] 51 (0, 0)) := by rw [hW]; exact heap_alloc_new _ _
  have hsW : W.heap.size = w.heap.size + 1 := by rw [hW]; simp
  have hbL := hb.len
  go_enter Tryz.func92, Tryz.ntmps92
  go_wp2_with fail
  rw [← hW]
  clear hW
  refine (begin_any A n c k L S W (hb.ext hbW) hn).mono ?_
  rintro e w1 ⟨rfl, hR1, hb1⟩
  rw [hsW] at hR1
  rw [hsW]
  have r1 := (hb1.block w.heap.size (by omega)).trans r0
  have b1 := Below.ext hbW hb1
  have hsz1 : w.heap.size + 2 ≤ w1.heap.size := hR1.lt
  clear r0 hb1
  obtain ⟨W0, hW0⟩ : ∃ W0, W0 = w1.alloc (.cells #[Value.slice none 0 0, Value.slice none 0 0, Value.slice none 0 0, Value.slice none 0 0] 51) := ⟨_, rfl⟩
  have hb0 : Below w1.heap.size w1 W0 := by rw [hW0]; exact (Below.refl _ _).alloc (Nat.le_refl _) _
  have r8 : W0.heap[w1.heap.size]? = some (.cells #[Value.slice none 0 0, Value.slice none 0 0, Value.slice none 0 0, Value.slice none 0 0] 51 (0, 0)) := by rw [hW0]; exact heap_alloc_new _ _
  have hI0 : RK (w.heap.size + 1) (w.heap.size + 1) L w w.heap.size #[Value.slice none 0 0, Value.slice none 0 0, Value.slice none 0 0, Value.slice none 0 0] w1.heap.size 51 W0 (stB L k) #[Value.slice none 0 0, Value.slice none 0 0, Value.slice none 0 0, Value.slice none 0 0] := ⟨hR1.ext hb0, Below.ext b1 hb0, ⟨by omega, by omega, by omega, by omega⟩, ⟨by omega, by omega, by omega⟩, (hb0.block _ (by omega)).trans r1, r8⟩
  have hK0 : SK L w w1.heap.size (w1.heap.size + 1) #[Value.slice none 0 0, Value.slice none 0 0, Value.slice none 0 0, Value.slice none 0 0] (fun _ => True) W0 (stB L k) := ⟨hI0, by omega, by omega, (Array.getElem?_eq_some_iff.1 r8).1, trivial, fun _ _ _ _ => trivial⟩
  clear r8 hb0 r1 b1 hR1 hI0
  go_wp2_with fail
  rw [← hW0]
  clear hW0
  refine (refcount_s (w.heap.size + 1) (w.heap.size + 1) (stB L k) L W0 hK0.rk.rd).mono ?_
  rintro e u1 ⟨m1, s1, rfl, hS1, hR, hg, hm1⟩
  have hK1 := hK0.call hR hg
  have sz1 := hK1.sz
  clear hK0 hg hR
  have HS1 := Lib.hid hS1
  clear hS1
  go_wp2_with fail
  refine (refints_s (w.heap.size + 1) (w.heap.size + 1) s1 L m1 u1 hK1.rk.rd (by omega) (fun q hq => by have := hm1 q hq; omega)).mono ?_
  rintro e u2 ⟨A1, c1, l1, s2, rfl, hO1, hS2, hR, hg⟩
  have HSa := Lib.hid (StepF.comp (g := fun n q => rdRep (rdInt L) n.toNat q) HS1.out hS2)
  have hJ := hK1.call hR hg
  have hc := hJ.rk.cell 0 (v := .slice none 0 0) rfl
  have hf := hJ.rk.frz 0
  have hgS : u2.grownBy (u2.setCell ⟨w1.heap.size, 0, none⟩ (.slice A1 l1.length c1)) (some w1.heap.size) := grown_set ⟨rfl, rfl, rfl, Nat.le_refl _, fun _ _ _ => rfl⟩
  have hO1 := (hO1.kept_lt hgS (by omega)).weak (show w1.heap.size + 1 ≤ u1.heap.size by omega)
  have hI2 : SK L w w1.heap.size (w1.heap.size + 1) #[.slice A1 l1.length c1, .slice none 0 0, .slice none 0 0, .slice none 0 0] (fun _ => True) (u2.setCell ⟨w1.heap.size, 0, none⟩ (.slice A1 l1.length c1)) s2 := hJ.set 0 (.slice A1 l1.length c1)
  clear hJ hK1 hg hR hgS hS2 hm1 HS1
  go_wp2_with fail
  clear hc hf
  generalize u2.setCell ⟨w1.heap.size, 0, none⟩ (.slice A1 l1.length c1) = W2 at *
  obtain ⟨K2, hKK2, hK2⟩ := hI2.next hO1
  clear hI2 hO1
  refine (refcount_s (w.heap.size + 1) (w.heap.size + 1) s2 L W2 hK2.rk.rd).mono ?_
  rintro e u2 ⟨m2, c2, rfl, hS, hR, hg, hm2⟩
  have HC2 := Lib.hid hS
  have HK2 := Lib.hid (hK2.call hR hg)
  clear hK2 hS hR hg
  go_upto_block 0 with fail
  go_cut [] from 26 (fun wx => ∃ (A9 : Option Addr) (c9 : Nat) (l9 : List Ev) (s9 : Except Nat Nat), SK L w w1.heap.size W2.heap.size #[.slice A1 l1.length c1, .slice A9 l9.length c9, .slice none 0 0, .slice none 0 0] K2 wx s9 ∧ OwnR encEv 7 wx W2.heap.size 78 (.slice A9 l9.length c9) l9 ∧ StepF (rdRep (rdEv L) m2.toNat) c2 l9 s9)
  case first =>
    go_wp2_with fail
    go_loopw [10] (fun i wr => ∃ (j : Nat) (A' : Option Addr) (c' : Nat) (acc : List Ev) (sr : Except Nat Nat), i = .int .i64 j ∧ j ≤ m2.toNat ∧ SK L w w1.heap.size W2.heap.size #[.slice A1 l1.length c1, .slice A' j c', .slice none 0 0, .slice none 0 0] K2 wr sr ∧ OwnR encEv 7 wr W2.heap.size 78 (.slice A' j c') acc ∧ (∀ q, sr = .ok q → 0 ≤ m2 ∧ m2 ≤ 1000000000) ∧ j ≤ 1000000000 ∧ ∀ l' s'', StepF (rdRep (rdEv L) (m2.toNat - j)) sr l' s'' → StepF (rdRep (rdEv L) m2.toNat) c2 (acc ++ l') s'') (fun i _ => m2.toNat - (intOf i).toNat)
    case atStart => exact ⟨0, none, 0, [], c2, rfl, by omega, HK2.out, OwnR.nil_ _ _ _, fun q hq => by have := hm2 q hq; omega, by omega, fun l' s'' hh => hh⟩
    case round =>
      clear hm2 HK2
      obtain ⟨j, A', c', acc, sr, rfl, hj, hK, hown, hnn, hk9, hcl⟩ := hrel
      have HCL := Lib.hid hcl
      clear hcl
      have hz := hK.sz
      have hlo := hK.lo
      have hrl := hK.rl
      by_cases hgo : (j : Int) < m2 ∧ ∃ q, sr = .ok q
      · obtain ⟨hlt2, q, rfl⟩ := hgo
        have dk : decide ((j : Int) < m2) = true := by simpa using hlt2
        have hbm := hnn q rfl
        have HK := Lib.hid hK
        have q1 : wr.cell? ⟨w1.heap.size, 1, none⟩ = some (.slice A' j c') := hK.rk.cell 1 rfl
        obtain ⟨hB', Ar, cr, h1, hby, hq, hL⟩ := hK.rk.rd
        have ce2 : wr.cell? ⟨w.heap.size + 1, 2, none⟩ = some (.int .i64 0) := by rw [cell_of_row _ _ _ _ _ _ h1]; rfl
        clear h1 hby hK
        obtain ⟨i, hi⟩ : ∃ i, m2.toNat - j = i + 1 := ⟨m2.toNat - j - 1, by omega⟩
        go_wp2_with fail
        refine wp_region_tail (fun w' => w'.cell? ⟨w1.heap.size, 1, none⟩ = some (.slice A' j c')) 5 (by kernel_rfl) (by kernel_rfl) (by kernel_rfl) (by decide) q1 ?_
        simp only [List.take_succ_cons, List.take_zero, List.drop_succ_cons, List.drop_zero]
        repeat (first | (refine lexL_q0 rfl ?_; go_big_quiet_step (fail); refine wpQuiet_nil ?_) | (refine lexL_skip0 rfl rfl ?_; simp only [Act.put, List.setIfInBounds_toArray, List.set_cons_succ, List.set_cons_zero]))
        refine lexL_ld (⟨w1.heap.size, 1, none⟩) (.slice A' j c') rfl rfl rfl (fun w' hw' => run_ld1 (by kernel_rfl) hw') ?_
        simp only [Act.put, List.setIfInBounds_toArray, List.set_cons_succ, List.set_cons_zero]
        repeat (first | (refine lexL_q0 rfl ?_; go_big_quiet_step (fail); refine wpQuiet_nil ?_) | (refine lexL_skip0 rfl rfl ?_; simp only [Act.put, List.setIfInBounds_toArray, List.set_cons_succ, List.set_cons_zero]))
        refine lexL_e rfl ?_
        go_wp2_with fail
        refine (refevent_s (w.heap.size + 1) (w.heap.size + 1) (.ok q) L wr.drew HK.out.rk.rd.drew (by show w.heap.size + 1 ≤ wr.heap.size; omega)).mono ?_
        rintro e u1 ⟨a, s5, rfl, hS5, hR5, hg5⟩
        have hg5' : wr.grownBy u1 (some (w.heap.size + 1)) := ⟨hg5.os, hg5.tape, hg5.output, hg5.size, hg5.block⟩
        have hK5 := HK.out.call hR5 hg5'
        have q5 : u1.cell? ⟨w1.heap.size, 1, none⟩ = some (.slice A' j c') := hK5.rk.cell 1 rfl
        have hown5 := hown.kept_lt hg5' (by omega)
        have hcl2 : ∀ l' s'', StepF (rdRep (rdEv L) (m2.toNat - (j + 1))) s5 l' s'' → StepF (rdRep (rdEv L) m2.toNat) c2 ((acc ++ [a]) ++ l') s'' := fun l' s'' hh => by
          rw [List.append_assoc]
          refine HCL.out ([a] ++ l') s'' ?_
          rw [hi]
          rw [show m2.toNat - (j + 1) = i by omega] at hh
          exact StepF.cons hS5 hh
        have HCL2 := Lib.hid hcl2
        clear hcl2 HCL hS5
        unfold evV
        have ha : Below u1.heap.size u1 (u1.alloc (.cells #[.int .i64 a.k0, .int .i64 a.k1, .int .i64 a.k2, .int .i64 a.k3, .int .i64 a.k4, .int .i64 a.k5, .int .i64 a.k6] 78)) := (Below.refl _ _).alloc (Nat.le_refl _) _
        have hone : Recs encEv (fun _ => True) (u1.alloc (.cells #[.int .i64 a.k0, .int .i64 a.k1, .int .i64 a.k2, .int .i64 a.k3, .int .i64 a.k4, .int .i64 a.k5, .int .i64 a.k6] 78)) (.slice (some ⟨u1.heap.size, 0, none⟩) 1 1) [a] := ⟨_, 1, rfl, by simp, by simp [maxLen], Cs.lit _ _ _ _ _ trivial rfl⟩
        have HK6 := Lib.hid (hK5.ext ha)
        have q6 : (u1.alloc (.cells #[.int .i64 a.k0, .int .i64 a.k1, .int .i64 a.k2, .int .i64 a.k3, .int .i64 a.k4, .int .i64 a.k5, .int .i64 a.k6] 78)).cell? ⟨w1.heap.size, 1, none⟩ = some (.slice A' j c') := HK6.out.rk.cell 1 rfl
        have Hl5 := Lib.hid hown5.len.1
        have hz5 := hK5.sz
        clear hK5 hg5 hg5' hR5 hown HK
        go_wp2_with fail
        refine lexL_go (q5) ?_
        repeat (first | (refine lexL_q0 rfl ?_; go_big_quiet_step (fail); refine wpQuiet_nil ?_) | (refine lexL_skip0 rfl rfl ?_; simp only [Act.put, List.setIfInBounds_toArray, List.set_cons_succ, List.set_cons_zero]))
        refine lexL_e rfl ?_
        go_wp2_with fail
        refine lexL_go q6 ?_
        clear q6 q5 q1 ce2
        refine lexL_nil ?_
        refine wpList_appR encEv_len encEv_one (.agg #[.int .i64 0, .int .i64 0, .int .i64 0, .int .i64 0, .int .i64 0, .int .i64 0, .int .i64 0]) 56 _ _ 30 78 W2.heap.size acc [a] (some ⟨u1.heap.size, 0, none⟩) 1 1 (.slice A' j c') (j + 1) rfl rfl Tryz.underlying30 infoE_ rfl (by omega) rfl rfl (hown5.ext ha) hone (by rw [Hl5.out]) (by have := Hl5.out; omega) (by have := Hl5.out; omega) (by simp; omega) ?_
        intro A9 c9 w9 hown9 hgr9 hat9 hc91 hc92
        have hK9 := (HK6.out.grown hgr9 (fun b hb => (World.ownsRow.lt hown5 b hb).1))
        have q9 : w9.frozen? ⟨w1.heap.size, 1, none⟩ = false := hK9.rk.frz 1
        have q9' : w9.cell? ⟨w1.heap.size, 1, none⟩ = some (.slice A' j c') := hK9.rk.cell 1 rfl
        have hgS : w9.grownBy (w9.setCell ⟨w1.heap.size, 1, none⟩ (.slice A9 (j + 1) c9)) (some w1.heap.size) := grown_set ⟨rfl, rfl, rfl, Nat.le_refl _, fun _ _ _ => rfl⟩
        have HO9 := Lib.hid (hown9.kept_lt hgS (by omega))
        have HK9 : RowKit.Hid (SK L w w1.heap.size W2.heap.size #[.slice A1 l1.length c1, .slice A9 (j + 1) c9, .slice none 0 0, .slice none 0 0] K2 (w9.setCell ⟨w1.heap.size, 1, none⟩ (.slice A9 (j + 1) c9)) s5) := Lib.hid (hK9.set 1 (.slice A9 (j + 1) c9))
        clear hK9 hgS hown9
        go_wp2_with fail
        rw [Only_normal]
        go_wp2
        go_roundw
        case rel => exact ⟨j + 1, A9, c9, acc ++ [a], s5, by congr 1, by omega, HK9.out, HO9.out, fun _ _ => hbm, by omega, HCL2.out⟩
        case measure => simp [intOf]; omega
      · have hfin : StepF (rdRep (rdEv L) m2.toNat) c2 acc sr := by
          rw [← List.append_nil acc]
          refine HCL.out [] sr ?_
          cases sr with
          | error x => exact StepF.er _ _ _
          | ok q =>
            have : ¬ (j : Int) < m2 := fun hx => hgo ⟨hx, q, rfl⟩
            rw [show m2.toNat - j = 0 by omega]
            exact StepF.pure_ _ _
        have hl := hown.len.1
        have HFIN : RowKit.Hid (∃ (A9 : Option Addr) (c9 : Nat) (l9 : List Ev) (s9 : Except Nat Nat), SK L w w1.heap.size W2.heap.size #[.slice A1 l1.length c1, .slice A9 l9.length c9, .slice none 0 0, .slice none 0 0] K2 wr s9 ∧ OwnR encEv 7 wr W2.heap.size 78 (.slice A9 l9.length c9) l9 ∧ StepF (rdRep (rdEv L) m2.toNat) c2 l9 s9) := Lib.hid ⟨A', c', acc, sr, by rw [hl]; exact hK, by rw [hl]; exact hown, hfin⟩
        by_cases hlt2 : (j : Int) < m2
        · have dk : decide ((j : Int) < m2) = true := by simpa using hlt2
          cases hs : sr with
          | ok q => exact (hgo ⟨hlt2, q, hs⟩).elim
          | error x =>
            obtain ⟨h0, u, pp, h1⟩ : RS (w.heap.size + 1) wr (w.heap.size + 1) L (.error x) := by rw [← hs]; exact hK.rk.rd
            have ce : wr.cell? ⟨w.heap.size + 1, 2, none⟩ = some (.int .i64 (x : Int)) := by rw [cell_of_row _ _ _ _ _ _ h1]; rfl
            have d' : ((x : Int) == 0) = false := by simp; omega
            clear h1 hgo hfin hnn hK HCL hown
            go_wp2
            go_meet
            case rel => exact HFIN.out
        · have dk : decide ((j : Int) < m2) = false := by simpa using hlt2
          clear hgo hfin hnn hK HCL hown
          go_wp2
          go_meet
          case rel => exact HFIN.out
  case rest =>
    obtain ⟨A2, c2', l2, s4, hKx, hO2, hS4⟩ := hcut
    have HSb := Lib.hid (StepF.comp (g := fun n q => rdRep (rdEv L) n.toNat q) HC2.out hS4)
    obtain ⟨K3, hKK3, hK3⟩ := hKx.next hO2
    clear hKx hO2 hS4 HC2
    generalize hwc : wc = W3 at *
    go_wp2_with fail
    refine (refcount_s (w.heap.size + 1) (w.heap.size + 1) s4 L W3 hK3.rk.rd).mono ?_
    rintro e u3 ⟨m3, c3, rfl, hS, hR, hg, hm3⟩
    have HC3 := Lib.hid hS
    have HK3 := Lib.hid (hK3.call hR hg)
    clear hK3 hS hR hg
    go_upto_block 2 with fail
    go_cut [] from 47 (fun wx => ∃ (A9 : Option Addr) (c9 : Nat) (l9 : List Snd) (s9 : Except Nat Nat), SK L w w1.heap.size W3.heap.size #[.slice A1 l1.length c1, .slice A2 l2.length c2', .slice A9 l9.length c9, .slice none 0 0] K3 wx s9 ∧ OwnR encSn 4 wx W3.heap.size 127 (.slice A9 l9.length c9) l9 ∧ StepF (rdRep (rdSn L) m3.toNat) c3 l9 s9)
    case first =>
      go_wp2_with fail
      go_loopw [11] (fun i wr => ∃ (j : Nat) (A' : Option Addr) (c' : Nat) (acc : List Snd) (sr : Except Nat Nat), i = .int .i64 j ∧ j ≤ m3.toNat ∧ SK L w w1.heap.size W3.heap.size #[.slice A1 l1.length c1, .slice A2 l2.length c2', .slice A' j c', .slice none 0 0] K3 wr sr ∧ OwnR encSn 4 wr W3.heap.size 127 (.slice A' j c') acc ∧ (∀ q, sr = .ok q → 0 ≤ m3 ∧ m3 ≤ 1000000000) ∧ j ≤ 1000000000 ∧ ∀ l' s'', StepF (rdRep (rdSn L) (m3.toNat - j)) sr l' s'' → StepF (rdRep (rdSn L) m3.toNat) c3 (acc ++ l') s'') (fun i _ => m3.toNat - (intOf i).toNat)
      case atStart => exact ⟨0, none, 0, [], c3, rfl, by omega, HK3.out, OwnR.nil_ _ _ _, fun q hq => by have := hm3 q hq; omega, by omega, fun l' s'' hh => hh⟩
      case round =>
        clear hm3 HK3
        obtain ⟨j, A', c', acc, sr, rfl, hj, hK, hown, hnn, hk9, hcl⟩ := hrel
        have HCL := Lib.hid hcl
        clear hcl
        have hz := hK.sz
        have hlo := hK.lo
        have hrl := hK.rl
        by_cases hgo : (j : Int) < m3 ∧ ∃ q, sr = .ok q
        · obtain ⟨hlt2, q, rfl⟩ := hgo
          have dk : decide ((j : Int) < m3) = true := by simpa using hlt2
          have hbm := hnn q rfl
          have HK := Lib.hid hK
          have q1 : wr.cell? ⟨w1.heap.size, 2, none⟩ = some (.slice A' j c') := hK.rk.cell 2 rfl
          obtain ⟨hB', Ar, cr, h1, hby, hq, hL⟩ := hK.rk.rd
          have ce2 : wr.cell? ⟨w.heap.size + 1, 2, none⟩ = some (.int .i64 0) := by rw [cell_of_row _ _ _ _ _ _ h1]; rfl
          clear h1 hby hK
          obtain ⟨i, hi⟩ : ∃ i, m3.toNat - j = i + 1 := ⟨m3.toNat - j - 1, by omega⟩
          obtain ⟨X0, hX0, hI0⟩ := RJ.new #[.int .i64 0, .int .i64 0, .int .i64 0, .int .i64 0] 127 HK.out.rk.rd (by omega)
          go_wp2_with fail
          rw [← hX0]
          clear hX0 ce2 q1
          refine (refint_s (w.heap.size + 1) (w.heap.size + 1) (.ok q) L X0 hI0.rd).mono ?_
          rintro e y1 ⟨v1, t1, rfl, hT1, hR, hg⟩
          have hJ := hI0.call hR hg
          have hc := hJ.cell 0 (v := .int .i64 0) rfl
          have hf := hJ.frz 0
          have hI1 : RJ (w.heap.size + 1) (w.heap.size + 1) L 127 wr (y1.setCell ⟨wr.heap.size, 0, none⟩ (.int .i64 v1)) t1 #[.int .i64 v1, .int .i64 0, .int .i64 0, .int .i64 0] := hJ.set 0 (.int .i64 v1)
          have HT1 := Lib.hid hT1
          clear hJ hI0 hg hR hT1
          go_wp2_with fail
          clear hc hf
          generalize y1.setCell ⟨wr.heap.size, 0, none⟩ (.int .i64 v1) = X1 at *
          refine (refint_s (w.heap.size + 1) (w.heap.size + 1) t1 L X1 hI1.rd).mono ?_
          rintro e y2 ⟨v2, t2, rfl, hT2, hR, hg⟩
          have hJ := hI1.call hR hg
          have hc := hJ.cell 1 (v := .int .i64 0) rfl
          have hf := hJ.frz 1
          have hI2 : RJ (w.heap.size + 1) (w.heap.size + 1) L 127 wr (y2.setCell ⟨wr.heap.size, 1, none⟩ (.int .i64 v2)) t2 #[.int .i64 v1, .int .i64 v2, .int .i64 0, .int .i64 0] := hJ.set 1 (.int .i64 v2)
          have HT2 := Lib.hid hT2
          clear hJ hI1 hg hR hT2
          go_wp2_with fail
          clear hc hf
          generalize y2.setCell ⟨wr.heap.size, 1, none⟩ (.int .i64 v2) = X2 at *
          refine (refint_s (w.heap.size + 1) (w.heap.size + 1) t2 L X2 hI2.rd).mono ?_
          rintro e y3 ⟨v3, t3, rfl, hT3, hR, hg⟩
          have hJ := hI2.call hR hg
          have hc := hJ.cell 2 (v := .int .i64 0) rfl
          have hf := hJ.frz 2
          have hI3 : RJ (w.heap.size + 1) (w.heap.size + 1) L 127 wr (y3.setCell ⟨wr.heap.size, 2, none⟩ (.int .i64 v3)) t3 #[.int .i64 v1, .int .i64 v2, .int .i64 v3, .int .i64 0] := hJ.set 2 (.int .i64 v3)
          have HT3 := Lib.hid hT3
          clear hJ hI2 hg hR hT3
          go_wp2_with fail
          clear hc hf
          generalize y3.setCell ⟨wr.heap.size, 2, none⟩ (.int .i64 v3) = X3 at *
          refine (refint_s (w.heap.size + 1) (w.heap.size + 1) t3 L X3 hI3.rd).mono ?_
          rintro e y4 ⟨v4, t4, rfl, hT4, hR, hg⟩
          have hJ := hI3.call hR hg
          have hc := hJ.cell 3 (v := .int .i64 0) rfl
          have hf := hJ.frz 3
          have hI4 : RJ (w.heap.size + 1) (w.heap.size + 1) L 127 wr (y4.setCell ⟨wr.heap.size, 3, none⟩ (.int .i64 v4)) t4 #[.int .i64 v1, .int .i64 v2, .int .i64 v3, .int .i64 v4] := hJ.set 3 (.int .i64 v4)
          have HT4 := Lib.hid hT4
          clear hJ hI3 hg hR hT4
          have hS5 : StepF (rdSn L) (.ok q) ⟨v1, v2, v3, v4⟩ t4 := (StepF.comp HT1.out (StepF.comp HT2.out (StepF.comp HT3.out (StepF.comp HT4.out (StepF.pure_ _ _)))))
          have HS5 := Lib.hid hS5
          clear hS5
          have k0 : (y4.setCell ⟨wr.heap.size, 3, none⟩ (.int .i64 v4)).cell? ⟨wr.heap.size, 0, none⟩ = some (Value.int .i64 v1) := hI4.cell 0 rfl
          have k1 : (y4.setCell ⟨wr.heap.size, 3, none⟩ (.int .i64 v4)).cell? ⟨wr.heap.size, 1, none⟩ = some (Value.int .i64 v2) := hI4.cell 1 rfl
          have k2 : (y4.setCell ⟨wr.heap.size, 3, none⟩ (.int .i64 v4)).cell? ⟨wr.heap.size, 2, none⟩ = some (Value.int .i64 v3) := hI4.cell 2 rfl
          have k3 : (y4.setCell ⟨wr.heap.size, 3, none⟩ (.int .i64 v4)).cell? ⟨wr.heap.size, 3, none⟩ = some (Value.int .i64 v4) := hI4.cell 3 rfl
          have HI := Lib.hid hI4
          have hown5 := hown.kept_lt HI.out.gr (by omega)
          have hK5 := HK.out.call HI.out.rd HI.out.gr
          have q5 : (y4.setCell ⟨wr.heap.size, 3, none⟩ (.int .i64 v4)).cell? ⟨w1.heap.size, 2, none⟩ = some (.slice A' j c') := hK5.rk.cell 2 rfl
          have HK5 := Lib.hid hK5
          clear hI4 hK5 hown
          go_wp2_with (refine wpList_stop 72 rfl ?_)
          refine ⟨?_⟩
          clear hc hf
          generalize y4.setCell ⟨wr.heap.size, 3, none⟩ (.int .i64 v4) = W4 at *
          obtain ⟨s5, hs5⟩ : ∃ s5, s5 = t4 := ⟨_, rfl⟩
          have hS5 := HS5.out
          rw [← hs5] at HI HK5 hS5
          clear hs5 HS5
          have hcl2 : ∀ l' s'', StepF (rdRep (rdSn L) (m3.toNat - (j + 1))) s5 l' s'' → StepF (rdRep (rdSn L) m3.toNat) c3 ((acc ++ [⟨v1, v2, v3, v4⟩]) ++ l') s'' := fun l' s'' hh => by
            rw [List.append_assoc]
            refine HCL.out ([⟨v1, v2, v3, v4⟩] ++ l') s'' ?_
            rw [hi]
            rw [show m3.toNat - (j + 1) = i by omega] at hh
            exact StepF.cons hS5 hh
          have HCL2 := Lib.hid hcl2
          clear hcl2 HCL hS5
          have ha : Below W4.heap.size W4 (W4.alloc (.cells #[.int .i64 v1, .int .i64 v2, .int .i64 v3, .int .i64 v4] 127)) := (Below.refl _ _).alloc (Nat.le_refl _) _
          have hone : Recs encSn (fun _ => True) (W4.alloc (.cells #[.int .i64 v1, .int .i64 v2, .int .i64 v3, .int .i64 v4] 127)) (.slice (some ⟨W4.heap.size, 0, none⟩) 1 1) [⟨v1, v2, v3, v4⟩] := ⟨_, 1, rfl, by simp, by simp [maxLen], Cs.lit _ _ _ _ _ trivial rfl⟩
          have HK6 := Lib.hid (HK5.out.ext ha)
          have Hl5 := Lib.hid hown5.len.1
          have hz5 := HK5.out.sz
          clear HK HI HK5
          go_wp2_with (refine wpList_appR (o := ⟨some 75, _, _, _, _, _⟩) encSn_len encSn_one (.agg #[.int .i64 0, .int .i64 0, .int .i64 0, .int .i64 0]) 32 _ _ 48 127 W3.heap.size acc [⟨v1, v2, v3, v4⟩] (some ⟨W4.heap.size, 0, none⟩) 1 1 (.slice A' j c') (j + 1) rfl rfl Tryz.underlying48 infoS_ rfl (by omega) rfl rfl (hown5.ext ha) hone (by rw [Hl5.out]) (by have := Hl5.out; omega) (by have := Hl5.out; omega) (by simp; omega) ?_; intro A9 c9 w9 hown9 hgr9 hat9 hc91 hc92; have hK9 := (HK6.out.grown hgr9 (fun b hb => (World.ownsRow.lt hown5 b hb).1)); have q9 : w9.frozen? ⟨w1.heap.size, 2, none⟩ = false := hK9.rk.frz 2; have q9' : w9.cell? ⟨w1.heap.size, 2, none⟩ = some (.slice A' j c') := hK9.rk.cell 2 rfl; have hgS : w9.grownBy (w9.setCell ⟨w1.heap.size, 2, none⟩ (.slice A9 (j + 1) c9)) (some w1.heap.size) := grown_set ⟨rfl, rfl, rfl, Nat.le_refl _, fun _ _ _ => rfl⟩; have HO9 := Lib.hid (hown9.kept_lt hgS (by omega)); have HK9 : RowKit.Hid (SK L w w1.heap.size W3.heap.size #[.slice A1 l1.length c1, .slice A2 l2.length c2', .slice A9 (j + 1) c9, .slice none 0 0] K3 (w9.setCell ⟨w1.heap.size, 2, none⟩ (.slice A9 (j + 1) c9)) s5) := Lib.hid (hK9.set 2 (.slice A9 (j + 1) c9)); clear hK9 hgS hown9)
          exact ⟨⟨j + 1, A9, c9, acc ++ [⟨v1, v2, v3, v4⟩], s5, by congr 1, by omega, HK9.out, HO9.out, fun _ _ => hbm, by omega, HCL2.out⟩, by simp [intOf]; omega⟩
        · have hfin : StepF (rdRep (rdSn L) m3.toNat) c3 acc sr := by
            rw [← List.append_nil acc]
            refine HCL.out [] sr ?_
            cases sr with
            | error x => exact StepF.er _ _ _
            | ok q =>
              have : ¬ (j : Int) < m3 := fun hx => hgo ⟨hx, q, rfl⟩
              rw [show m3.toNat - j = 0 by omega]
              exact StepF.pure_ _ _
          have hl := hown.len.1
          have HFIN : RowKit.Hid (∃ (A9 : Option Addr) (c9 : Nat) (l9 : List Snd) (s9 : Except Nat Nat), SK L w w1.heap.size W3.heap.size #[.slice A1 l1.length c1, .slice A2 l2.length c2', .slice A9 l9.length c9, .slice none 0 0] K3 wr s9 ∧ OwnR encSn 4 wr W3.heap.size 127 (.slice A9 l9.length c9) l9 ∧ StepF (rdRep (rdSn L) m3.toNat) c3 l9 s9) := Lib.hid ⟨A', c', acc, sr, by rw [hl]; exact hK, by rw [hl]; exact hown, hfin⟩
          by_cases hlt2 : (j : Int) < m3
          · have dk : decide ((j : Int) < m3) = true := by simpa using hlt2
            cases hs : sr with
            | ok q => exact (hgo ⟨hlt2, q, hs⟩).elim
            | error x =>
              obtain ⟨h0, u, pp, h1⟩ : RS (w.heap.size + 1) wr (w.heap.size + 1) L (.error x) := by rw [← hs]; exact hK.rk.rd
              have ce : wr.cell? ⟨w.heap.size + 1, 2, none⟩ = some (.int .i64 (x : Int)) := by rw [cell_of_row _ _ _ _ _ _ h1]; rfl
              have d' : ((x : Int) == 0) = false := by simp; omega
              clear h1 hgo hfin hnn hK HCL hown
              go_wp2
              go_meet
              case rel => exact HFIN.out
          · have dk : decide ((j : Int) < m3) = false := by simpa using hlt2
            clear hgo hfin hnn hK HCL hown
            go_wp2
            go_meet
            case rel => exact HFIN.out
    case rest =>
      obtain ⟨A3, c3', l3, s6, hKx, hO3, hS6⟩ := hcut
      have HSc := Lib.hid (StepF.comp (g := fun n q => rdRep (rdSn L) n.toNat q) HC3.out hS6)
      obtain ⟨K4, hKK4, hK4⟩ := hKx.next hO3
      clear hKx hO3 hS6 HC3
      generalize hwc2 : wc = W4 at *
      go_wp2_with fail
      refine (refcount_s (w.heap.size + 1) (w.heap.size + 1) s6 L W4 hK4.rk.rd).mono ?_
      rintro e u4 ⟨m4, c4, rfl, hS, hR, hg, hm4⟩
      have HC4 := Lib.hid hS
      have HK4 := Lib.hid (hK4.call hR hg)
      clear hK4 hS hR hg
      go_upto_block 4 with fail
      go_cut [] from 79 (fun wx => ∃ (A9 : Option Addr) (c9 : Nat) (l9 : List Ou) (s9 : Except Nat Nat), SK L w w1.heap.size W4.heap.size #[.slice A1 l1.length c1, .slice A2 l2.length c2', .slice A3 l3.length c3', .slice A9 l9.length c9] K4 wx s9 ∧ OwnR encOu 2 wx W4.heap.size 129 (.slice A9 l9.length c9) l9 ∧ StepF (rdRep (rdOu L) m4.toNat) c4 l9 s9)
      case first =>
        go_wp2_with fail
        go_loopw [13] (fun i wr => ∃ (j : Nat) (A' : Option Addr) (c' : Nat) (acc : List Ou) (sr : Except Nat Nat), i = .int .i64 j ∧ j ≤ m4.toNat ∧ SK L w w1.heap.size W4.heap.size #[.slice A1 l1.length c1, .slice A2 l2.length c2', .slice A3 l3.length c3', .slice A' j c'] K4 wr sr ∧ OwnR encOu 2 wr W4.heap.size 129 (.slice A' j c') acc ∧ (∀ q, sr = .ok q → 0 ≤ m4 ∧ m4 ≤ 1000000000) ∧ j ≤ 1000000000 ∧ ∀ l' s'', StepF (rdRep (rdOu L) (m4.toNat - j)) sr l' s'' → StepF (rdRep (rdOu L) m4.toNat) c4 (acc ++ l') s'') (fun i _ => m4.toNat - (intOf i).toNat)
        case atStart => exact ⟨0, none, 0, [], c4, rfl, by omega, HK4.out, OwnR.nil_ _ _ _, fun q hq => by have := hm4 q hq; omega, by omega, fun l' s'' hh => hh⟩
        case round =>
          clear hm4 HK4
          obtain ⟨j, A', c', acc, sr, rfl, hj, hK, hown, hnn, hk9, hcl⟩ := hrel
          have HCL := Lib.hid hcl
          clear hcl
          have hz := hK.sz
          have hlo := hK.lo
          have hrl := hK.rl
          by_cases hgo : (j : Int) < m4 ∧ ∃ q, sr = .ok q
          · obtain ⟨hlt2, q, rfl⟩ := hgo
            have dk : decide ((j : Int) < m4) = true := by simpa using hlt2
            have hbm := hnn q rfl
            have HK := Lib.hid hK
            have q1 : wr.cell? ⟨w1.heap.size, 3, none⟩ = some (.slice A' j c') := hK.rk.cell 3 rfl
            obtain ⟨hB', Ar, cr, h1, hby, hq, hL⟩ := hK.rk.rd
            have ce2 : wr.cell? ⟨w.heap.size + 1, 2, none⟩ = some (.int .i64 0) := by rw [cell_of_row _ _ _ _ _ _ h1]; rfl
            clear h1 hby hK
            obtain ⟨i, hi⟩ : ∃ i, m4.toNat - j = i + 1 := ⟨m4.toNat - j - 1, by omega⟩
            obtain ⟨X0, hX0, hI0⟩ := RJ.new #[.int .i64 0, .int .i64 0] 129 HK.out.rk.rd (by omega)
            go_wp2_with fail
            rw [← hX0]
            clear hX0 ce2 q1
            refine (refint_s (w.heap.size + 1) (w.heap.size + 1) (.ok q) L X0 hI0.rd).mono ?_
            rintro e y1 ⟨v1, t1, rfl, hT1, hR, hg⟩
            have hJ := hI0.call hR hg
            have hc := hJ.cell 0 (v := .int .i64 0) rfl
            have hf := hJ.frz 0
            have hI1 : RJ (w.heap.size + 1) (w.heap.size + 1) L 129 wr (y1.setCell ⟨wr.heap.size, 0, none⟩ (.int .i64 v1)) t1 #[.int .i64 v1, .int .i64 0] := hJ.set 0 (.int .i64 v1)
            have HT1 := Lib.hid hT1
            clear hJ hI0 hg hR hT1
            go_wp2_with fail
            clear hc hf
            generalize y1.setCell ⟨wr.heap.size, 0, none⟩ (.int .i64 v1) = X1 at *
            refine (refint_s (w.heap.size + 1) (w.heap.size + 1) t1 L X1 hI1.rd).mono ?_
            rintro e y2 ⟨v2, t2, rfl, hT2, hR, hg⟩
            have hJ := hI1.call hR hg
            have hc := hJ.cell 1 (v := .int .i64 0) rfl
            have hf := hJ.frz 1
            have hI2 : RJ (w.heap.size + 1) (w.heap.size + 1) L 129 wr (y2.setCell ⟨wr.heap.size, 1, none⟩ (.int .i64 v2)) t2 #[.int .i64 v1, .int .i64 v2] := hJ.set 1 (.int .i64 v2)
            have HT2 := Lib.hid hT2
            clear hJ hI1 hg hR hT2
            have hS5 : StepF (rdOu L) (.ok q) ⟨v1, v2⟩ t2 := (StepF.comp HT1.out (StepF.comp HT2.out (StepF.pure_ _ _)))
            have HS5 := Lib.hid hS5
            clear hS5
            have k0 : (y2.setCell ⟨wr.heap.size, 1, none⟩ (.int .i64 v2)).cell? ⟨wr.heap.size, 0, none⟩ = some (Value.int .i64 v1) := hI2.cell 0 rfl
            have k1 : (y2.setCell ⟨wr.heap.size, 1, none⟩ (.int .i64 v2)).cell? ⟨wr.heap.size, 1, none⟩ = some (Value.int .i64 v2) := hI2.cell 1 rfl
            have HI := Lib.hid hI2
            have hown5 := hown.kept_lt HI.out.gr (by omega)
            have hK5 := HK.out.call HI.out.rd HI.out.gr
            have q5 : (y2.setCell ⟨wr.heap.size, 1, none⟩ (.int .i64 v2)).cell? ⟨w1.heap.size, 3, none⟩ = some (.slice A' j c') := hK5.rk.cell 3 rfl
            have HK5 := Lib.hid hK5
            clear hI2 hK5 hown
            go_wp2_with (refine wpList_stop 98 rfl ?_)
            refine ⟨?_⟩
            clear hc hf
            generalize y2.setCell ⟨wr.heap.size, 1, none⟩ (.int .i64 v2) = W8 at *
            obtain ⟨s5, hs5⟩ : ∃ s5, s5 = t2 := ⟨_, rfl⟩
            have hS5 := HS5.out
            rw [← hs5] at HI HK5 hS5
            clear hs5 HS5
            have hcl2 : ∀ l' s'', StepF (rdRep (rdOu L) (m4.toNat - (j + 1))) s5 l' s'' → StepF (rdRep (rdOu L) m4.toNat) c4 ((acc ++ [⟨v1, v2⟩]) ++ l') s'' := fun l' s'' hh => by
              rw [List.append_assoc]
              refine HCL.out ([⟨v1, v2⟩] ++ l') s'' ?_
              rw [hi]
              rw [show m4.toNat - (j + 1) = i by omega] at hh
              exact StepF.cons hS5 hh
            have HCL2 := Lib.hid hcl2
            clear hcl2 HCL hS5
            have ha : Below W8.heap.size W8 (W8.alloc (.cells #[.int .i64 v1, .int .i64 v2] 129)) := (Below.refl _ _).alloc (Nat.le_refl _) _
            have hone : Recs encOu (fun _ => True) (W8.alloc (.cells #[.int .i64 v1, .int .i64 v2] 129)) (.slice (some ⟨W8.heap.size, 0, none⟩) 1 1) [⟨v1, v2⟩] := ⟨_, 1, rfl, by simp, by simp [maxLen], Cs.lit _ _ _ _ _ trivial rfl⟩
            have HK6 := Lib.hid (HK5.out.ext ha)
            have Hl5 := Lib.hid hown5.len.1
            have hz5 := HK5.out.sz
            clear HK HI HK5
            go_wp2_with (refine wpList_appR (o := ⟨some 101, _, _, _, _, _⟩) encOu_len encOu_one (.agg #[.int .i64 0, .int .i64 0]) 16 _ _ 49 129 W4.heap.size acc [⟨v1, v2⟩] (some ⟨W8.heap.size, 0, none⟩) 1 1 (.slice A' j c') (j + 1) rfl rfl Tryz.underlying49 infoO_ rfl (by omega) rfl rfl (hown5.ext ha) hone (by rw [Hl5.out]) (by have := Hl5.out; omega) (by have := Hl5.out; omega) (by simp; omega) ?_; intro A9 c9 w9 hown9 hgr9 hat9 hc91 hc92; have hK9 := (HK6.out.grown hgr9 (fun b hb => (World.ownsRow.lt hown5 b hb).1)); have q9 : w9.frozen? ⟨w1.heap.size, 3, none⟩ = false := hK9.rk.frz 3; have q9' : w9.cell? ⟨w1.heap.size, 3, none⟩ = some (.slice A' j c') := hK9.rk.cell 3 rfl; have hgS : w9.grownBy (w9.setCell ⟨w1.heap.size, 3, none⟩ (.slice A9 (j + 1) c9)) (some w1.heap.size) := grown_set ⟨rfl, rfl, rfl, Nat.le_refl _, fun _ _ _ => rfl⟩; have HO9 := Lib.hid (hown9.kept_lt hgS (by omega)); have HK9 : RowKit.Hid (SK L w w1.heap.size W4.heap.size #[.slice A1 l1.length c1, .slice A2 l2.length c2', .slice A3 l3.length c3', .slice A9 (j + 1) c9] K4 (w9.setCell ⟨w1.heap.size, 3, none⟩ (.slice A9 (j + 1) c9)) s5) := Lib.hid (hK9.set 3 (.slice A9 (j + 1) c9)); clear hK9 hgS hown9)
            exact ⟨⟨j + 1, A9, c9, acc ++ [⟨v1, v2⟩], s5, by congr 1, by omega, HK9.out, HO9.out, fun _ _ => hbm, by omega, HCL2.out⟩, by simp [intOf]; omega⟩
          · have hfin : StepF (rdRep (rdOu L) m4.toNat) c4 acc sr := by
              rw [← List.append_nil acc]
              refine HCL.out [] sr ?_
              cases sr with
              | error x => exact StepF.er _ _ _
              | ok q =>
                have : ¬ (j : Int) < m4 := fun hx => hgo ⟨hx, q, rfl⟩
                rw [show m4.toNat - j = 0 by omega]
                exact StepF.pure_ _ _
            have hl := hown.len.1
            have HFIN : RowKit.Hid (∃ (A9 : Option Addr) (c9 : Nat) (l9 : List Ou) (s9 : Except Nat Nat), SK L w w1.heap.size W4.heap.size #[.slice A1 l1.length c1, .slice A2 l2.length c2', .slice A3 l3.length c3', .slice A9 l9.length c9] K4 wr s9 ∧ OwnR encOu 2 wr W4.heap.size 129 (.slice A9 l9.length c9) l9 ∧ StepF (rdRep (rdOu L) m4.toNat) c4 l9 s9) := Lib.hid ⟨A', c', acc, sr, by rw [hl]; exact hK, by rw [hl]; exact hown, hfin⟩
            by_cases hlt2 : (j : Int) < m4
            · have dk : decide ((j : Int) < m4) = true := by simpa using hlt2
              cases hs : sr with
              | ok q => exact (hgo ⟨hlt2, q, hs⟩).elim
              | error x =>
                obtain ⟨h0, u, pp, h1⟩ : RS (w.heap.size + 1) wr (w.heap.size + 1) L (.error x) := by rw [← hs]; exact hK.rk.rd
                have ce : wr.cell? ⟨w.heap.size + 1, 2, none⟩ = some (.int .i64 (x : Int)) := by rw [cell_of_row _ _ _ _ _ _ h1]; rfl
                have d' : ((x : Int) == 0) = false := by simp; omega
                clear h1 hgo hfin hnn hK HCL hown
                go_wp2
                go_meet
                case rel => exact HFIN.out
            · have dk : decide ((j : Int) < m4) = false := by simpa using hlt2
              clear hgo hfin hnn hK HCL hown
              go_wp2
              go_meet
              case rel => exact HFIN.out
      case rest =>
        obtain ⟨A4, c4', l4, s8, hKx, hO4, hS8⟩ := hcut
        have HSd := Lib.hid (StepF.comp (g := fun n q => rdRep (rdOu L) n.toNat q) HC4.out hS8)
        obtain ⟨K5, hKK5, hK5⟩ := hKx.next hO4
        clear hKx hO4 hS8 HC4
        generalize hwc3 : wc = W5 at *
        have HSP : RowKit.Hid (StepF (rdSt L) (stB L k) ⟨l1, l2, l3, l4⟩ s8) := Lib.hid ((StepF.comp HSa.out (StepF.comp HSb.out (StepF.comp HSc.out (StepF.comp HSd.out (StepF.pure_ _ _))))).to (rdSt_eq L))
        have HK := Lib.hid hK5.rk
        have HS5 := Lib.hid hK5
        have HKK : RowKit.Hid (∀ w', K5 w' → Recs encZ (fun b => w1.heap.size < b) w' (.slice A1 l1.length c1) l1 ∧ Recs encEv (fun b => w1.heap.size < b) w' (.slice A2 l2.length c2') l2 ∧ Recs encSn (fun b => w1.heap.size < b) w' (.slice A3 l3.length c3') l3 ∧ Recs encOu (fun b => w1.heap.size < b) w' (.slice A4 l4.length c4') l4) := Lib.hid fun w' h5 => ⟨(hKK2 _ (hKK3 _ (hKK4 _ (hKK5 _ h5).1).1).1).2, (hKK3 _ (hKK4 _ (hKK5 _ h5).1).1).2, (hKK4 _ (hKK5 _ h5).1).2, (hKK5 _ h5).2⟩
        clear hK5 hKK2 hKK3 hKK4 hKK5 HSa HSb HSc HSd
        have hfk : ∀ (cs : Array Value), W5.drew.grownBy (W5.drew.setRow w.heap.size cs) (some w.heap.size) := fun cs => grown_setRow _ _ _
        cases hs : s8 with
        | error x =>
          rw [hs] at HK HSP
          have hrow := HK.out.rd
          obtain ⟨h0, u, pp, hrow⟩ := hrow
          have ce : W5.cell? ⟨(w.heap.size + 1), 2, none⟩ = some (.int .i64 (x : Int)) := by rw [cell_of_row _ _ _ _ _ _ hrow]; rfl
          have d : ((x : Int) != 0) = true := by simp; omega
          have HR := Lib.hid hrow
          have H4 : RowKit.Hid (W5.drew.heap[w.heap.size]? = some (.cells #[Value.slice none 0 0, Value.slice none 0 0, Value.slice none 0 0, Value.slice none 0 0] 51 (0, 0))) := Lib.hid HK.out.h4
          have hfin := HSP.out.err_
          clear hrow
          go_wp2_with fail
          refine wp_region_lexL (fun w' => w'.cell? ⟨(w.heap.size + 1), 2, none⟩ = some (.int .i64 (x : Int))) (by kernel_rfl) (by kernel_rfl) ce ?_
          repeat (first | (refine lexL_q0 rfl ?_; go_big_quiet_step (fail); refine wpQuiet_nil ?_) | (refine lexL_skip0 rfl rfl ?_; simp only [Act.put, List.setIfInBounds_toArray, List.set_cons_succ, List.set_cons_zero]))
          refine lexL_e rfl ?_
          go_wp2_with fail
          refine lexL_go ce ?_
          repeat (first | (refine lexL_q0 rfl ?_; go_big_quiet_step (fail); refine wpQuiet_nil ?_) | (refine lexL_skip0 rfl rfl ?_; simp only [Act.put, List.setIfInBounds_toArray, List.set_cons_succ, List.set_cons_zero]))
          refine lexL_ld (⟨(w.heap.size + 1), 2, none⟩) (.int .i64 (x : Int)) rfl rfl rfl (fun w' hS => run_ld1 (ag_err _) hS) ?_
          simp only [Act.put, List.setIfInBounds_toArray, List.set_cons_succ, List.set_cons_zero]
          repeat (first | (refine lexL_q0 rfl ?_; go_big_quiet_step (fail); refine wpQuiet_nil ?_) | (refine lexL_skip0 rfl rfl ?_; simp only [Act.put, List.setIfInBounds_toArray, List.set_cons_succ, List.set_cons_zero]))
          refine lexL_e rfl ?_
          refine wpList_store_row rfl 51 _ _ rfl w.heap.size 51 _ _ rfl rfl H4.out (by kernel_rfl) rfl (by simp [Value.oneCell']) ?_
          refine lexL_go ?_ ?_
          · have hr2 := (setRow_other W5.drew w.heap.size (w.heap.size + 1) #[Value.slice none 0 0, Value.slice none 0 0, Value.slice none 0 0, Value.slice none 0 0] HK.out.ne.1.symm).trans HR.out
            rw [cell_of_row _ _ _ _ _ _ hr2]; rfl
          simp only [Act.put]
          repeat (first | (refine lexL_q0 rfl ?_; go_big_quiet_step (fail); refine wpQuiet_nil ?_) | (refine lexL_skip0 rfl rfl ?_; simp only [Act.put, List.setIfInBounds_toArray, List.set_cons_succ, List.set_cons_zero]))
          refine lexL_nil ?_
          go_wp2_with fail
          go_wp2
          refine bodyPost_ret (results_ctt rfl rfl (run_ld_block (setRow_heap _ _ _ _ _ _ H4.out) Tryz.underlying51 rfl (by kernel_rfl))) rfl ?_
          rw [rdAt_st, hfin]
          exact ⟨rfl, Below.setRow HK.out.bl.drew (Nat.le_refl _) _⟩
        | ok q =>
          rw [hs] at HK HSP
          have hrow := HK.out.rd
          obtain ⟨hB, Ar, cr, hrow, _, hq, hL⟩ := hrow
          have ce : W5.cell? ⟨(w.heap.size + 1), 2, none⟩ = some (.int .i64 0) := by rw [cell_of_row _ _ _ _ _ _ hrow]; rfl
          have HR : RowKit.Hid (W5.drew.heap[(w.heap.size + 1)]? = _) := Lib.hid hrow
          have H4 : RowKit.Hid (W5.drew.heap[w.heap.size]? = some (.cells #[Value.slice none 0 0, Value.slice none 0 0, Value.slice none 0 0, Value.slice none 0 0] 51 (0, 0))) := Lib.hid HK.out.h4
          have H8 : RowKit.Hid (W5.drew.heap[w1.heap.size]? = some (.cells #[.slice A1 l1.length c1, .slice A2 l2.length c2', .slice A3 l3.length c3', .slice A4 l4.length c4'] 51 (0, 0))) := Lib.hid HK.out.h8
          have hfin := HSP.out.ok_
          clear hrow
          go_wp2_with fail
          refine wp_region_lexL (fun w' => w'.heap[w1.heap.size]? = some (.cells #[.slice A1 l1.length c1, .slice A2 l2.length c2', .slice A3 l3.length c3', .slice A4 l4.length c4'] 51 (0, 0)) ∧ w'.heap[(w.heap.size + 1)]? = _) (by kernel_rfl) (by kernel_rfl) ⟨H8.out, HR.out⟩ ?_
          repeat (first | (refine lexL_q0 rfl ?_; go_big_quiet_step (fail); refine wpQuiet_nil ?_) | (refine lexL_skip0 rfl rfl ?_; simp only [Act.put, List.setIfInBounds_toArray, List.set_cons_succ, List.set_cons_zero]))
          refine lexL_ld (⟨w1.heap.size, 0, none⟩) (.agg #[.slice A1 l1.length c1, .slice A2 l2.length c2', .slice A3 l3.length c3', .slice A4 l4.length c4']) rfl rfl rfl (fun w' hS => run_ld_block hS.1 Tryz.underlying51 rfl (by kernel_rfl)) ?_
          simp only [Act.put, List.setIfInBounds_toArray, List.set_cons_succ, List.set_cons_zero]
          repeat (first | (refine lexL_q0 rfl ?_; go_big_quiet_step (fail); refine wpQuiet_nil ?_) | (refine lexL_skip0 rfl rfl ?_; simp only [Act.put, List.setIfInBounds_toArray, List.set_cons_succ, List.set_cons_zero]))
          refine lexL_ld (⟨(w.heap.size + 1), 1, none⟩) (.int .i64 (q : Int)) rfl rfl rfl (fun w' hS => run_ld1 (ag_int _) (by rw [cell_of_row _ _ _ _ _ _ hS.2]; rfl)) ?_
          simp only [Act.put, List.setIfInBounds_toArray, List.set_cons_succ, List.set_cons_zero]
          repeat (first | (refine lexL_q0 rfl ?_; go_big_quiet_step (fail); refine wpQuiet_nil ?_) | (refine lexL_skip0 rfl rfl ?_; simp only [Act.put, List.setIfInBounds_toArray, List.set_cons_succ, List.set_cons_zero]))
          refine lexL_e rfl ?_
          refine wpList_store_row rfl 51 _ _ rfl w.heap.size 51 _ _ rfl rfl H4.out (by kernel_rfl) rfl (by simp [Value.oneCell']) ?_
          refine lexL_go ⟨(setRow_other W5.drew w.heap.size w1.heap.size #[.slice A1 l1.length c1, .slice A2 l2.length c2', .slice A3 l3.length c3', .slice A4 l4.length c4'] HK.out.ne.2.2.symm).trans H8.out, (setRow_other W5.drew w.heap.size (w.heap.size + 1) #[.slice A1 l1.length c1, .slice A2 l2.length c2', .slice A3 l3.length c3', .slice A4 l4.length c4'] HK.out.ne.1.symm).trans HR.out⟩ ?_
          simp only [Act.put]
          repeat (first | (refine lexL_q0 rfl ?_; go_big_quiet_step (fail); refine wpQuiet_nil ?_) | (refine lexL_skip0 rfl rfl ?_; simp only [Act.put, List.setIfInBounds_toArray, List.set_cons_succ, List.set_cons_zero]))
          refine lexL_nil ?_
          go_wp2_with fail
          go_wp2
          refine bodyPost_ret (results_ctt rfl rfl (run_ld_block (setRow_heap _ _ _ _ _ _ H4.out) Tryz.underlying51 rfl (by kernel_rfl))) rfl ?_
          rw [rdAt_st, hfin]
          have hk5 := HKK.out _ (HS5.out.hK W5 (W5.drew.setRow w.heap.size #[.slice A1 l1.length c1, .slice A2 l2.length c2', .slice A3 l3.length c3', .slice A4 l4.length c4']) (fun b hb hs => (hfk #[.slice A1 l1.length c1, .slice A2 l2.length c2', .slice A3 l3.length c3', .slice A4 l4.length c4']).block b hb (fun e => by have := HS5.out.rl; cases e; omega)) HS5.out.kp)
          exact ⟨⟨_, rfl, A1, c1, A2, c2', A3, c3', A4, c4', rfl, hk5.1.mono (fun b _ hs => by omega), hk5.2.1.mono (fun b _ hs => by omega), hk5.2.2.1.mono (fun b _ hs => by omega), hk5.2.2.2.mono (fun b _ hs => by omega)⟩, Below.setRow HK.out.bl.drew (Nat.le_refl _) _⟩
end Go.Proofs.YtiblijmngokcgaaGreatDoor
