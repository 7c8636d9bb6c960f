/-
  The document's reader: numbers, events, counts, lists of numbers.
-/
import Derived.Test.YtgjjfjibfleonaaRdS
namespace Go.Proofs.Ytgjjfjibfleonaa
open Go.RowKit
set_option maxRecDepth 100000
set_option linter.unusedVariables false

def bndS {α : Type} (s : Except Nat Nat) (f : Nat → Except Nat (α × Nat)) : Except Nat (α × Nat) := match s with | .ok p => f p | .error k => .error k
def stOf {α : Type} (x : Except Nat (α × Nat)) : Except Nat Nat := match x with | .ok (_, q) => .ok q | .error k => .error k
/-- the document's reader went from s to s' while f was read; the value is a, unless there is an error -/
def StepF {α : Type} (f : Nat → Except Nat (α × Nat)) (s : Except Nat Nat) (a : α) (s' : Except Nat Nat) : Prop := s' = stOf (bndS s f) ∧ ∀ b q, bndS s f = .ok (b, q) → a = b
theorem StepF.pure_ {α : Type} (c : α) (s : Except Nat Nat) : StepF (fun p => .ok (c, p)) s c s := by
  cases s with
  | ok p => exact ⟨rfl, fun b q h => by cases h; rfl⟩
  | error k => exact ⟨rfl, fun b q h => by cases h⟩
theorem StepF.er {α : Type} (f : Nat → Except Nat (α × Nat)) (k : Nat) (a : α) : StepF f (.error k) a (.error k) := ⟨rfl, fun b q h => by cases h⟩
theorem StepF.comp {α β : Type} {f : Nat → Except Nat (α × Nat)} {g : α → Nat → Except Nat (β × Nat)} {s s1 s2 : Except Nat Nat} {a : α} {c : β} (h1 : StepF f s a s1) (h2 : StepF (g a) s1 c s2) : StepF (fun p => bnd (f p) g) s c s2 := by
  obtain ⟨rfl, h1⟩ := h1
  cases s with
  | error k => exact ⟨h2.1, fun b q h => by cases h⟩
  | ok p =>
    cases hf : f p with
    | error k =>
      have e1 : bndS (.ok p) f = .error k := hf
      rw [e1] at h2
      refine ⟨?_, fun b q h => ?_⟩
      · rw [h2.1]
        show _ = stOf (bnd (f p) g)
        rw [bnd_er hf]
        rfl
      · have h' : bnd (f p) g = .ok (b, q) := h
        rw [bnd_er hf] at h'
        cases h'
    | ok vq =>
      obtain ⟨b0, q0⟩ := vq
      have e1 : bndS (.ok p) f = .ok (b0, q0) := hf
      have := h1 b0 q0 e1
      subst this
      rw [e1] at h2
      refine ⟨?_, fun b q h => ?_⟩
      · rw [h2.1]
        show _ = stOf (bnd (f p) g)
        rw [bnd_ok hf]
        rfl
      · have h' : bnd (f p) g = .ok (b, q) := h
        rw [bnd_ok hf] at h'
        exact h2.2 b q h'
theorem StepF.cons {α : Type} {f : Nat → Except Nat (α × Nat)} {s s1 s2 : Except Nat Nat} {n : Nat} {a : α} {l : List α} (h1 : StepF f s a s1) (h2 : StepF (rdRep f n) s1 l s2) : StepF (rdRep f (n + 1)) s (a :: l) s2 :=
  StepF.comp (g := fun a q => bnd (rdRep f n q) fun l q' => .ok (a :: l, q')) h1 (StepF.comp (g := fun l q' => .ok (a :: l, q')) h2 (StepF.pure_ _ _))
theorem StepF.to {α : Type} {f g : Nat → Except Nat (α × Nat)} {s s' : Except Nat Nat} {a : α} (h : StepF f s a s') (e : ∀ p, f p = g p) : StepF g s a s' := by
  have : f = g := funext e
  rw [← this]
  exact h
/-- a count -/
def rdCnt (L : List UInt8) (p : Nat) : Except Nat (Int × Nat) := bnd (rdInt L p) fun n q => if n < 0 ∨ (L.length : Int) - (q : Int) < n then .error 9 else .ok (n, q)
theorem rdList_cnt {α : Type} (f : Nat → Except Nat (α × Nat)) (L : List UInt8) (p : Nat) : bnd (rdCnt L p) (fun n q => rdRep f n.toNat q) = rdList f L p := by
  unfold rdCnt rdList
  cases rdInt L p with
  | error k => rfl
  | ok vq =>
    obtain ⟨n, q⟩ := vq
    show bnd (if _ then _ else _) _ = if _ then _ else _
    by_cases h : n < 0 ∨ (L.length : Int) - (q : Int) < n
    · rw [if_pos h, if_pos h]; rfl
    · rw [if_neg h, if_neg h]; rfl
theorem refint_s (B r : Nat) (s : Except Nat Nat) (L : List UInt8) (w : World) (h : RS B w r L s) :
    Calls Try.prog 29 #[.pointer (some ⟨r, 0, none⟩)] w fun e w' => ∃ v s', e = .returned (.int .i64 v) ∧ StepF (rdInt L) s v s' ∧ RS B w' r L s' ∧ w.grownBy w' (some r) := by
  refine (refint_any B r s L w h).mono ?_
  rintro e w' ⟨rfl, h1, h2⟩
  refine ⟨_, _, rfl, ⟨?_, ?_⟩, h1, h2⟩
  · cases s with
    | error k => rfl
    | ok p =>
      show (match rdInt L p with | .ok (v, q) => (v, Except.ok q) | .error k => ((0 : Int), Except.error k)).2 = stOf (rdInt L p)
      cases rdInt L p with
      | error k => rfl
      | ok vq => rfl
  · intro b q hb
    cases s with
    | error k => cases hb
    | ok p =>
      have hb' : rdInt L p = .ok (b, q) := hb
      show (match rdInt L p with | .ok (v, q) => (v, Except.ok q) | .error k => ((0 : Int), Except.error k)).1 = b
      rw [hb']

/-- a reader of the document's and two boxes of a struct -/
structure RF (B r : Nat) (L : List UInt8) (T : TypeId) (c2 : Array Value) (w : World) (wr : World) (s : Except Nat Nat) (c3 : Array Value) : Prop where
  rd : RS B wr r L s
  hB : B ≤ w.heap.size
  lt : r < w.heap.size
  gr : w.grownBy wr (some r)
  b2 : wr.heap[w.heap.size]? = some (.cells c2 T (0, 0))
  b3 : wr.heap[w.heap.size + 1]? = some (.cells c3 T (0, 0))
section
variable {B r : Nat} {L : List UInt8} {T : TypeId} {c2 : Array Value} {w wr w' : World} {s s' : Except Nat Nat} {c3 : Array Value}
theorem RF.new (h : RS B w r L s) (hB : B ≤ w.heap.size) : ∃ W, W = (w.alloc (.cells c2 T)).alloc (.cells c3 T) ∧ RF B r L T c2 w W s c3 := by
  have hlt := h.lt
  have hb1 : Below w.heap.size w (w.alloc (.cells c2 T)) := (Below.refl _ w).alloc (Nat.le_refl _) _
  have hb2 : Below (w.alloc (.cells c2 T)).heap.size (w.alloc (.cells c2 T)) ((w.alloc (.cells c2 T)).alloc (.cells c3 T)) := (Below.refl _ _).alloc (Nat.le_refl _) _
  have hb := Below.ext hb1 hb2
  refine ⟨_, rfl, h.ext hb, hB, hlt, ⟨hb.os, hb.tape, hb.output, hb.size, fun i hi _ => hb.block i hi⟩, (hb2.block _ (by simp)).trans (heap_alloc_new _ _), ?_⟩
  have := heap_alloc_new (w.alloc (.cells c2 T)) (.cells c3 T)
  rwa [World.size_alloc] at this
theorem RF.sz (h : RF B r L T c2 w wr s c3) : w.heap.size + 2 ≤ wr.heap.size := (Array.getElem?_eq_some_iff.1 h.b3).1
theorem RF.call (h : RF B r L T c2 w wr s c3) (hR : RS B w' r L s') (hg : wr.grownBy w' (some r)) : RF B r L T c2 w w' s' c3 :=
  have hs := h.sz
  have hl := h.lt
  ⟨hR, h.hB, h.lt, grown_tr h.gr hg, (hg.block _ (by omega) (by simp; omega)).trans h.b2, (hg.block _ (by omega) (by simp; omega)).trans h.b3⟩
theorem RF.set (h : RF B r L T c2 w wr s c3) (o : Nat) (v : Value) : RF B r L T c2 w (wr.setCell ⟨w.heap.size + 1, o, none⟩ v) s (c3.setIfInBounds o v) :=
  have hs := h.sz
  have hl := h.lt
  have hB := h.hB
  have hg : wr.grownBy (wr.setCell ⟨w.heap.size + 1, o, none⟩ v) (some (w.heap.size + 1)) := grown_set ⟨rfl, rfl, rfl, Nat.le_refl _, fun _ _ _ => rfl⟩
  ⟨h.rd.grown hg (fun m hm => by cases hm; omega), h.hB, h.lt, ⟨hg.os.trans h.gr.os, hg.tape.trans h.gr.tape, hg.output.trans h.gr.output, Nat.le_trans h.gr.size hg.size, fun i hi hne => (hg.block i (Nat.lt_of_lt_of_le hi h.gr.size) (by simp; omega)).trans (h.gr.block i hi hne)⟩,
    (hg.block _ (by omega) (by simp)).trans h.b2, heap_setCell_same _ _ o _ _ _ h.b3⟩
theorem RF.end_ (h : RF B r L T c2 w wr s c3) (cs : Array Value) : RS B (wr.setRow w.heap.size cs) r L s ∧ w.grownBy (wr.setRow w.heap.size cs) (some r) :=
  have hs := h.sz
  have hl := h.lt
  have hB := h.hB
  have hg := grown_setRow wr w.heap.size cs
  ⟨h.rd.grown hg (fun m hm => by cases hm; omega), ⟨hg.os.trans h.gr.os, hg.tape.trans h.gr.tape, hg.output.trans h.gr.output, Nat.le_trans h.gr.size hg.size, fun i hi hne => (hg.block i (Nat.lt_of_lt_of_le hi h.gr.size) (by simp; omega)).trans (h.gr.block i hi hne)⟩⟩
theorem RF.cell (h : RF B r L T c2 w wr s c3) (o : Nat) {v : Value} (hv : c3[o]? = some v) : wr.cell? ⟨w.heap.size + 1, o, none⟩ = some v := by rw [cell_of_row _ _ _ _ _ _ h.b3]; exact hv
theorem RF.frz (h : RF B r L T c2 w wr s c3) (o : Nat) : wr.frozen? ⟨w.heap.size + 1, o, none⟩ = false := frozen_of_row _ _ _ _ _ h.b3
end
set_option maxHeartbeats 2000000 in
theorem refevent_s (B r : Nat) (s : Except Nat Nat) (L : List UInt8) (w : World) (h : RS B w r L s) (hB : B ≤ w.heap.size) :
    Calls Try.prog 49 #[.pointer (some ⟨r, 0, none⟩)] w fun e w' => ∃ v s', e = .returned (evV v) ∧ StepF (rdEv L) s v s' ∧ RS B w' r L s' ∧ w.grownBy w' (some r) := by
  obtain ⟨W0, hW, hI0⟩ := RF.new (T := 35) (c2 := #[Value.int .i64 0, Value.int .i64 0, Value.int .i64 0, Value.int .i64 0, Value.int .i64 0, Value.int .i64 0, Value.int .i64 0]) (c3 := #[Value.int .i64 0, Value.int .i64 0, Value.int .i64 0, Value.int .i64 0, Value.int .i64 0, Value.int .i64 0, Value.int .i64 0]) h hB
  go_enter Try.func49, Try.ntmps49
  go_wp2_with fail
  rw [← hW]
  clear hW
  refine (refint_s B r s L W0 hI0.rd).mono ?_
  rintro e w1 ⟨v1, s1, rfl, hS1, hR, hg⟩
  have hJ := hI0.call hR hg
  have hc := hJ.cell 0 (v := .int .i64 0) rfl
  have hf := hJ.frz 0
  have hI1 : RF B r L 35 #[Value.int .i64 0, Value.int .i64 0, Value.int .i64 0, Value.int .i64 0, Value.int .i64 0, Value.int .i64 0, Value.int .i64 0] w (w1.setCell ⟨w.heap.size + 1, 0, none⟩ (.int .i64 v1)) s1 #[Value.int .i64 v1, Value.int .i64 0, Value.int .i64 0, Value.int .i64 0, Value.int .i64 0, Value.int .i64 0, Value.int .i64 0] := hJ.set 0 (.int .i64 v1)
  clear hJ hI0 hg hR
  go_wp2_with fail
  clear hc hf
  generalize w1.setCell ⟨w.heap.size + 1, 0, none⟩ (.int .i64 v1) = W1 at *
  refine (refint_s B r s1 L W1 hI1.rd).mono ?_
  rintro e w2 ⟨v2, s2, rfl, hS2, hR, hg⟩
  have hJ := hI1.call hR hg
  have hc := hJ.cell 1 (v := .int .i64 0) rfl
  have hf := hJ.frz 1
  have hI2 : RF B r L 35 #[Value.int .i64 0, Value.int .i64 0, Value.int .i64 0, Value.int .i64 0, Value.int .i64 0, Value.int .i64 0, Value.int .i64 0] w (w2.setCell ⟨w.heap.size + 1, 1, none⟩ (.int .i64 v2)) s2 #[Value.int .i64 v1, Value.int .i64 v2, Value.int .i64 0, Value.int .i64 0, Value.int .i64 0, Value.int .i64 0, Value.int .i64 0] := hJ.set 1 (.int .i64 v2)
  clear hJ hI1 hg hR
  go_wp2_with fail
  clear hc hf
  generalize w2.setCell ⟨w.heap.size + 1, 1, none⟩ (.int .i64 v2) = W2 at *
  refine (refint_s B r s2 L W2 hI2.rd).mono ?_
  rintro e w3 ⟨v3, s3, rfl, hS3, hR, hg⟩
  have hJ := hI2.call hR hg
  have hc := hJ.cell 2 (v := .int .i64 0) rfl
  have hf := hJ.frz 2
  have hI3 : RF B r L 35 #[Value.int .i64 0, Value.int .i64 0, Value.int .i64 0, Value.int .i64 0, Value.int .i64 0, Value.int .i64 0, Value.int .i64 0] w (w3.setCell ⟨w.heap.size + 1, 2, none⟩ (.int .i64 v3)) s3 #[Value.int .i64 v1, Value.int .i64 v2, Value.int .i64 v3, Value.int .i64 0, Value.int .i64 0, Value.int .i64 0, Value.int .i64 0] := hJ.set 2 (.int .i64 v3)
  clear hJ hI2 hg hR
  go_wp2_with fail
  clear hc hf
  generalize w3.setCell ⟨w.heap.size + 1, 2, none⟩ (.int .i64 v3) = W3 at *
  refine (refint_s B r s3 L W3 hI3.rd).mono ?_
  rintro e w4 ⟨v4, s4, rfl, hS4, hR, hg⟩
  have hJ := hI3.call hR hg
  have hc := hJ.cell 3 (v := .int .i64 0) rfl
  have hf := hJ.frz 3
  have hI4 : RF B r L 35 #[Value.int .i64 0, Value.int .i64 0, Value.int .i64 0, Value.int .i64 0, Value.int .i64 0, Value.int .i64 0, Value.int .i64 0] w (w4.setCell ⟨w.heap.size + 1, 3, none⟩ (.int .i64 v4)) s4 #[Value.int .i64 v1, Value.int .i64 v2, Value.int .i64 v3, Value.int .i64 v4, Value.int .i64 0, Value.int .i64 0, Value.int .i64 0] := hJ.set 3 (.int .i64 v4)
  clear hJ hI3 hg hR
  go_wp2_with fail
  clear hc hf
  generalize w4.setCell ⟨w.heap.size + 1, 3, none⟩ (.int .i64 v4) = W4 at *
  refine (refint_s B r s4 L W4 hI4.rd).mono ?_
  rintro e w5 ⟨v5, s5, rfl, hS5, hR, hg⟩
  have hJ := hI4.call hR hg
  have hc := hJ.cell 4 (v := .int .i64 0) rfl
  have hf := hJ.frz 4
  have hI5 : RF B r L 35 #[Value.int .i64 0, Value.int .i64 0, Value.int .i64 0, Value.int .i64 0, Value.int .i64 0, Value.int .i64 0, Value.int .i64 0] w (w5.setCell ⟨w.heap.size + 1, 4, none⟩ (.int .i64 v5)) s5 #[Value.int .i64 v1, Value.int .i64 v2, Value.int .i64 v3, Value.int .i64 v4, Value.int .i64 v5, Value.int .i64 0, Value.int .i64 0] := hJ.set 4 (.int .i64 v5)
  clear hJ hI4 hg hR
  go_wp2_with fail
  clear hc hf
  generalize w5.setCell ⟨w.heap.size + 1, 4, none⟩ (.int .i64 v5) = W5 at *
  refine (refint_s B r s5 L W5 hI5.rd).mono ?_
  rintro e w6 ⟨v6, s6, rfl, hS6, hR, hg⟩
  have hJ := hI5.call hR hg
  have hc := hJ.cell 5 (v := .int .i64 0) rfl
  have hf := hJ.frz 5
  have hI6 : RF B r L 35 #[Value.int .i64 0, Value.int .i64 0, Value.int .i64 0, Value.int .i64 0, Value.int .i64 0, Value.int .i64 0, Value.int .i64 0] w (w6.setCell ⟨w.heap.size + 1, 5, none⟩ (.int .i64 v6)) s6 #[Value.int .i64 v1, Value.int .i64 v2, Value.int .i64 v3, Value.int .i64 v4, Value.int .i64 v5, Value.int .i64 v6, Value.int .i64 0] := hJ.set 5 (.int .i64 v6)
  clear hJ hI5 hg hR
  go_wp2_with fail
  clear hc hf
  generalize w6.setCell ⟨w.heap.size + 1, 5, none⟩ (.int .i64 v6) = W6 at *
  refine (refint_s B r s6 L W6 hI6.rd).mono ?_
  rintro e w7 ⟨v7, s7, rfl, hS7, hR, hg⟩
  have hJ := hI6.call hR hg
  have hc := hJ.cell 6 (v := .int .i64 0) rfl
  have hf := hJ.frz 6
  have hI7 : RF B r L 35 #[Value.int .i64 0, Value.int .i64 0, Value.int .i64 0, Value.int .i64 0, Value.int .i64 0, Value.int .i64 0, Value.int .i64 0] w (w7.setCell ⟨w.heap.size + 1, 6, none⟩ (.int .i64 v7)) s7 #[Value.int .i64 v1, Value.int .i64 v2, Value.int .i64 v3, Value.int .i64 v4, Value.int .i64 v5, Value.int .i64 v6, Value.int .i64 v7] := hJ.set 6 (.int .i64 v7)
  clear hJ hI6 hg hR
  have k0 : (w7.setCell ⟨w.heap.size + 1, 6, none⟩ (.int .i64 v7)).cell? ⟨w.heap.size + 1, 0, none⟩ = some (.int .i64 v1) := hI7.cell 0 rfl
  have k1 : (w7.setCell ⟨w.heap.size + 1, 6, none⟩ (.int .i64 v7)).cell? ⟨w.heap.size + 1, 1, none⟩ = some (.int .i64 v2) := hI7.cell 1 rfl
  have k2 : (w7.setCell ⟨w.heap.size + 1, 6, none⟩ (.int .i64 v7)).cell? ⟨w.heap.size + 1, 2, none⟩ = some (.int .i64 v3) := hI7.cell 2 rfl
  have k3 : (w7.setCell ⟨w.heap.size + 1, 6, none⟩ (.int .i64 v7)).cell? ⟨w.heap.size + 1, 3, none⟩ = some (.int .i64 v4) := hI7.cell 3 rfl
  have k4 : (w7.setCell ⟨w.heap.size + 1, 6, none⟩ (.int .i64 v7)).cell? ⟨w.heap.size + 1, 4, none⟩ = some (.int .i64 v5) := hI7.cell 4 rfl
  have k5 : (w7.setCell ⟨w.heap.size + 1, 6, none⟩ (.int .i64 v7)).cell? ⟨w.heap.size + 1, 5, none⟩ = some (.int .i64 v6) := hI7.cell 5 rfl
  have k6 : (w7.setCell ⟨w.heap.size + 1, 6, none⟩ (.int .i64 v7)).cell? ⟨w.heap.size + 1, 6, none⟩ = some (.int .i64 v7) := hI7.cell 6 rfl
  have H2 := Lib.hid hI7.b2
  have HI := Lib.hid hI7
  clear hI7
  go_wp2_with (refine wpList_store_row rfl 35 _ _ rfl w.heap.size 35 _ _ rfl rfl H2.out (by kernel_rfl) rfl (by simp [Value.oneCell']) ?_)
  refine bodyPost_ret (results_c rfl rfl (run_ld_block (setRow_heap _ _ _ _ _ _ H2.out) Try.underlying35 rfl (by kernel_rfl))) rfl ?_
  exact ⟨⟨v1, v2, v3, v4, v5, v6, v7⟩, s7, rfl, StepF.comp hS1 (StepF.comp hS2 (StepF.comp hS3 (StepF.comp hS4 (StepF.comp hS5 (StepF.comp hS6 (StepF.comp hS7 (StepF.pure_ _ _))))))), HI.out.end_ _⟩

set_option maxHeartbeats 2000000 in
theorem refcount_s (B r : Nat) (s : Except Nat Nat) (L : List UInt8) (w : World) (h : RS B w r L s) :
    Calls Try.prog 52 #[.pointer (some ⟨r, 0, none⟩)] w fun e w' => ∃ v s', e = .returned (.int .i64 v) ∧ StepF (rdCnt L) s v s' ∧ RS B w' r L s' ∧ w.grownBy w' (some r) ∧ (∀ q, s' = .ok q → 0 ≤ v ∧ v ≤ (L.length : Int)) := by
  go_enter Try.func52, Try.ntmps52
  go_wp2_with fail
  refine (refint_s B r s L w h).mono ?_
  rintro e w1 ⟨v, s1, rfl, hS1, hR1, hg1⟩
  cases hs : s1 with
  | error k =>
    rw [hs] at hS1 hR1
    have hR1' := hR1
    obtain ⟨h0, u, p, h1⟩ := hR1
    have c2 : w1.cell? ⟨r, 2, none⟩ = some (.int .i64 (k : Int)) := by rw [cell_of_row _ _ _ _ _ _ h1]; rfl
    have d : ((k : Int) == 0) = false := by simp; omega
    clear h1
    go_wp2_with fail
    refine wp_region_lex (fun _ => True) (by kernel_rfl) (by kernel_rfl) trivial ?_
    repeat (first | (refine lex_q rfl ⟨default, trivial⟩ ?_; go_big_quiet_step (fail); refine wpQuiet_nil ?_) | (refine lex_skip rfl rfl trivial ?_; simp only [Act.put, List.setIfInBounds_toArray, List.set_cons_succ, List.set_cons_zero]) | (refine lex_e rfl ?_; go_wp2_with fail; refine lex_go trivial ?_))
    refine lex_nil ?_
    go_wp2_with fail
    go_wp2
    go_ret
    exact ⟨v, .error k, rfl, StepF.comp hS1 (StepF.er _ _ _), hR1'.drew, grown_drew hg1, fun q hq => by cases hq⟩
  | ok q =>
    rw [hs] at hS1 hR1
    have hR1' := Lib.hid hR1
    obtain ⟨hB, A, c, h1, hby, hq, hL⟩ := hR1
    have c0 : w1.cell? ⟨r, 0, none⟩ = some (.slice A L.length c) := by rw [cell_of_row _ _ _ _ _ _ h1]; rfl
    have c1 : w1.cell? ⟨r, 1, none⟩ = some (.int .i64 (q : Int)) := by rw [cell_of_row _ _ _ _ _ _ h1]; rfl
    have c2 : w1.cell? ⟨r, 2, none⟩ = some (.int .i64 0) := by rw [cell_of_row _ _ _ _ _ _ h1]; rfl
    have H1 := Lib.hid h1
    clear h1 hby
    by_cases hbad : v < 0 ∨ (L.length : Int) - (q : Int) < v
    · have hfl := rfail_any r 9 0 _ _ w1.drew H1.out
      rw [show ((9 : Nat) : Int) = 9 from rfl] at hfl
      have hst : StepF (fun q => if v < 0 ∨ (L.length : Int) - (q : Int) < v then Except.error 9 else .ok (v, q)) (.ok q) (0 : Int) (.error 9) := by
        refine ⟨?_, fun b q' hb => ?_⟩
        · show _ = stOf (if v < 0 ∨ (L.length : Int) - (q : Int) < v then Except.error 9 else Except.ok (v, q))
          rw [if_pos hbad]; rfl
        · have hb' : (if v < 0 ∨ (L.length : Int) - (q : Int) < v then Except.error 9 else Except.ok (v, q)) = Except.ok (b, q') := hb
          rw [if_pos hbad] at hb'
          cases hb'
      have HST := Lib.hid hst
      clear hst
      by_cases hneg : v < 0
      · have d0 : decide (v < 0) = true := by simpa using hneg
        go_wp2_with fail
        refine wp_region_lex (fun _ => True) (by kernel_rfl) (by kernel_rfl) trivial ?_
        repeat (first | (refine lex_q rfl ⟨default, trivial⟩ ?_; go_big_quiet_step (fail); refine wpQuiet_nil ?_) | (refine lex_skip rfl rfl trivial ?_; simp only [Act.put, List.setIfInBounds_toArray, List.set_cons_succ, List.set_cons_zero]) | (refine lex_e rfl ?_; go_wp2_with fail; refine lex_go trivial ?_))
        refine lex_nil ?_
        go_wp2_with fail
        refine hfl.mono ?_
        rintro e w5 ⟨rfl, hr5, hg5⟩
        go_wp2
        go_ret
        exact ⟨0, .error 9, rfl, StepF.comp (g := fun n q => if n < 0 ∨ (L.length : Int) - (q : Int) < n then Except.error 9 else .ok (n, q)) hS1 HST.out, ⟨by omega, _, _, hr5⟩, grown_tr (grown_drew hg1) hg5, fun q hq => by cases hq⟩
      · have d0 : decide (v < 0) = false := by simpa using hneg
        have d1 : decide ((L.length : Int) - (q : Int) < v) = true := by simp; omega
        go_wp2_with fail
        refine wp_region_lex (fun _ => True) (by kernel_rfl) (by kernel_rfl) trivial ?_
        repeat (first | (refine lex_q rfl ⟨default, trivial⟩ ?_; go_big_quiet_step (fail); refine wpQuiet_nil ?_) | (refine lex_skip rfl rfl trivial ?_; simp only [Act.put, List.setIfInBounds_toArray, List.set_cons_succ, List.set_cons_zero]) | (refine lex_e rfl ?_; go_wp2_with fail; refine lex_go trivial ?_))
        refine lex_nil ?_
        go_wp2_with fail
        refine hfl.mono ?_
        rintro e w5 ⟨rfl, hr5, hg5⟩
        go_wp2
        go_ret
        exact ⟨0, .error 9, rfl, StepF.comp (g := fun n q => if n < 0 ∨ (L.length : Int) - (q : Int) < n then Except.error 9 else .ok (n, q)) hS1 HST.out, ⟨by omega, _, _, hr5⟩, grown_tr (grown_drew hg1) hg5, fun q hq => by cases hq⟩
    · have d0 : decide (v < 0) = false := by simp; omega
      have d1 : decide ((L.length : Int) - (q : Int) < v) = false := by simp; omega
      have hst : StepF (fun q => if v < 0 ∨ (L.length : Int) - (q : Int) < v then Except.error 9 else .ok (v, q)) (.ok q) v (.ok q) := by
        refine ⟨?_, fun b q' hb => ?_⟩
        · show _ = stOf (if v < 0 ∨ (L.length : Int) - (q : Int) < v then Except.error 9 else Except.ok (v, q))
          rw [if_neg hbad]; rfl
        · have hb' : (if v < 0 ∨ (L.length : Int) - (q : Int) < v then Except.error 9 else Except.ok (v, q)) = Except.ok (b, q') := hb
          rw [if_neg hbad] at hb'
          cases hb'
          rfl
      have HST := Lib.hid hst
      clear hst
      go_wp2_with fail
      refine wp_region_lex (fun _ => True) (by kernel_rfl) (by kernel_rfl) trivial ?_
      repeat (first | (refine lex_q rfl ⟨default, trivial⟩ ?_; go_big_quiet_step (fail); refine wpQuiet_nil ?_) | (refine lex_skip rfl rfl trivial ?_; simp only [Act.put, List.setIfInBounds_toArray, List.set_cons_succ, List.set_cons_zero]) | (refine lex_e rfl ?_; go_wp2_with fail; refine lex_go trivial ?_))
      refine lex_nil ?_
      go_wp2_with fail
      go_wp2
      go_ret
      exact ⟨v, .ok q, rfl, StepF.comp (g := fun n q => if n < 0 ∨ (L.length : Int) - (q : Int) < n then Except.error 9 else .ok (n, q)) hS1 HST.out, RS.drew hR1'.out, grown_drew hg1, fun q' hq' => by cases hq'; omega⟩

set_option maxHeartbeats 2000000 in
theorem refints_s (B r : Nat) (s : Except Nat Nat) (L : List UInt8) (n : Int) (w : World) (h : RS B w r L s) (hB : B ≤ w.heap.size) (hn : ∀ q, s = .ok q → 0 ≤ n ∧ n ≤ 1000000000) :
    Calls Try.prog 53 #[.pointer (some ⟨r, 0, none⟩), .int .i64 n] w fun e w' => ∃ A c l s', e = .returned (.slice A l.length c) ∧ OwnR encZ 1 w' w.heap.size 3 (.slice A l.length c) l ∧ StepF (rdRep (rdInt L) n.toNat) s l s' ∧ RS B w' r L s' ∧ w.grownBy w' (some r) := by
  have hlt := h.lt
  go_enter Try.func53, Try.ntmps53
  go_wp2
  go_loopw [5, 6] (fun v i wr => ∃ (k : Nat) (A' : Option Addr) (c' : Nat) (acc : List Int) (sr : Except Nat Nat), i = .int .i64 k ∧ v = .slice A' k c' ∧ (k ≤ n.toNat) ∧ OwnR encZ 1 wr w.heap.size 3 (.slice A' k c') acc ∧ RS B wr r L sr ∧ w.grownBy wr (some r) ∧ (∀ q, sr = .ok q → 0 ≤ n ∧ n ≤ 1000000000) ∧ k ≤ 1000000000 ∧ ∀ l' s'', StepF (rdRep (rdInt L) (n.toNat - k)) sr l' s'' → StepF (rdRep (rdInt L) n.toNat) s (acc ++ l') s'') (fun _ i _ => n.toNat - (intOf i).toNat)
  case atStart => exact ⟨0, none, 0, [], s, rfl, rfl, by omega, OwnR.nil_ _ _ _, h, ⟨rfl, rfl, rfl, Nat.le_refl _, fun _ _ _ => rfl⟩, hn, by omega, fun l' s'' hh => hh⟩
  case round =>
    clear h hn
    obtain ⟨k, A', c', acc, sr, rfl, rfl, hk, hown, hR, hg, hnn, hk9, hcl⟩ := hrel
    have HCL := Lib.hid hcl
    clear hcl
    by_cases hlt2 : (k : Int) < n
    · have dk : decide ((k : Int) < n) = true := by simpa using hlt2
      cases hs : sr with
      | error x =>
        rw [hs] at hR HCL
        have hR' := Lib.hid hR
        obtain ⟨h0, u, p, h1⟩ := hR
        have c2 : wr.cell? ⟨r, 2, none⟩ = some (.int .i64 (x : Int)) := by rw [cell_of_row _ _ _ _ _ _ h1]; rfl
        have d : ((x : Int) == 0) = false := by simp; omega
        have hl := hown.len.1
        have hfin := HCL.out [] _ (StepF.er _ _ _)
        rw [List.append_nil] at hfin
        clear h1
        go_wp2
        go_ret
        exact ⟨A', c', acc, .error x, by rw [hl]; rfl, by rw [hl]; exact hown, hfin, hR'.out, hg⟩
      | ok q =>
        rw [hs] at hR HCL hnn
        have hb := hnn q rfl
        have hR' := Lib.hid hR
        obtain ⟨hB', A, c, h1, hby, hq, hL⟩ := hR
        have c2 : wr.cell? ⟨r, 2, none⟩ = some (.int .i64 0) := by rw [cell_of_row _ _ _ _ _ _ h1]; rfl
        clear h1 hby
        obtain ⟨j, hj⟩ : ∃ j, n.toNat - k = j + 1 := ⟨n.toNat - k - 1, by omega⟩
        go_wp2_with fail
        refine (refint_s B r (.ok q) L wr hR'.out).mono ?_
        rintro e w2 ⟨a, s2, rfl, hS2, hR2, hg2⟩
        have hcl2 : ∀ l' s'', StepF (rdRep (rdInt L) (n.toNat - (k + 1))) s2 l' s'' → StepF (rdRep (rdInt L) n.toNat) s ((acc ++ [a]) ++ l') s'' := fun l' s'' hh => by
          rw [List.append_assoc]
          refine HCL.out ([a] ++ l') s'' ?_
          rw [hj]
          rw [show n.toNat - (k + 1) = j by omega] at hh
          exact StepF.cons hS2 hh
        have HCL2 := Lib.hid hcl2
        have hown2 := hown.kept_lt hg2 hlt
        have hl2 := hown2.len
        have Hl2 := Lib.hid hl2.1
        have sz := hg.size
        have sz2 := hg2.size
        have ha : Below w2.heap.size w2 (w2.alloc (.cells #[.int .i64 a] 3)) := (Below.refl _ _).alloc (Nat.le_refl _) _
        have hone : Recs encZ (fun _ => True) (w2.alloc (.cells #[.int .i64 a] 3)) (.slice (some ⟨w2.heap.size, 0, none⟩) 1 1) [a] := ⟨_, 1, rfl, by simp, by simp [maxLen], Cs.lit _ _ _ _ _ trivial rfl⟩
        clear hcl2 hown c2
        go_wp2_with (refine wpList_appR (o := ⟨some 23, _, _, _, _, _⟩) encZ_len encZ_one (.int .i64 0) 8 _ _ 25 3 w.heap.size acc [a] (some ⟨w2.heap.size, 0, none⟩) 1 1 (.slice A' k c') (k + 1) rfl rfl Try.underlying25 infoI_ rfl (by omega) rfl rfl (hown2.ext ha) hone (by rw [Hl2.out]) (by have := Hl2.out; omega) (by have := Hl2.out; omega) (by simp; omega) ?_; intro A9 c9 w9 hown9 hgr9 hat9 hc91 hc92)
        have hrow9 : ∀ b, (Value.slice A' k c').ownBlock = some b → w.heap.size ≤ b := fun b e => (World.ownsRow.lt hown2 _ e).1
        have hR9 := (hR2.ext ha).grown hgr9 (fun b hb => by have := hrow9 b hb; omega)
        have hG9 := grown_nw (grown_tr (grown_tr hg hg2) (grown_bl ha (some r))) hgr9 (fun b hb => .inl (hrow9 b hb))
        refine ⟨⟨k + 1, A9, c9, acc ++ [a], s2, by congr 1, rfl, by omega, hown9, hR9, hG9, fun _ _ => hb, by omega, HCL2.out⟩, by simp [intOf]; omega⟩
    · have dk : decide ((k : Int) < n) = false := by simpa using hlt2
      have hl := hown.len.1
      have hfin := HCL.out [] sr (by rw [show n.toNat - k = 0 by omega]; exact StepF.pure_ _ _)
      rw [List.append_nil] at hfin
      go_wp2
      go_ret
      first | exact ⟨A', c', acc, sr, by rw [hl]; rfl, by rw [hl]; exact hown, hfin, hR, hg⟩ | exact ⟨A', c', acc, by rw [hl]; rfl, by rw [hl]; exact hown, sr, hfin, hR, hg⟩
end Go.Proofs.Ytgjjfjibfleonaa
