/-
  Joined from texts of ours: XRfA, XRfB, XOne.
-/
import Derived.Test.YtjcfnpmgklliiaaCodecC
import Derived.Deep.Cut
namespace Go.Proofs.Ytjcfnpmgklliiaa
open Go.RowKit
set_option maxRecDepth 100000
set_option linter.unusedVariables false

def bndS {α : Type} (s : Except Nat Nat) (f : Nat → Except Nat (α × Nat)) : Except Nat (α × Nat) := match s with | .ok p => f p | .error k => .error k
def stOf {α : Type} (x : Except Nat (α × Nat)) : Except Nat Nat := match x with | .ok (_, q) => .ok q | .error k => .error k
/-- the document's reader went from s to s' while f was read; the value is a, unless there is an error -/
def StepF {α : Type} (f : Nat → Except Nat (α × Nat)) (s : Except Nat Nat) (a : α) (s' : Except Nat Nat) : Prop := s' = stOf (bndS s f) ∧ ∀ b q, bndS s f = .ok (b, q) → a = b
theorem StepF.pure_ {α : Type} (c : α) (s : Except Nat Nat) : StepF (fun p => .ok (c, p)) s c s := by
  cases s with
  | ok p => exact ⟨rfl, fun b q h => by cases h; rfl⟩
  | error k => exact ⟨rfl, fun b q h => by cases h⟩
theorem StepF.er {α : Type} (f : Nat → Except Nat (α × Nat)) (k : Nat) (a : α) : StepF f (.error k) a (.error k) := ⟨rfl, fun b q h => by cases h⟩
theorem StepF.comp {α β : Type} {f : Nat → Except Nat (α × Nat)} {g : α → Nat → Except Nat (β × Nat)} {s s1 s2 : Except Nat Nat} {a : α} {c : β} (h1 : StepF f s a s1) (h2 : StepF (g a) s1 c s2) : StepF (fun p => bnd (f p) g) s c s2 := by
  obtain ⟨rfl, h1⟩ := h1
  cases s with
  | error k => exact ⟨h2.1, fun b q h => by cases h⟩
  | ok p =>
    cases hf : f p with
    | error k =>
      have e1 : bndS (.ok p) f = .error k := hf
      rw [e1] at h2
      refine ⟨?_, fun b q h => ?_⟩
      · rw [h2.1]
        show _ = stOf (bnd (f p) g)
        rw [bnd_er hf]
        rfl
      · have h' : bnd (f p) g = .ok (b, q) := h
        rw [bnd_er hf] at h'
        cases h'
    | ok vq =>
      obtain ⟨b0, q0⟩ := vq
      have e1 : bndS (.ok p) f = .ok (b0, q0) := hf
      have := h1 b0 q0 e1
      subst this
      rw [e1] at h2
      refine ⟨?_, fun b q h => ?_⟩
      · rw [h2.1]
        show _ = stOf (bnd (f p) g)
        rw [bnd_ok hf]
        rfl
      · have h' : bnd (f p) g = .ok (b, q) := h
        rw [bnd_ok hf] at h'
        exact h2.2 b q h'
theorem StepF.cons {α : Type} {f : Nat → Except Nat (α × Nat)} {s s1 s2 : Except Nat Nat} {n : Nat} {a : α} {l : List α} (h1 : StepF f s a s1) (h2 : StepF (rdRep f n) s1 l s2) : StepF (rdRep f (n + 1)) s (a :: l) s2 :=
  StepF.comp (g := fun a q => bnd (rdRep f n q) fun l q' => .ok (a :: l, q')) h1 (StepF.comp (g := fun l q' => .ok (a :: l, q')) h2 (StepF.pure_ _ _))
theorem StepF.to {α : Type} {f g : Nat → Except Nat (α × Nat)} {s s' : Except Nat Nat} {a : α} (h : StepF f s a s') (e : ∀ p, f p = g p) : StepF g s a s' := by
  have : f = g := funext e
  rw [← this]
  exact h
/-- a count -/
def rdCnt (L : List UInt8) (p : Nat) : Except Nat (Int × Nat) := bnd (rdInt L p) fun n q => if n < 0 ∨ (L.length : Int) - (q : Int) < n then .error 9 else .ok (n, q)
theorem rdList_cnt {α : Type} (f : Nat → Except Nat (α × Nat)) (L : List UInt8) (p : Nat) : bnd (rdCnt L p) (fun n q => rdRep f n.toNat q) = rdList f L p := by
  unfold rdCnt rdList
  cases rdInt L p with
  | error k => rfl
  | ok vq =>
    obtain ⟨n, q⟩ := vq
    show bnd (if _ then _ else _) _ = if _ then _ else _
    by_cases h : n < 0 ∨ (L.length : Int) - (q : Int) < n
    · rw [if_pos h, if_pos h]; rfl
    · rw [if_neg h, if_neg h]; rfl
theorem refint_s (B r : Nat) (s : Except Nat Nat) (L : List UInt8) (w : World) (h : RS B w r L s) :
    Calls Try.prog 114 #[.pointer (some ⟨r, 0, none⟩)] w fun e w' => ∃ v s', e = .returned (.int .i64 v) ∧ StepF (rdInt L) s v s' ∧ RS B w' r L s' ∧ w.grownBy w' (some r) := by
  refine (refint_any B r s L w h).mono ?_
  rintro e w' ⟨rfl, h1, h2⟩
  refine ⟨_, _, rfl, ⟨?_, ?_⟩, h1, h2⟩
  · cases s with
    | error k => rfl
    | ok p =>
      show (match rdInt L p with | .ok (v, q) => (v, Except.ok q) | .error k => ((0 : Int), Except.error k)).2 = stOf (rdInt L p)
      cases rdInt L p with
      | error k => rfl
      | ok vq => rfl
  · intro b q hb
    cases s with
    | error k => cases hb
    | ok p =>
      have hb' : rdInt L p = .ok (b, q) := hb
      show (match rdInt L p with | .ok (v, q) => (v, Except.ok q) | .error k => ((0 : Int), Except.error k)).1 = b
      rw [hb']

/-- a reader of the document's and two boxes of a struct -/
structure RF (B r : Nat) (L : List UInt8) (T : TypeId) (c2 : Array Value) (w : World) (wr : World) (s : Except Nat Nat) (c3 : Array Value) : Prop where
  rd : RS B wr r L s
  hB : B ≤ w.heap.size
  lt : r < w.heap.size
  gr : w.grownBy wr (some r)
  b2 : wr.heap[w.heap.size]? = some (.cells c2 T (0, 0))
  b3 : wr.heap[w.heap.size + 1]? = some (.cells c3 T (0, 0))
section
variable {B r : Nat} {L : List UInt8} {T : TypeId} {c2 : Array Value} {w wr w' : World} {s s' : Except Nat Nat} {c3 : Array Value}
theorem RF.new (h : RS B w r L s) (hB : B ≤ w.heap.size) : ∃ W, W = (w.alloc (.cells c2 T)).alloc (.cells c3 T) ∧ RF B r L T c2 w W s c3 := by
  have hlt := h.lt
  have hb1 : Below w.heap.size w (w.alloc (.cells c2 T)) := (Below.refl _ w).alloc (Nat.le_refl _) _
  have hb2 : Below (w.alloc (.cells c2 T)).heap.size (w.alloc (.cells c2 T)) ((w.alloc (.cells c2 T)).alloc (.cells c3 T)) := (Below.refl _ _).alloc (Nat.le_refl _) _
  have hb := Below.ext hb1 hb2
  refine ⟨_, rfl, h.ext hb, hB, hlt, ⟨hb.os, hb.tape, hb.output, hb.size, fun i hi _ => hb.block i hi⟩, (hb2.block _ (by simp)).trans (heap_alloc_new _ _), ?_⟩
  have := heap_alloc_new (w.alloc (.cells c2 T)) (.cells c3 T)
  rwa [World.size_alloc] at this
theorem RF.sz (h : RF B r L T c2 w wr s c3) : w.heap.size + 2 ≤ wr.heap.size := (Array.getElem?_eq_some_iff.1 h.b3).1
theorem RF.call (h : RF B r L T c2 w wr s c3) (hR : RS B w' r L s') (hg : wr.grownBy w' (some r)) : RF B r L T c2 w w' s' c3 :=
  have hs := h.sz
  have hl := h.lt
  ⟨hR, h.hB, h.lt, grown_tr h.gr hg, (hg.block _ (by omega) (by simp; omega)).trans h.b2, (hg.block _ (by omega) (by simp; omega)).trans h.b3⟩
theorem RF.set (h : RF B r L T c2 w wr s c3) (o : Nat) (v : Value) : RF B r L T c2 w (wr.setCell ⟨w.heap.size + 1, o, none⟩ v) s (c3.setIfInBounds o v) :=
  have hs := h.sz
  have hl := h.lt
  have hB := h.hB
  have hg : wr.grownBy (wr.setCell ⟨w.heap.size + 1, o, none⟩ v) (some (w.heap.size + 1)) := grown_set ⟨rfl, rfl, rfl, Nat.le_refl _, fun _ _ _ => rfl⟩
  ⟨h.rd.grown hg (fun m hm => by cases hm; omega), h.hB, h.lt, ⟨hg.os.trans h.gr.os, hg.tape.trans h.gr.tape, hg.output.trans h.gr.output, Nat.le_trans h.gr.size hg.size, fun i hi hne => (hg.block i (Nat.lt_of_lt_of_le hi h.gr.size) (by simp; omega)).trans (h.gr.block i hi hne)⟩,
    (hg.block _ (by omega) (by simp)).trans h.b2, heap_setCell_same _ _ o _ _ _ h.b3⟩
theorem RF.end_ (h : RF B r L T c2 w wr s c3) (cs : Array Value) : RS B (wr.setRow w.heap.size cs) r L s ∧ w.grownBy (wr.setRow w.heap.size cs) (some r) :=
  have hs := h.sz
  have hl := h.lt
  have hB := h.hB
  have hg := grown_setRow wr w.heap.size cs
  ⟨h.rd.grown hg (fun m hm => by cases hm; omega), ⟨hg.os.trans h.gr.os, hg.tape.trans h.gr.tape, hg.output.trans h.gr.output, Nat.le_trans h.gr.size hg.size, fun i hi hne => (hg.block i (Nat.lt_of_lt_of_le hi h.gr.size) (by simp; omega)).trans (h.gr.block i hi hne)⟩⟩
theorem RF.cell (h : RF B r L T c2 w wr s c3) (o : Nat) {v : Value} (hv : c3[o]? = some v) : wr.cell? ⟨w.heap.size + 1, o, none⟩ = some v := by rw [cell_of_row _ _ _ _ _ _ h.b3]; exact hv
theorem RF.frz (h : RF B r L T c2 w wr s c3) (o : Nat) : wr.frozen? ⟨w.heap.size + 1, o, none⟩ = false := frozen_of_row _ _ _ _ _ h.b3
end
set_option maxHeartbeats 2000000 in
theorem refevent_s (B r : Nat) (s : Except Nat Nat) (L : List UInt8) (w : World) (h : RS B w r L s) (hB : B ≤ w.heap.size) :
    Calls Try.prog 115 #[.pointer (some ⟨r, 0, none⟩)] w fun e w' => ∃ v s', e = .returned (evV v) ∧ StepF (rdEv L) s v s' ∧ RS B w' r L s' ∧ w.grownBy w' (some r) := by
  obtain ⟨W0, hW, hI0⟩ := RF.new (T := 36) (c2 := #[Value.int .i64 0, Value.int .i64 0, Value.int .i64 0, Value.int .i64 0, Value.int .i64 0, Value.int .i64 0, Value.int .i64 0]) (c3 := #[Value.int .i64 0, Value.int .i64 0, Value.int .i64 0, Value.int .i64 0, Value.int .i64 0, Value.int .i64 0, Value.int .i64 0]) h hB
  go_enter Try.func115, Try.ntmps115
  go_wp2_with fail
  rw [← hW]
  clear hW
  refine (refint_s B r s L W0 hI0.rd).mono ?_
  rintro e w1 ⟨v1, s1, rfl, hS1, hR, hg⟩
  have hJ := hI0.call hR hg
  have hc := hJ.cell 0 (v := .int .i64 0) rfl
  have hf := hJ.frz 0
  have hI1 : RF B r L 36 #[Value.int .i64 0, Value.int .i64 0, Value.int .i64 0, Value.int .i64 0, Value.int .i64 0, Value.int .i64 0, Value.int .i64 0] w (w1.setCell ⟨w.heap.size + 1, 0, none⟩ (.int .i64 v1)) s1 #[Value.int .i64 v1, Value.int .i64 0, Value.int .i64 0, Value.int .i64 0, Value.int .i64 0, Value.int .i64 0, Value.int .i64 0] := hJ.set 0 (.int .i64 v1)
  clear hJ hI0 hg hR
  go_wp2_with fail
  clear hc hf
  generalize w1.setCell ⟨w.heap.size + 1, 0, none⟩ (.int .i64 v1) = W1 at *
  refine (refint_s B r s1 L W1 hI1.rd).mono ?_
  rintro e w2 ⟨v2, s2, rfl, hS2, hR, hg⟩
  have hJ := hI1.call hR hg
  have hc := hJ.cell 1 (v := .int .i64 0) rfl
  have hf := hJ.frz 1
  have hI2 : RF B r L 36 #[Value.int .i64 0, Value.int .i64 0, Value.int .i64 0, Value.int .i64 0, Value.int .i64 0, Value.int .i64 0, Value.int .i64 0] w (w2.setCell ⟨w.heap.size + 1, 1, none⟩ (.int .i64 v2)) s2 #[Value.int .i64 v1, Value.int .i64 v2, Value.int .i64 0, Value.int .i64 0, Value.int .i64 0, Value.int .i64 0, Value.int .i64 0] := hJ.set 1 (.int .i64 v2)
  clear hJ hI1 hg hR
  go_wp2_with fail
  clear hc hf
  generalize w2.setCell ⟨w.heap.size + 1, 1, none⟩ (.int .i64 v2) = W2 at *
  refine (refint_s B r s2 L W2 hI2.rd).mono ?_
  rintro e w3 ⟨v3, s3, rfl, hS3, hR, hg⟩
  have hJ := hI2.call hR hg
  have hc := hJ.cell 2 (v := .int .i64 0) rfl
  have hf := hJ.frz 2
  have hI3 : RF B r L 36 #[Value.int .i64 0, Value.int .i64 0, Value.int .i64 0, Value.int .i64 0, Value.int .i64 0, Value.int .i64 0, Value.int .i64 0] w (w3.setCell ⟨w.heap.size + 1, 2, none⟩ (.int .i64 v3)) s3 #[Value.int .i64 v1, Value.int .i64 v2, Value.int .i64 v3, Value.int .i64 0, Value.int .i64 0, Value.int .i64 0, Value.int .i64 0] := hJ.set 2 (.int .i64 v3)
  clear hJ hI2 hg hR
  go_wp2_with fail
  clear hc hf
  generalize w3.setCell ⟨w.heap.size + 1, 2, none⟩ (.int .i64 v3) = W3 at *
  refine (refint_s B r s3 L W3 hI3.rd).mono ?_
  rintro e w4 ⟨v4, s4, rfl, hS4, hR, hg⟩
  have hJ := hI3.call hR hg
  have hc := hJ.cell 3 (v := .int .i64 0) rfl
  have hf := hJ.frz 3
  have hI4 : RF B r L 36 #[Value.int .i64 0, Value.int .i64 0, Value.int .i64 0, Value.int .i64 0, Value.int .i64 0, Value.int .i64 0, Value.int .i64 0] w (w4.setCell ⟨w.heap.size + 1, 3, none⟩ (.int .i64 v4)) s4 #[Value.int .i64 v1, Value.int .i64 v2, Value.int .i64 v3, Value.int .i64 v4, Value.int .i64 0, Value.int .i64 0, Value.int .i64 0] := hJ.set 3 (.int .i64 v4)
  clear hJ hI3 hg hR
  go_wp2_with fail
  clear hc hf
  generalize w4.setCell ⟨w.heap.size + 1, 3, none⟩ (.int .i64 v4) = W4 at *
  refine (refint_s B r s4 L W4 hI4.rd).mono ?_
  rintro e w5 ⟨v5, s5, rfl, hS5, hR, hg⟩
  have hJ := hI4.call hR hg
  have hc := hJ.cell 4 (v := .int .i64 0) rfl
  have hf := hJ.frz 4
  have hI5 : RF B r L 36 #[Value.int .i64 0, Value.int .i64 0, Value.int .i64 0, Value.int .i64 0, Value.int .i64 0, Value.int .i64 0, Value.int .i64 0] w (w5.setCell ⟨w.heap.size + 1, 4, none⟩ (.int .i64 v5)) s5 #[Value.int .i64 v1, Value.int .i64 v2, Value.int .i64 v3, Value.int .i64 v4, Value.int .i64 v5, Value.int .i64 0, Value.int .i64 0] := hJ.set 4 (.int .i64 v5)
  clear hJ hI4 hg hR
  go_wp2_with fail
  clear hc hf
  generalize w5.setCell ⟨w.heap.size + 1, 4, none⟩ (.int .i64 v5) = W5 at *
  refine (refint_s B r s5 L W5 hI5.rd).mono ?_
  rintro e w6 ⟨v6, s6, rfl, hS6, hR, hg⟩
  have hJ := hI5.call hR hg
  have hc := hJ.cell 5 (v := .int .i64 0) rfl
  have hf := hJ.frz 5
  have hI6 : RF B r L 36 #[Value.int .i64 0, Value.int .i64 0, Value.int .i64 0, Value.int .i64 0, Value.int .i64 0, Value.int .i64 0, Value.int .i64 0] w (w6.setCell ⟨w.heap.size + 1, 5, none⟩ (.int .i64 v6)) s6 #[Value.int .i64 v1, Value.int .i64 v2, Value.int .i64 v3, Value.int .i64 v4, Value.int .i64 v5, Value.int .i64 v6, Value.int .i64 0] := hJ.set 5 (.int .i64 v6)
  clear hJ hI5 hg hR
  go_wp2_with fail
  clear hc hf
  generalize w6.setCell ⟨w.heap.size + 1, 5, none⟩ (.int .i64 v6) = W6 at *
  refine (refint_s B r s6 L W6 hI6.rd).mono ?_
  rintro e w7 ⟨v7, s7, rfl, hS7, hR, hg⟩
  have hJ := hI6.call hR hg
  have hc := hJ.cell 6 (v := .int .i64 0) rfl
  have hf := hJ.frz 6
  have hI7 : RF B r L 36 #[Value.int .i64 0, Value.int .i64 0, Value.int .i64 0, Value.int .i64 0, Value.int .i64 0, Value.int .i64 0, Value.int .i64 0] w (w7.setCell ⟨w.heap.size + 1, 6, none⟩ (.int .i64 v7)) s7 #[Value.int .i64 v1, Value.int .i64 v2, Value.int .i64 v3, Value.int .i64 v4, Value.int .i64 v5, Value.int .i64 v6, Value.int .i64 v7] := hJ.set 6 (.int .i64 v7)
  clear hJ hI6 hg hR
  have k0 : (w7.setCell ⟨w.heap.size + 1, 6, none⟩ (.int .i64 v7)).cell? ⟨w.heap.size + 1, 0, none⟩ = some (.int .i64 v1) := hI7.cell 0 rfl
  have k1 : (w7.setCell ⟨w.heap.size + 1, 6, none⟩ (.int .i64 v7)).cell? ⟨w.heap.size + 1, 1, none⟩ = some (.int .i64 v2) := hI7.cell 1 rfl
  have k2 : (w7.setCell ⟨w.heap.size + 1, 6, none⟩ (.int .i64 v7)).cell? ⟨w.heap.size + 1, 2, none⟩ = some (.int .i64 v3) := hI7.cell 2 rfl
  have k3 : (w7.setCell ⟨w.heap.size + 1, 6, none⟩ (.int .i64 v7)).cell? ⟨w.heap.size + 1, 3, none⟩ = some (.int .i64 v4) := hI7.cell 3 rfl
  have k4 : (w7.setCell ⟨w.heap.size + 1, 6, none⟩ (.int .i64 v7)).cell? ⟨w.heap.size + 1, 4, none⟩ = some (.int .i64 v5) := hI7.cell 4 rfl
  have k5 : (w7.setCell ⟨w.heap.size + 1, 6, none⟩ (.int .i64 v7)).cell? ⟨w.heap.size + 1, 5, none⟩ = some (.int .i64 v6) := hI7.cell 5 rfl
  have k6 : (w7.setCell ⟨w.heap.size + 1, 6, none⟩ (.int .i64 v7)).cell? ⟨w.heap.size + 1, 6, none⟩ = some (.int .i64 v7) := hI7.cell 6 rfl
  have H2 := Lib.hid hI7.b2
  have HI := Lib.hid hI7
  clear hI7
  go_wp2_with (refine wpList_store_row rfl 36 _ _ rfl w.heap.size 36 _ _ rfl rfl H2.out (by kernel_rfl) rfl (by simp [Value.oneCell']) ?_)
  refine bodyPost_ret (results_c rfl rfl (run_ld_block (setRow_heap _ _ _ _ _ _ H2.out) Try.underlying36 rfl (by kernel_rfl))) rfl ?_
  exact ⟨⟨v1, v2, v3, v4, v5, v6, v7⟩, s7, rfl, StepF.comp hS1 (StepF.comp hS2 (StepF.comp hS3 (StepF.comp hS4 (StepF.comp hS5 (StepF.comp hS6 (StepF.comp hS7 (StepF.pure_ _ _))))))), HI.out.end_ _⟩

end Go.Proofs.Ytjcfnpmgklliiaa

namespace Go.Proofs.Ytjcfnpmgklliiaa
open Go.RowKit
set_option maxRecDepth 100000
set_option linter.unusedVariables false

theorem rdAt_st {α : Type} (f : List UInt8 → Nat → Except Nat (α × Nat)) (L : List UInt8) (k : Int) : rdAt f L k = bndS (stB L k) (f L) := by
  unfold rdAt stB
  by_cases h : k < 0 ∨ (L.length : Int) < k
  · rw [if_pos h, if_pos h]; rfl
  · rw [if_neg h, if_neg h]; rfl
theorem StepF.ok_ {α : Type} {f : Nat → Except Nat (α × Nat)} {s : Except Nat Nat} {a : α} {q : Nat} (h : StepF f s a (.ok q)) : bndS s f = .ok (a, q) := by
  obtain ⟨h1, h2⟩ := h
  cases hx : bndS s f with
  | error k => rw [hx] at h1; cases h1
  | ok vq =>
    obtain ⟨b, q'⟩ := vq
    have := h2 b q' hx
    subst this
    rw [hx] at h1
    cases h1
    rfl
theorem StepF.err_ {α : Type} {f : Nat → Except Nat (α × Nat)} {s : Except Nat Nat} {a : α} {k : Nat} (h : StepF f s a (.error k)) : bndS s f = .error k := by
  obtain ⟨h1, h2⟩ := h
  cases hx : bndS s f with
  | error k' => rw [hx] at h1; cases h1; rfl
  | ok vq => rw [hx] at h1; cases h1
/-- a reader of the document's and the boxes of a result and of a variable -/
structure RK (B r : Nat) (L : List UInt8) (w : World) (b4 : Nat) (c4 : Array Value) (b8 : Nat) (T : TypeId) (wr : World) (s : Except Nat Nat) (c8 : Array Value) : Prop where
  rd : RS B wr r L s
  bl : Below w.heap.size w wr
  lo : w.heap.size ≤ r ∧ w.heap.size ≤ b4 ∧ w.heap.size ≤ b8 ∧ B ≤ b8
  ne : b4 ≠ r ∧ b8 ≠ r ∧ b4 ≠ b8
  h4 : wr.heap[b4]? = some (.cells c4 T (0, 0))
  h8 : wr.heap[b8]? = some (.cells c8 T (0, 0))
section
variable {B r : Nat} {L : List UInt8} {T : TypeId} {b4 b8 : Nat} {c4 : Array Value} {w wr w' : World} {s s' : Except Nat Nat} {c8 : Array Value}
theorem RK.call (h : RK B r L w b4 c4 b8 T wr s c8) (hR : RS B w' r L s') (hg : wr.grownBy w' (some r)) : RK B r L w b4 c4 b8 T w' s' c8 :=
  ⟨hR, Below.grow h.bl hg h.lo.1, h.lo, h.ne, (hg.block _ (Array.getElem?_eq_some_iff.1 h.h4).1 (by simpa using h.ne.1)).trans h.h4, (hg.block _ (Array.getElem?_eq_some_iff.1 h.h8).1 (by simpa using h.ne.2.1)).trans h.h8⟩
theorem RK.ext (h : RK B r L w b4 c4 b8 T wr s c8) (hb : Below wr.heap.size wr w') : RK B r L w b4 c4 b8 T w' s c8 :=
  ⟨h.rd.ext hb, Below.ext h.bl hb, h.lo, h.ne, (hb.block _ (Array.getElem?_eq_some_iff.1 h.h4).1).trans h.h4, (hb.block _ (Array.getElem?_eq_some_iff.1 h.h8).1).trans h.h8⟩
theorem RK.set (h : RK B r L w b4 c4 b8 T wr s c8) (o : Nat) (v : Value) : RK B r L w b4 c4 b8 T (wr.setCell ⟨b8, o, none⟩ v) s (c8.setIfInBounds o v) :=
  have hg : wr.grownBy (wr.setCell ⟨b8, o, none⟩ v) (some b8) := grown_set ⟨rfl, rfl, rfl, Nat.le_refl _, fun _ _ _ => rfl⟩
  ⟨h.rd.grown hg (fun m hm => by cases hm; exact ⟨h.lo.2.2.2, h.ne.2.1⟩), Below.grow h.bl hg h.lo.2.2.1, h.lo, h.ne, (hg.block _ (Array.getElem?_eq_some_iff.1 h.h4).1 (by simpa using h.ne.2.2)).trans h.h4, heap_setCell_same _ _ o _ _ _ h.h8⟩
theorem RK.cell (h : RK B r L w b4 c4 b8 T wr s c8) (o : Nat) {v : Value} (hv : c8[o]? = some v) : wr.cell? ⟨b8, o, none⟩ = some v := by rw [cell_of_row _ _ _ _ _ _ h.h8]; exact hv
theorem RK.frz (h : RK B r L w b4 c4 b8 T wr s c8) (o : Nat) : wr.frozen? ⟨b8, o, none⟩ = false := frozen_of_row _ _ _ _ _ h.h8
end
theorem ag_err : ∀ w : World, (isAgg 29).run Try.prog w = .ok false w := fun w => by simp [isAgg, run_underlying Try.underlying29]
set_option maxHeartbeats 2000000 in
theorem refDet_any (A : Option Addr) (n c : Nat) (k : Int) (L : List UInt8) (S : Nat → Prop) (w : World) (hb : Bytes S w (.slice A n c) L) (hn : n ≤ 100000000) :
    Calls Try.prog 95 #[.slice A n c, .int .i64 k] w fun e w' => RdOut (rdAt rdDt L k) (.agg #[Value.int .i64 0, Value.int .i64 0, Value.int .i64 0, Value.int .i64 0, Value.int .i64 0, Value.int .i64 0, Value.int .i64 0, Value.int .i64 0, Value.int .i64 0]) (fun a w' v => v = dtV a) e w' ∧ Below w.heap.size w w' := by
  obtain ⟨W, hW⟩ : ∃ W, W = w.alloc (.cells #[Value.int .i64 0, Value.int .i64 0, Value.int .i64 0, Value.int .i64 0, Value.int .i64 0, Value.int .i64 0, Value.int .i64 0, Value.int .i64 0, Value.int .i64 0] 38) := ⟨_, rfl⟩
  have hbW : Below w.heap.size w W := by rw [hW]; exact (Below.refl _ _).alloc (Nat.le_refl _) _
  have r0 : W.heap[w.heap.size]? = some (.cells #[Value.int .i64 0, Value.int .i64 0, Value.int .i64 0, Value.int .i64 0, Value.int .i64 0, Value.int .i64 0, Value.int .i64 0, Value.int .i64 0, Value.int .i64 0] 38 (0, 0)) := by rw [hW]; exact heap_alloc_new _ _
  have hsW : W.heap.size = w.heap.size + 1 := by rw [hW]; simp
  have hbL := hb.len
  go_enter Try.func95, Try.ntmps95
  go_wp2_with fail
  rw [← hW]
  clear hW
  refine (begin_any A n c k L S W (hb.ext hbW) hn).mono ?_
  rintro e w1 ⟨rfl, hR1, hb1⟩
  rw [hsW] at hR1
  rw [hsW]
  have r1 := (hb1.block w.heap.size (by omega)).trans r0
  have b1 := Below.ext hbW hb1
  have hsz1 : w.heap.size + 2 ≤ w1.heap.size := hR1.lt
  clear r0 hb1
  obtain ⟨W0, hW0⟩ : ∃ W0, W0 = w1.alloc (.cells #[Value.int .i64 0, Value.int .i64 0, Value.int .i64 0, Value.int .i64 0, Value.int .i64 0, Value.int .i64 0, Value.int .i64 0, Value.int .i64 0, Value.int .i64 0] 38) := ⟨_, rfl⟩
  have hb0 : Below w1.heap.size w1 W0 := by rw [hW0]; exact (Below.refl _ _).alloc (Nat.le_refl _) _
  have r8 : W0.heap[w1.heap.size]? = some (.cells #[Value.int .i64 0, Value.int .i64 0, Value.int .i64 0, Value.int .i64 0, Value.int .i64 0, Value.int .i64 0, Value.int .i64 0, Value.int .i64 0, Value.int .i64 0] 38 (0, 0)) := by rw [hW0]; exact heap_alloc_new _ _
  have hI0 : RK (w.heap.size + 1) (w.heap.size + 1) L w w.heap.size #[Value.int .i64 0, Value.int .i64 0, Value.int .i64 0, Value.int .i64 0, Value.int .i64 0, Value.int .i64 0, Value.int .i64 0, Value.int .i64 0, Value.int .i64 0] w1.heap.size 38 W0 (stB L k) #[Value.int .i64 0, Value.int .i64 0, Value.int .i64 0, Value.int .i64 0, Value.int .i64 0, Value.int .i64 0, Value.int .i64 0, Value.int .i64 0, Value.int .i64 0] := ⟨hR1.ext hb0, Below.ext b1 hb0, ⟨by omega, by omega, by omega, by omega⟩, ⟨by omega, by omega, by omega⟩, (hb0.block _ (by omega)).trans r1, r8⟩
  clear r8 hb0 r1 b1 hR1
  go_wp2_with fail
  rw [← hW0]
  clear hW0
  refine (refint_s (w.heap.size + 1) (w.heap.size + 1) (stB L k) L W0 hI0.rd).mono ?_
  rintro e u1 ⟨v1, s1, rfl, hS1, hR, hg⟩
  have hJ := hI0.call hR hg
  have hc := hJ.cell 0 (v := .int .i64 0) rfl
  have hf := hJ.frz 0
  have hI1 : RK (w.heap.size + 1) (w.heap.size + 1) L w w.heap.size #[Value.int .i64 0, Value.int .i64 0, Value.int .i64 0, Value.int .i64 0, Value.int .i64 0, Value.int .i64 0, Value.int .i64 0, Value.int .i64 0, Value.int .i64 0] w1.heap.size 38 (u1.setCell ⟨w1.heap.size, 0, none⟩ (.int .i64 v1)) s1 #[Value.int .i64 v1, Value.int .i64 0, Value.int .i64 0, Value.int .i64 0, Value.int .i64 0, Value.int .i64 0, Value.int .i64 0, Value.int .i64 0, Value.int .i64 0] := hJ.set 0 (.int .i64 v1)
  clear hJ hI0 hg hR
  go_wp2_with fail
  clear hc hf
  generalize u1.setCell ⟨w1.heap.size, 0, none⟩ (.int .i64 v1) = W1 at *
  refine (refint_s (w.heap.size + 1) (w.heap.size + 1) s1 L W1 hI1.rd).mono ?_
  rintro e u2 ⟨v2, s2, rfl, hS2, hR, hg⟩
  have hJ := hI1.call hR hg
  have hc := hJ.cell 1 (v := .int .i64 0) rfl
  have hf := hJ.frz 1
  have hI2 : RK (w.heap.size + 1) (w.heap.size + 1) L w w.heap.size #[Value.int .i64 0, Value.int .i64 0, Value.int .i64 0, Value.int .i64 0, Value.int .i64 0, Value.int .i64 0, Value.int .i64 0, Value.int .i64 0, Value.int .i64 0] w1.heap.size 38 (u2.setCell ⟨w1.heap.size, 1, none⟩ (.int .i64 v2)) s2 #[Value.int .i64 v1, Value.int .i64 v2, Value.int .i64 0, Value.int .i64 0, Value.int .i64 0, Value.int .i64 0, Value.int .i64 0, Value.int .i64 0, Value.int .i64 0] := hJ.set 1 (.int .i64 v2)
  clear hJ hI1 hg hR
  go_wp2_with fail
  clear hc hf
  generalize u2.setCell ⟨w1.heap.size, 1, none⟩ (.int .i64 v2) = W2 at *
  refine (refevent_s (w.heap.size + 1) (w.heap.size + 1) s2 L W2 hI2.rd (by have := hI2.bl.size; have := (Array.getElem?_eq_some_iff.1 hI2.h8).1; omega)).mono ?_
  rintro e u3 ⟨v3, s3, rfl, hS3, hR, hg⟩
  unfold evV
  have hJ := hI2.call hR hg
  have c2 := hJ.cell 2 (v := .int .i64 0) rfl
  have f2 := hJ.frz 2
  have c3 := hJ.cell 3 (v := .int .i64 0) rfl
  have f3 := hJ.frz 3
  have c4 := hJ.cell 4 (v := .int .i64 0) rfl
  have f4 := hJ.frz 4
  have c5 := hJ.cell 5 (v := .int .i64 0) rfl
  have f5 := hJ.frz 5
  have c6 := hJ.cell 6 (v := .int .i64 0) rfl
  have f6 := hJ.frz 6
  have c7 := hJ.cell 7 (v := .int .i64 0) rfl
  have f7 := hJ.frz 7
  have c8 := hJ.cell 8 (v := .int .i64 0) rfl
  have f8 := hJ.frz 8
  have hK0 : RK (w.heap.size + 1) (w.heap.size + 1) L w w.heap.size #[Value.int .i64 0, Value.int .i64 0, Value.int .i64 0, Value.int .i64 0, Value.int .i64 0, Value.int .i64 0, Value.int .i64 0, Value.int .i64 0, Value.int .i64 0] w1.heap.size 38 (u3.setCell ⟨w1.heap.size, 2, none⟩ (.int .i64 v3.k0)) s3 #[Value.int .i64 v1, Value.int .i64 v2, Value.int .i64 v3.k0, Value.int .i64 0, Value.int .i64 0, Value.int .i64 0, Value.int .i64 0, Value.int .i64 0, Value.int .i64 0] := hJ.set 2 (.int .i64 v3.k0)
  have hK1 : RK (w.heap.size + 1) (w.heap.size + 1) L w w.heap.size #[Value.int .i64 0, Value.int .i64 0, Value.int .i64 0, Value.int .i64 0, Value.int .i64 0, Value.int .i64 0, Value.int .i64 0, Value.int .i64 0, Value.int .i64 0] w1.heap.size 38 ((u3.setCell ⟨w1.heap.size, 2, none⟩ (.int .i64 v3.k0)).setCell ⟨w1.heap.size, 3, none⟩ (.int .i64 v3.k1)) s3 #[Value.int .i64 v1, Value.int .i64 v2, Value.int .i64 v3.k0, Value.int .i64 v3.k1, Value.int .i64 0, Value.int .i64 0, Value.int .i64 0, Value.int .i64 0, Value.int .i64 0] := hK0.set 3 (.int .i64 v3.k1)
  have hK2 : RK (w.heap.size + 1) (w.heap.size + 1) L w w.heap.size #[Value.int .i64 0, Value.int .i64 0, Value.int .i64 0, Value.int .i64 0, Value.int .i64 0, Value.int .i64 0, Value.int .i64 0, Value.int .i64 0, Value.int .i64 0] w1.heap.size 38 (((u3.setCell ⟨w1.heap.size, 2, none⟩ (.int .i64 v3.k0)).setCell ⟨w1.heap.size, 3, none⟩ (.int .i64 v3.k1)).setCell ⟨w1.heap.size, 4, none⟩ (.int .i64 v3.k2)) s3 #[Value.int .i64 v1, Value.int .i64 v2, Value.int .i64 v3.k0, Value.int .i64 v3.k1, Value.int .i64 v3.k2, Value.int .i64 0, Value.int .i64 0, Value.int .i64 0, Value.int .i64 0] := hK1.set 4 (.int .i64 v3.k2)
  have hK3 : RK (w.heap.size + 1) (w.heap.size + 1) L w w.heap.size #[Value.int .i64 0, Value.int .i64 0, Value.int .i64 0, Value.int .i64 0, Value.int .i64 0, Value.int .i64 0, Value.int .i64 0, Value.int .i64 0, Value.int .i64 0] w1.heap.size 38 ((((u3.setCell ⟨w1.heap.size, 2, none⟩ (.int .i64 v3.k0)).setCell ⟨w1.heap.size, 3, none⟩ (.int .i64 v3.k1)).setCell ⟨w1.heap.size, 4, none⟩ (.int .i64 v3.k2)).setCell ⟨w1.heap.size, 5, none⟩ (.int .i64 v3.k3)) s3 #[Value.int .i64 v1, Value.int .i64 v2, Value.int .i64 v3.k0, Value.int .i64 v3.k1, Value.int .i64 v3.k2, Value.int .i64 v3.k3, Value.int .i64 0, Value.int .i64 0, Value.int .i64 0] := hK2.set 5 (.int .i64 v3.k3)
  have hK4 : RK (w.heap.size + 1) (w.heap.size + 1) L w w.heap.size #[Value.int .i64 0, Value.int .i64 0, Value.int .i64 0, Value.int .i64 0, Value.int .i64 0, Value.int .i64 0, Value.int .i64 0, Value.int .i64 0, Value.int .i64 0] w1.heap.size 38 (((((u3.setCell ⟨w1.heap.size, 2, none⟩ (.int .i64 v3.k0)).setCell ⟨w1.heap.size, 3, none⟩ (.int .i64 v3.k1)).setCell ⟨w1.heap.size, 4, none⟩ (.int .i64 v3.k2)).setCell ⟨w1.heap.size, 5, none⟩ (.int .i64 v3.k3)).setCell ⟨w1.heap.size, 6, none⟩ (.int .i64 v3.k4)) s3 #[Value.int .i64 v1, Value.int .i64 v2, Value.int .i64 v3.k0, Value.int .i64 v3.k1, Value.int .i64 v3.k2, Value.int .i64 v3.k3, Value.int .i64 v3.k4, Value.int .i64 0, Value.int .i64 0] := hK3.set 6 (.int .i64 v3.k4)
  have hK5 : RK (w.heap.size + 1) (w.heap.size + 1) L w w.heap.size #[Value.int .i64 0, Value.int .i64 0, Value.int .i64 0, Value.int .i64 0, Value.int .i64 0, Value.int .i64 0, Value.int .i64 0, Value.int .i64 0, Value.int .i64 0] w1.heap.size 38 ((((((u3.setCell ⟨w1.heap.size, 2, none⟩ (.int .i64 v3.k0)).setCell ⟨w1.heap.size, 3, none⟩ (.int .i64 v3.k1)).setCell ⟨w1.heap.size, 4, none⟩ (.int .i64 v3.k2)).setCell ⟨w1.heap.size, 5, none⟩ (.int .i64 v3.k3)).setCell ⟨w1.heap.size, 6, none⟩ (.int .i64 v3.k4)).setCell ⟨w1.heap.size, 7, none⟩ (.int .i64 v3.k5)) s3 #[Value.int .i64 v1, Value.int .i64 v2, Value.int .i64 v3.k0, Value.int .i64 v3.k1, Value.int .i64 v3.k2, Value.int .i64 v3.k3, Value.int .i64 v3.k4, Value.int .i64 v3.k5, Value.int .i64 0] := hK4.set 7 (.int .i64 v3.k5)
  have hK6 : RK (w.heap.size + 1) (w.heap.size + 1) L w w.heap.size #[Value.int .i64 0, Value.int .i64 0, Value.int .i64 0, Value.int .i64 0, Value.int .i64 0, Value.int .i64 0, Value.int .i64 0, Value.int .i64 0, Value.int .i64 0] w1.heap.size 38 (((((((u3.setCell ⟨w1.heap.size, 2, none⟩ (.int .i64 v3.k0)).setCell ⟨w1.heap.size, 3, none⟩ (.int .i64 v3.k1)).setCell ⟨w1.heap.size, 4, none⟩ (.int .i64 v3.k2)).setCell ⟨w1.heap.size, 5, none⟩ (.int .i64 v3.k3)).setCell ⟨w1.heap.size, 6, none⟩ (.int .i64 v3.k4)).setCell ⟨w1.heap.size, 7, none⟩ (.int .i64 v3.k5)).setCell ⟨w1.heap.size, 8, none⟩ (.int .i64 v3.k6)) s3 #[Value.int .i64 v1, Value.int .i64 v2, Value.int .i64 v3.k0, Value.int .i64 v3.k1, Value.int .i64 v3.k2, Value.int .i64 v3.k3, Value.int .i64 v3.k4, Value.int .i64 v3.k5, Value.int .i64 v3.k6] := hK5.set 8 (.int .i64 v3.k6)
  have HK := Lib.hid hK6
  have HSP : RowKit.Hid (StepF (rdDt L) (stB L k) ⟨v1, v2, v3⟩ s3) := Lib.hid (StepF.comp hS1 (StepF.comp hS2 (StepF.comp hS3 (StepF.pure_ _ _))))
  clear hK0 hK1 hK2 hK3 hK4 hK5 hK6 hI2 hg hR hJ hS1 hS2 hS3
  go_wp2_with (refine wpList_stop 24 rfl ?_)
  refine ⟨?_⟩
  clear c2 c3 c4 c5 c6 c7 c8 f2 f3 f4 f5 f6 f7 f8
  generalize (((((((u3.setCell ⟨w1.heap.size, 2, none⟩ (.int .i64 v3.k0)).setCell ⟨w1.heap.size, 3, none⟩ (.int .i64 v3.k1)).setCell ⟨w1.heap.size, 4, none⟩ (.int .i64 v3.k2)).setCell ⟨w1.heap.size, 5, none⟩ (.int .i64 v3.k3)).setCell ⟨w1.heap.size, 6, none⟩ (.int .i64 v3.k4)).setCell ⟨w1.heap.size, 7, none⟩ (.int .i64 v3.k5)).setCell ⟨w1.heap.size, 8, none⟩ (.int .i64 v3.k6)) = W3 at *
  have hfk : ∀ (cs : Array Value), W3.drew.grownBy (W3.drew.setRow w.heap.size cs) (some w.heap.size) := fun cs => grown_setRow _ _ _
  cases hs : s3 with
  | error x =>
    rw [hs] at HK HSP
    have hrow := HK.out.rd
    obtain ⟨h0, u, pp, hrow⟩ := hrow
    have ce : W3.cell? ⟨(w.heap.size + 1), 2, none⟩ = some (.int .i64 (x : Int)) := by rw [cell_of_row _ _ _ _ _ _ hrow]; rfl
    have d : ((x : Int) != 0) = true := by simp; omega
    have HR := Lib.hid hrow
    have H4 : RowKit.Hid (W3.drew.heap[w.heap.size]? = some (.cells #[Value.int .i64 0, Value.int .i64 0, Value.int .i64 0, Value.int .i64 0, Value.int .i64 0, Value.int .i64 0, Value.int .i64 0, Value.int .i64 0, Value.int .i64 0] 38 (0, 0))) := Lib.hid HK.out.h4
    have hfin := HSP.out.err_
    clear hrow
    go_wp2_with fail
    refine wp_region_lexL (fun w' => w'.cell? ⟨(w.heap.size + 1), 2, none⟩ = some (.int .i64 (x : Int))) (by kernel_rfl) (by kernel_rfl) ce ?_
    repeat (first | (refine lexL_q0 rfl ?_; go_big_quiet_step (fail); refine wpQuiet_nil ?_) | (refine lexL_skip0 rfl rfl ?_; simp only [Act.put, List.setIfInBounds_toArray, List.set_cons_succ, List.set_cons_zero]))
    refine lexL_e rfl ?_
    go_wp2_with fail
    refine lexL_go ce ?_
    repeat (first | (refine lexL_q0 rfl ?_; go_big_quiet_step (fail); refine wpQuiet_nil ?_) | (refine lexL_skip0 rfl rfl ?_; simp only [Act.put, List.setIfInBounds_toArray, List.set_cons_succ, List.set_cons_zero]))
    refine lexL_ld (⟨(w.heap.size + 1), 2, none⟩) (.int .i64 (x : Int)) rfl rfl rfl (fun w' hS => run_ld1 (ag_err _) hS) ?_
    simp only [Act.put, List.setIfInBounds_toArray, List.set_cons_succ, List.set_cons_zero]
    repeat (first | (refine lexL_q0 rfl ?_; go_big_quiet_step (fail); refine wpQuiet_nil ?_) | (refine lexL_skip0 rfl rfl ?_; simp only [Act.put, List.setIfInBounds_toArray, List.set_cons_succ, List.set_cons_zero]))
    refine lexL_e rfl ?_
    refine wpList_store_row rfl 38 _ _ rfl w.heap.size 38 _ _ rfl rfl H4.out (by kernel_rfl) rfl (by simp [Value.oneCell']) ?_
    refine lexL_go ?_ ?_
    · have hr2 := (setRow_other W3.drew w.heap.size (w.heap.size + 1) #[Value.int .i64 0, Value.int .i64 0, Value.int .i64 0, Value.int .i64 0, Value.int .i64 0, Value.int .i64 0, Value.int .i64 0, Value.int .i64 0, Value.int .i64 0] HK.out.ne.1.symm).trans HR.out
      rw [cell_of_row _ _ _ _ _ _ hr2]; rfl
    simp only [Act.put]
    repeat (first | (refine lexL_q0 rfl ?_; go_big_quiet_step (fail); refine wpQuiet_nil ?_) | (refine lexL_skip0 rfl rfl ?_; simp only [Act.put, List.setIfInBounds_toArray, List.set_cons_succ, List.set_cons_zero]))
    refine lexL_nil ?_
    go_wp2_with fail
    go_wp2
    refine bodyPost_ret (results_ctt rfl rfl (run_ld_block (setRow_heap _ _ _ _ _ _ H4.out) Try.underlying38 rfl (by kernel_rfl))) rfl ?_
    rw [rdAt_st, hfin]
    exact ⟨rfl, Below.setRow HK.out.bl.drew (Nat.le_refl _) _⟩
  | ok q =>
    rw [hs] at HK HSP
    have hrow := HK.out.rd
    obtain ⟨hB, Ar, cr, hrow, _, hq, hL⟩ := hrow
    have ce : W3.cell? ⟨(w.heap.size + 1), 2, none⟩ = some (.int .i64 0) := by rw [cell_of_row _ _ _ _ _ _ hrow]; rfl
    have HR : RowKit.Hid (W3.drew.heap[(w.heap.size + 1)]? = _) := Lib.hid hrow
    have H4 : RowKit.Hid (W3.drew.heap[w.heap.size]? = some (.cells #[Value.int .i64 0, Value.int .i64 0, Value.int .i64 0, Value.int .i64 0, Value.int .i64 0, Value.int .i64 0, Value.int .i64 0, Value.int .i64 0, Value.int .i64 0] 38 (0, 0))) := Lib.hid HK.out.h4
    have H8 : RowKit.Hid (W3.drew.heap[w1.heap.size]? = some (.cells #[Value.int .i64 v1, Value.int .i64 v2, Value.int .i64 v3.k0, Value.int .i64 v3.k1, Value.int .i64 v3.k2, Value.int .i64 v3.k3, Value.int .i64 v3.k4, Value.int .i64 v3.k5, Value.int .i64 v3.k6] 38 (0, 0))) := Lib.hid HK.out.h8
    have hfin := HSP.out.ok_
    clear hrow
    go_wp2_with fail
    refine wp_region_lexL (fun w' => w'.heap[w1.heap.size]? = some (.cells #[Value.int .i64 v1, Value.int .i64 v2, Value.int .i64 v3.k0, Value.int .i64 v3.k1, Value.int .i64 v3.k2, Value.int .i64 v3.k3, Value.int .i64 v3.k4, Value.int .i64 v3.k5, Value.int .i64 v3.k6] 38 (0, 0)) ∧ w'.heap[(w.heap.size + 1)]? = _) (by kernel_rfl) (by kernel_rfl) ⟨H8.out, HR.out⟩ ?_
    repeat (first | (refine lexL_q0 rfl ?_; go_big_quiet_step (fail); refine wpQuiet_nil ?_) | (refine lexL_skip0 rfl rfl ?_; simp only [Act.put, List.setIfInBounds_toArray, List.set_cons_succ, List.set_cons_zero]))
    refine lexL_ld (⟨w1.heap.size, 0, none⟩) (.agg #[Value.int .i64 v1, Value.int .i64 v2, Value.int .i64 v3.k0, Value.int .i64 v3.k1, Value.int .i64 v3.k2, Value.int .i64 v3.k3, Value.int .i64 v3.k4, Value.int .i64 v3.k5, Value.int .i64 v3.k6]) rfl rfl rfl (fun w' hS => run_ld_block hS.1 Try.underlying38 rfl (by kernel_rfl)) ?_
    simp only [Act.put, List.setIfInBounds_toArray, List.set_cons_succ, List.set_cons_zero]
    repeat (first | (refine lexL_q0 rfl ?_; go_big_quiet_step (fail); refine wpQuiet_nil ?_) | (refine lexL_skip0 rfl rfl ?_; simp only [Act.put, List.setIfInBounds_toArray, List.set_cons_succ, List.set_cons_zero]))
    refine lexL_ld (⟨(w.heap.size + 1), 1, none⟩) (.int .i64 (q : Int)) rfl rfl rfl (fun w' hS => run_ld1 (ag_int _) (by rw [cell_of_row _ _ _ _ _ _ hS.2]; rfl)) ?_
    simp only [Act.put, List.setIfInBounds_toArray, List.set_cons_succ, List.set_cons_zero]
    repeat (first | (refine lexL_q0 rfl ?_; go_big_quiet_step (fail); refine wpQuiet_nil ?_) | (refine lexL_skip0 rfl rfl ?_; simp only [Act.put, List.setIfInBounds_toArray, List.set_cons_succ, List.set_cons_zero]))
    refine lexL_e rfl ?_
    refine wpList_store_row rfl 38 _ _ rfl w.heap.size 38 _ _ rfl rfl H4.out (by kernel_rfl) rfl (by simp [Value.oneCell']) ?_
    refine lexL_go ⟨(setRow_other W3.drew w.heap.size w1.heap.size #[Value.int .i64 v1, Value.int .i64 v2, Value.int .i64 v3.k0, Value.int .i64 v3.k1, Value.int .i64 v3.k2, Value.int .i64 v3.k3, Value.int .i64 v3.k4, Value.int .i64 v3.k5, Value.int .i64 v3.k6] HK.out.ne.2.2.symm).trans H8.out, (setRow_other W3.drew w.heap.size (w.heap.size + 1) #[Value.int .i64 v1, Value.int .i64 v2, Value.int .i64 v3.k0, Value.int .i64 v3.k1, Value.int .i64 v3.k2, Value.int .i64 v3.k3, Value.int .i64 v3.k4, Value.int .i64 v3.k5, Value.int .i64 v3.k6] HK.out.ne.1.symm).trans HR.out⟩ ?_
    simp only [Act.put]
    repeat (first | (refine lexL_q0 rfl ?_; go_big_quiet_step (fail); refine wpQuiet_nil ?_) | (refine lexL_skip0 rfl rfl ?_; simp only [Act.put, List.setIfInBounds_toArray, List.set_cons_succ, List.set_cons_zero]))
    refine lexL_nil ?_
    go_wp2_with fail
    go_wp2
    refine bodyPost_ret (results_ctt rfl rfl (run_ld_block (setRow_heap _ _ _ _ _ _ H4.out) Try.underlying38 rfl (by kernel_rfl))) rfl ?_
    rw [rdAt_st, hfin]
    exact ⟨⟨_, rfl, rfl⟩, Below.setRow HK.out.bl.drew (Nat.le_refl _) _⟩

end Go.Proofs.Ytjcfnpmgklliiaa

namespace Go.Proofs.Ytjcfnpmgklliiaa
open Go.RowKit
set_option linter.unusedVariables false
set_option linter.unusedSimpArgs false

theorem rdI_form (L : List UInt8) : ∀ (n i u p t q : Nat), n + i = 10 → u < 2 ^ (7 * i) → rdI L n i u p = .ok (t, q) →
    p < q ∧ q ≤ L.length ∧ ∃ v, t = u + v * 2 ^ (7 * i) ∧ t < 2 ^ 64 ∧ (0 < i → 0 < v) ∧ encU v = (L.take q).drop p := by
  intro n
  induction n with
  | zero => intro i u p t q _ _ h; simp [rdI] at h
  | succ n ih =>
    intro i u p t q hni hu h
    cases hc : L[p]? with
    | none => rw [rdI_none hc] at h; cases h
    | some c =>
      have hpl : p < L.length := (List.getElem?_eq_some_iff.1 hc).1
      have hlt := c.toNat_lt
      by_cases hb : (i = 9 ∧ 1 < c.toNat) ∨ (0 < i ∧ c.toNat = 0)
      · rw [rdI_bad hc hb] at h; cases h
      · by_cases h1 : c.toNat < 128
        · rw [rdI_end hc hb h1] at h
          injection h with h; injection h with ht hq
          subst ht hq
          have hv := grp_lt64 (i := i) (u := u) (c := c.toNat) (by omega) hu hlt (by omega)
          rw [Nat.mod_eq_of_lt h1] at hv
          refine ⟨by omega, by omega, c.toNat, rfl, by simpa using hv, by omega, ?_⟩
          rw [encU_lt h1, List.take_add_one, hc, List.drop_append, List.drop_eq_nil_of_le (by simp; omega)]
          simp only [List.length_take, Option.toList_some]
          rw [show min p L.length = p by omega, Nat.sub_self]
          simp
        · rw [rdI_go hc hb h1] at h
          have hi9 : i < 9 := by omega
          have hu2 := grp_lt (i := i) (u := u) (x := c.toNat - 128) (by omega) hu (by omega)
          obtain ⟨hp, hq, v, hv, h64, hpos, he⟩ := ih (i + 1) _ (p + 1) t q (by omega) hu2 h
          refine ⟨by omega, hq, (c.toNat - 128) + v * 128, ?_, h64, by omega, ?_⟩
          · have e1 : (2 : Nat) ^ (7 * (i + 1)) = 128 * 2 ^ (7 * i) := by rw [show 7 * (i + 1) = 7 + 7 * i by omega, Nat.pow_add]
            rw [hv, e1, Nat.add_mul, Nat.mul_assoc v 128, Nat.add_assoc]
          · have hv0 := hpos (by omega)
            rw [encU_ge (by omega), show ((c.toNat - 128) + v * 128) % 128 + 128 = c.toNat by omega, show ((c.toNat - 128) + v * 128) / 128 = v by omega, he]
            have hd : (L.take q).drop p = c :: (L.take q).drop (p + 1) := by
              have h3 : p < (L.take q).length := by simp; omega
              rw [List.drop_eq_getElem_cons h3]
              congr 1
              rw [List.getElem_take]
              exact (List.getElem?_eq_some_iff.1 hc).2
            rw [hd, UInt8.ofNat_toNat]
theorem zz_zd (t : Nat) : zz (zd t) = t := by
  unfold zd zz
  by_cases h : t % 2 = 0
  · rw [if_pos h, if_pos (by omega)]; omega
  · rw [if_neg h, if_neg (by omega)]; omega
/-- the bytes from p to q are the numbers l -/
structure Seg (L : List UInt8) (p q : Nat) (l : List Int) : Prop where
  lo : p + l.length ≤ q
  hi : q ≤ L.length
  inr : ∀ z ∈ l, InR z
  eq : encs l = (L.take q).drop p
theorem take_join {L : List UInt8} {p q r : Nat} (h1 : p ≤ q) (h2 : q ≤ r) (hr : r ≤ L.length) : (L.take q).drop p ++ (L.take r).drop q = (L.take r).drop p := by
  have h3 : L.take r = L.take q ++ (L.take r).drop q := by
    have := List.take_append_drop q (L.take r)
    rw [List.take_take, Nat.min_eq_left h2] at this
    exact this.symm
  conv => rhs; rw [h3, List.drop_append, show p - (L.take q).length = 0 by simp; omega]
  rfl
theorem Seg.nil_ {L : List UInt8} {p : Nat} (h : p ≤ L.length) : Seg L p p [] := ⟨by simp, h, fun z hz => by simp at hz, by simp [encs]⟩
theorem Seg.app {L : List UInt8} {p q r : Nat} {a b : List Int} (h1 : Seg L p q a) (h2 : Seg L q r b) : Seg L p r (a ++ b) := by
  have e1 := h1.lo
  have e2 := h2.lo
  refine ⟨by simp; omega, h2.hi, fun z hz => ?_, ?_⟩
  · rcases List.mem_append.1 hz with hz | hz
    · exact h1.inr z hz
    · exact h2.inr z hz
  · rw [encs_append, h1.eq, h2.eq, take_join (by omega) (by omega) h2.hi]
theorem bnd_inv {α β : Type} {x : Except Nat (α × Nat)} {f : α → Nat → Except Nat (β × Nat)} {y : β × Nat} (h : bnd x f = .ok y) : ∃ a q, x = .ok (a, q) ∧ f a q = .ok y := by
  cases x with
  | error k => cases h
  | ok v => exact ⟨v.1, v.2, rfl, h⟩
theorem rdInt_seg {L : List UInt8} {p : Nat} {a : Int} {q : Nat} (h : rdInt L p = .ok (a, q)) : Seg L p q [a] := by
  unfold rdInt rdU at h
  cases hr : rdI L 10 0 0 p with
  | error k => rw [hr] at h; cases h
  | ok x =>
    obtain ⟨t, q'⟩ := x
    rw [hr] at h
    injection h with h; injection h with ha hq
    subst ha hq
    obtain ⟨hp, hq, v, hv, h64, _, he⟩ := rdI_form L 10 0 0 p t q' rfl (by decide) hr
    have hvt : t = v := by simpa using hv
    subst hvt
    refine ⟨by simp; omega, hq, ?_, ?_⟩
    · intro z hz
      simp at hz
      subst hz
      unfold zd InR
      split <;> constructor <;> omega
    · simp [encs, encI, zz_zd, he]
theorem rdEv_seg {L : List UInt8} {p : Nat} {a : Ev} {q : Nat} (h : rdEv L p = .ok (a, q)) : Seg L p q a.l := by
  unfold rdEv at h
  obtain ⟨a0, p0, h0, h⟩ := bnd_inv h
  obtain ⟨a1, p1, h1, h⟩ := bnd_inv h
  obtain ⟨a2, p2, h2, h⟩ := bnd_inv h
  obtain ⟨a3, p3, h3, h⟩ := bnd_inv h
  obtain ⟨a4, p4, h4, h⟩ := bnd_inv h
  obtain ⟨a5, p5, h5, h⟩ := bnd_inv h
  obtain ⟨a6, p6, h6, h⟩ := bnd_inv h
  injection h with h; injection h with ha hq
  subst ha hq
  exact (rdInt_seg h0).app ((rdInt_seg h1).app ((rdInt_seg h2).app ((rdInt_seg h3).app ((rdInt_seg h4).app ((rdInt_seg h5).app (rdInt_seg h6))))))
theorem rdSn_seg {L : List UInt8} {p : Nat} {a : Snd} {q : Nat} (h : rdSn L p = .ok (a, q)) : Seg L p q a.l := by
  unfold rdSn at h
  obtain ⟨a0, p0, h0, h⟩ := bnd_inv h
  obtain ⟨a1, p1, h1, h⟩ := bnd_inv h
  obtain ⟨a2, p2, h2, h⟩ := bnd_inv h
  obtain ⟨a3, p3, h3, h⟩ := bnd_inv h
  injection h with h; injection h with ha hq
  subst ha hq
  exact (rdInt_seg h0).app ((rdInt_seg h1).app ((rdInt_seg h2).app (rdInt_seg h3)))
theorem rdOu_seg {L : List UInt8} {p : Nat} {a : Ou} {q : Nat} (h : rdOu L p = .ok (a, q)) : Seg L p q a.l := by
  unfold rdOu at h
  obtain ⟨a0, p0, h0, h⟩ := bnd_inv h
  obtain ⟨a1, p1, h1, h⟩ := bnd_inv h
  injection h with h; injection h with ha hq
  subst ha hq
  exact (rdInt_seg h0).app (rdInt_seg h1)
theorem rdDt_seg {L : List UInt8} {p : Nat} {a : Dt} {q : Nat} (h : rdDt L p = .ok (a, q)) : Seg L p q a.l := by
  unfold rdDt at h
  obtain ⟨a0, p0, h0, h⟩ := bnd_inv h
  obtain ⟨a1, p1, h1, h⟩ := bnd_inv h
  obtain ⟨a2, p2, h2, h⟩ := bnd_inv h
  injection h with h; injection h with ha hq
  subst ha hq
  exact (rdInt_seg h0).app ((rdInt_seg h1).app (rdEv_seg h2))
theorem rdRep_seg {α : Type} {L : List UInt8} {f : Nat → Except Nat (α × Nat)} {b : α → List Int} (hf : ∀ p a q, f p = .ok (a, q) → Seg L p q (b a)) : ∀ (n p : Nat) (l : List α) (q : Nat), p ≤ L.length → rdRep f n p = .ok (l, q) → Seg L p q (l.flatMap b) ∧ l.length = n := by
  intro n
  induction n with
  | zero =>
    intro p l q hp h
    rw [rdRep] at h
    injection h with h; injection h with ha hq
    subst ha hq
    exact ⟨Seg.nil_ hp, rfl⟩
  | succ n ih =>
    intro p l q hp h
    rw [rdRep] at h
    obtain ⟨a, p1, h1, h⟩ := bnd_inv h
    obtain ⟨l', p2, h2, h⟩ := bnd_inv h
    injection h with h; injection h with ha hq
    subst ha hq
    have s1 := hf _ _ _ h1
    obtain ⟨s2, hl⟩ := ih _ _ _ s1.hi h2
    exact ⟨by rw [List.flatMap_cons]; exact s1.app s2, by simp [hl]⟩
theorem rdList_seg {α : Type} {L : List UInt8} {f : Nat → Except Nat (α × Nat)} {b : α → List Int} (hf : ∀ p a q, f p = .ok (a, q) → Seg L p q (b a)) {p : Nat} {l : List α} {q : Nat} (h : rdList f L p = .ok (l, q)) : Seg L p q ([(l.length : Int)] ++ l.flatMap b) := by
  unfold rdList at h
  obtain ⟨n, p1, h1, h⟩ := bnd_inv h
  have s1 := rdInt_seg h1
  by_cases hb : n < 0 ∨ (L.length : Int) - (p1 : Int) < n
  · rw [if_pos hb] at h; cases h
  · rw [if_neg hb] at h
    obtain ⟨s2, hl⟩ := rdRep_seg hf _ _ _ _ s1.hi h
    have : (l.length : Int) = n := by omega
    rw [this]
    exact s1.app s2
theorem flat_one (l : List Int) : l.flatMap (fun a => [a]) = l := by
  induction l with
  | nil => rfl
  | cons a l ih => rw [List.flatMap_cons, ih]; rfl
theorem rdInts_seg {L : List UInt8} {p : Nat} {l : List Int} {q : Nat} (h : rdList (rdInt L) L p = .ok (l, q)) : Seg L p q ([(l.length : Int)] ++ l) := by
  have := rdList_seg (b := fun a => [a]) (fun p a q h => rdInt_seg h) h
  rwa [flat_one] at this
theorem rdPg_seg {L : List UInt8} {p : Nat} {a : Pg} {q : Nat} (h : rdPg L p = .ok (a, q)) : Seg L p q a.l := by
  unfold rdPg at h
  obtain ⟨a0, p0, h0, h⟩ := bnd_inv h
  obtain ⟨a1, p1, h1, h⟩ := bnd_inv h
  injection h with h; injection h with ha hq
  subst ha hq
  exact (rdInt_seg h0).app (rdInts_seg h1)
theorem rdPgs_seg {L : List UInt8} {p : Nat} {a : List Pg} {q : Nat} (h : rdPgs L p = .ok (a, q)) : Seg L p q (pgL a) := rdList_seg (fun p a q h => rdPg_seg h) h
theorem rdSt_seg {L : List UInt8} {p : Nat} {a : Stt} {q : Nat} (h : rdSt L p = .ok (a, q)) : Seg L p q a.l := by
  unfold rdSt at h
  obtain ⟨a0, p0, h0, h⟩ := bnd_inv h
  obtain ⟨a1, p1, h1, h⟩ := bnd_inv h
  obtain ⟨a2, p2, h2, h⟩ := bnd_inv h
  obtain ⟨a3, p3, h3, h⟩ := bnd_inv h
  injection h with h; injection h with ha hq
  subst ha hq
  have := ((rdInts_seg h0).app ((rdList_seg (fun p a q h => rdEv_seg h) h1).app ((rdList_seg (fun p a q h => rdSn_seg h) h2).app (rdList_seg (fun p a q h => rdOu_seg h) h3))))
  have hl : Stt.l ⟨a0, a1, a2, a3⟩ = ([(a0.length : Int)] ++ a0) ++ (([(a1.length : Int)] ++ a1.flatMap Ev.l) ++ (([(a2.length : Int)] ++ a2.flatMap Snd.l) ++ ([(a3.length : Int)] ++ a3.flatMap Ou.l))) := by
    simp only [Stt.l, List.append_assoc]
  rw [hl]
  exact this
theorem flat_len1 {α : Type} (b : α → List Int) (hb : ∀ a, 1 ≤ (b a).length) (l : List α) : l.length ≤ (l.flatMap b).length := by
  induction l with
  | nil => simp
  | cons a l ih => rw [List.flatMap_cons, List.length_append, List.length_cons]; have := hb a; omega
/-- what the put of the pages needs -/
theorem pgs_ok {L : List UInt8} {p q : Nat} {ps : List Pg} (h : Seg L p q (pgL ps)) (hL : L.length ≤ 400) : (∀ x ∈ ps, PgOk x) ∧ ps.length ≤ 400 := by
  have h1 := h.lo
  have h2 := h.hi
  have h3 : (pgL ps).length = 1 + (ps.flatMap Pg.l).length := by simp [pgL]; omega
  have h4 := flat_len1 Pg.l (fun a => by simp [Pg.l]) ps
  refine ⟨fun x hx => ?_, by omega⟩
  have hz : ∀ z ∈ x.l, InR z := fun z hz => h.inr z (List.mem_append_right _ (List.mem_flatMap.2 ⟨x, hx, hz⟩))
  have h5 : x.l.length ≤ (ps.flatMap Pg.l).length := by
    obtain ⟨s, t, rfl⟩ := List.append_of_mem hx
    simp
    omega
  have h6 : x.l.length = 2 + x.cells.length := by simp [Pg.l]; omega
  exact ⟨hz _ (by simp [Pg.l]), fun z hzz => hz z (by simp [Pg.l, hzz]), by omega⟩
theorem st_ok {L : List UInt8} {p q : Nat} {s : Stt} (h : Seg L p q s.l) (hL : L.length ≤ 400) : SttOk s ∧ s.evs.length ≤ 400 ∧ s.sent.length ≤ 400 ∧ s.outs.length ≤ 400 := by
  have h1 := h.lo
  have h2 := h.hi
  have h3 : s.l.length = 4 + s.cells.length + (s.evs.flatMap Ev.l).length + (s.sent.flatMap Snd.l).length + (s.outs.flatMap Ou.l).length := by simp only [Stt.l, List.length_append, List.length_cons, List.length_nil]; omega
  have g1 := flat_len1 Ev.l (fun a => by simp [Ev.l]) s.evs
  have g2 := flat_len1 Snd.l (fun a => by simp [Snd.l]) s.sent
  have g3 := flat_len1 Ou.l (fun a => by simp [Ou.l]) s.outs
  refine ⟨⟨fun z hz => h.inr z (by simp [Stt.l, hz]), fun e he z hz => h.inr z ?_, fun e he z hz => h.inr z ?_, fun e he z hz => h.inr z ?_, by omega⟩, by omega, by omega, by omega⟩
  · have : z ∈ s.evs.flatMap Ev.l := List.mem_flatMap.2 ⟨e, he, hz⟩
    simp only [Stt.l, List.mem_append]
    simp only [this, true_or, or_true]
  · have : z ∈ s.sent.flatMap Snd.l := List.mem_flatMap.2 ⟨e, he, hz⟩
    simp only [Stt.l, List.mem_append]
    simp only [this, true_or, or_true]
  · have : z ∈ s.outs.flatMap Ou.l := List.mem_flatMap.2 ⟨e, he, hz⟩
    simp only [Stt.l, List.mem_append]
    simp only [this, true_or, or_true]
theorem seg0 {L : List UInt8} {q : Nat} {l : List Int} (h : Seg L 0 q l) : encs l = L.take q := by rw [h.eq, List.drop_zero]
/-- errors are not 0 -/
def Er {α : Type} (x : Except Nat (α × Nat)) : Prop := ∀ k, x = .error k → k ≠ 0
theorem Er.ok_ {α : Type} (y : α × Nat) : Er (.ok y) := fun k h => by cases h
theorem Er.bnd_ {α β : Type} {x : Except Nat (α × Nat)} {f : α → Nat → Except Nat (β × Nat)} (h : Er x) (hf : ∀ a q, Er (f a q)) : Er (bnd x f) := by
  intro k hk
  cases x with
  | error e => injection hk with hk; subst hk; exact h _ rfl
  | ok y => exact hf y.1 y.2 k hk
theorem rdI_er (L : List UInt8) : ∀ (n i u p k : Nat), rdI L n i u p = .error k → k ≠ 0 := by
  intro n
  induction n with
  | zero => intro i u p k h; rw [rdI] at h; injection h with h; omega
  | succ n ih =>
    intro i u p k h
    cases hc : L[p]? with
    | none => rw [rdI_none hc] at h; injection h with h; omega
    | some c =>
      by_cases hb : (i = 9 ∧ 1 < c.toNat) ∨ (0 < i ∧ c.toNat = 0)
      · rw [rdI_bad hc hb] at h; injection h with h; omega
      · by_cases h1 : c.toNat < 128
        · rw [rdI_end hc hb h1] at h; cases h
        · rw [rdI_go hc hb h1] at h; exact ih _ _ _ _ h
theorem rdInt_er (L : List UInt8) (p : Nat) : Er (rdInt L p) := by
  intro k h
  unfold rdInt rdU at h
  cases hr : rdI L 10 0 0 p with
  | error e => rw [hr] at h; injection h with h; subst h; exact rdI_er _ _ _ _ _ _ hr
  | ok x => rw [hr] at h; cases h
theorem rdEv_er (L : List UInt8) (p : Nat) : Er (rdEv L p) :=
  (rdInt_er _ _).bnd_ fun _ _ => (rdInt_er _ _).bnd_ fun _ _ => (rdInt_er _ _).bnd_ fun _ _ => (rdInt_er _ _).bnd_ fun _ _ => (rdInt_er _ _).bnd_ fun _ _ => (rdInt_er _ _).bnd_ fun _ _ => (rdInt_er _ _).bnd_ fun _ _ => Er.ok_ _
theorem rdSn_er (L : List UInt8) (p : Nat) : Er (rdSn L p) :=
  (rdInt_er _ _).bnd_ fun _ _ => (rdInt_er _ _).bnd_ fun _ _ => (rdInt_er _ _).bnd_ fun _ _ => (rdInt_er _ _).bnd_ fun _ _ => Er.ok_ _
theorem rdOu_er (L : List UInt8) (p : Nat) : Er (rdOu L p) := (rdInt_er _ _).bnd_ fun _ _ => (rdInt_er _ _).bnd_ fun _ _ => Er.ok_ _
theorem rdDt_er (L : List UInt8) (p : Nat) : Er (rdDt L p) := (rdInt_er _ _).bnd_ fun _ _ => (rdInt_er _ _).bnd_ fun _ _ => (rdEv_er _ _).bnd_ fun _ _ => Er.ok_ _
theorem rdRep_er {α : Type} {f : Nat → Except Nat (α × Nat)} (hf : ∀ p, Er (f p)) : ∀ n p, Er (rdRep f n p) := by
  intro n
  induction n with
  | zero => intro p; exact Er.ok_ _
  | succ n ih => intro p; exact (hf p).bnd_ fun _ q => (ih q).bnd_ fun _ _ => Er.ok_ _
theorem rdList_er {α : Type} {f : Nat → Except Nat (α × Nat)} (hf : ∀ p, Er (f p)) (L : List UInt8) (p : Nat) : Er (rdList f L p) :=
  (rdInt_er _ _).bnd_ fun n q => by
    intro k h
    by_cases hb : n < 0 ∨ (L.length : Int) - (q : Int) < n
    · rw [if_pos hb] at h; injection h with h; omega
    · rw [if_neg hb] at h; exact rdRep_er hf _ _ _ h
theorem rdPg_er (L : List UInt8) (p : Nat) : Er (rdPg L p) := (rdInt_er _ _).bnd_ fun _ _ => (rdList_er (rdInt_er L) _ _).bnd_ fun _ _ => Er.ok_ _
theorem rdPgs_er (L : List UInt8) (p : Nat) : Er (rdPgs L p) := rdList_er (rdPg_er L) _ _
theorem rdSt_er (L : List UInt8) (p : Nat) : Er (rdSt L p) :=
  (rdList_er (rdInt_er L) _ _).bnd_ fun _ _ => (rdList_er (rdEv_er L) _ _).bnd_ fun _ _ => (rdList_er (rdSn_er L) _ _).bnd_ fun _ _ => (rdList_er (rdOu_er L) _ _).bnd_ fun _ _ => Er.ok_ _
theorem rdAt0 {α : Type} (f : List UInt8 → Nat → Except Nat (α × Nat)) (L : List UInt8) : rdAt f L 0 = f L 0 := by
  unfold rdAt
  rw [if_neg (by omega)]
  rfl
/-- what a number of a Seg from 0 on gives -/
def OneAt (L : List UInt8) (q x : Int) (l : List Int) : Prop := x = 0 → ∃ n : Nat, q = n ∧ Seg L 0 n l
theorem OneAt.er {L : List UInt8} {q x : Int} {l : List Int} {k : Nat} (hk : k ≠ 0) (hx : x = k) : OneAt L q x l := fun h => absurd h (by omega)
theorem intOne (L : List UInt8) : ∃ (v q x : Int), rdOut iv (iv 0) (rdAt rdInt L 0) = .tuple #[.int .i64 v, .int .i64 q, .int .i64 x] ∧ OneAt L q x [v] := by
  rw [rdAt0]
  cases h : rdInt L 0 with
  | error x => exact ⟨0, 0, x, rfl, OneAt.er (rdInt_er _ _ _ h) rfl⟩
  | ok vq => exact ⟨vq.1, vq.2, 0, rfl, fun _ => ⟨vq.2, rfl, rdInt_seg h⟩⟩
theorem evOne (L : List UInt8) : ∃ (a : Ev) (q x : Int), (∀ e w', RdOut (rdAt rdEv L 0) (.agg #[Value.int .i64 0, Value.int .i64 0, Value.int .i64 0, Value.int .i64 0, Value.int .i64 0, Value.int .i64 0, Value.int .i64 0]) (fun a w' v => v = evV a) e w' → e = .returned (.tuple #[.agg #[Value.int .i64 a.k0, Value.int .i64 a.k1, Value.int .i64 a.k2, Value.int .i64 a.k3, Value.int .i64 a.k4, Value.int .i64 a.k5, Value.int .i64 a.k6], .int .i64 q, .int .i64 x])) ∧ OneAt L q x a.l := by
  unfold RdOut
  rw [rdAt0]
  cases h : rdEv L 0 with
  | error x => exact ⟨⟨0, 0, 0, 0, 0, 0, 0⟩, 0, x, fun e w' h => h, OneAt.er (rdEv_er _ _ _ h) rfl⟩
  | ok vq => exact ⟨vq.1, vq.2, 0, fun e w' ⟨v, h, hv⟩ => (by rw [h, hv]; rfl), fun _ => ⟨vq.2, rfl, rdEv_seg h⟩⟩
theorem Pgs.lt_ {S : Nat → Prop} {w : World} {v : Value} {ps : List Pg} (h : Pgs S w v ps) : Pgs (· < w.heap.size) w v ps := by
  obtain ⟨xs, h1, h2, h3⟩ := h
  exact ⟨xs, h1.mono fun b hb _ => hb, h2, fun i x p hx hp => ⟨(h3 i x p hx hp).1, (h3 i x p hx hp).2.mono fun b hb _ => hb⟩⟩
theorem rlo {α : Type} {enc : α → List Value} {S : Nat → Prop} {w : World} {v : Value} {l : List α} (h : Recs enc S w v l) : Recs enc (· < w.heap.size) w v l := h.mono fun b hb _ => hb
theorem newB1 (w w1 : World) (B : Nat) (cs : Array Value) (T : TypeId) (hb : Below B w w1) (hB : B ≤ w1.heap.size) : ∃ W, W = w1.alloc (.cells cs T) ∧ Below B w W ∧ Below w1.heap.size w1 W ∧ W.heap.size = w1.heap.size + 1 ∧ W.heap[w1.heap.size]? = some (.cells cs T (0, 0)) :=
  ⟨_, rfl, hb.alloc hB _, (Below.refl _ _).alloc (Nat.le_refl _) _, by simp, heap_alloc_new _ _⟩
end Go.Proofs.Ytjcfnpmgklliiaa
