/-
  The document's Event and Det.
-/
import Derived.Test.YtgjjfjibfleonaaRfA
namespace Go.Proofs.Ytgjjfjibfleonaa
open Go.RowKit
set_option maxRecDepth 100000
set_option linter.unusedVariables false

theorem rdAt_st {α : Type} (f : List UInt8 → Nat → Except Nat (α × Nat)) (L : List UInt8) (k : Int) : rdAt f L k = bndS (stB L k) (f L) := by
  unfold rdAt stB
  by_cases h : k < 0 ∨ (L.length : Int) < k
  · rw [if_pos h, if_pos h]; rfl
  · rw [if_neg h, if_neg h]; rfl
theorem StepF.ok_ {α : Type} {f : Nat → Except Nat (α × Nat)} {s : Except Nat Nat} {a : α} {q : Nat} (h : StepF f s a (.ok q)) : bndS s f = .ok (a, q) := by
  obtain ⟨h1, h2⟩ := h
  cases hx : bndS s f with
  | error k => rw [hx] at h1; cases h1
  | ok vq =>
    obtain ⟨b, q'⟩ := vq
    have := h2 b q' hx
    subst this
    rw [hx] at h1
    cases h1
    rfl
theorem StepF.err_ {α : Type} {f : Nat → Except Nat (α × Nat)} {s : Except Nat Nat} {a : α} {k : Nat} (h : StepF f s a (.error k)) : bndS s f = .error k := by
  obtain ⟨h1, h2⟩ := h
  cases hx : bndS s f with
  | error k' => rw [hx] at h1; cases h1; rfl
  | ok vq => rw [hx] at h1; cases h1
/-- a reader of the document's and the boxes of a result and of a variable -/
structure RK (B r : Nat) (L : List UInt8) (w : World) (b4 : Nat) (c4 : Array Value) (b8 : Nat) (T : TypeId) (wr : World) (s : Except Nat Nat) (c8 : Array Value) : Prop where
  rd : RS B wr r L s
  bl : Below w.heap.size w wr
  lo : w.heap.size ≤ r ∧ w.heap.size ≤ b4 ∧ w.heap.size ≤ b8 ∧ B ≤ b8
  ne : b4 ≠ r ∧ b8 ≠ r ∧ b4 ≠ b8
  h4 : wr.heap[b4]? = some (.cells c4 T (0, 0))
  h8 : wr.heap[b8]? = some (.cells c8 T (0, 0))
section
variable {B r : Nat} {L : List UInt8} {T : TypeId} {b4 b8 : Nat} {c4 : Array Value} {w wr w' : World} {s s' : Except Nat Nat} {c8 : Array Value}
theorem RK.call (h : RK B r L w b4 c4 b8 T wr s c8) (hR : RS B w' r L s') (hg : wr.grownBy w' (some r)) : RK B r L w b4 c4 b8 T w' s' c8 :=
  ⟨hR, Below.grow h.bl hg h.lo.1, h.lo, h.ne, (hg.block _ (Array.getElem?_eq_some_iff.1 h.h4).1 (by simpa using h.ne.1)).trans h.h4, (hg.block _ (Array.getElem?_eq_some_iff.1 h.h8).1 (by simpa using h.ne.2.1)).trans h.h8⟩
theorem RK.ext (h : RK B r L w b4 c4 b8 T wr s c8) (hb : Below wr.heap.size wr w') : RK B r L w b4 c4 b8 T w' s c8 :=
  ⟨h.rd.ext hb, Below.ext h.bl hb, h.lo, h.ne, (hb.block _ (Array.getElem?_eq_some_iff.1 h.h4).1).trans h.h4, (hb.block _ (Array.getElem?_eq_some_iff.1 h.h8).1).trans h.h8⟩
theorem RK.set (h : RK B r L w b4 c4 b8 T wr s c8) (o : Nat) (v : Value) : RK B r L w b4 c4 b8 T (wr.setCell ⟨b8, o, none⟩ v) s (c8.setIfInBounds o v) :=
  have hg : wr.grownBy (wr.setCell ⟨b8, o, none⟩ v) (some b8) := grown_set ⟨rfl, rfl, rfl, Nat.le_refl _, fun _ _ _ => rfl⟩
  ⟨h.rd.grown hg (fun m hm => by cases hm; exact ⟨h.lo.2.2.2, h.ne.2.1⟩), Below.grow h.bl hg h.lo.2.2.1, h.lo, h.ne, (hg.block _ (Array.getElem?_eq_some_iff.1 h.h4).1 (by simpa using h.ne.2.2)).trans h.h4, heap_setCell_same _ _ o _ _ _ h.h8⟩
theorem RK.cell (h : RK B r L w b4 c4 b8 T wr s c8) (o : Nat) {v : Value} (hv : c8[o]? = some v) : wr.cell? ⟨b8, o, none⟩ = some v := by rw [cell_of_row _ _ _ _ _ _ h.h8]; exact hv
theorem RK.frz (h : RK B r L w b4 c4 b8 T wr s c8) (o : Nat) : wr.frozen? ⟨b8, o, none⟩ = false := frozen_of_row _ _ _ _ _ h.h8
end
theorem ag_err : ∀ w : World, (isAgg 26).run Try.prog w = .ok false w := fun w => by simp [isAgg, run_underlying Try.underlying26]
set_option maxHeartbeats 2000000 in
theorem refEvent_any (A : Option Addr) (n c : Nat) (k : Int) (L : List UInt8) (S : Nat → Prop) (w : World) (hb : Bytes S w (.slice A n c) L) (hn : n ≤ 100000000) :
    Calls Try.prog 34 #[.slice A n c, .int .i64 k] w fun e w' => RdOut (rdAt rdEv L k) (.agg #[Value.int .i64 0, Value.int .i64 0, Value.int .i64 0, Value.int .i64 0, Value.int .i64 0, Value.int .i64 0, Value.int .i64 0]) (fun a w' v => v = evV a) e w' ∧ Below w.heap.size w w' := by
  obtain ⟨W, hW⟩ : ∃ W, W = w.alloc (.cells #[Value.int .i64 0, Value.int .i64 0, Value.int .i64 0, Value.int .i64 0, Value.int .i64 0, Value.int .i64 0, Value.int .i64 0] 35) := ⟨_, rfl⟩
  have hbW : Below w.heap.size w W := by rw [hW]; exact (Below.refl _ _).alloc (Nat.le_refl _) _
  have r0 : W.heap[w.heap.size]? = some (.cells #[Value.int .i64 0, Value.int .i64 0, Value.int .i64 0, Value.int .i64 0, Value.int .i64 0, Value.int .i64 0, Value.int .i64 0] 35 (0, 0)) := by rw [hW]; exact heap_alloc_new _ _
  have hsW : W.heap.size = w.heap.size + 1 := by rw [hW]; simp
  have hbL := hb.len
  go_enter Try.func34, Try.ntmps34
  go_wp2_with fail
  rw [← hW]
  clear hW
  refine (begin_any A n c k L S W (hb.ext hbW) hn).mono ?_
  rintro e w1 ⟨rfl, hR1, hb1⟩
  rw [hsW] at hR1
  rw [hsW]
  have r1 := (hb1.block w.heap.size (by omega)).trans r0
  have b1 := Below.ext hbW hb1
  have hsz1 : w.heap.size + 2 ≤ w1.heap.size := hR1.lt
  clear r0 hb1
  go_wp2_with fail
  refine (refevent_s (w.heap.size + 1) (w.heap.size + 1) (stB L k) L w1 hR1 (by omega)).mono ?_
  rintro e w2 ⟨v, s2, rfl, hS2, hR2, hg2⟩
  unfold evV
  have r2 := (hg2.block w.heap.size (by omega) (by simp)).trans r1
  have b2 := Below.grow b1 hg2 (show w.heap.size ≤ w.heap.size + 1 by omega)
  have s2z := hg2.size
  obtain ⟨W3, hW3⟩ : ∃ W3, W3 = w2.alloc (.cells #[Value.int .i64 v.k0, Value.int .i64 v.k1, Value.int .i64 v.k2, Value.int .i64 v.k3, Value.int .i64 v.k4, Value.int .i64 v.k5, Value.int .i64 v.k6] 35) := ⟨_, rfl⟩
  have hb3 : Below w2.heap.size w2 W3 := by rw [hW3]; exact (Below.refl _ _).alloc (Nat.le_refl _) _
  have r8 : W3.heap[w2.heap.size]? = some (.cells #[Value.int .i64 v.k0, Value.int .i64 v.k1, Value.int .i64 v.k2, Value.int .i64 v.k3, Value.int .i64 v.k4, Value.int .i64 v.k5, Value.int .i64 v.k6] 35 (0, 0)) := by rw [hW3]; exact heap_alloc_new _ _
  have HK : RowKit.Hid (RK (w.heap.size + 1) (w.heap.size + 1) L w w.heap.size #[Value.int .i64 0, Value.int .i64 0, Value.int .i64 0, Value.int .i64 0, Value.int .i64 0, Value.int .i64 0, Value.int .i64 0] w2.heap.size 35 W3 s2 #[Value.int .i64 v.k0, Value.int .i64 v.k1, Value.int .i64 v.k2, Value.int .i64 v.k3, Value.int .i64 v.k4, Value.int .i64 v.k5, Value.int .i64 v.k6]) := Lib.hid ⟨hR2.ext hb3, Below.ext b2 hb3, ⟨by omega, by omega, by omega, by omega⟩, ⟨by omega, by omega, by omega⟩, (hb3.block _ (by omega)).trans r2, r8⟩
  have HSP := Lib.hid hS2
  have hrS := HK.out.rd
  clear r2 b2 hg2 hR2 hS2 r8 hb3 r1 b1 hR1
  obtain ⟨x3, hx3⟩ : ∃ x : Int, W3.cell? ⟨w.heap.size + 1, 2, none⟩ = some (.int .i64 x) := by
    cases s2 with
    | error x => obtain ⟨_, _, _, h1⟩ := hrS; exact ⟨x, by rw [cell_of_row _ _ _ _ _ _ h1]; rfl⟩
    | ok q => obtain ⟨_, _, _, h1, _⟩ := hrS; exact ⟨0, by rw [cell_of_row _ _ _ _ _ _ h1]; rfl⟩
  go_wp2_with (refine wpList_stop 17 rfl ?_)
  rw [← hW3]
  refine ⟨?_⟩
  clear hW3 hx3 hrS
  have hfk : ∀ (cs : Array Value), W3.drew.grownBy (W3.drew.setRow w.heap.size cs) (some w.heap.size) := fun cs => grown_setRow _ _ _
  cases hs : s2 with
  | error x =>
    rw [hs] at HK HSP
    have hrow := HK.out.rd
    obtain ⟨h0, u, pp, hrow⟩ := hrow
    have ce : W3.cell? ⟨(w.heap.size + 1), 2, none⟩ = some (.int .i64 (x : Int)) := by rw [cell_of_row _ _ _ _ _ _ hrow]; rfl
    have d : ((x : Int) != 0) = true := by simp; omega
    have HR := Lib.hid hrow
    have H4 : RowKit.Hid (W3.drew.heap[w.heap.size]? = some (.cells #[Value.int .i64 0, Value.int .i64 0, Value.int .i64 0, Value.int .i64 0, Value.int .i64 0, Value.int .i64 0, Value.int .i64 0] 35 (0, 0))) := Lib.hid HK.out.h4
    have hfin := HSP.out.err_
    clear hrow
    go_wp2_with fail
    refine wp_region_lexL (fun w' => w'.cell? ⟨(w.heap.size + 1), 2, none⟩ = some (.int .i64 (x : Int))) (by kernel_rfl) (by kernel_rfl) ce ?_
    repeat (first | (refine lexL_q0 rfl ?_; go_big_quiet_step (fail); refine wpQuiet_nil ?_) | (refine lexL_skip0 rfl rfl ?_; simp only [Act.put, List.setIfInBounds_toArray, List.set_cons_succ, List.set_cons_zero]))
    refine lexL_e rfl ?_
    go_wp2_with fail
    refine lexL_go ce ?_
    repeat (first | (refine lexL_q0 rfl ?_; go_big_quiet_step (fail); refine wpQuiet_nil ?_) | (refine lexL_skip0 rfl rfl ?_; simp only [Act.put, List.setIfInBounds_toArray, List.set_cons_succ, List.set_cons_zero]))
    refine lexL_ld (⟨(w.heap.size + 1), 2, none⟩) (.int .i64 (x : Int)) rfl rfl rfl (fun w' hS => run_ld1 (ag_err _) hS) ?_
    simp only [Act.put, List.setIfInBounds_toArray, List.set_cons_succ, List.set_cons_zero]
    repeat (first | (refine lexL_q0 rfl ?_; go_big_quiet_step (fail); refine wpQuiet_nil ?_) | (refine lexL_skip0 rfl rfl ?_; simp only [Act.put, List.setIfInBounds_toArray, List.set_cons_succ, List.set_cons_zero]))
    refine lexL_e rfl ?_
    refine wpList_store_row rfl 35 _ _ rfl w.heap.size 35 _ _ rfl rfl H4.out (by kernel_rfl) rfl (by simp [Value.oneCell']) ?_
    refine lexL_go ?_ ?_
    · have hr2 := (setRow_other W3.drew w.heap.size (w.heap.size + 1) #[Value.int .i64 0, Value.int .i64 0, Value.int .i64 0, Value.int .i64 0, Value.int .i64 0, Value.int .i64 0, Value.int .i64 0] HK.out.ne.1.symm).trans HR.out
      rw [cell_of_row _ _ _ _ _ _ hr2]; rfl
    simp only [Act.put]
    repeat (first | (refine lexL_q0 rfl ?_; go_big_quiet_step (fail); refine wpQuiet_nil ?_) | (refine lexL_skip0 rfl rfl ?_; simp only [Act.put, List.setIfInBounds_toArray, List.set_cons_succ, List.set_cons_zero]))
    refine lexL_nil ?_
    go_wp2_with fail
    go_wp2
    refine bodyPost_ret (results_ctt rfl rfl (run_ld_block (setRow_heap _ _ _ _ _ _ H4.out) Try.underlying35 rfl (by kernel_rfl))) rfl ?_
    rw [rdAt_st, hfin]
    exact ⟨rfl, Below.setRow HK.out.bl.drew (Nat.le_refl _) _⟩
  | ok q =>
    rw [hs] at HK HSP
    have hrow := HK.out.rd
    obtain ⟨hB, Ar, cr, hrow, _, hq, hL⟩ := hrow
    have ce : W3.cell? ⟨(w.heap.size + 1), 2, none⟩ = some (.int .i64 0) := by rw [cell_of_row _ _ _ _ _ _ hrow]; rfl
    have HR : RowKit.Hid (W3.drew.heap[(w.heap.size + 1)]? = _) := Lib.hid hrow
    have H4 : RowKit.Hid (W3.drew.heap[w.heap.size]? = some (.cells #[Value.int .i64 0, Value.int .i64 0, Value.int .i64 0, Value.int .i64 0, Value.int .i64 0, Value.int .i64 0, Value.int .i64 0] 35 (0, 0))) := Lib.hid HK.out.h4
    have H8 : RowKit.Hid (W3.drew.heap[w2.heap.size]? = some (.cells #[Value.int .i64 v.k0, Value.int .i64 v.k1, Value.int .i64 v.k2, Value.int .i64 v.k3, Value.int .i64 v.k4, Value.int .i64 v.k5, Value.int .i64 v.k6] 35 (0, 0))) := Lib.hid HK.out.h8
    have hfin := HSP.out.ok_
    clear hrow
    go_wp2_with fail
    refine wp_region_lexL (fun w' => w'.heap[w2.heap.size]? = some (.cells #[Value.int .i64 v.k0, Value.int .i64 v.k1, Value.int .i64 v.k2, Value.int .i64 v.k3, Value.int .i64 v.k4, Value.int .i64 v.k5, Value.int .i64 v.k6] 35 (0, 0)) ∧ w'.heap[(w.heap.size + 1)]? = _) (by kernel_rfl) (by kernel_rfl) ⟨H8.out, HR.out⟩ ?_
    repeat (first | (refine lexL_q0 rfl ?_; go_big_quiet_step (fail); refine wpQuiet_nil ?_) | (refine lexL_skip0 rfl rfl ?_; simp only [Act.put, List.setIfInBounds_toArray, List.set_cons_succ, List.set_cons_zero]))
    refine lexL_ld (⟨w2.heap.size, 0, none⟩) (.agg #[Value.int .i64 v.k0, Value.int .i64 v.k1, Value.int .i64 v.k2, Value.int .i64 v.k3, Value.int .i64 v.k4, Value.int .i64 v.k5, Value.int .i64 v.k6]) rfl rfl rfl (fun w' hS => run_ld_block hS.1 Try.underlying35 rfl (by kernel_rfl)) ?_
    simp only [Act.put, List.setIfInBounds_toArray, List.set_cons_succ, List.set_cons_zero]
    repeat (first | (refine lexL_q0 rfl ?_; go_big_quiet_step (fail); refine wpQuiet_nil ?_) | (refine lexL_skip0 rfl rfl ?_; simp only [Act.put, List.setIfInBounds_toArray, List.set_cons_succ, List.set_cons_zero]))
    refine lexL_ld (⟨(w.heap.size + 1), 1, none⟩) (.int .i64 (q : Int)) rfl rfl rfl (fun w' hS => run_ld1 (ag_int _) (by rw [cell_of_row _ _ _ _ _ _ hS.2]; rfl)) ?_
    simp only [Act.put, List.setIfInBounds_toArray, List.set_cons_succ, List.set_cons_zero]
    repeat (first | (refine lexL_q0 rfl ?_; go_big_quiet_step (fail); refine wpQuiet_nil ?_) | (refine lexL_skip0 rfl rfl ?_; simp only [Act.put, List.setIfInBounds_toArray, List.set_cons_succ, List.set_cons_zero]))
    refine lexL_e rfl ?_
    refine wpList_store_row rfl 35 _ _ rfl w.heap.size 35 _ _ rfl rfl H4.out (by kernel_rfl) rfl (by simp [Value.oneCell']) ?_
    refine lexL_go ⟨(setRow_other W3.drew w.heap.size w2.heap.size #[Value.int .i64 v.k0, Value.int .i64 v.k1, Value.int .i64 v.k2, Value.int .i64 v.k3, Value.int .i64 v.k4, Value.int .i64 v.k5, Value.int .i64 v.k6] HK.out.ne.2.2.symm).trans H8.out, (setRow_other W3.drew w.heap.size (w.heap.size + 1) #[Value.int .i64 v.k0, Value.int .i64 v.k1, Value.int .i64 v.k2, Value.int .i64 v.k3, Value.int .i64 v.k4, Value.int .i64 v.k5, Value.int .i64 v.k6] HK.out.ne.1.symm).trans HR.out⟩ ?_
    simp only [Act.put]
    repeat (first | (refine lexL_q0 rfl ?_; go_big_quiet_step (fail); refine wpQuiet_nil ?_) | (refine lexL_skip0 rfl rfl ?_; simp only [Act.put, List.setIfInBounds_toArray, List.set_cons_succ, List.set_cons_zero]))
    refine lexL_nil ?_
    go_wp2_with fail
    go_wp2
    refine bodyPost_ret (results_ctt rfl rfl (run_ld_block (setRow_heap _ _ _ _ _ _ H4.out) Try.underlying35 rfl (by kernel_rfl))) rfl ?_
    rw [rdAt_st, hfin]
    exact ⟨⟨_, rfl, rfl⟩, Below.setRow HK.out.bl.drew (Nat.le_refl _) _⟩

set_option maxHeartbeats 2000000 in
theorem refDet_any (A : Option Addr) (n c : Nat) (k : Int) (L : List UInt8) (S : Nat → Prop) (w : World) (hb : Bytes S w (.slice A n c) L) (hn : n ≤ 100000000) :
    Calls Try.prog 36 #[.slice A n c, .int .i64 k] w fun e w' => RdOut (rdAt rdDt L k) (.agg #[Value.int .i64 0, Value.int .i64 0, Value.int .i64 0, Value.int .i64 0, Value.int .i64 0, Value.int .i64 0, Value.int .i64 0, Value.int .i64 0, Value.int .i64 0]) (fun a w' v => v = dtV a) e w' ∧ Below w.heap.size w w' := by
  obtain ⟨W, hW⟩ : ∃ W, W = w.alloc (.cells #[Value.int .i64 0, Value.int .i64 0, Value.int .i64 0, Value.int .i64 0, Value.int .i64 0, Value.int .i64 0, Value.int .i64 0, Value.int .i64 0, Value.int .i64 0] 37) := ⟨_, rfl⟩
  have hbW : Below w.heap.size w W := by rw [hW]; exact (Below.refl _ _).alloc (Nat.le_refl _) _
  have r0 : W.heap[w.heap.size]? = some (.cells #[Value.int .i64 0, Value.int .i64 0, Value.int .i64 0, Value.int .i64 0, Value.int .i64 0, Value.int .i64 0, Value.int .i64 0, Value.int .i64 0, Value.int .i64 0] 37 (0, 0)) := by rw [hW]; exact heap_alloc_new _ _
  have hsW : W.heap.size = w.heap.size + 1 := by rw [hW]; simp
  have hbL := hb.len
  go_enter Try.func36, Try.ntmps36
  go_wp2_with fail
  rw [← hW]
  clear hW
  refine (begin_any A n c k L S W (hb.ext hbW) hn).mono ?_
  rintro e w1 ⟨rfl, hR1, hb1⟩
  rw [hsW] at hR1
  rw [hsW]
  have r1 := (hb1.block w.heap.size (by omega)).trans r0
  have b1 := Below.ext hbW hb1
  have hsz1 : w.heap.size + 2 ≤ w1.heap.size := hR1.lt
  clear r0 hb1
  obtain ⟨W0, hW0⟩ : ∃ W0, W0 = w1.alloc (.cells #[Value.int .i64 0, Value.int .i64 0, Value.int .i64 0, Value.int .i64 0, Value.int .i64 0, Value.int .i64 0, Value.int .i64 0, Value.int .i64 0, Value.int .i64 0] 37) := ⟨_, rfl⟩
  have hb0 : Below w1.heap.size w1 W0 := by rw [hW0]; exact (Below.refl _ _).alloc (Nat.le_refl _) _
  have r8 : W0.heap[w1.heap.size]? = some (.cells #[Value.int .i64 0, Value.int .i64 0, Value.int .i64 0, Value.int .i64 0, Value.int .i64 0, Value.int .i64 0, Value.int .i64 0, Value.int .i64 0, Value.int .i64 0] 37 (0, 0)) := by rw [hW0]; exact heap_alloc_new _ _
  have hI0 : RK (w.heap.size + 1) (w.heap.size + 1) L w w.heap.size #[Value.int .i64 0, Value.int .i64 0, Value.int .i64 0, Value.int .i64 0, Value.int .i64 0, Value.int .i64 0, Value.int .i64 0, Value.int .i64 0, Value.int .i64 0] w1.heap.size 37 W0 (stB L k) #[Value.int .i64 0, Value.int .i64 0, Value.int .i64 0, Value.int .i64 0, Value.int .i64 0, Value.int .i64 0, Value.int .i64 0, Value.int .i64 0, Value.int .i64 0] := ⟨hR1.ext hb0, Below.ext b1 hb0, ⟨by omega, by omega, by omega, by omega⟩, ⟨by omega, by omega, by omega⟩, (hb0.block _ (by omega)).trans r1, r8⟩
  clear r8 hb0 r1 b1 hR1
  go_wp2_with fail
  rw [← hW0]
  clear hW0
  refine (refint_s (w.heap.size + 1) (w.heap.size + 1) (stB L k) L W0 hI0.rd).mono ?_
  rintro e u1 ⟨v1, s1, rfl, hS1, hR, hg⟩
  have hJ := hI0.call hR hg
  have hc := hJ.cell 0 (v := .int .i64 0) rfl
  have hf := hJ.frz 0
  have hI1 : RK (w.heap.size + 1) (w.heap.size + 1) L w w.heap.size #[Value.int .i64 0, Value.int .i64 0, Value.int .i64 0, Value.int .i64 0, Value.int .i64 0, Value.int .i64 0, Value.int .i64 0, Value.int .i64 0, Value.int .i64 0] w1.heap.size 37 (u1.setCell ⟨w1.heap.size, 0, none⟩ (.int .i64 v1)) s1 #[Value.int .i64 v1, Value.int .i64 0, Value.int .i64 0, Value.int .i64 0, Value.int .i64 0, Value.int .i64 0, Value.int .i64 0, Value.int .i64 0, Value.int .i64 0] := hJ.set 0 (.int .i64 v1)
  clear hJ hI0 hg hR
  go_wp2_with fail
  clear hc hf
  generalize u1.setCell ⟨w1.heap.size, 0, none⟩ (.int .i64 v1) = W1 at *
  refine (refint_s (w.heap.size + 1) (w.heap.size + 1) s1 L W1 hI1.rd).mono ?_
  rintro e u2 ⟨v2, s2, rfl, hS2, hR, hg⟩
  have hJ := hI1.call hR hg
  have hc := hJ.cell 1 (v := .int .i64 0) rfl
  have hf := hJ.frz 1
  have hI2 : RK (w.heap.size + 1) (w.heap.size + 1) L w w.heap.size #[Value.int .i64 0, Value.int .i64 0, Value.int .i64 0, Value.int .i64 0, Value.int .i64 0, Value.int .i64 0, Value.int .i64 0, Value.int .i64 0, Value.int .i64 0] w1.heap.size 37 (u2.setCell ⟨w1.heap.size, 1, none⟩ (.int .i64 v2)) s2 #[Value.int .i64 v1, Value.int .i64 v2, Value.int .i64 0, Value.int .i64 0, Value.int .i64 0, Value.int .i64 0, Value.int .i64 0, Value.int .i64 0, Value.int .i64 0] := hJ.set 1 (.int .i64 v2)
  clear hJ hI1 hg hR
  go_wp2_with fail
  clear hc hf
  generalize u2.setCell ⟨w1.heap.size, 1, none⟩ (.int .i64 v2) = W2 at *
  refine (refevent_s (w.heap.size + 1) (w.heap.size + 1) s2 L W2 hI2.rd (by have := hI2.bl.size; have := (Array.getElem?_eq_some_iff.1 hI2.h8).1; omega)).mono ?_
  rintro e u3 ⟨v3, s3, rfl, hS3, hR, hg⟩
  unfold evV
  have hJ := hI2.call hR hg
  have c2 := hJ.cell 2 (v := .int .i64 0) rfl
  have f2 := hJ.frz 2
  have c3 := hJ.cell 3 (v := .int .i64 0) rfl
  have f3 := hJ.frz 3
  have c4 := hJ.cell 4 (v := .int .i64 0) rfl
  have f4 := hJ.frz 4
  have c5 := hJ.cell 5 (v := .int .i64 0) rfl
  have f5 := hJ.frz 5
  have c6 := hJ.cell 6 (v := .int .i64 0) rfl
  have f6 := hJ.frz 6
  have c7 := hJ.cell 7 (v := .int .i64 0) rfl
  have f7 := hJ.frz 7
  have c8 := hJ.cell 8 (v := .int .i64 0) rfl
  have f8 := hJ.frz 8
  have hK0 : RK (w.heap.size + 1) (w.heap.size + 1) L w w.heap.size #[Value.int .i64 0, Value.int .i64 0, Value.int .i64 0, Value.int .i64 0, Value.int .i64 0, Value.int .i64 0, Value.int .i64 0, Value.int .i64 0, Value.int .i64 0] w1.heap.size 37 (u3.setCell ⟨w1.heap.size, 2, none⟩ (.int .i64 v3.k0)) s3 #[Value.int .i64 v1, Value.int .i64 v2, Value.int .i64 v3.k0, Value.int .i64 0, Value.int .i64 0, Value.int .i64 0, Value.int .i64 0, Value.int .i64 0, Value.int .i64 0] := hJ.set 2 (.int .i64 v3.k0)
  have hK1 : RK (w.heap.size + 1) (w.heap.size + 1) L w w.heap.size #[Value.int .i64 0, Value.int .i64 0, Value.int .i64 0, Value.int .i64 0, Value.int .i64 0, Value.int .i64 0, Value.int .i64 0, Value.int .i64 0, Value.int .i64 0] w1.heap.size 37 ((u3.setCell ⟨w1.heap.size, 2, none⟩ (.int .i64 v3.k0)).setCell ⟨w1.heap.size, 3, none⟩ (.int .i64 v3.k1)) s3 #[Value.int .i64 v1, Value.int .i64 v2, Value.int .i64 v3.k0, Value.int .i64 v3.k1, Value.int .i64 0, Value.int .i64 0, Value.int .i64 0, Value.int .i64 0, Value.int .i64 0] := hK0.set 3 (.int .i64 v3.k1)
  have hK2 : RK (w.heap.size + 1) (w.heap.size + 1) L w w.heap.size #[Value.int .i64 0, Value.int .i64 0, Value.int .i64 0, Value.int .i64 0, Value.int .i64 0, Value.int .i64 0, Value.int .i64 0, Value.int .i64 0, Value.int .i64 0] w1.heap.size 37 (((u3.setCell ⟨w1.heap.size, 2, none⟩ (.int .i64 v3.k0)).setCell ⟨w1.heap.size, 3, none⟩ (.int .i64 v3.k1)).setCell ⟨w1.heap.size, 4, none⟩ (.int .i64 v3.k2)) s3 #[Value.int .i64 v1, Value.int .i64 v2, Value.int .i64 v3.k0, Value.int .i64 v3.k1, Value.int .i64 v3.k2, Value.int .i64 0, Value.int .i64 0, Value.int .i64 0, Value.int .i64 0] := hK1.set 4 (.int .i64 v3.k2)
  have hK3 : RK (w.heap.size + 1) (w.heap.size + 1) L w w.heap.size #[Value.int .i64 0, Value.int .i64 0, Value.int .i64 0, Value.int .i64 0, Value.int .i64 0, Value.int .i64 0, Value.int .i64 0, Value.int .i64 0, Value.int .i64 0] w1.heap.size 37 ((((u3.setCell ⟨w1.heap.size, 2, none⟩ (.int .i64 v3.k0)).setCell ⟨w1.heap.size, 3, none⟩ (.int .i64 v3.k1)).setCell ⟨w1.heap.size, 4, none⟩ (.int .i64 v3.k2)).setCell ⟨w1.heap.size, 5, none⟩ (.int .i64 v3.k3)) s3 #[Value.int .i64 v1, Value.int .i64 v2, Value.int .i64 v3.k0, Value.int .i64 v3.k1, Value.int .i64 v3.k2, Value.int .i64 v3.k3, Value.int .i64 0, Value.int .i64 0, Value.int .i64 0] := hK2.set 5 (.int .i64 v3.k3)
  have hK4 : RK (w.heap.size + 1) (w.heap.size + 1) L w w.heap.size #[Value.int .i64 0, Value.int .i64 0, Value.int .i64 0, Value.int .i64 0, Value.int .i64 0, Value.int .i64 0, Value.int .i64 0, Value.int .i64 0, Value.int .i64 0] w1.heap.size 37 (((((u3.setCell ⟨w1.heap.size, 2, none⟩ (.int .i64 v3.k0)).setCell ⟨w1.heap.size, 3, none⟩ (.int .i64 v3.k1)).setCell ⟨w1.heap.size, 4, none⟩ (.int .i64 v3.k2)).setCell ⟨w1.heap.size, 5, none⟩ (.int .i64 v3.k3)).setCell ⟨w1.heap.size, 6, none⟩ (.int .i64 v3.k4)) s3 #[Value.int .i64 v1, Value.int .i64 v2, Value.int .i64 v3.k0, Value.int .i64 v3.k1, Value.int .i64 v3.k2, Value.int .i64 v3.k3, Value.int .i64 v3.k4, Value.int .i64 0, Value.int .i64 0] := hK3.set 6 (.int .i64 v3.k4)
  have hK5 : RK (w.heap.size + 1) (w.heap.size + 1) L w w.heap.size #[Value.int .i64 0, Value.int .i64 0, Value.int .i64 0, Value.int .i64 0, Value.int .i64 0, Value.int .i64 0, Value.int .i64 0, Value.int .i64 0, Value.int .i64 0] w1.heap.size 37 ((((((u3.setCell ⟨w1.heap.size, 2, none⟩ (.int .i64 v3.k0)).setCell ⟨w1.heap.size, 3, none⟩ (.int .i64 v3.k1)).setCell ⟨w1.heap.size, 4, none⟩ (.int .i64 v3.k2)).setCell ⟨w1.heap.size, 5, none⟩ (.int .i64 v3.k3)).setCell ⟨w1.heap.size, 6, none⟩ (.int .i64 v3.k4)).setCell ⟨w1.heap.size, 7, none⟩ (.int .i64 v3.k5)) s3 #[Value.int .i64 v1, Value.int .i64 v2, Value.int .i64 v3.k0, Value.int .i64 v3.k1, Value.int .i64 v3.k2, Value.int .i64 v3.k3, Value.int .i64 v3.k4, Value.int .i64 v3.k5, Value.int .i64 0] := hK4.set 7 (.int .i64 v3.k5)
  have hK6 : RK (w.heap.size + 1) (w.heap.size + 1) L w w.heap.size #[Value.int .i64 0, Value.int .i64 0, Value.int .i64 0, Value.int .i64 0, Value.int .i64 0, Value.int .i64 0, Value.int .i64 0, Value.int .i64 0, Value.int .i64 0] w1.heap.size 37 (((((((u3.setCell ⟨w1.heap.size, 2, none⟩ (.int .i64 v3.k0)).setCell ⟨w1.heap.size, 3, none⟩ (.int .i64 v3.k1)).setCell ⟨w1.heap.size, 4, none⟩ (.int .i64 v3.k2)).setCell ⟨w1.heap.size, 5, none⟩ (.int .i64 v3.k3)).setCell ⟨w1.heap.size, 6, none⟩ (.int .i64 v3.k4)).setCell ⟨w1.heap.size, 7, none⟩ (.int .i64 v3.k5)).setCell ⟨w1.heap.size, 8, none⟩ (.int .i64 v3.k6)) s3 #[Value.int .i64 v1, Value.int .i64 v2, Value.int .i64 v3.k0, Value.int .i64 v3.k1, Value.int .i64 v3.k2, Value.int .i64 v3.k3, Value.int .i64 v3.k4, Value.int .i64 v3.k5, Value.int .i64 v3.k6] := hK5.set 8 (.int .i64 v3.k6)
  have HK := Lib.hid hK6
  have HSP : RowKit.Hid (StepF (rdDt L) (stB L k) ⟨v1, v2, v3⟩ s3) := Lib.hid (StepF.comp hS1 (StepF.comp hS2 (StepF.comp hS3 (StepF.pure_ _ _))))
  clear hK0 hK1 hK2 hK3 hK4 hK5 hK6 hI2 hg hR hJ hS1 hS2 hS3
  go_wp2_with (refine wpList_stop 24 rfl ?_)
  refine ⟨?_⟩
  clear c2 c3 c4 c5 c6 c7 c8 f2 f3 f4 f5 f6 f7 f8
  generalize (((((((u3.setCell ⟨w1.heap.size, 2, none⟩ (.int .i64 v3.k0)).setCell ⟨w1.heap.size, 3, none⟩ (.int .i64 v3.k1)).setCell ⟨w1.heap.size, 4, none⟩ (.int .i64 v3.k2)).setCell ⟨w1.heap.size, 5, none⟩ (.int .i64 v3.k3)).setCell ⟨w1.heap.size, 6, none⟩ (.int .i64 v3.k4)).setCell ⟨w1.heap.size, 7, none⟩ (.int .i64 v3.k5)).setCell ⟨w1.heap.size, 8, none⟩ (.int .i64 v3.k6)) = W3 at *
  have hfk : ∀ (cs : Array Value), W3.drew.grownBy (W3.drew.setRow w.heap.size cs) (some w.heap.size) := fun cs => grown_setRow _ _ _
  cases hs : s3 with
  | error x =>
    rw [hs] at HK HSP
    have hrow := HK.out.rd
    obtain ⟨h0, u, pp, hrow⟩ := hrow
    have ce : W3.cell? ⟨(w.heap.size + 1), 2, none⟩ = some (.int .i64 (x : Int)) := by rw [cell_of_row _ _ _ _ _ _ hrow]; rfl
    have d : ((x : Int) != 0) = true := by simp; omega
    have HR := Lib.hid hrow
    have H4 : RowKit.Hid (W3.drew.heap[w.heap.size]? = some (.cells #[Value.int .i64 0, Value.int .i64 0, Value.int .i64 0, Value.int .i64 0, Value.int .i64 0, Value.int .i64 0, Value.int .i64 0, Value.int .i64 0, Value.int .i64 0] 37 (0, 0))) := Lib.hid HK.out.h4
    have hfin := HSP.out.err_
    clear hrow
    go_wp2_with fail
    refine wp_region_lexL (fun w' => w'.cell? ⟨(w.heap.size + 1), 2, none⟩ = some (.int .i64 (x : Int))) (by kernel_rfl) (by kernel_rfl) ce ?_
    repeat (first | (refine lexL_q0 rfl ?_; go_big_quiet_step (fail); refine wpQuiet_nil ?_) | (refine lexL_skip0 rfl rfl ?_; simp only [Act.put, List.setIfInBounds_toArray, List.set_cons_succ, List.set_cons_zero]))
    refine lexL_e rfl ?_
    go_wp2_with fail
    refine lexL_go ce ?_
    repeat (first | (refine lexL_q0 rfl ?_; go_big_quiet_step (fail); refine wpQuiet_nil ?_) | (refine lexL_skip0 rfl rfl ?_; simp only [Act.put, List.setIfInBounds_toArray, List.set_cons_succ, List.set_cons_zero]))
    refine lexL_ld (⟨(w.heap.size + 1), 2, none⟩) (.int .i64 (x : Int)) rfl rfl rfl (fun w' hS => run_ld1 (ag_err _) hS) ?_
    simp only [Act.put, List.setIfInBounds_toArray, List.set_cons_succ, List.set_cons_zero]
    repeat (first | (refine lexL_q0 rfl ?_; go_big_quiet_step (fail); refine wpQuiet_nil ?_) | (refine lexL_skip0 rfl rfl ?_; simp only [Act.put, List.setIfInBounds_toArray, List.set_cons_succ, List.set_cons_zero]))
    refine lexL_e rfl ?_
    refine wpList_store_row rfl 37 _ _ rfl w.heap.size 37 _ _ rfl rfl H4.out (by kernel_rfl) rfl (by simp [Value.oneCell']) ?_
    refine lexL_go ?_ ?_
    · have hr2 := (setRow_other W3.drew w.heap.size (w.heap.size + 1) #[Value.int .i64 0, Value.int .i64 0, Value.int .i64 0, Value.int .i64 0, Value.int .i64 0, Value.int .i64 0, Value.int .i64 0, Value.int .i64 0, Value.int .i64 0] HK.out.ne.1.symm).trans HR.out
      rw [cell_of_row _ _ _ _ _ _ hr2]; rfl
    simp only [Act.put]
    repeat (first | (refine lexL_q0 rfl ?_; go_big_quiet_step (fail); refine wpQuiet_nil ?_) | (refine lexL_skip0 rfl rfl ?_; simp only [Act.put, List.setIfInBounds_toArray, List.set_cons_succ, List.set_cons_zero]))
    refine lexL_nil ?_
    go_wp2_with fail
    go_wp2
    refine bodyPost_ret (results_ctt rfl rfl (run_ld_block (setRow_heap _ _ _ _ _ _ H4.out) Try.underlying37 rfl (by kernel_rfl))) rfl ?_
    rw [rdAt_st, hfin]
    exact ⟨rfl, Below.setRow HK.out.bl.drew (Nat.le_refl _) _⟩
  | ok q =>
    rw [hs] at HK HSP
    have hrow := HK.out.rd
    obtain ⟨hB, Ar, cr, hrow, _, hq, hL⟩ := hrow
    have ce : W3.cell? ⟨(w.heap.size + 1), 2, none⟩ = some (.int .i64 0) := by rw [cell_of_row _ _ _ _ _ _ hrow]; rfl
    have HR : RowKit.Hid (W3.drew.heap[(w.heap.size + 1)]? = _) := Lib.hid hrow
    have H4 : RowKit.Hid (W3.drew.heap[w.heap.size]? = some (.cells #[Value.int .i64 0, Value.int .i64 0, Value.int .i64 0, Value.int .i64 0, Value.int .i64 0, Value.int .i64 0, Value.int .i64 0, Value.int .i64 0, Value.int .i64 0] 37 (0, 0))) := Lib.hid HK.out.h4
    have H8 : RowKit.Hid (W3.drew.heap[w1.heap.size]? = some (.cells #[Value.int .i64 v1, Value.int .i64 v2, Value.int .i64 v3.k0, Value.int .i64 v3.k1, Value.int .i64 v3.k2, Value.int .i64 v3.k3, Value.int .i64 v3.k4, Value.int .i64 v3.k5, Value.int .i64 v3.k6] 37 (0, 0))) := Lib.hid HK.out.h8
    have hfin := HSP.out.ok_
    clear hrow
    go_wp2_with fail
    refine wp_region_lexL (fun w' => w'.heap[w1.heap.size]? = some (.cells #[Value.int .i64 v1, Value.int .i64 v2, Value.int .i64 v3.k0, Value.int .i64 v3.k1, Value.int .i64 v3.k2, Value.int .i64 v3.k3, Value.int .i64 v3.k4, Value.int .i64 v3.k5, Value.int .i64 v3.k6] 37 (0, 0)) ∧ w'.heap[(w.heap.size + 1)]? = _) (by kernel_rfl) (by kernel_rfl) ⟨H8.out, HR.out⟩ ?_
    repeat (first | (refine lexL_q0 rfl ?_; go_big_quiet_step (fail); refine wpQuiet_nil ?_) | (refine lexL_skip0 rfl rfl ?_; simp only [Act.put, List.setIfInBounds_toArray, List.set_cons_succ, List.set_cons_zero]))
    refine lexL_ld (⟨w1.heap.size, 0, none⟩) (.agg #[Value.int .i64 v1, Value.int .i64 v2, Value.int .i64 v3.k0, Value.int .i64 v3.k1, Value.int .i64 v3.k2, Value.int .i64 v3.k3, Value.int .i64 v3.k4, Value.int .i64 v3.k5, Value.int .i64 v3.k6]) rfl rfl rfl (fun w' hS => run_ld_block hS.1 Try.underlying37 rfl (by kernel_rfl)) ?_
    simp only [Act.put, List.setIfInBounds_toArray, List.set_cons_succ, List.set_cons_zero]
    repeat (first | (refine lexL_q0 rfl ?_; go_big_quiet_step (fail); refine wpQuiet_nil ?_) | (refine lexL_skip0 rfl rfl ?_; simp only [Act.put, List.setIfInBounds_toArray, List.set_cons_succ, List.set_cons_zero]))
    refine lexL_ld (⟨(w.heap.size + 1), 1, none⟩) (.int .i64 (q : Int)) rfl rfl rfl (fun w' hS => run_ld1 (ag_int _) (by rw [cell_of_row _ _ _ _ _ _ hS.2]; rfl)) ?_
    simp only [Act.put, List.setIfInBounds_toArray, List.set_cons_succ, List.set_cons_zero]
    repeat (first | (refine lexL_q0 rfl ?_; go_big_quiet_step (fail); refine wpQuiet_nil ?_) | (refine lexL_skip0 rfl rfl ?_; simp only [Act.put, List.setIfInBounds_toArray, List.set_cons_succ, List.set_cons_zero]))
    refine lexL_e rfl ?_
    refine wpList_store_row rfl 37 _ _ rfl w.heap.size 37 _ _ rfl rfl H4.out (by kernel_rfl) rfl (by simp [Value.oneCell']) ?_
    refine lexL_go ⟨(setRow_other W3.drew w.heap.size w1.heap.size #[Value.int .i64 v1, Value.int .i64 v2, Value.int .i64 v3.k0, Value.int .i64 v3.k1, Value.int .i64 v3.k2, Value.int .i64 v3.k3, Value.int .i64 v3.k4, Value.int .i64 v3.k5, Value.int .i64 v3.k6] HK.out.ne.2.2.symm).trans H8.out, (setRow_other W3.drew w.heap.size (w.heap.size + 1) #[Value.int .i64 v1, Value.int .i64 v2, Value.int .i64 v3.k0, Value.int .i64 v3.k1, Value.int .i64 v3.k2, Value.int .i64 v3.k3, Value.int .i64 v3.k4, Value.int .i64 v3.k5, Value.int .i64 v3.k6] HK.out.ne.1.symm).trans HR.out⟩ ?_
    simp only [Act.put]
    repeat (first | (refine lexL_q0 rfl ?_; go_big_quiet_step (fail); refine wpQuiet_nil ?_) | (refine lexL_skip0 rfl rfl ?_; simp only [Act.put, List.setIfInBounds_toArray, List.set_cons_succ, List.set_cons_zero]))
    refine lexL_nil ?_
    go_wp2_with fail
    go_wp2
    refine bodyPost_ret (results_ctt rfl rfl (run_ld_block (setRow_heap _ _ _ _ _ _ H4.out) Try.underlying37 rfl (by kernel_rfl))) rfl ?_
    rw [rdAt_st, hfin]
    exact ⟨⟨_, rfl, rfl⟩, Below.setRow HK.out.bl.drew (Nat.le_refl _) _⟩

end Go.Proofs.Ytgjjfjibfleonaa
