/-
  codec.Event, codec.Det, codec.State.
-/
import Derived.Test.YtgjjfjibfleonaaRdR
namespace Go.Proofs.Ytgjjfjibfleonaa
open Go.RowKit
set_option maxRecDepth 100000
set_option linter.unusedVariables false

set_option maxHeartbeats 1000000 in
theorem codecEvent_any (A : Option Addr) (n c : Nat) (k : Int) (L : List UInt8) (S : Nat → Prop) (w : World) (hb : Bytes S w (.slice A n c) L) (hn : n ≤ 100000000) :
    Calls Try.prog 23 #[.slice A n c, .int .i64 k] w fun e w' => RdOut (rdAt rdEv L k) (.agg #[Value.int .i64 0, Value.int .i64 0, Value.int .i64 0, Value.int .i64 0, Value.int .i64 0, Value.int .i64 0, Value.int .i64 0]) (fun a w' v => v = evV a) e w' ∧ Below w.heap.size w w' := by
  obtain ⟨W, hW⟩ : ∃ W, W = w.alloc (.cells #[Value.int .i64 0, Value.int .i64 0, Value.int .i64 0, Value.int .i64 0, Value.int .i64 0, Value.int .i64 0, Value.int .i64 0] 35) := ⟨_, rfl⟩
  have hbW : Below w.heap.size w W := by rw [hW]; exact (Below.refl _ _).alloc (Nat.le_refl _) _
  have r0 : W.heap[w.heap.size]? = some (.cells #[Value.int .i64 0, Value.int .i64 0, Value.int .i64 0, Value.int .i64 0, Value.int .i64 0, Value.int .i64 0, Value.int .i64 0] 35 (0, 0)) := by rw [hW]; exact heap_alloc_new _ _
  have hsW : W.heap.size = w.heap.size + 1 := by rw [hW]; simp
  go_enter Try.func23, Try.ntmps23
  go_wp2_with fail
  rw [← hW]
  clear hW
  refine (readE_any A n c k L S W (hb.ext hbW) hn).mono ?_
  rintro e w1 ⟨h1, hb1⟩
  have R1 := Lib.hid ((hb1.block w.heap.size (by omega)).trans r0)
  have b1 := Below.ext hbW hb1
  clear r0 hb1
  unfold RdOut at h1
  cases hx : rdAt rdEv L k with
  | error x =>
    rw [hx] at h1
    subst h1
    go_wp2_with (refine wpList_store_row rfl 35 _ _ rfl w.heap.size 35 _ _ rfl rfl R1.out (by kernel_rfl) rfl (by simp [Value.oneCell']) ?_)
    refine bodyPost_ret (results_ctt rfl rfl (run_ld_block (setRow_heap _ _ _ _ _ _ R1.out) Try.underlying35 rfl (by kernel_rfl))) rfl ?_
    rw [hx]
    exact ⟨rfl, Below.setRow b1 (Nat.le_refl _) _⟩
  | ok vq =>
    obtain ⟨v, q⟩ := vq
    rw [hx] at h1
    obtain ⟨u, rfl, hV⟩ := h1
    unfold evV at hV
    subst hV
    have hg : w1.grownBy (w1.setRow w.heap.size #[Value.int .i64 v.k0, Value.int .i64 v.k1, Value.int .i64 v.k2, Value.int .i64 v.k3, Value.int .i64 v.k4, Value.int .i64 v.k5, Value.int .i64 v.k6]) (some w.heap.size) := grown_setRow _ _ _
    go_wp2_with (refine wpList_store_row rfl 35 _ _ rfl w.heap.size 35 _ _ rfl rfl R1.out (by kernel_rfl) rfl (by simp [Value.oneCell']) ?_)
    refine bodyPost_ret (results_ctt rfl rfl (run_ld_block (setRow_heap _ _ _ _ _ _ R1.out) Try.underlying35 rfl (by kernel_rfl))) rfl ?_
    rw [hx]
    exact ⟨⟨_, rfl, rfl⟩, Below.setRow b1 (Nat.le_refl _) _⟩

set_option maxHeartbeats 1000000 in
theorem codecDet_any (A : Option Addr) (n c : Nat) (k : Int) (L : List UInt8) (S : Nat → Prop) (w : World) (hb : Bytes S w (.slice A n c) L) (hn : n ≤ 100000000) :
    Calls Try.prog 35 #[.slice A n c, .int .i64 k] w fun e w' => RdOut (rdAt rdDt L k) (.agg #[Value.int .i64 0, Value.int .i64 0, Value.int .i64 0, Value.int .i64 0, Value.int .i64 0, Value.int .i64 0, Value.int .i64 0, Value.int .i64 0, Value.int .i64 0]) (fun a w' v => v = dtV a) e w' ∧ Below w.heap.size w w' := by
  obtain ⟨W, hW⟩ : ∃ W, W = w.alloc (.cells #[Value.int .i64 0, Value.int .i64 0, Value.int .i64 0, Value.int .i64 0, Value.int .i64 0, Value.int .i64 0, Value.int .i64 0, Value.int .i64 0, Value.int .i64 0] 37) := ⟨_, rfl⟩
  have hbW : Below w.heap.size w W := by rw [hW]; exact (Below.refl _ _).alloc (Nat.le_refl _) _
  have r0 : W.heap[w.heap.size]? = some (.cells #[Value.int .i64 0, Value.int .i64 0, Value.int .i64 0, Value.int .i64 0, Value.int .i64 0, Value.int .i64 0, Value.int .i64 0, Value.int .i64 0, Value.int .i64 0] 37 (0, 0)) := by rw [hW]; exact heap_alloc_new _ _
  have hsW : W.heap.size = w.heap.size + 1 := by rw [hW]; simp
  go_enter Try.func35, Try.ntmps35
  go_wp2_with fail
  rw [← hW]
  clear hW
  refine (readD_any A n c k L S W (hb.ext hbW) hn).mono ?_
  rintro e w1 ⟨h1, hb1⟩
  have R1 := Lib.hid ((hb1.block w.heap.size (by omega)).trans r0)
  have b1 := Below.ext hbW hb1
  clear r0 hb1
  unfold RdOut at h1
  cases hx : rdAt rdDt L k with
  | error x =>
    rw [hx] at h1
    subst h1
    go_wp2_with (refine wpList_store_row rfl 37 _ _ rfl w.heap.size 37 _ _ rfl rfl R1.out (by kernel_rfl) rfl (by simp [Value.oneCell']) ?_)
    refine bodyPost_ret (results_ctt rfl rfl (run_ld_block (setRow_heap _ _ _ _ _ _ R1.out) Try.underlying37 rfl (by kernel_rfl))) rfl ?_
    rw [hx]
    exact ⟨rfl, Below.setRow b1 (Nat.le_refl _) _⟩
  | ok vq =>
    obtain ⟨v, q⟩ := vq
    rw [hx] at h1
    obtain ⟨u, rfl, hV⟩ := h1
    unfold dtV at hV
    subst hV
    have hg : w1.grownBy (w1.setRow w.heap.size #[Value.int .i64 v.proc, Value.int .i64 v.index, Value.int .i64 v.ev.k0, Value.int .i64 v.ev.k1, Value.int .i64 v.ev.k2, Value.int .i64 v.ev.k3, Value.int .i64 v.ev.k4, Value.int .i64 v.ev.k5, Value.int .i64 v.ev.k6]) (some w.heap.size) := grown_setRow _ _ _
    go_wp2_with (refine wpList_store_row rfl 37 _ _ rfl w.heap.size 37 _ _ rfl rfl R1.out (by kernel_rfl) rfl (by simp [Value.oneCell']) ?_)
    refine bodyPost_ret (results_ctt rfl rfl (run_ld_block (setRow_heap _ _ _ _ _ _ R1.out) Try.underlying37 rfl (by kernel_rfl))) rfl ?_
    rw [hx]
    exact ⟨⟨_, rfl, rfl⟩, Below.setRow b1 (Nat.le_refl _) _⟩

set_option maxHeartbeats 1000000 in
theorem codecState_any (A : Option Addr) (n c : Nat) (k : Int) (L : List UInt8) (S : Nat → Prop) (w : World) (hb : Bytes S w (.slice A n c) L) (hn : n ≤ 100000000) :
    Calls Try.prog 25 #[.slice A n c, .int .i64 k] w fun e w' => RdOut (rdAt rdSt L k) (.agg #[Value.slice none 0 0, Value.slice none 0 0, Value.slice none 0 0, Value.slice none 0 0]) (fun a w' v => StO w' w.heap.size v a) e w' ∧ Below w.heap.size w w' := by
  obtain ⟨W, hW⟩ : ∃ W, W = w.alloc (.cells #[Value.slice none 0 0, Value.slice none 0 0, Value.slice none 0 0, Value.slice none 0 0] 43) := ⟨_, rfl⟩
  have hbW : Below w.heap.size w W := by rw [hW]; exact (Below.refl _ _).alloc (Nat.le_refl _) _
  have r0 : W.heap[w.heap.size]? = some (.cells #[Value.slice none 0 0, Value.slice none 0 0, Value.slice none 0 0, Value.slice none 0 0] 43 (0, 0)) := by rw [hW]; exact heap_alloc_new _ _
  have hsW : W.heap.size = w.heap.size + 1 := by rw [hW]; simp
  go_enter Try.func25, Try.ntmps25
  go_wp2_with fail
  rw [← hW]
  clear hW
  refine (readS_any A n c k L S W (hb.ext hbW) hn).mono ?_
  rintro e w1 ⟨h1, hb1⟩
  have R1 := Lib.hid ((hb1.block w.heap.size (by omega)).trans r0)
  have b1 := Below.ext hbW hb1
  clear r0 hb1
  unfold RdOut at h1
  cases hx : rdAt rdSt L k with
  | error x =>
    rw [hx] at h1
    subst h1
    go_wp2_with (refine wpList_store_row rfl 43 _ _ rfl w.heap.size 43 _ _ rfl rfl R1.out (by kernel_rfl) rfl (by simp [Value.oneCell']) ?_)
    refine bodyPost_ret (results_ctt rfl rfl (run_ld_block (setRow_heap _ _ _ _ _ _ R1.out) Try.underlying43 rfl (by kernel_rfl))) rfl ?_
    rw [hx]
    exact ⟨rfl, Below.setRow b1 (Nat.le_refl _) _⟩
  | ok vq =>
    obtain ⟨v, q⟩ := vq
    rw [hx] at h1
    obtain ⟨u, rfl, hV⟩ := h1
    obtain ⟨A1, c1, A2, c2, A3, c3, A4, c4, rfl, hO1, hO2, hO3, hO4⟩ := hV
    have hg : w1.grownBy (w1.setRow w.heap.size #[Value.slice A1 v.cells.length c1, Value.slice A2 v.evs.length c2, Value.slice A3 v.sent.length c3, Value.slice A4 v.outs.length c4]) (some w.heap.size) := grown_setRow _ _ _
    have hO1 := hO1.kept_lt hg (by omega)
    have hO2 := hO2.kept_lt hg (by omega)
    have hO3 := hO3.kept_lt hg (by omega)
    have hO4 := hO4.kept_lt hg (by omega)
    go_wp2_with (refine wpList_store_row rfl 43 _ _ rfl w.heap.size 43 _ _ rfl rfl R1.out (by kernel_rfl) rfl (by simp [Value.oneCell']) ?_)
    refine bodyPost_ret (results_ctt rfl rfl (run_ld_block (setRow_heap _ _ _ _ _ _ R1.out) Try.underlying43 rfl (by kernel_rfl))) rfl ?_
    rw [hx]
    exact ⟨⟨_, rfl, A1, c1, A2, c2, A3, c3, A4, c4, rfl, hO1.weak (by omega), hO2.weak (by omega), hO3.weak (by omega), hO4.weak (by omega)⟩, Below.setRow b1 (Nat.le_refl _) _⟩

end Go.Proofs.Ytgjjfjibfleonaa
