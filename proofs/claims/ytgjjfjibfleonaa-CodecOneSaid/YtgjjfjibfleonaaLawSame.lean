/-
  The law's function same: the program and the document read the same.
-/
import Derived.Test.YtgjjfjibfleonaaSameB
import Derived.Test.YtgjjfjibfleonaaRdS
import Derived.Test.YtgjjfjibfleonaaRfD
namespace Go.Proofs.Ytgjjfjibfleonaa
open Go.RowKit
set_option maxRecDepth 100000
set_option linter.unusedVariables false

theorem evOut (L : List UInt8) (k : Int) : ∃ (a : Ev) (q x : Int), ∀ e w', RdOut (rdAt rdEv L k) (.agg #[Value.int .i64 0, Value.int .i64 0, Value.int .i64 0, Value.int .i64 0, Value.int .i64 0, Value.int .i64 0, Value.int .i64 0]) (fun a w' v => v = evV a) e w' → e = .returned (.tuple #[.agg #[Value.int .i64 a.k0, Value.int .i64 a.k1, Value.int .i64 a.k2, Value.int .i64 a.k3, Value.int .i64 a.k4, Value.int .i64 a.k5, Value.int .i64 a.k6], .int .i64 q, .int .i64 x]) := by
  unfold RdOut
  cases rdAt rdEv L k with
  | error x => exact ⟨⟨0, 0, 0, 0, 0, 0, 0⟩, 0, x, fun e w' h => h⟩
  | ok vq => exact ⟨vq.1, vq.2, 0, fun e w' ⟨v, h, hv⟩ => by rw [h, hv]; rfl⟩
theorem dtOut (L : List UInt8) (k : Int) : ∃ (d : Dt) (q x : Int), ∀ e w', RdOut (rdAt rdDt L k) (.agg #[Value.int .i64 0, Value.int .i64 0, Value.int .i64 0, Value.int .i64 0, Value.int .i64 0, Value.int .i64 0, Value.int .i64 0, Value.int .i64 0, Value.int .i64 0]) (fun a w' v => v = dtV a) e w' → e = .returned (.tuple #[.agg #[Value.int .i64 d.proc, Value.int .i64 d.index, Value.int .i64 d.ev.k0, Value.int .i64 d.ev.k1, Value.int .i64 d.ev.k2, Value.int .i64 d.ev.k3, Value.int .i64 d.ev.k4, Value.int .i64 d.ev.k5, Value.int .i64 d.ev.k6], .int .i64 q, .int .i64 x]) := by
  unfold RdOut
  cases rdAt rdDt L k with
  | error x => exact ⟨⟨0, 0, ⟨0, 0, 0, 0, 0, 0, 0⟩⟩, 0, x, fun e w' h => h⟩
  | ok vq => exact ⟨vq.1, vq.2, 0, fun e w' ⟨v, h, hv⟩ => by rw [h, hv]; rfl⟩
theorem pgsOut (L : List UInt8) (k : Int) : ∃ (ts : List Pg) (q x : Int), ∀ base e w', RdOut (rdAt rdPgs L k) (.slice none 0 0) (fun a w' v => ∃ A c, v = .slice A a.length c ∧ PgsOwn base w' v a) e w' → ∃ A c, e = .returned (.tuple #[.slice A ts.length c, .int .i64 q, .int .i64 x]) ∧ Pgs (base ≤ ·) w' (.slice A ts.length c) ts := by
  unfold RdOut
  cases rdAt rdPgs L k with
  | error x => exact ⟨[], 0, x, fun base e w' h => ⟨none, 0, h, (PgsOwn.nil_ _ _).pgs⟩⟩
  | ok vq => exact ⟨vq.1, vq.2, 0, fun base e w' ⟨v, h, A, c, hv, hp⟩ => ⟨A, c, by rw [h, hv], by rw [hv] at hp; exact hp.pgs⟩⟩
theorem StO.stv {w : World} {base : Nat} {v : Value} {s : Stt} (h : StO w base v s) : StV (base ≤ ·) w v s := by
  obtain ⟨A1, c1, A2, c2, A3, c3, A4, c4, rfl, a1, a2, a3, a4⟩ := h
  exact ⟨A1, c1, A2, c2, A3, c3, A4, c4, rfl, a1.recs.mono fun b _ hb => hb.1, a2.recs.mono fun b _ hb => hb.1, a3.recs.mono fun b _ hb => hb.1, a4.recs.mono fun b _ hb => hb.1⟩
theorem StV.nil_ (S : Nat → Prop) (w : World) : StV S w (.agg #[Value.slice none 0 0, Value.slice none 0 0, Value.slice none 0 0, Value.slice none 0 0]) ⟨[], [], [], []⟩ :=
  ⟨none, 0, none, 0, none, 0, none, 0, rfl, Recs.nil_ _ _, Recs.nil_ _ _, Recs.nil_ _ _, Recs.nil_ _ _⟩
theorem StV.ext {S : Nat → Prop} {w w' : World} {v : Value} {s : Stt} (h : StV S w v s) (hb : Below w.heap.size w w') : StV S w' v s := by
  obtain ⟨A1, c1, A2, c2, A3, c3, A4, c4, rfl, a1, a2, a3, a4⟩ := h
  exact ⟨A1, c1, A2, c2, A3, c3, A4, c4, rfl, a1.ext hb, a2.ext hb, a3.ext hb, a4.ext hb⟩
theorem stOut (L : List UInt8) (k : Int) : ∃ (s : Stt) (q x : Int), ∀ (V : Stt → World → Value → Prop) base e w', (∀ a w' v, V a w' v → StV (base ≤ ·) w' v a) → RdOut (rdAt rdSt L k) (.agg #[Value.slice none 0 0, Value.slice none 0 0, Value.slice none 0 0, Value.slice none 0 0]) V e w' → ∃ v, e = .returned (.tuple #[v, .int .i64 q, .int .i64 x]) ∧ StV (base ≤ ·) w' v s := by
  unfold RdOut
  cases rdAt rdSt L k with
  | error x => exact ⟨⟨[], [], [], []⟩, 0, x, fun V base e w' _ h => ⟨_, h, StV.nil_ _ _⟩⟩
  | ok vq => exact ⟨vq.1, vq.2, 0, fun V base e w' hV ⟨v, h, hv⟩ => ⟨v, h, hV _ _ _ hv⟩⟩
/-- a new block behind a call's world -/
theorem newB (w w1 : World) (B : Nat) (cs : Array Value) (T : TypeId) (hb : Below B w w1) (hB : B ≤ w1.heap.size) : ∃ W, W = w1.alloc (.cells cs T) ∧ Below B w W ∧ Below w1.heap.size w1 W ∧ W.heap.size = w1.heap.size + 1 ∧ W.heap[w1.heap.size]? = some (.cells cs T (0, 0)) :=
  ⟨_, rfl, hb.alloc hB _, (Below.refl _ _).alloc (Nat.le_refl _) _, by simp, heap_alloc_new _ _⟩

set_option maxHeartbeats 2000000 in
theorem same_any (A : Option Addr) (n c : Nat) (k : Int) (L : List UInt8) (S : Nat → Prop) (w : World) (hb : Bytes S w (.slice A n c) L) (hn : n ≤ 100000000) :
    Calls Try.prog 22 #[.slice A n c, .int .i64 k] w fun e w' => e = .returned (.bool true) ∧ Below w.heap.size w w' := by
  obtain ⟨a, q1, x1, hE⟩ := evOut L k
  obtain ⟨d, q2, x2, hD⟩ := dtOut L k
  obtain ⟨ts, q3, x3, hP⟩ := pgsOut L k
  obtain ⟨s, q4, x4, hS⟩ := stOut L k
  go_enter Try.func22, Try.ntmps22
  go_wp2_with fail
  refine (codecEvent_any A n c k L S w hb hn).mono ?_
  rintro e w1 ⟨hr1, gb1⟩
  obtain rfl := hE _ _ hr1
  clear hr1
  have hb1 := gb1
  have hs1 := hb1.size
  obtain ⟨W1, hW1, bW1, cW1, sW1, rW1⟩ := newB w w1 w.heap.size #[Value.int .i64 a.k0, Value.int .i64 a.k1, Value.int .i64 a.k2, Value.int .i64 a.k3, Value.int .i64 a.k4, Value.int .i64 a.k5, Value.int .i64 a.k6] 35 hb1 hs1
  have R1 := Lib.hid rW1
  clear rW1
  go_wp2_with (refine wpList_store_new rfl 35 _ _ rfl 35 _ #[Value.int .i64 a.k0, Value.int .i64 a.k1, Value.int .i64 a.k2, Value.int .i64 a.k3, Value.int .i64 a.k4, Value.int .i64 a.k5, Value.int .i64 a.k6] rfl rfl (by kernel_rfl) rfl (by simp [Value.oneCell']) ?_)
  rw [← hW1]
  clear hW1
  refine (refEvent_any A n c k L S W1 (hb.ext bW1) hn).mono ?_
  rintro e w2 ⟨hr2, gb2⟩
  obtain rfl := hE _ _ hr2
  clear hr2
  have hb2 := Below.ext bW1 gb2
  have gs2 := gb2.size
  have hs2 := hb2.size
  obtain ⟨W2, hW2, bW2, cW2, sW2, rW2⟩ := newB w w2 w.heap.size #[Value.int .i64 a.k0, Value.int .i64 a.k1, Value.int .i64 a.k2, Value.int .i64 a.k3, Value.int .i64 a.k4, Value.int .i64 a.k5, Value.int .i64 a.k6] 35 hb2 hs2
  have X1 := Lib.hid ((cW2.block w1.heap.size (by omega)).trans ((gb2.block w1.heap.size (by omega)).trans R1.out))
  have X2 := Lib.hid rW2
  rw [hW2] at X1 X2
  clear rW2 R1
  go_wp2_with (first | (refine wpList_store_new rfl 35 _ _ rfl 35 _ #[Value.int .i64 a.k0, Value.int .i64 a.k1, Value.int .i64 a.k2, Value.int .i64 a.k3, Value.int .i64 a.k4, Value.int .i64 a.k5, Value.int .i64 a.k6] rfl rfl (by kernel_rfl) rfl (by simp [Value.oneCell']) ?_) | (refine wpList_load_row rfl 35 _ rfl _ rfl 35 _ (0,0) _ X1.out Try.underlying35 rfl (by kernel_rfl) ?_) | (refine wpList_load_row rfl 35 _ rfl _ rfl 35 _ (0,0) _ X2.out Try.underlying35 rfl (by kernel_rfl) ?_))
  rw [← hW2]
  clear hW2 X1 X2
  refine (codecDet_any A n c k L S W2 (hb.ext bW2) hn).mono ?_
  rintro e w3 ⟨hr3, gb3⟩
  obtain rfl := hD _ _ hr3
  clear hr3
  have hb3 := Below.ext bW2 gb3
  have hs3 := hb3.size
  obtain ⟨W3, hW3, bW3, cW3, sW3, rW3⟩ := newB w w3 w.heap.size #[Value.int .i64 d.proc, Value.int .i64 d.index, Value.int .i64 d.ev.k0, Value.int .i64 d.ev.k1, Value.int .i64 d.ev.k2, Value.int .i64 d.ev.k3, Value.int .i64 d.ev.k4, Value.int .i64 d.ev.k5, Value.int .i64 d.ev.k6] 37 hb3 hs3
  have R3 := Lib.hid rW3
  clear rW3
  go_wp2_with (refine wpList_store_new rfl 37 _ _ rfl 37 _ #[Value.int .i64 d.proc, Value.int .i64 d.index, Value.int .i64 d.ev.k0, Value.int .i64 d.ev.k1, Value.int .i64 d.ev.k2, Value.int .i64 d.ev.k3, Value.int .i64 d.ev.k4, Value.int .i64 d.ev.k5, Value.int .i64 d.ev.k6] rfl rfl (by kernel_rfl) rfl (by simp [Value.oneCell']) ?_)
  rw [← hW3]
  clear hW3
  refine (refDet_any A n c k L S W3 (hb.ext bW3) hn).mono ?_
  rintro e w4 ⟨hr4, gb4⟩
  obtain rfl := hD _ _ hr4
  clear hr4
  have hb4 := Below.ext bW3 gb4
  have gs4 := gb4.size
  have hs4 := hb4.size
  obtain ⟨W4, hW4, bW4, cW4, sW4, rW4⟩ := newB w w4 w.heap.size #[Value.int .i64 d.proc, Value.int .i64 d.index, Value.int .i64 d.ev.k0, Value.int .i64 d.ev.k1, Value.int .i64 d.ev.k2, Value.int .i64 d.ev.k3, Value.int .i64 d.ev.k4, Value.int .i64 d.ev.k5, Value.int .i64 d.ev.k6] 37 hb4 hs4
  have X3 := Lib.hid ((cW4.block w3.heap.size (by omega)).trans ((gb4.block w3.heap.size (by omega)).trans R3.out))
  have X4 := Lib.hid rW4
  rw [hW4] at X3 X4
  clear rW4 R3
  go_wp2_with (first | (refine wpList_store_new rfl 37 _ _ rfl 37 _ #[Value.int .i64 d.proc, Value.int .i64 d.index, Value.int .i64 d.ev.k0, Value.int .i64 d.ev.k1, Value.int .i64 d.ev.k2, Value.int .i64 d.ev.k3, Value.int .i64 d.ev.k4, Value.int .i64 d.ev.k5, Value.int .i64 d.ev.k6] rfl rfl (by kernel_rfl) rfl (by simp [Value.oneCell']) ?_) | (refine wpList_load_row rfl 37 _ rfl _ rfl 37 _ (0,0) _ X3.out Try.underlying37 rfl (by kernel_rfl) ?_) | (refine wpList_load_row rfl 37 _ rfl _ rfl 37 _ (0,0) _ X4.out Try.underlying37 rfl (by kernel_rfl) ?_))
  rw [← hW4]
  clear hW4 X3 X4
  refine (codecPages_any A n c k L S W4 (hb.ext bW4) hn).mono ?_
  rintro e w5 ⟨hr5, gb5⟩
  obtain ⟨A5, c5, rfl, P5⟩ := hP _ _ _ hr5
  clear hr5
  have hb5 := Below.ext bW4 gb5
  go_wp2_with fail
  refine (refPages_any A n c k L S w5 (hb.ext hb5) hn).mono ?_
  rintro e w6 ⟨hr6, gb6⟩
  obtain ⟨A6, c6, rfl, P6⟩ := hP _ _ _ hr6
  clear hr6
  have hb6 := Below.ext hb5 gb6
  go_wp2_with fail
  refine (samepages_eq _ _ _ _ _ _ _ _ w6 (P5.ext gb6) P6).mono ?_
  rintro e w7 ⟨rfl, gb7⟩
  have hb7 := Below.ext hb6 gb7
  go_wp2_with fail
  refine (codecState_any A n c k L S w7 (hb.ext hb7) hn).mono ?_
  rintro e w9 ⟨hr9, gb9⟩
  obtain ⟨v9, rfl, S9⟩ := hS _ _ _ _ (fun a w' v h => h.stv) hr9
  clear hr9
  have hb9 := Below.ext hb7 gb9
  obtain ⟨C1, c1, C2, c2, C3, c3, C4, c4, rfl, s1, s2, s3, s4⟩ := S9
  have hs9 := hb9.size
  obtain ⟨W9, hW9, bW9, cW9, sW9, rW9⟩ := newB w w9 w.heap.size #[Value.slice C1 s.cells.length c1, Value.slice C2 s.evs.length c2, Value.slice C3 s.sent.length c3, Value.slice C4 s.outs.length c4] 43 hb9 hs9
  have R9 := Lib.hid rW9
  clear rW9
  go_wp2_with (refine wpList_store_new rfl 43 _ _ rfl 43 _ #[Value.slice C1 s.cells.length c1, Value.slice C2 s.evs.length c2, Value.slice C3 s.sent.length c3, Value.slice C4 s.outs.length c4] rfl rfl (by kernel_rfl) rfl (by simp [Value.oneCell']) ?_)
  rw [← hW9]
  clear hW9
  have V9 : StV _ W9 _ s := ⟨C1, c1, C2, c2, C3, c3, C4, c4, rfl, s1.ext cW9, s2.ext cW9, s3.ext cW9, s4.ext cW9⟩
  clear s1 s2 s3 s4
  refine (refState_any A n c k L S W9 (hb.ext bW9) hn).mono ?_
  rintro e w10 ⟨hr10, gb10⟩
  obtain ⟨v10, rfl, S10⟩ := hS _ _ _ _ (fun a w' v h => h) hr10
  clear hr10
  have hb10 := Below.ext bW9 gb10
  have gs10 := gb10.size
  have V9b := V9.ext gb10
  obtain ⟨D1, d1, D2, d2, D3, d3, D4, d4, rfl, s1, s2, s3, s4⟩ := S10
  have hs10 := hb10.size
  obtain ⟨W10, hW10, bW10, cW10, sW10, rW10⟩ := newB w w10 w.heap.size #[Value.slice D1 s.cells.length d1, Value.slice D2 s.evs.length d2, Value.slice D3 s.sent.length d3, Value.slice D4 s.outs.length d4] 43 hb10 hs10
  have X9 := Lib.hid ((cW10.block w9.heap.size (by omega)).trans ((gb10.block w9.heap.size (by omega)).trans R9.out))
  have X10 := Lib.hid rW10
  rw [hW10] at X9 X10
  clear rW10 R9
  go_wp2_with (first | (refine wpList_store_new rfl 43 _ _ rfl 43 _ #[Value.slice D1 s.cells.length d1, Value.slice D2 s.evs.length d2, Value.slice D3 s.sent.length d3, Value.slice D4 s.outs.length d4] rfl rfl (by kernel_rfl) rfl (by simp [Value.oneCell']) ?_) | (refine wpList_load_row rfl 43 _ rfl _ rfl 43 _ (0,0) _ X9.out Try.underlying43 rfl (by kernel_rfl) ?_) | (refine wpList_load_row rfl 43 _ rfl _ rfl 43 _ (0,0) _ X10.out Try.underlying43 rfl (by kernel_rfl) ?_))
  rw [← hW10]
  clear hW10 X9 X10
  refine (samestate_eq _ _ s _ _ W10 (V9b.ext cW10) ⟨D1, d1, D2, d2, D3, d3, D4, d4, rfl, s1.ext cW10, s2.ext cW10, s3.ext cW10, s4.ext cW10⟩).mono ?_
  rintro e w11 ⟨rfl, gb11⟩
  go_wp2
  go_ret
  exact ⟨rfl, Below.ext bW10 gb11⟩
end Go.Proofs.Ytgjjfjibfleonaa
