import Derived.Test.YtiblijmngokcgaaDoorCodecDS
import Derived.Test.YtiblijmngokcgaaDoorCodecCS
namespace Go.Proofs.YtiblijmngokcgaaDoor
open Go.RowKit
set_option maxRecDepth 100000
set_option linter.unusedVariables false
set_option maxHeartbeats 1000000 in
theorem sameints_eq (A1 A2 : Option Addr) (n c1 c2 : Nat) (l : List Int) (S1 S2 : Nat → Prop) (w : World) (h1 : Recs encZ S1 w (.slice A1 n c1) l) (h2 : Recs encZ S2 w (.slice A2 n c2) l) :
    Calls Tryd.prog 31 #[.slice A1 n c1, .slice A2 n c2] w fun e w' => e = .returned (.bool true) ∧ Below w.heap.size w w' := by
  have hl1 := h1.len
  go_enter Tryd.func31, Tryd.ntmps31
  go_wp2
  go_loopw [5] (fun a wr => ∃ k : Nat, a = .int .i64 k ∧ k ≤ n ∧ Below w.heap.size w wr) (fun a _ => n - (intOf a).toNat)
  case atStart => exact ⟨0, rfl, by omega, Below.refl _ _⟩
  case round =>
    obtain ⟨k, rfl, hk, hbr⟩ := hrel
    by_cases hlt : k < n
    · obtain ⟨b1, o1, x1, rfl, _, hb1, hx1, hc1⟩ := (h1.ext hbr).at_ encZ_len (j := k) (by omega) (by omega)
      obtain ⟨b2, o2, x2, rfl, _, hb2, hx2, hc2⟩ := (h2.ext hbr).at_ encZ_len (j := k) (by omega) (by omega)
      obtain rfl : x1 = x2 := by rw [hx1] at hx2; cases hx2; rfl
      have p0 : wr.cell? ⟨b1, o1 + k, none⟩ = some (.int .i64 x1) := by have := hc1 0 _ rfl; rw [Nat.mul_one] at this; exact this
      have q0 : wr.cell? ⟨b2, o2 + k, none⟩ = some (.int .i64 x1) := by have := hc2 0 _ rfl; rw [Nat.mul_one] at this; exact this
      clear hx1 hx2 hc1 hc2
      go_wp2_with fail
      refine wp_region_lex (fun _ => True) (by kernel_rfl) (by kernel_rfl) trivial ?_
      repeat (first | (refine lex_q rfl ⟨default, trivial⟩ ?_; go_big_quiet_step (fail); refine wpQuiet_nil ?_) | (refine lex_skip rfl rfl trivial ?_; simp only [Act.put, List.setIfInBounds_toArray, List.set_cons_succ, List.set_cons_zero]) | (refine lex_e rfl ?_; go_wp2_with fail; refine lex_go trivial ?_))
      refine lex_nil ?_
      go_wp2_with fail
      go_wp2
      go_roundw
      case rel => exact ⟨k + 1, by go_num, by omega, hbr.drew⟩
      case measure => simp [intOf]; omega
    · obtain rfl : k = n := by omega
      go_wp2
      go_ret
      exact ⟨rfl, hbr⟩
set_option maxHeartbeats 1000000 in
theorem sameevents_eq (A1 A2 : Option Addr) (n c1 c2 : Nat) (l : List Ev) (S1 S2 : Nat → Prop) (w : World) (h1 : Recs encEv S1 w (.slice A1 n c1) l) (h2 : Recs encEv S2 w (.slice A2 n c2) l) :
    Calls Tryd.prog 32 #[.slice A1 n c1, .slice A2 n c2] w fun e w' => e = .returned (.bool true) ∧ Below w.heap.size w w' := by
  have hl1 := h1.len
  go_enter Tryd.func32, Tryd.ntmps32
  go_wp2
  go_loopw [5] (fun a wr => ∃ k : Nat, a = .int .i64 k ∧ k ≤ n ∧ Below w.heap.size w wr) (fun a _ => n - (intOf a).toNat)
  case atStart => exact ⟨0, rfl, by omega, Below.refl _ _⟩
  case round =>
    obtain ⟨k, rfl, hk, hbr⟩ := hrel
    by_cases hlt : k < n
    · obtain ⟨b1, o1, x1, rfl, _, hb1, hx1, hc1⟩ := (h1.ext hbr).at_ encEv_len (j := k) (by omega) (by omega)
      obtain ⟨b2, o2, x2, rfl, _, hb2, hx2, hc2⟩ := (h2.ext hbr).at_ encEv_len (j := k) (by omega) (by omega)
      obtain rfl : x1 = x2 := by rw [hx1] at hx2; cases hx2; rfl
      have p0 : wr.cell? ⟨b1, o1 + k * 7, none⟩ = some (.int .i64 x1.k0) := hc1 0 _ rfl
      have q0 : wr.cell? ⟨b2, o2 + k * 7, none⟩ = some (.int .i64 x1.k0) := hc2 0 _ rfl
      have p1 : wr.cell? ⟨b1, o1 + k * 7 + 1, none⟩ = some (.int .i64 x1.k1) := hc1 1 _ rfl
      have q1 : wr.cell? ⟨b2, o2 + k * 7 + 1, none⟩ = some (.int .i64 x1.k1) := hc2 1 _ rfl
      have p2 : wr.cell? ⟨b1, o1 + k * 7 + 2, none⟩ = some (.int .i64 x1.k2) := hc1 2 _ rfl
      have q2 : wr.cell? ⟨b2, o2 + k * 7 + 2, none⟩ = some (.int .i64 x1.k2) := hc2 2 _ rfl
      have p3 : wr.cell? ⟨b1, o1 + k * 7 + 3, none⟩ = some (.int .i64 x1.k3) := hc1 3 _ rfl
      have q3 : wr.cell? ⟨b2, o2 + k * 7 + 3, none⟩ = some (.int .i64 x1.k3) := hc2 3 _ rfl
      have p4 : wr.cell? ⟨b1, o1 + k * 7 + 4, none⟩ = some (.int .i64 x1.k4) := hc1 4 _ rfl
      have q4 : wr.cell? ⟨b2, o2 + k * 7 + 4, none⟩ = some (.int .i64 x1.k4) := hc2 4 _ rfl
      have p5 : wr.cell? ⟨b1, o1 + k * 7 + 5, none⟩ = some (.int .i64 x1.k5) := hc1 5 _ rfl
      have q5 : wr.cell? ⟨b2, o2 + k * 7 + 5, none⟩ = some (.int .i64 x1.k5) := hc2 5 _ rfl
      have p6 : wr.cell? ⟨b1, o1 + k * 7 + 6, none⟩ = some (.int .i64 x1.k6) := hc1 6 _ rfl
      have q6 : wr.cell? ⟨b2, o2 + k * 7 + 6, none⟩ = some (.int .i64 x1.k6) := hc2 6 _ rfl
      clear hx1 hx2 hc1 hc2
      go_wp2_with fail
      refine wp_region_lex (fun _ => True) (by kernel_rfl) (by kernel_rfl) trivial ?_
      repeat (first | (refine lex_q rfl ⟨default, trivial⟩ ?_; go_big_quiet_step (fail); refine wpQuiet_nil ?_) | (refine lex_skip rfl rfl trivial ?_; simp only [Act.put, List.setIfInBounds_toArray, List.set_cons_succ, List.set_cons_zero]) | (refine lex_e rfl ?_; go_wp2_with fail; refine lex_go trivial ?_))
      refine lex_nil ?_
      go_wp2_with fail
      go_wp2
      go_roundw
      case rel => exact ⟨k + 1, by go_num, by omega, hbr.drew⟩
      case measure => simp [intOf]; omega
    · obtain rfl : k = n := by omega
      go_wp2
      go_ret
      exact ⟨rfl, hbr⟩
set_option maxHeartbeats 1000000 in
theorem samesends_eq (A1 A2 : Option Addr) (n c1 c2 : Nat) (l : List Snd) (S1 S2 : Nat → Prop) (w : World) (h1 : Recs encSn S1 w (.slice A1 n c1) l) (h2 : Recs encSn S2 w (.slice A2 n c2) l) :
    Calls Tryd.prog 33 #[.slice A1 n c1, .slice A2 n c2] w fun e w' => e = .returned (.bool true) ∧ Below w.heap.size w w' := by
  have hl1 := h1.len
  go_enter Tryd.func33, Tryd.ntmps33
  go_wp2
  go_loopw [5] (fun a wr => ∃ k : Nat, a = .int .i64 k ∧ k ≤ n ∧ Below w.heap.size w wr) (fun a _ => n - (intOf a).toNat)
  case atStart => exact ⟨0, rfl, by omega, Below.refl _ _⟩
  case round =>
    obtain ⟨k, rfl, hk, hbr⟩ := hrel
    by_cases hlt : k < n
    · obtain ⟨b1, o1, x1, rfl, _, hb1, hx1, hc1⟩ := (h1.ext hbr).at_ encSn_len (j := k) (by omega) (by omega)
      obtain ⟨b2, o2, x2, rfl, _, hb2, hx2, hc2⟩ := (h2.ext hbr).at_ encSn_len (j := k) (by omega) (by omega)
      obtain rfl : x1 = x2 := by rw [hx1] at hx2; cases hx2; rfl
      have p0 : wr.cell? ⟨b1, o1 + k * 4, none⟩ = some (.int .i64 x1.a) := hc1 0 _ rfl
      have q0 : wr.cell? ⟨b2, o2 + k * 4, none⟩ = some (.int .i64 x1.a) := hc2 0 _ rfl
      have p1 : wr.cell? ⟨b1, o1 + k * 4 + 1, none⟩ = some (.int .i64 x1.b) := hc1 1 _ rfl
      have q1 : wr.cell? ⟨b2, o2 + k * 4 + 1, none⟩ = some (.int .i64 x1.b) := hc2 1 _ rfl
      have p2 : wr.cell? ⟨b1, o1 + k * 4 + 2, none⟩ = some (.int .i64 x1.c) := hc1 2 _ rfl
      have q2 : wr.cell? ⟨b2, o2 + k * 4 + 2, none⟩ = some (.int .i64 x1.c) := hc2 2 _ rfl
      have p3 : wr.cell? ⟨b1, o1 + k * 4 + 3, none⟩ = some (.int .i64 x1.d) := hc1 3 _ rfl
      have q3 : wr.cell? ⟨b2, o2 + k * 4 + 3, none⟩ = some (.int .i64 x1.d) := hc2 3 _ rfl
      clear hx1 hx2 hc1 hc2
      go_wp2_with fail
      refine wp_region_lex (fun _ => True) (by kernel_rfl) (by kernel_rfl) trivial ?_
      repeat (first | (refine lex_q rfl ⟨default, trivial⟩ ?_; go_big_quiet_step (fail); refine wpQuiet_nil ?_) | (refine lex_skip rfl rfl trivial ?_; simp only [Act.put, List.setIfInBounds_toArray, List.set_cons_succ, List.set_cons_zero]) | (refine lex_e rfl ?_; go_wp2_with fail; refine lex_go trivial ?_))
      refine lex_nil ?_
      go_wp2_with fail
      go_wp2
      go_roundw
      case rel => exact ⟨k + 1, by go_num, by omega, hbr.drew⟩
      case measure => simp [intOf]; omega
    · obtain rfl : k = n := by omega
      go_wp2
      go_ret
      exact ⟨rfl, hbr⟩
set_option maxHeartbeats 1000000 in
theorem sameouts_eq (A1 A2 : Option Addr) (n c1 c2 : Nat) (l : List Ou) (S1 S2 : Nat → Prop) (w : World) (h1 : Recs encOu S1 w (.slice A1 n c1) l) (h2 : Recs encOu S2 w (.slice A2 n c2) l) :
    Calls Tryd.prog 34 #[.slice A1 n c1, .slice A2 n c2] w fun e w' => e = .returned (.bool true) ∧ Below w.heap.size w w' := by
  have hl1 := h1.len
  go_enter Tryd.func34, Tryd.ntmps34
  go_wp2
  go_loopw [5] (fun a wr => ∃ k : Nat, a = .int .i64 k ∧ k ≤ n ∧ Below w.heap.size w wr) (fun a _ => n - (intOf a).toNat)
  case atStart => exact ⟨0, rfl, by omega, Below.refl _ _⟩
  case round =>
    obtain ⟨k, rfl, hk, hbr⟩ := hrel
    by_cases hlt : k < n
    · obtain ⟨b1, o1, x1, rfl, _, hb1, hx1, hc1⟩ := (h1.ext hbr).at_ encOu_len (j := k) (by omega) (by omega)
      obtain ⟨b2, o2, x2, rfl, _, hb2, hx2, hc2⟩ := (h2.ext hbr).at_ encOu_len (j := k) (by omega) (by omega)
      obtain rfl : x1 = x2 := by rw [hx1] at hx2; cases hx2; rfl
      have p0 : wr.cell? ⟨b1, o1 + k * 2, none⟩ = some (.int .i64 x1.a) := hc1 0 _ rfl
      have q0 : wr.cell? ⟨b2, o2 + k * 2, none⟩ = some (.int .i64 x1.a) := hc2 0 _ rfl
      have p1 : wr.cell? ⟨b1, o1 + k * 2 + 1, none⟩ = some (.int .i64 x1.b) := hc1 1 _ rfl
      have q1 : wr.cell? ⟨b2, o2 + k * 2 + 1, none⟩ = some (.int .i64 x1.b) := hc2 1 _ rfl
      clear hx1 hx2 hc1 hc2
      go_wp2_with fail
      refine wp_region_lex (fun _ => True) (by kernel_rfl) (by kernel_rfl) trivial ?_
      repeat (first | (refine lex_q rfl ⟨default, trivial⟩ ?_; go_big_quiet_step (fail); refine wpQuiet_nil ?_) | (refine lex_skip rfl rfl trivial ?_; simp only [Act.put, List.setIfInBounds_toArray, List.set_cons_succ, List.set_cons_zero]) | (refine lex_e rfl ?_; go_wp2_with fail; refine lex_go trivial ?_))
      refine lex_nil ?_
      go_wp2_with fail
      go_wp2
      go_roundw
      case rel => exact ⟨k + 1, by go_num, by omega, hbr.drew⟩
      case measure => simp [intOf]; omega
    · obtain rfl : k = n := by omega
      go_wp2
      go_ret
      exact ⟨rfl, hbr⟩
end Go.Proofs.YtiblijmngokcgaaDoor
namespace Go.Proofs.YtiblijmngokcgaaDoor
open Go.RowKit
set_option maxRecDepth 100000
set_option linter.unusedVariables false
set_option maxHeartbeats 1000000 in
theorem samestate_eq (v1 v2 : Value) (s : Stt) (S1 S2 : Nat → Prop) (w : World) (h1 : StV S1 w v1 s) (h2 : StV S2 w v2 s) :
    Calls Tryd.prog 13 #[v1, v2] w fun e w' => e = .returned (.bool true) ∧ Below w.heap.size w w' := by
  obtain ⟨A1, c1, A2, c2, A3, c3, A4, c4, rfl, a1, a2, a3, a4⟩ := h1
  obtain ⟨B1, d1, B2, d2, B3, d3, B4, d4, rfl, b1, b2, b3, b4⟩ := h2
  obtain ⟨W, hW, bW, hsW, r1, r2⟩ : ∃ W, W = (w.alloc (.cells #[.slice A1 s.cells.length c1, .slice A2 s.evs.length c2, .slice A3 s.sent.length c3, .slice A4 s.outs.length c4] 31)).alloc (.cells #[.slice B1 s.cells.length d1, .slice B2 s.evs.length d2, .slice B3 s.sent.length d3, .slice B4 s.outs.length d4] 31) ∧ Below w.heap.size w W ∧ W.heap.size = w.heap.size + 2 ∧
      W.heap[w.heap.size]? = some (.cells #[.slice A1 s.cells.length c1, .slice A2 s.evs.length c2, .slice A3 s.sent.length c3, .slice A4 s.outs.length c4] 31 (0, 0)) ∧ W.heap[w.heap.size + 1]? = some (.cells #[.slice B1 s.cells.length d1, .slice B2 s.evs.length d2, .slice B3 s.sent.length d3, .slice B4 s.outs.length d4] 31 (0, 0)) := by
    refine ⟨_, rfl, ((Below.refl _ w).alloc (Nat.le_refl _) _).alloc (by simp) _, by simp, ?_, ?_⟩
    · exact (((Below.refl _ _).alloc (Nat.le_refl _) _).block w.heap.size (by simp)).trans (heap_alloc_new w _)
    · have := heap_alloc_new (w.alloc (.cells #[.slice A1 s.cells.length c1, .slice A2 s.evs.length c2, .slice A3 s.sent.length c3, .slice A4 s.outs.length c4] 31)) (.cells #[.slice B1 s.cells.length d1, .slice B2 s.evs.length d2, .slice B3 s.sent.length d3, .slice B4 s.outs.length d4] 31)
      rw [World.size_alloc] at this
      exact this
  have HR : ∀ w', Below W.heap.size W w' → w'.heap[w.heap.size]? = some (.cells #[.slice A1 s.cells.length c1, .slice A2 s.evs.length c2, .slice A3 s.sent.length c3, .slice A4 s.outs.length c4] 31 (0, 0)) ∧ w'.heap[w.heap.size + 1]? = some (.cells #[.slice B1 s.cells.length d1, .slice B2 s.evs.length d2, .slice B3 s.sent.length d3, .slice B4 s.outs.length d4] 31 (0, 0)) := fun w' hb => ⟨(hb.block _ (by omega)).trans r1, (hb.block _ (by omega)).trans r2⟩
  have HRR := Lib.hid HR
  have x0 : W.cell? ⟨w.heap.size, 0, none⟩ = some (.slice A1 s.cells.length c1) := by rw [cell_of_row _ _ _ _ _ _ r1]; rfl
  have y0 : W.cell? ⟨w.heap.size + 1, 0, none⟩ = some (.slice B1 s.cells.length d1) := by rw [cell_of_row _ _ _ _ _ _ r2]; rfl
  clear HR r1 r2
  go_enter Tryd.func13, Tryd.ntmps13
  go_wp2_with fail
  rw [← hW]
  clear hW x0 y0
  refine (sameints_eq _ _ _ _ _ _ _ _ W (a1.ext bW) (b1.ext bW)).mono ?_
  rintro e w1 ⟨rfl, h1⟩
  have x1 : w1.cell? ⟨w.heap.size, 1, none⟩ = some (.slice A2 s.evs.length c2) := by rw [cell_of_row _ _ _ _ _ _ (HRR.out w1 h1).1]; rfl
  have y1 : w1.cell? ⟨w.heap.size + 1, 1, none⟩ = some (.slice B2 s.evs.length d2) := by rw [cell_of_row _ _ _ _ _ _ (HRR.out w1 h1).2]; rfl
  go_wp2_with fail
  clear x1 y1
  refine (sameevents_eq _ _ _ _ _ _ _ _ w1 (a2.ext (Below.ext bW h1)) (b2.ext (Below.ext bW h1))).mono ?_
  rintro e w2 ⟨rfl, g2⟩
  have h2 := Below.ext h1 g2
  have x2 : w2.cell? ⟨w.heap.size, 2, none⟩ = some (.slice A3 s.sent.length c3) := by rw [cell_of_row _ _ _ _ _ _ (HRR.out w2 h2).1]; rfl
  have y2 : w2.cell? ⟨w.heap.size + 1, 2, none⟩ = some (.slice B3 s.sent.length d3) := by rw [cell_of_row _ _ _ _ _ _ (HRR.out w2 h2).2]; rfl
  go_wp2_with fail
  clear x2 y2
  refine (samesends_eq _ _ _ _ _ _ _ _ w2 (a3.ext (Below.ext bW h2)) (b3.ext (Below.ext bW h2))).mono ?_
  rintro e w3 ⟨rfl, g3⟩
  have h3 := Below.ext h2 g3
  have x3 : w3.cell? ⟨w.heap.size, 3, none⟩ = some (.slice A4 s.outs.length c4) := by rw [cell_of_row _ _ _ _ _ _ (HRR.out w3 h3).1]; rfl
  have y3 : w3.cell? ⟨w.heap.size + 1, 3, none⟩ = some (.slice B4 s.outs.length d4) := by rw [cell_of_row _ _ _ _ _ _ (HRR.out w3 h3).2]; rfl
  go_wp2_with fail
  clear x3 y3
  refine (sameouts_eq _ _ _ _ _ _ _ _ w3 (a4.ext (Below.ext bW h3)) (b4.ext (Below.ext bW h3))).mono ?_
  rintro e w4 ⟨rfl, g4⟩
  have h4 := Below.ext h3 g4
  go_wp2
  go_ret
  exact ⟨rfl, Below.ext bW h4⟩
set_option maxHeartbeats 1000000 in
theorem samepages_eq (A1 A2 : Option Addr) (n c1 c2 : Nat) (l : List Pg) (S1 S2 : Nat → Prop) (w : World) (h1 : Pgs S1 w (.slice A1 n c1) l) (h2 : Pgs S2 w (.slice A2 n c2) l) :
    Calls Tryd.prog 17 #[.slice A1 n c1, .slice A2 n c2] w fun e w' => e = .returned (.bool true) ∧ Below w.heap.size w w' := by
  have hl1 := h1.len
  go_enter Tryd.func17, Tryd.ntmps17
  go_wp2
  go_loopw [5] (fun a wr => ∃ k : Nat, a = .int .i64 k ∧ k ≤ n ∧ Below w.heap.size w wr) (fun a _ => n - (intOf a).toNat)
  case atStart => exact ⟨0, rfl, by omega, Below.refl _ _⟩
  case round =>
    obtain ⟨k, rfl, hk, hbr⟩ := hrel
    by_cases hlt : k < n
    · obtain ⟨b1, o1, x1, t1, rfl, _, hb1, hx1, e1, r1, p0, p1⟩ := (h1.ext hbr).at_ (k := k) hlt
      obtain ⟨b2, o2, x2, t2, rfl, _, hb2, hx2, e2, r2, q0, q1⟩ := (h2.ext hbr).at_ (k := k) hlt
      obtain rfl : t1 = t2 := by rw [hx1] at hx2; cases hx2; rfl
      have l1 := r1.len.1
      have l2 := r2.len.1
      rw [e1] at p0
      rw [e2] at q0
      have hsame := sameints_eq x1.A x2.A x1.n x1.c x2.c t1.cells _ _ wr.drew r1.drew (by rw [show x1.n = x2.n by omega]; exact r2.drew)
      have Hn : x2.n = x1.n := by omega
      rw [Hn] at q1
      have HS := Lib.hid hsame
      clear hx1 hx2 e1 e2 r1 r2 hsame l1 l2 Hn
      go_wp2_with fail
      refine wp_region_lex (fun _ => True) (by kernel_rfl) (by kernel_rfl) trivial ?_
      repeat (first | (refine lex_q rfl ⟨default, trivial⟩ ?_; go_big_quiet_step (fail); refine wpQuiet_nil ?_) | (refine lex_skip rfl rfl trivial ?_; simp only [Act.put, List.setIfInBounds_toArray, List.set_cons_succ, List.set_cons_zero]) | (refine lex_e rfl ?_; go_wp2_with fail; refine lex_go trivial ?_))
      refine lex_e rfl ?_
      go_wp2_with fail
      refine (HS.out).mono ?_
      rintro e w5 ⟨rfl, hb5⟩
      go_wp2_with fail
      refine lex_go trivial ?_
      repeat (first | (refine lex_q rfl ⟨default, trivial⟩ ?_; go_big_quiet_step (fail); refine wpQuiet_nil ?_) | (refine lex_skip rfl rfl trivial ?_; simp only [Act.put, List.setIfInBounds_toArray, List.set_cons_succ, List.set_cons_zero]) | (refine lex_e rfl ?_; go_wp2_with fail; refine lex_go trivial ?_))
      refine lex_nil ?_
      go_wp2_with fail
      go_wp2
      go_roundw
      case rel => exact ⟨k + 1, by go_num, by omega, Below.ext hbr.drew hb5⟩
      case measure => simp [intOf]; omega
    · obtain rfl : k = n := by omega
      go_wp2
      go_ret
      exact ⟨rfl, hbr⟩
end Go.Proofs.YtiblijmngokcgaaDoor
namespace Go.Proofs.YtiblijmngokcgaaDoor
open Go.RowKit
set_option maxRecDepth 100000
set_option linter.unusedVariables false
theorem StV.nil_ (S : Nat → Prop) (w : World) : StV S w (.agg #[Value.slice none 0 0, Value.slice none 0 0, Value.slice none 0 0, Value.slice none 0 0]) ⟨[], [], [], []⟩ :=
  ⟨none, 0, none, 0, none, 0, none, 0, rfl, Recs.nil_ _ _, Recs.nil_ _ _, Recs.nil_ _ _, Recs.nil_ _ _⟩
theorem StV.ext {S : Nat → Prop} {w w' : World} {v : Value} {s : Stt} (h : StV S w v s) (hb : Below w.heap.size w w') : StV S w' v s := by
  obtain ⟨A1, c1, A2, c2, A3, c3, A4, c4, rfl, a1, a2, a3, a4⟩ := h
  exact ⟨A1, c1, A2, c2, A3, c3, A4, c4, rfl, a1.ext hb, a2.ext hb, a3.ext hb, a4.ext hb⟩
end Go.Proofs.YtiblijmngokcgaaDoor
