import Derived.Test.YtiblijmngokcgaaGreatDoorCodecDS
import Derived.Test.YtiblijmngokcgaaGreatDoorCodecCS
namespace Go.Proofs.YtiblijmngokcgaaGreatDoor
open Go.RowKit
set_option maxRecDepth 100000
set_option linter.unusedVariables false
set_option maxHeartbeats 1000000 in
theorem sameints_eq (A1 A2 : Option Addr) (n c1 c2 : Nat) (l : List Int) (S1 S2 : Nat → Prop) (w : World) (h1 : Recs encZ S1 w (.slice A1 n c1) l) (h2 : Recs encZ S2 w (.slice A2 n c2) l) :
    Calls Tryz.prog 65 #[.slice A1 n c1, .slice A2 n c2] w fun e w' => e = .returned (.bool true) ∧ Below w.heap.size w w' := by
  have hl1 := h1.len
  go_enter Tryz.func65, Tryz.ntmps65
  go_wp2
  go_loopw [5] (fun a wr => ∃ k : Nat, a = .int .i64 k ∧ k ≤ n ∧ Below w.heap.size w wr) (fun a _ => n - (intOf a).toNat)
  case atStart => exact ⟨0, rfl, by omega, Below.refl _ _⟩
  case round =>
    obtain ⟨k, rfl, hk, hbr⟩ := hrel
    by_cases hlt : k < n
    · obtain ⟨b1, o1, x1, rfl, _, hb1, hx1, hc1⟩ := (h1.ext hbr).at_ encZ_len (j := k) (by omega) (by omega)
      obtain ⟨b2, o2, x2, rfl, _, hb2, hx2, hc2⟩ := (h2.ext hbr).at_ encZ_len (j := k) (by omega) (by omega)
      obtain rfl : x1 = x2 := by rw [hx1] at hx2; cases hx2; rfl
      have p0 : wr.cell? ⟨b1, o1 + k, none⟩ = some (.int .i64 x1) := by have := hc1 0 _ rfl; rw [Nat.mul_one] at this; exact this
      have q0 : wr.cell? ⟨b2, o2 + k, none⟩ = some (.int .i64 x1) := by have := hc2 0 _ rfl; rw [Nat.mul_one] at this; exact this
      clear hx1 hx2 hc1 hc2
      go_wp2_with fail
      refine wp_region_lex (fun _ => True) (by kernel_rfl) (by kernel_rfl) trivial ?_
      repeat (first | (refine lex_q rfl ⟨default, trivial⟩ ?_; go_big_quiet_step (fail); refine wpQuiet_nil ?_) | (refine lex_skip rfl rfl trivial ?_; simp only [Act.put, List.setIfInBounds_toArray, List.set_cons_succ, List.set_cons_zero]) | (refine lex_e rfl ?_; go_wp2_with fail; refine lex_go trivial ?_))
      refine lex_nil ?_
      go_wp2_with fail
      go_wp2
      go_roundw
      case rel => exact ⟨k + 1, by go_num, by omega, hbr.drew⟩
      case measure => simp [intOf]; omega
    · obtain rfl : k = n := by omega
      go_wp2
      go_ret
      exact ⟨rfl, hbr⟩
set_option maxHeartbeats 1000000 in
theorem sameevents_eq (A1 A2 : Option Addr) (n c1 c2 : Nat) (l : List Ev) (S1 S2 : Nat → Prop) (w : World) (h1 : Recs encEv S1 w (.slice A1 n c1) l) (h2 : Recs encEv S2 w (.slice A2 n c2) l) :
    Calls Tryz.prog 77 #[.slice A1 n c1, .slice A2 n c2] w fun e w' => e = .returned (.bool true) ∧ Below w.heap.size w w' := by
  have hl1 := h1.len
  go_enter Tryz.func77, Tryz.ntmps77
  go_wp2
  go_loopw [5] (fun a wr => ∃ k : Nat, a = .int .i64 k ∧ k ≤ n ∧ Below w.heap.size w wr) (fun a _ => n - (intOf a).toNat)
  case atStart => exact ⟨0, rfl, by omega, Below.refl _ _⟩
  case round =>
    obtain ⟨k, rfl, hk, hbr⟩ := hrel
    by_cases hlt : k < n
    · obtain ⟨b1, o1, x1, rfl, _, hb1, hx1, hc1⟩ := (h1.ext hbr).at_ encEv_len (j := k) (by omega) (by omega)
      obtain ⟨b2, o2, x2, rfl, _, hb2, hx2, hc2⟩ := (h2.ext hbr).at_ encEv_len (j := k) (by omega) (by omega)
      obtain rfl : x1 = x2 := by rw [hx1] at hx2; cases hx2; rfl
      have p0 : wr.cell? ⟨b1, o1 + k * 7, none⟩ = some (.int .i64 x1.k0) := hc1 0 _ rfl
      have q0 : wr.cell? ⟨b2, o2 + k * 7, none⟩ = some (.int .i64 x1.k0) := hc2 0 _ rfl
      have p1 : wr.cell? ⟨b1, o1 + k * 7 + 1, none⟩ = some (.int .i64 x1.k1) := hc1 1 _ rfl
      have q1 : wr.cell? ⟨b2, o2 + k * 7 + 1, none⟩ = some (.int .i64 x1.k1) := hc2 1 _ rfl
      have p2 : wr.cell? ⟨b1, o1 + k * 7 + 2, none⟩ = some (.int .i64 x1.k2) := hc1 2 _ rfl
      have q2 : wr.cell? ⟨b2, o2 + k * 7 + 2, none⟩ = some (.int .i64 x1.k2) := hc2 2 _ rfl
      have p3 : wr.cell? ⟨b1, o1 + k * 7 + 3, none⟩ = some (.int .i64 x1.k3) := hc1 3 _ rfl
      have q3 : wr.cell? ⟨b2, o2 + k * 7 + 3, none⟩ = some (.int .i64 x1.k3) := hc2 3 _ rfl
      have p4 : wr.cell? ⟨b1, o1 + k * 7 + 4, none⟩ = some (.int .i64 x1.k4) := hc1 4 _ rfl
      have q4 : wr.cell? ⟨b2, o2 + k * 7 + 4, none⟩ = some (.int .i64 x1.k4) := hc2 4 _ rfl
      have p5 : wr.cell? ⟨b1, o1 + k * 7 + 5, none⟩ = some (.int .i64 x1.k5) := hc1 5 _ rfl
      have q5 : wr.cell? ⟨b2, o2 + k * 7 + 5, none⟩ = some (.int .i64 x1.k5) := hc2 5 _ rfl
      have p6 : wr.cell? ⟨b1, o1 + k * 7 + 6, none⟩ = some (.int .i64 x1.k6) := hc1 6 _ rfl
      have q6 : wr.cell? ⟨b2, o2 + k * 7 + 6, none⟩ = some (.int .i64 x1.k6) := hc2 6 _ rfl
      clear hx1 hx2 hc1 hc2
      go_wp2_with fail
      refine wp_region_lex (fun _ => True) (by kernel_rfl) (by kernel_rfl) trivial ?_
      repeat (first | (refine lex_q rfl ⟨default, trivial⟩ ?_; go_big_quiet_step (fail); refine wpQuiet_nil ?_) | (refine lex_skip rfl rfl trivial ?_; simp only [Act.put, List.setIfInBounds_toArray, List.set_cons_succ, List.set_cons_zero]) | (refine lex_e rfl ?_; go_wp2_with fail; refine lex_go trivial ?_))
      refine lex_nil ?_
      go_wp2_with fail
      go_wp2
      go_roundw
      case rel => exact ⟨k + 1, by go_num, by omega, hbr.drew⟩
      case measure => simp [intOf]; omega
    · obtain rfl : k = n := by omega
      go_wp2
      go_ret
      exact ⟨rfl, hbr⟩
set_option maxHeartbeats 1000000 in
theorem samesends_eq (A1 A2 : Option Addr) (n c1 c2 : Nat) (l : List Snd) (S1 S2 : Nat → Prop) (w : World) (h1 : Recs encSn S1 w (.slice A1 n c1) l) (h2 : Recs encSn S2 w (.slice A2 n c2) l) :
    Calls Tryz.prog 78 #[.slice A1 n c1, .slice A2 n c2] w fun e w' => e = .returned (.bool true) ∧ Below w.heap.size w w' := by
  have hl1 := h1.len
  go_enter Tryz.func78, Tryz.ntmps78
  go_wp2
  go_loopw [5] (fun a wr => ∃ k : Nat, a = .int .i64 k ∧ k ≤ n ∧ Below w.heap.size w wr) (fun a _ => n - (intOf a).toNat)
  case atStart => exact ⟨0, rfl, by omega, Below.refl _ _⟩
  case round =>
    obtain ⟨k, rfl, hk, hbr⟩ := hrel
    by_cases hlt : k < n
    · obtain ⟨b1, o1, x1, rfl, _, hb1, hx1, hc1⟩ := (h1.ext hbr).at_ encSn_len (j := k) (by omega) (by omega)
      obtain ⟨b2, o2, x2, rfl, _, hb2, hx2, hc2⟩ := (h2.ext hbr).at_ encSn_len (j := k) (by omega) (by omega)
      obtain rfl : x1 = x2 := by rw [hx1] at hx2; cases hx2; rfl
      have p0 : wr.cell? ⟨b1, o1 + k * 4, none⟩ = some (.int .i64 x1.a) := hc1 0 _ rfl
      have q0 : wr.cell? ⟨b2, o2 + k * 4, none⟩ = some (.int .i64 x1.a) := hc2 0 _ rfl
      have p1 : wr.cell? ⟨b1, o1 + k * 4 + 1, none⟩ = some (.int .i64 x1.b) := hc1 1 _ rfl
      have q1 : wr.cell? ⟨b2, o2 + k * 4 + 1, none⟩ = some (.int .i64 x1.b) := hc2 1 _ rfl
      have p2 : wr.cell? ⟨b1, o1 + k * 4 + 2, none⟩ = some (.int .i64 x1.c) := hc1 2 _ rfl
      have q2 : wr.cell? ⟨b2, o2 + k * 4 + 2, none⟩ = some (.int .i64 x1.c) := hc2 2 _ rfl
      have p3 : wr.cell? ⟨b1, o1 + k * 4 + 3, none⟩ = some (.int .i64 x1.d) := hc1 3 _ rfl
      have q3 : wr.cell? ⟨b2, o2 + k * 4 + 3, none⟩ = some (.int .i64 x1.d) := hc2 3 _ rfl
      clear hx1 hx2 hc1 hc2
      go_wp2_with fail
      refine wp_region_lex (fun _ => True) (by kernel_rfl) (by kernel_rfl) trivial ?_
      repeat (first | (refine lex_q rfl ⟨default, trivial⟩ ?_; go_big_quiet_step (fail); refine wpQuiet_nil ?_) | (refine lex_skip rfl rfl trivial ?_; simp only [Act.put, List.setIfInBounds_toArray, List.set_cons_succ, List.set_cons_zero]) | (refine lex_e rfl ?_; go_wp2_with fail; refine lex_go trivial ?_))
      refine lex_nil ?_
      go_wp2_with fail
      go_wp2
      go_roundw
      case rel => exact ⟨k + 1, by go_num, by omega, hbr.drew⟩
      case measure => simp [intOf]; omega
    · obtain rfl : k = n := by omega
      go_wp2
      go_ret
      exact ⟨rfl, hbr⟩
set_option maxHeartbeats 1000000 in
theorem sameouts_eq (A1 A2 : Option Addr) (n c1 c2 : Nat) (l : List Ou) (S1 S2 : Nat → Prop) (w : World) (h1 : Recs encOu S1 w (.slice A1 n c1) l) (h2 : Recs encOu S2 w (.slice A2 n c2) l) :
    Calls Tryz.prog 79 #[.slice A1 n c1, .slice A2 n c2] w fun e w' => e = .returned (.bool true) ∧ Below w.heap.size w w' := by
  have hl1 := h1.len
  go_enter Tryz.func79, Tryz.ntmps79
  go_wp2
  go_loopw [5] (fun a wr => ∃ k : Nat, a = .int .i64 k ∧ k ≤ n ∧ Below w.heap.size w wr) (fun a _ => n - (intOf a).toNat)
  case atStart => exact ⟨0, rfl, by omega, Below.refl _ _⟩
  case round =>
    obtain ⟨k, rfl, hk, hbr⟩ := hrel
    by_cases hlt : k < n
    · obtain ⟨b1, o1, x1, rfl, _, hb1, hx1, hc1⟩ := (h1.ext hbr).at_ encOu_len (j := k) (by omega) (by omega)
      obtain ⟨b2, o2, x2, rfl, _, hb2, hx2, hc2⟩ := (h2.ext hbr).at_ encOu_len (j := k) (by omega) (by omega)
      obtain rfl : x1 = x2 := by rw [hx1] at hx2; cases hx2; rfl
      have p0 : wr.cell? ⟨b1, o1 + k * 2, none⟩ = some (.int .i64 x1.a) := hc1 0 _ rfl
      have q0 : wr.cell? ⟨b2, o2 + k * 2, none⟩ = some (.int .i64 x1.a) := hc2 0 _ rfl
      have p1 : wr.cell? ⟨b1, o1 + k * 2 + 1, none⟩ = some (.int .i64 x1.b) := hc1 1 _ rfl
      have q1 : wr.cell? ⟨b2, o2 + k * 2 + 1, none⟩ = some (.int .i64 x1.b) := hc2 1 _ rfl
      clear hx1 hx2 hc1 hc2
      go_wp2_with fail
      refine wp_region_lex (fun _ => True) (by kernel_rfl) (by kernel_rfl) trivial ?_
      repeat (first | (refine lex_q rfl ⟨default, trivial⟩ ?_; go_big_quiet_step (fail); refine wpQuiet_nil ?_) | (refine lex_skip rfl rfl trivial ?_; simp only [Act.put, List.setIfInBounds_toArray, List.set_cons_succ, List.set_cons_zero]) | (refine lex_e rfl ?_; go_wp2_with fail; refine lex_go trivial ?_))
      refine lex_nil ?_
      go_wp2_with fail
      go_wp2
      go_roundw
      case rel => exact ⟨k + 1, by go_num, by omega, hbr.drew⟩
      case measure => simp [intOf]; omega
    · obtain rfl : k = n := by omega
      go_wp2
      go_ret
      exact ⟨rfl, hbr⟩
end Go.Proofs.YtiblijmngokcgaaGreatDoor
namespace Go.Proofs.YtiblijmngokcgaaGreatDoor
open Go.RowKit
set_option maxRecDepth 100000
set_option linter.unusedVariables false
set_option maxHeartbeats 1000000 in
theorem samestate_eq (v1 v2 : Value) (s : Stt) (S1 S2 : Nat → Prop) (w : World) (h1 : StV S1 w v1 s) (h2 : StV S2 w v2 s) :
    Calls Tryz.prog 32 #[v1, v2] w fun e w' => e = .returned (.bool true) ∧ Below w.heap.size w w' := by
  obtain ⟨A1, c1, A2, c2, A3, c3, A4, c4, rfl, a1, a2, a3, a4⟩ := h1
  obtain ⟨B1, d1, B2, d2, B3, d3, B4, d4, rfl, b1, b2, b3, b4⟩ := h2
  obtain ⟨W, hW, bW, hsW, r1, r2⟩ : ∃ W, W = (w.alloc (.cells #[.slice A1 s.cells.length c1, .slice A2 s.evs.length c2, .slice A3 s.sent.length c3, .slice A4 s.outs.length c4] 51)).alloc (.cells #[.slice B1 s.cells.length d1, .slice B2 s.evs.length d2, .slice B3 s.sent.length d3, .slice B4 s.outs.length d4] 51) ∧ Below w.heap.size w W ∧ W.heap.size = w.heap.size + 2 ∧
      W.heap[w.heap.size]? = some (.cells #[.slice A1 s.cells.length c1, .slice A2 s.evs.length c2, .slice A3 s.sent.length c3, .slice A4 s.outs.length c4] 51 (0, 0)) ∧ W.heap[w.heap.size + 1]? = some (.cells #[.slice B1 s.cells.length d1, .slice B2 s.evs.length d2, .slice B3 s.sent.length d3, .slice B4 s.outs.length d4] 51 (0, 0)) := by
    refine ⟨_, rfl, ((Below.refl _ w).alloc (Nat.le_refl _) _).alloc (by simp) _, by simp, ?_, ?_⟩
    · exact (((Below.refl _ _).alloc (Nat.le_refl _) _).block w.heap.size (by simp)).trans (heap_alloc_new w _)
    · have := heap_alloc_new (w.alloc (.cells #[.slice A1 s.cells.length c1, .slice A2 s.evs.length c2, .slice A3 s.sent.length c3, .slice A4 s.outs.length c4] 51)) (.cells #[.slice B1 s.cells.length d1, .slice B2 s.evs.length d2, .slice B3 s.sent.length d3, .slice B4 s.outs.length d4] 51)
      rw [World.size_alloc] at this
      exact this
  have HR : ∀ w', Below W.heap.size W w' → w'.heap[w.heap.size]? = some (.cells #[.slice A1 s.cells.length c1, .slice A2 s.evs.length c2, .slice A3 s.sent.length c3, .slice A4 s.outs.length c4] 51 (0, 0)) ∧ w'.heap[w.heap.size + 1]? = some (.cells #[.slice B1 s.cells.length d1, .slice B2 s.evs.length d2, .slice B3 s.sent.length d3, .slice B4 s.outs.length d4] 51 (0, 0)) := fun w' hb => ⟨(hb.block _ (by omega)).trans r1, (hb.block _ (by omega)).trans r2⟩
  have HRR := Lib.hid HR
  have x0 : W.cell? ⟨w.heap.size, 0, none⟩ = some (.slice A1 s.cells.length c1) := by rw [cell_of_row _ _ _ _ _ _ r1]; rfl
  have y0 : W.cell? ⟨w.heap.size + 1, 0, none⟩ = some (.slice B1 s.cells.length d1) := by rw [cell_of_row _ _ _ _ _ _ r2]; rfl
  clear HR r1 r2
  go_enter Tryz.func32, Tryz.ntmps32
  go_wp2_with fail
  rw [← hW]
  clear hW x0 y0
  refine (sameints_eq _ _ _ _ _ _ _ _ W (a1.ext bW) (b1.ext bW)).mono ?_
  rintro e w1 ⟨rfl, h1⟩
  have x1 : w1.cell? ⟨w.heap.size, 1, none⟩ = some (.slice A2 s.evs.length c2) := by rw [cell_of_row _ _ _ _ _ _ (HRR.out w1 h1).1]; rfl
  have y1 : w1.cell? ⟨w.heap.size + 1, 1, none⟩ = some (.slice B2 s.evs.length d2) := by rw [cell_of_row _ _ _ _ _ _ (HRR.out w1 h1).2]; rfl
  go_wp2_with fail
  clear x1 y1
  refine (sameevents_eq _ _ _ _ _ _ _ _ w1 (a2.ext (Below.ext bW h1)) (b2.ext (Below.ext bW h1))).mono ?_
  rintro e w2 ⟨rfl, g2⟩
  have h2 := Below.ext h1 g2
  have x2 : w2.cell? ⟨w.heap.size, 2, none⟩ = some (.slice A3 s.sent.length c3) := by rw [cell_of_row _ _ _ _ _ _ (HRR.out w2 h2).1]; rfl
  have y2 : w2.cell? ⟨w.heap.size + 1, 2, none⟩ = some (.slice B3 s.sent.length d3) := by rw [cell_of_row _ _ _ _ _ _ (HRR.out w2 h2).2]; rfl
  go_wp2_with fail
  clear x2 y2
  refine (samesends_eq _ _ _ _ _ _ _ _ w2 (a3.ext (Below.ext bW h2)) (b3.ext (Below.ext bW h2))).mono ?_
  rintro e w3 ⟨rfl, g3⟩
  have h3 := Below.ext h2 g3
  have x3 : w3.cell? ⟨w.heap.size, 3, none⟩ = some (.slice A4 s.outs.length c4) := by rw [cell_of_row _ _ _ _ _ _ (HRR.out w3 h3).1]; rfl
  have y3 : w3.cell? ⟨w.heap.size + 1, 3, none⟩ = some (.slice B4 s.outs.length d4) := by rw [cell_of_row _ _ _ _ _ _ (HRR.out w3 h3).2]; rfl
  go_wp2_with fail
  clear x3 y3
  refine (sameouts_eq _ _ _ _ _ _ _ _ w3 (a4.ext (Below.ext bW h3)) (b4.ext (Below.ext bW h3))).mono ?_
  rintro e w4 ⟨rfl, g4⟩
  have h4 := Below.ext h3 g4
  go_wp2
  go_ret
  exact ⟨rfl, Below.ext bW h4⟩
set_option maxHeartbeats 1000000 in
theorem samepages_eq (A1 A2 : Option Addr) (n c1 c2 : Nat) (l : List Pg) (S1 S2 : Nat → Prop) (w : World) (h1 : Pgs S1 w (.slice A1 n c1) l) (h2 : Pgs S2 w (.slice A2 n c2) l) :
    Calls Tryz.prog 90 #[.slice A1 n c1, .slice A2 n c2] w fun e w' => e = .returned (.bool true) ∧ Below w.heap.size w w' := by
  have hl1 := h1.len
  go_enter Tryz.func90, Tryz.ntmps90
  go_wp2
  go_loopw [5] (fun a wr => ∃ k : Nat, a = .int .i64 k ∧ k ≤ n ∧ Below w.heap.size w wr) (fun a _ => n - (intOf a).toNat)
  case atStart => exact ⟨0, rfl, by omega, Below.refl _ _⟩
  case round =>
    obtain ⟨k, rfl, hk, hbr⟩ := hrel
    by_cases hlt : k < n
    · obtain ⟨b1, o1, x1, t1, rfl, _, hb1, hx1, e1, r1, p0, p1⟩ := (h1.ext hbr).at_ (k := k) hlt
      obtain ⟨b2, o2, x2, t2, rfl, _, hb2, hx2, e2, r2, q0, q1⟩ := (h2.ext hbr).at_ (k := k) hlt
      obtain rfl : t1 = t2 := by rw [hx1] at hx2; cases hx2; rfl
      have l1 := r1.len.1
      have l2 := r2.len.1
      rw [e1] at p0
      rw [e2] at q0
      have hsame := sameints_eq x1.A x2.A x1.n x1.c x2.c t1.cells _ _ wr.drew r1.drew (by rw [show x1.n = x2.n by omega]; exact r2.drew)
      have Hn : x2.n = x1.n := by omega
      rw [Hn] at q1
      have HS := Lib.hid hsame
      clear hx1 hx2 e1 e2 r1 r2 hsame l1 l2 Hn
      go_wp2_with fail
      refine wp_region_lex (fun _ => True) (by kernel_rfl) (by kernel_rfl) trivial ?_
      repeat (first | (refine lex_q rfl ⟨default, trivial⟩ ?_; go_big_quiet_step (fail); refine wpQuiet_nil ?_) | (refine lex_skip rfl rfl trivial ?_; simp only [Act.put, List.setIfInBounds_toArray, List.set_cons_succ, List.set_cons_zero]) | (refine lex_e rfl ?_; go_wp2_with fail; refine lex_go trivial ?_))
      refine lex_e rfl ?_
      go_wp2_with fail
      refine (HS.out).mono ?_
      rintro e w5 ⟨rfl, hb5⟩
      go_wp2_with fail
      refine lex_go trivial ?_
      repeat (first | (refine lex_q rfl ⟨default, trivial⟩ ?_; go_big_quiet_step (fail); refine wpQuiet_nil ?_) | (refine lex_skip rfl rfl trivial ?_; simp only [Act.put, List.setIfInBounds_toArray, List.set_cons_succ, List.set_cons_zero]) | (refine lex_e rfl ?_; go_wp2_with fail; refine lex_go trivial ?_))
      refine lex_nil ?_
      go_wp2_with fail
      go_wp2
      go_roundw
      case rel => exact ⟨k + 1, by go_num, by omega, Below.ext hbr.drew hb5⟩
      case measure => simp [intOf]; omega
    · obtain rfl : k = n := by omega
      go_wp2
      go_ret
      exact ⟨rfl, hbr⟩
end Go.Proofs.YtiblijmngokcgaaGreatDoor
namespace Go.Proofs.YtiblijmngokcgaaGreatDoor
open Go.RowKit
set_option maxRecDepth 100000
set_option linter.unusedVariables false
theorem evOut (L : List UInt8) (k : Int) : ∃ (a : Ev) (q x : Int), ∀ e w', RdOut (rdAt rdEv L k) (.agg #[Value.int .i64 0, Value.int .i64 0, Value.int .i64 0, Value.int .i64 0, Value.int .i64 0, Value.int .i64 0, Value.int .i64 0]) (fun a w' v => v = evV a) e w' → e = .returned (.tuple #[.agg #[Value.int .i64 a.k0, Value.int .i64 a.k1, Value.int .i64 a.k2, Value.int .i64 a.k3, Value.int .i64 a.k4, Value.int .i64 a.k5, Value.int .i64 a.k6], .int .i64 q, .int .i64 x]) := by
  unfold RdOut
  cases rdAt rdEv L k with
  | error x => exact ⟨⟨0, 0, 0, 0, 0, 0, 0⟩, 0, x, fun e w' h => h⟩
  | ok vq => exact ⟨vq.1, vq.2, 0, fun e w' ⟨v, h, hv⟩ => by rw [h, hv]; rfl⟩
theorem dtOut (L : List UInt8) (k : Int) : ∃ (d : Dt) (q x : Int), ∀ e w', RdOut (rdAt rdDt L k) (.agg #[Value.int .i64 0, Value.int .i64 0, Value.int .i64 0, Value.int .i64 0, Value.int .i64 0, Value.int .i64 0, Value.int .i64 0, Value.int .i64 0, Value.int .i64 0]) (fun a w' v => v = dtV a) e w' → e = .returned (.tuple #[.agg #[Value.int .i64 d.proc, Value.int .i64 d.index, Value.int .i64 d.ev.k0, Value.int .i64 d.ev.k1, Value.int .i64 d.ev.k2, Value.int .i64 d.ev.k3, Value.int .i64 d.ev.k4, Value.int .i64 d.ev.k5, Value.int .i64 d.ev.k6], .int .i64 q, .int .i64 x]) := by
  unfold RdOut
  cases rdAt rdDt L k with
  | error x => exact ⟨⟨0, 0, ⟨0, 0, 0, 0, 0, 0, 0⟩⟩, 0, x, fun e w' h => h⟩
  | ok vq => exact ⟨vq.1, vq.2, 0, fun e w' ⟨v, h, hv⟩ => by rw [h, hv]; rfl⟩
theorem pgsOut (L : List UInt8) (k : Int) : ∃ (ts : List Pg) (q x : Int), ∀ base e w', RdOut (rdAt rdPgs L k) (.slice none 0 0) (fun a w' v => ∃ A c, v = .slice A a.length c ∧ PgsOwn base w' v a) e w' → ∃ A c, e = .returned (.tuple #[.slice A ts.length c, .int .i64 q, .int .i64 x]) ∧ Pgs (base ≤ ·) w' (.slice A ts.length c) ts := by
  unfold RdOut
  cases rdAt rdPgs L k with
  | error x => exact ⟨[], 0, x, fun base e w' h => ⟨none, 0, h, (PgsOwn.nil_ _ _).pgs⟩⟩
  | ok vq => exact ⟨vq.1, vq.2, 0, fun base e w' ⟨v, h, A, c, hv, hp⟩ => ⟨A, c, by rw [h, hv], by rw [hv] at hp; exact hp.pgs⟩⟩
theorem StO.stv {w : World} {base : Nat} {v : Value} {s : Stt} (h : StO w base v s) : StV (base ≤ ·) w v s := by
  obtain ⟨A1, c1, A2, c2, A3, c3, A4, c4, rfl, a1, a2, a3, a4⟩ := h
  exact ⟨A1, c1, A2, c2, A3, c3, A4, c4, rfl, a1.recs.mono fun b _ hb => hb.1, a2.recs.mono fun b _ hb => hb.1, a3.recs.mono fun b _ hb => hb.1, a4.recs.mono fun b _ hb => hb.1⟩
theorem StV.nil_ (S : Nat → Prop) (w : World) : StV S w (.agg #[Value.slice none 0 0, Value.slice none 0 0, Value.slice none 0 0, Value.slice none 0 0]) ⟨[], [], [], []⟩ :=
  ⟨none, 0, none, 0, none, 0, none, 0, rfl, Recs.nil_ _ _, Recs.nil_ _ _, Recs.nil_ _ _, Recs.nil_ _ _⟩
theorem StV.ext {S : Nat → Prop} {w w' : World} {v : Value} {s : Stt} (h : StV S w v s) (hb : Below w.heap.size w w') : StV S w' v s := by
  obtain ⟨A1, c1, A2, c2, A3, c3, A4, c4, rfl, a1, a2, a3, a4⟩ := h
  exact ⟨A1, c1, A2, c2, A3, c3, A4, c4, rfl, a1.ext hb, a2.ext hb, a3.ext hb, a4.ext hb⟩
theorem stOut (L : List UInt8) (k : Int) : ∃ (s : Stt) (q x : Int), ∀ (V : Stt → World → Value → Prop) base e w', (∀ a w' v, V a w' v → StV (base ≤ ·) w' v a) → RdOut (rdAt rdSt L k) (.agg #[Value.slice none 0 0, Value.slice none 0 0, Value.slice none 0 0, Value.slice none 0 0]) V e w' → ∃ v, e = .returned (.tuple #[v, .int .i64 q, .int .i64 x]) ∧ StV (base ≤ ·) w' v s := by
  unfold RdOut
  cases rdAt rdSt L k with
  | error x => exact ⟨⟨[], [], [], []⟩, 0, x, fun V base e w' _ h => ⟨_, h, StV.nil_ _ _⟩⟩
  | ok vq => exact ⟨vq.1, vq.2, 0, fun V base e w' hV ⟨v, h, hv⟩ => ⟨v, h, hV _ _ _ hv⟩⟩
theorem newB (w w1 : World) (B : Nat) (cs : Array Value) (T : TypeId) (hb : Below B w w1) (hB : B ≤ w1.heap.size) : ∃ W, W = w1.alloc (.cells cs T) ∧ Below B w W ∧ Below w1.heap.size w1 W ∧ W.heap.size = w1.heap.size + 1 ∧ W.heap[w1.heap.size]? = some (.cells cs T (0, 0)) :=
  ⟨_, rfl, hb.alloc hB _, (Below.refl _ _).alloc (Nat.le_refl _) _, by simp, heap_alloc_new _ _⟩
set_option maxHeartbeats 2000000 in
theorem same_any (A : Option Addr) (n c : Nat) (k : Int) (L : List UInt8) (S : Nat → Prop) (w : World) (hb : Bytes S w (.slice A n c) L) (hn : n ≤ 100000000) :
    Calls Tryz.prog 35 #[.slice A n c, .int .i64 k] w fun e w' => e = .returned (.bool true) ∧ Below w.heap.size w w' := by
  obtain ⟨a, q1, x1, hE⟩ := evOut L k
  obtain ⟨d, q2, x2, hD⟩ := dtOut L k
  obtain ⟨ts, q3, x3, hP⟩ := pgsOut L k
  obtain ⟨s, q4, x4, hS⟩ := stOut L k
  go_enter Tryz.func35, Tryz.ntmps35
  go_wp2_with fail
  refine (codecEvent_any A n c k L S w hb hn).mono ?_
  rintro e w1 ⟨hr1, gb1⟩
  obtain rfl := hE _ _ hr1
  clear hr1
  have hb1 := gb1
  have hs1 := hb1.size
  obtain ⟨W1, hW1, bW1, cW1, sW1, rW1⟩ := newB w w1 w.heap.size #[Value.int .i64 a.k0, Value.int .i64 a.k1, Value.int .i64 a.k2, Value.int .i64 a.k3, Value.int .i64 a.k4, Value.int .i64 a.k5, Value.int .i64 a.k6] 78 hb1 hs1
  have R1 := Lib.hid rW1
  clear rW1
  go_wp2_with (refine wpList_store_new rfl 78 _ _ rfl 78 _ #[Value.int .i64 a.k0, Value.int .i64 a.k1, Value.int .i64 a.k2, Value.int .i64 a.k3, Value.int .i64 a.k4, Value.int .i64 a.k5, Value.int .i64 a.k6] rfl rfl (by kernel_rfl) rfl (by simp [Value.oneCell']) ?_)
  rw [← hW1]
  clear hW1
  refine (refEvent_any A n c k L S W1 (hb.ext bW1) hn).mono ?_
  rintro e w2 ⟨hr2, gb2⟩
  obtain rfl := hE _ _ hr2
  clear hr2
  have hb2 := Below.ext bW1 gb2
  have gs2 := gb2.size
  have hs2 := hb2.size
  obtain ⟨W2, hW2, bW2, cW2, sW2, rW2⟩ := newB w w2 w.heap.size #[Value.int .i64 a.k0, Value.int .i64 a.k1, Value.int .i64 a.k2, Value.int .i64 a.k3, Value.int .i64 a.k4, Value.int .i64 a.k5, Value.int .i64 a.k6] 78 hb2 hs2
  have X1 := Lib.hid ((cW2.block w1.heap.size (by omega)).trans ((gb2.block w1.heap.size (by omega)).trans R1.out))
  have X2 := Lib.hid rW2
  rw [hW2] at X1 X2
  clear rW2 R1
  go_wp2_with (first | (refine wpList_store_new rfl 78 _ _ rfl 78 _ #[Value.int .i64 a.k0, Value.int .i64 a.k1, Value.int .i64 a.k2, Value.int .i64 a.k3, Value.int .i64 a.k4, Value.int .i64 a.k5, Value.int .i64 a.k6] rfl rfl (by kernel_rfl) rfl (by simp [Value.oneCell']) ?_) | (refine wpList_load_row rfl 78 _ rfl _ rfl 78 _ (0,0) _ X1.out Tryz.underlying78 rfl (by kernel_rfl) ?_) | (refine wpList_load_row rfl 78 _ rfl _ rfl 78 _ (0,0) _ X2.out Tryz.underlying78 rfl (by kernel_rfl) ?_))
  rw [← hW2]
  clear hW2 X1 X2
  refine (codecDet_any A n c k L S W2 (hb.ext bW2) hn).mono ?_
  rintro e w3 ⟨hr3, gb3⟩
  obtain rfl := hD _ _ hr3
  clear hr3
  have hb3 := Below.ext bW2 gb3
  have hs3 := hb3.size
  obtain ⟨W3, hW3, bW3, cW3, sW3, rW3⟩ := newB w w3 w.heap.size #[Value.int .i64 d.proc, Value.int .i64 d.index, Value.int .i64 d.ev.k0, Value.int .i64 d.ev.k1, Value.int .i64 d.ev.k2, Value.int .i64 d.ev.k3, Value.int .i64 d.ev.k4, Value.int .i64 d.ev.k5, Value.int .i64 d.ev.k6] 133 hb3 hs3
  have R3 := Lib.hid rW3
  clear rW3
  go_wp2_with (refine wpList_store_new rfl 133 _ _ rfl 133 _ #[Value.int .i64 d.proc, Value.int .i64 d.index, Value.int .i64 d.ev.k0, Value.int .i64 d.ev.k1, Value.int .i64 d.ev.k2, Value.int .i64 d.ev.k3, Value.int .i64 d.ev.k4, Value.int .i64 d.ev.k5, Value.int .i64 d.ev.k6] rfl rfl (by kernel_rfl) rfl (by simp [Value.oneCell']) ?_)
  rw [← hW3]
  clear hW3
  refine (refDet_any A n c k L S W3 (hb.ext bW3) hn).mono ?_
  rintro e w4 ⟨hr4, gb4⟩
  obtain rfl := hD _ _ hr4
  clear hr4
  have hb4 := Below.ext bW3 gb4
  have gs4 := gb4.size
  have hs4 := hb4.size
  obtain ⟨W4, hW4, bW4, cW4, sW4, rW4⟩ := newB w w4 w.heap.size #[Value.int .i64 d.proc, Value.int .i64 d.index, Value.int .i64 d.ev.k0, Value.int .i64 d.ev.k1, Value.int .i64 d.ev.k2, Value.int .i64 d.ev.k3, Value.int .i64 d.ev.k4, Value.int .i64 d.ev.k5, Value.int .i64 d.ev.k6] 133 hb4 hs4
  have X3 := Lib.hid ((cW4.block w3.heap.size (by omega)).trans ((gb4.block w3.heap.size (by omega)).trans R3.out))
  have X4 := Lib.hid rW4
  rw [hW4] at X3 X4
  clear rW4 R3
  go_wp2_with (first | (refine wpList_store_new rfl 133 _ _ rfl 133 _ #[Value.int .i64 d.proc, Value.int .i64 d.index, Value.int .i64 d.ev.k0, Value.int .i64 d.ev.k1, Value.int .i64 d.ev.k2, Value.int .i64 d.ev.k3, Value.int .i64 d.ev.k4, Value.int .i64 d.ev.k5, Value.int .i64 d.ev.k6] rfl rfl (by kernel_rfl) rfl (by simp [Value.oneCell']) ?_) | (refine wpList_load_row rfl 133 _ rfl _ rfl 133 _ (0,0) _ X3.out Tryz.underlying133 rfl (by kernel_rfl) ?_) | (refine wpList_load_row rfl 133 _ rfl _ rfl 133 _ (0,0) _ X4.out Tryz.underlying133 rfl (by kernel_rfl) ?_))
  rw [← hW4]
  clear hW4 X3 X4
  refine (codecPages_any A n c k L S W4 (hb.ext bW4) hn).mono ?_
  rintro e w5 ⟨hr5, gb5⟩
  obtain ⟨A5, c5, rfl, P5⟩ := hP _ _ _ hr5
  clear hr5
  have hb5 := Below.ext bW4 gb5
  go_wp2_with fail
  refine (refPages_any A n c k L S w5 (hb.ext hb5) hn).mono ?_
  rintro e w6 ⟨hr6, gb6⟩
  obtain ⟨A6, c6, rfl, P6⟩ := hP _ _ _ hr6
  clear hr6
  have hb6 := Below.ext hb5 gb6
  go_wp2_with fail
  refine (samepages_eq _ _ _ _ _ _ _ _ w6 (P5.ext gb6) P6).mono ?_
  rintro e w7 ⟨rfl, gb7⟩
  have hb7 := Below.ext hb6 gb7
  go_wp2_with fail
  refine (codecState_any A n c k L S w7 (hb.ext hb7) hn).mono ?_
  rintro e w9 ⟨hr9, gb9⟩
  obtain ⟨v9, rfl, S9⟩ := hS _ _ _ _ (fun a w' v h => h.stv) hr9
  clear hr9
  have hb9 := Below.ext hb7 gb9
  obtain ⟨C1, c1, C2, c2, C3, c3, C4, c4, rfl, s1, s2, s3, s4⟩ := S9
  have hs9 := hb9.size
  obtain ⟨W9, hW9, bW9, cW9, sW9, rW9⟩ := newB w w9 w.heap.size #[Value.slice C1 s.cells.length c1, Value.slice C2 s.evs.length c2, Value.slice C3 s.sent.length c3, Value.slice C4 s.outs.length c4] 51 hb9 hs9
  have R9 := Lib.hid rW9
  clear rW9
  go_wp2_with (refine wpList_store_new rfl 51 _ _ rfl 51 _ #[Value.slice C1 s.cells.length c1, Value.slice C2 s.evs.length c2, Value.slice C3 s.sent.length c3, Value.slice C4 s.outs.length c4] rfl rfl (by kernel_rfl) rfl (by simp [Value.oneCell']) ?_)
  rw [← hW9]
  clear hW9
  have V9 : StV _ W9 _ s := ⟨C1, c1, C2, c2, C3, c3, C4, c4, rfl, s1.ext cW9, s2.ext cW9, s3.ext cW9, s4.ext cW9⟩
  clear s1 s2 s3 s4
  refine (refState_any A n c k L S W9 (hb.ext bW9) hn).mono ?_
  rintro e w10 ⟨hr10, gb10⟩
  obtain ⟨v10, rfl, S10⟩ := hS _ _ _ _ (fun a w' v h => h) hr10
  clear hr10
  have hb10 := Below.ext bW9 gb10
  have gs10 := gb10.size
  have V9b := V9.ext gb10
  obtain ⟨D1, d1, D2, d2, D3, d3, D4, d4, rfl, s1, s2, s3, s4⟩ := S10
  have hs10 := hb10.size
  obtain ⟨W10, hW10, bW10, cW10, sW10, rW10⟩ := newB w w10 w.heap.size #[Value.slice D1 s.cells.length d1, Value.slice D2 s.evs.length d2, Value.slice D3 s.sent.length d3, Value.slice D4 s.outs.length d4] 51 hb10 hs10
  have X9 := Lib.hid ((cW10.block w9.heap.size (by omega)).trans ((gb10.block w9.heap.size (by omega)).trans R9.out))
  have X10 := Lib.hid rW10
  rw [hW10] at X9 X10
  clear rW10 R9
  go_wp2_with (first | (refine wpList_store_new rfl 51 _ _ rfl 51 _ #[Value.slice D1 s.cells.length d1, Value.slice D2 s.evs.length d2, Value.slice D3 s.sent.length d3, Value.slice D4 s.outs.length d4] rfl rfl (by kernel_rfl) rfl (by simp [Value.oneCell']) ?_) | (refine wpList_load_row rfl 51 _ rfl _ rfl 51 _ (0,0) _ X9.out Tryz.underlying51 rfl (by kernel_rfl) ?_) | (refine wpList_load_row rfl 51 _ rfl _ rfl 51 _ (0,0) _ X10.out Tryz.underlying51 rfl (by kernel_rfl) ?_))
  rw [← hW10]
  clear hW10 X9 X10
  refine (samestate_eq _ _ s _ _ W10 (V9b.ext cW10) ⟨D1, d1, D2, d2, D3, d3, D4, d4, rfl, s1.ext cW10, s2.ext cW10, s3.ext cW10, s4.ext cW10⟩).mono ?_
  rintro e w11 ⟨rfl, gb11⟩
  go_wp2
  go_ret
  exact ⟨rfl, Below.ext bW10 gb11⟩
end Go.Proofs.YtiblijmngokcgaaGreatDoor
