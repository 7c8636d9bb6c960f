import Derived.Test.YtiblijmngokcgaaDoorDrawBS
namespace Go.Proofs.YtiblijmngokcgaaDoor
open Go.RowKit
set_option maxRecDepth 100000
set_option linter.unusedVariables false
set_option linter.unusedSimpArgs false
theorem infoI5 : (Tryd.prog.info? 3).map (fun i => (i.zero, i.size, i.bytes)) = some (some (.int .i64 0), 1, 8) := by kernel_rfl
set_option maxHeartbeats 2000000 in
theorem codints_any (B g most : Nat) (w : World) (h : Cod B w g) (hm : most ≤ 200) :
    Calls Tryd.prog 8 #[.pointer (some ⟨g, 0, none⟩), .int .i64 (most : Int)] w fun e w' => ∃ A c l, e = .returned (.slice A l.length c) ∧ l.length ≤ most ∧ (∀ z ∈ l, InR z) ∧ OwnR encZ 1 w' w.heap.size 3 (.slice A l.length c) l ∧ Cod B w' g ∧ w.grownBy w' (some g) := by
  have hglt := h.lt
  go_enter Tryd.func8, Tryd.ntmps8
  go_wp2_with fail
  refine (codnext_any B g (most + 1) _ h (by omega) (by omega)).mono ?_
  rintro e w1 ⟨n, rfl, hn, hC1, hg1⟩
  clear h
  go_wp2
  go_loopw [5, 6] (fun v i wr => ∃ (j : Nat) (A : Option Addr) (c : Nat) (l : List Int), i = .int .i64 j ∧ v = .slice A l.length c ∧ l.length + j = n ∧ (∀ z ∈ l, InR z) ∧ OwnR encZ 1 wr w.heap.size 3 (.slice A l.length c) l ∧ Cod B wr g ∧ w.grownBy wr (some g)) (fun _ i _ => (intOf i).toNat)
  case atStart => exact ⟨n, none, 0, [], rfl, rfl, by simp, fun d hd => by simp at hd, OwnR.nil_ _ _ _, hC1, hg1⟩
  case round =>
    obtain ⟨j, A, c, l, rfl, rfl, hlj, hin, hown, hC, hgr⟩ := hrel
    have hlj' : l.length + j ≤ n := by omega
    have Hlj := Lib.hid hlj
    have HIN := Lib.hid hin
    clear hlj hin
    by_cases hlt : 0 < j
    · go_wp2_with fail
      refine (codint_any B g _ hC).mono ?_
      rintro e w4 ⟨x, rfl, hx, hC4, hgr4⟩
      have hsz := hgr.size
      have hsz4 := hgr4.size
      have hown2 := hown.kept hgr4 (by
        rcases Option.eq_none_or_eq_some (Value.slice A l.length c).ownBlock with h0 | ⟨m, h0⟩
        · exact .inl h0
        · refine .inr (fun e => ?_)
          rw [h0] at e
          cases e
          have := (World.ownsRow.lt hown _ h0).1
          omega)
      have hone : Recs encZ (fun _ => True) (w4.alloc (.cells #[Value.int .i64 x] 3)) (.slice (some ⟨w4.heap.size, 0, none⟩) 1 1) [x] := ⟨_, 1, rfl, by simp, by simp [maxLen], Cs.lit _ _ _ _ _ trivial rfl⟩
      go_wp2_with (refine wpList_appR (o := ⟨some 19, _, _, _, _, _⟩) encZ_len encZ_one (.int .i64 0) 8 _ _ 26 3 w.heap.size l [x] (some ⟨w4.heap.size, 0, none⟩) 1 1 (.slice A l.length c) (l.length + 1) rfl rfl Tryd.underlying26 infoI5 rfl (by omega) rfl rfl (hown2.ext ((Below.refl _ _).alloc (Nat.le_refl _) _)) hone rfl (by omega) (by omega) (by simp; omega) ?_; intro A5 c5 w5 hown5 hgr5 hat5 hc51 hc52)
      obtain ⟨hC5, hg5⟩ := app_step _ hglt hgr hgr4 hC4 hgr5 (fun m hm => (World.ownsRow.lt hown2 m hm).1)
      have e : (l ++ [x]).length = l.length + 1 := by simp
      go_roundw
      case rel => exact ⟨j - 1, A5, c5, l ++ [x], by congr 1; omega, by rw [e], by have := Hlj.out; omega, fun d hd => by
        rcases List.mem_append.1 hd with hd | hd
        · exact HIN.out d hd
        · rw [List.mem_singleton] at hd; subst hd; exact hx, by rw [e]; exact hown5, hC5, hg5⟩
      case measure => simp [intOf]; omega
    · obtain rfl : j = 0 := by omega
      go_wp2
      go_ret
      exact ⟨A, c, l, rfl, by have := Hlj.out; omega, HIN.out, hown, hC, hgr⟩
set_option maxHeartbeats 2000000 in
theorem codraw_any (B g : Nat) (w : World) (h : Cod B w g) :
    Calls Tryd.prog 10 #[.pointer (some ⟨g, 0, none⟩)] w fun e w' => ∃ a : Ev, e = .returned (evV a) ∧ (∀ z ∈ a.l, InR z) ∧ Cod B w' g ∧ w.grownBy w' (some g) := by
  have hglt := h.lt
  have hBg := h.1
  obtain ⟨W, hW, bW, sW, rW⟩ := newD w #[Value.int .i64 0, Value.int .i64 0, Value.int .i64 0, Value.int .i64 0, Value.int .i64 0, Value.int .i64 0, Value.int .i64 0] 42
  have SW := Lib.hid sW
  have RW := Lib.hid rW
  have hws : w.heap.size < W.heap.size := by omega
  clear sW rW
  go_enter Tryd.func10, Tryd.ntmps10
  go_wp2_with fail
  rw [← hW]
  clear hW
  refine (codint_any B g W (h.ext bW)).mono ?_
  rintro e w1 ⟨x1, rfl, h1, hC1, g1⟩
  go_wp2_with fail
  refine (codint_any B g w1 hC1).mono ?_
  rintro e w2 ⟨x2, rfl, h2, hC2, g2⟩
  go_wp2_with fail
  refine (codint_any B g w2 hC2).mono ?_
  rintro e w3 ⟨x3, rfl, h3, hC3, g3⟩
  go_wp2_with fail
  refine (codint_any B g w3 hC3).mono ?_
  rintro e w4 ⟨x4, rfl, h4, hC4, g4⟩
  go_wp2_with fail
  refine (codint_any B g w4 hC4).mono ?_
  rintro e w5 ⟨x5, rfl, h5, hC5, g5⟩
  go_wp2_with fail
  refine (codint_any B g w5 hC5).mono ?_
  rintro e w6 ⟨x6, rfl, h6, hC6, g6⟩
  go_wp2_with fail
  refine (codint_any B g w6 hC6).mono ?_
  rintro e w7 ⟨x7, rfl, h7, hC7, g7⟩
  have gA := grown_trans g1 (grown_trans g2 (grown_trans g3 (grown_trans g4 (grown_trans g5 (grown_trans g6 g7)))))
  have R7 := Lib.hid ((gA.block w.heap.size hws (by simp; omega)).trans RW.out)
  go_wp2_with (refine wpList_store_row rfl 42 _ _ rfl w.heap.size 42 _ _ rfl rfl R7.out (by kernel_rfl) rfl (by simp [Value.oneCell']) ?_)
  refine bodyPost_ret (results_c rfl rfl (run_ld_block (setRow_heap _ _ _ _ _ _ R7.out) Tryd.underlying42 rfl (by kernel_rfl))) rfl ?_
  have gE := grown_setRow w7 w.heap.size #[Value.int .i64 x1, Value.int .i64 x2, Value.int .i64 x3, Value.int .i64 x4, Value.int .i64 x5, Value.int .i64 x6, Value.int .i64 x7]
  refine ⟨⟨x1, x2, x3, x4, x5, x6, x7⟩, rfl, fun z hz => ?_, hC7.grown gE (fun m hm => by cases hm; omega), grown_new (grown_trans (grown_of_below bW (some g)) gA) gE (fun m hm => by cases hm; exact .inl (Nat.le_refl _))⟩
  simp only [Ev.l, List.mem_cons, List.not_mem_nil, or_false] at hz
  rcases hz with rfl | rfl | rfl | rfl | rfl | rfl | rfl <;> assumption
end Go.Proofs.YtiblijmngokcgaaDoor
