import Derived.Test.YtiblijmngokcgaaDoorDrPS
namespace Go.Proofs.YtiblijmngokcgaaDoor
open Go.RowKit
set_option maxRecDepth 100000
set_option linter.unusedVariables false
set_option linter.unusedSimpArgs false
theorem infoEv' : (Tryd.prog.info? 42).map (fun i => (i.zero, i.size, i.bytes)) = some (some (.agg #[.int .i64 0, .int .i64 0, .int .i64 0, .int .i64 0, .int .i64 0, .int .i64 0, .int .i64 0]), 7, 56) := by kernel_rfl
set_option maxHeartbeats 2000000 in
theorem codevents_any (B g most : Nat) (w : World) (h : Cod B w g) (hm : most ≤ 1000) :
    Calls Tryd.prog 24 #[.pointer (some ⟨g, 0, none⟩), .int .i64 (most : Int)] w fun e w' => ∃ A c l, e = .returned (.slice A l.length c) ∧ l.length ≤ most ∧ (∀ d ∈ l, ∀ z ∈ d.l, InR z) ∧ OwnR encEv 7 w' w.heap.size 42 (.slice A l.length c) l ∧ Cod B w' g ∧ w.grownBy w' (some g) := by
  have hglt := h.lt
  go_enter Tryd.func24, Tryd.ntmps24
  go_wp2_with fail
  refine (codnext_any B g (most + 1) _ h (by omega) (by omega)).mono ?_
  rintro e w1 ⟨n, rfl, hn, hC1, hg1⟩
  clear h
  go_wp2
  go_loopw [5, 6] (fun v i wr => ∃ (j : Nat) (A : Option Addr) (c : Nat) (l : List Ev), i = .int .i64 j ∧ v = .slice A l.length c ∧ l.length + j = n ∧ (∀ d ∈ l, ∀ z ∈ d.l, InR z) ∧ OwnR encEv 7 wr w.heap.size 42 (.slice A l.length c) l ∧ Cod B wr g ∧ w.grownBy wr (some g)) (fun _ i _ => (intOf i).toNat)
  case atStart => exact ⟨n, none, 0, [], rfl, rfl, by simp, fun d hd => by simp at hd, OwnR.nil_ _ _ _, hC1, hg1⟩
  case round =>
    obtain ⟨j, A, c, l, rfl, rfl, hlj, hin, hown, hC, hgr⟩ := hrel
    have hlj' : l.length + j ≤ n := by omega
    have Hlj := Lib.hid hlj
    have HIN := Lib.hid hin
    clear hlj hin
    by_cases hlt : 0 < j
    · go_wp2_with fail
      refine (codevent_any B g _ hC).mono ?_
      rintro e w4 ⟨a, rfl, ha, hC4, hg4⟩
      have hgr4 := hg4
      have hsz := hgr.size
      have hsz4 := hgr4.size
      have hown2 := hown.kept hgr4 (by
        rcases Option.eq_none_or_eq_some (Value.slice A l.length c).ownBlock with h0 | ⟨m, h0⟩
        · exact .inl h0
        · refine .inr (fun e => ?_)
          rw [h0] at e
          cases e
          have := (World.ownsRow.lt hown _ h0).1
          omega)
      unfold evV
      have hone : Recs encEv (fun _ => True) (w4.alloc (.cells #[Value.int .i64 a.k0, Value.int .i64 a.k1, Value.int .i64 a.k2, Value.int .i64 a.k3, Value.int .i64 a.k4, Value.int .i64 a.k5, Value.int .i64 a.k6] 42)) (.slice (some ⟨w4.heap.size, 0, none⟩) 1 1) [a] := ⟨_, 1, rfl, by simp, by simp [maxLen], Cs.lit _ _ _ _ _ trivial rfl⟩
      go_wp2_with (refine wpList_appR (o := ⟨some 19, _, _, _, _, _⟩) encEv_len encEv_one (.agg #[.int .i64 0, .int .i64 0, .int .i64 0, .int .i64 0, .int .i64 0, .int .i64 0, .int .i64 0]) 56 _ _ 27 42 w.heap.size l [a] (some ⟨w4.heap.size, 0, none⟩) 1 1 (.slice A l.length c) (l.length + 1) rfl rfl Tryd.underlying27 infoEv' rfl (by omega) rfl rfl (hown2.ext ((Below.refl _ _).alloc (Nat.le_refl _) _)) hone rfl (by omega) (by omega) (by simp; omega) ?_; intro A5 c5 w5 hown5 hgr5 hat5 hc51 hc52)
      obtain ⟨hC5, hg5⟩ := app_step _ hglt hgr hgr4 hC4 hgr5 (fun m hm => (World.ownsRow.lt hown2 m hm).1)
      have e : (l ++ [a]).length = l.length + 1 := by simp
      go_roundw
      case rel => exact ⟨j - 1, A5, c5, l ++ [a], by congr 1; omega, by rw [e], by have := Hlj.out; omega, fun d hd => by
        rcases List.mem_append.1 hd with hd | hd
        · exact HIN.out d hd
        · simp at hd; subst hd; exact ha, by rw [e]; exact hown5, hC5, hg5⟩
      case measure => simp [intOf]; omega
    · obtain rfl : j = 0 := by omega
      go_wp2
      go_ret
      exact ⟨_, _, l, rfl, by omega, HIN.out, hown, hC, hgr⟩
end Go.Proofs.YtiblijmngokcgaaDoor
