/-
  Messages in flight: their cells, and how the law draws them.
-/
import Derived.Test.YtfnafdncbbjolaaDraw
import Derived.Test.YtfnafdncbbjolaaRec
namespace Go.Proofs.Ytfnafdncbbjolaa
open Go.RowKit
set_option maxRecDepth 100000
set_option linter.unusedVariables false

/-- a message without a clock and without lists -/
structure Msg where
  f : Int
  t : Int
  i : Int
  x : Int
  o : Int
  v : Int
deriving DecidableEq, Inhabited
def encM (m : Msg) : List Value := [.int .i64 m.f, .int .i64 m.t, .int .i64 m.i, .int .i64 m.x, .int .i64 m.o, .int .i64 m.v, .int .i64 0, .slice none 0 0, .slice none 0 0]
theorem encM_len (m : Msg) : (encM m).length = 9 := rfl
theorem encM_one (m : Msg) : ∀ u ∈ encM m, u.oneCell' = true := by
  intro u hu
  simp [encM] at hu
  rcases hu with rfl | rfl | rfl | rfl | rfl | rfl | rfl | rfl <;> rfl
def zeroM : Value := .agg #[.int .i64 0, .int .i64 0, .int .i64 0, .int .i64 0, .int .i64 0, .int .i64 0, .int .i64 0, .slice none 0 0, .slice none 0 0]
theorem infoM : (Try.prog.info? 32).map (fun i => (i.zero, i.size, i.bytes)) = some (some zeroM, 9, 104) := by kernel_rfl

def intRow : Array Value := #[.int .i64 9223372036854775807, .int .i64 (-9223372036854775808), .int .i64 2147483648, .int .i64 (-1), .int .i64 63, .int .i64 64, .int .i64 (-65), .int .i64 127, .int .i64 128, .int .i64 1099511627776]
theorem intRow_at : ∀ k, k < 10 → ∃ y : Int, intRow[k]? = some (.int .i64 y) ∧ -9223372036854775808 ≤ y ∧ y ≤ 9223372036854775807
  | 0, _ => ⟨_, rfl, by decide, by decide⟩
  | 1, _ => ⟨_, rfl, by decide, by decide⟩
  | 2, _ => ⟨_, rfl, by decide, by decide⟩
  | 3, _ => ⟨_, rfl, by decide, by decide⟩
  | 4, _ => ⟨_, rfl, by decide, by decide⟩
  | 5, _ => ⟨_, rfl, by decide, by decide⟩
  | 6, _ => ⟨_, rfl, by decide, by decide⟩
  | 7, _ => ⟨_, rfl, by decide, by decide⟩
  | 8, _ => ⟨_, rfl, by decide, by decide⟩
  | 9, _ => ⟨_, rfl, by decide, by decide⟩
set_option maxHeartbeats 400000 in
theorem codint_any (B g : Nat) (w : World) (h : Cod B w g) :
    Calls Try.prog 29 #[.pointer (some ⟨g, 0, none⟩)] w fun e w' => ∃ x : Int, e = .returned (.int .i64 x) ∧ -9223372036854775808 ≤ x ∧ x ≤ 9223372036854775807 ∧ Cod B w' g ∧ w.grownBy w' (some g) := by
  have hglt := h.lt
  go_enter Try.func29, Try.ntmps29
  go_wp2_with fail
  obtain ⟨W1, hW1⟩ : ∃ W, W = w.alloc (.cells intRow 3) := ⟨_, rfl⟩
  have hb1 : Below w.heap.size w W1 := by rw [hW1]; exact (Below.refl _ _).alloc (Nat.le_refl _) _
  have hrow : W1.heap[w.heap.size]? = some (.cells intRow 3 (0, 0)) := by rw [hW1]; exact heap_alloc_new _ _
  unfold intRow at hW1
  rw [← hW1]
  clear hW1
  have hC1 := h.ext hb1
  have hg1 : w.grownBy W1 (some g) := grown_of_below hb1 _
  refine (codnext_any B g 6 _ hC1 (by omega) (by omega)).mono ?_
  rintro e w2 ⟨n, rfl, hn, hC2, hg2⟩
  have hrow2 := (hg2.block w.heap.size (by have := (Array.getElem?_eq_some_iff.1 hrow).1; exact this) (by intro e; cases e; omega)).trans hrow
  by_cases h5 : n = 5
  · subst h5
    go_wp2_with fail
    refine (codnext_any B g 10 _ hC2 (by omega) (by omega)).mono ?_
    rintro e w3 ⟨k, rfl, hk, hC3, hg3⟩
    have hrow3 := (hg3.block w.heap.size (by have := (Array.getElem?_eq_some_iff.1 hrow2).1; exact this) (by intro e; cases e; omega)).trans hrow2
    obtain ⟨y, hy, hy1, hy2⟩ := intRow_at k hk
    have hc : w3.cell? ⟨w.heap.size, k, none⟩ = some (.int .i64 y) := by rw [cell_of_row _ _ _ _ _ _ hrow3]; exact hy
    clear hy hrow hrow2 hrow3
    go_wp2
    go_ret
    exact ⟨y, rfl, hy1, hy2, hC3, grown_trans (grown_trans hg1 hg2) hg3⟩
  · have d5 : ((n : Int) == 5) = false := by simp; omega
    go_wp2_with fail
    refine (codnext_any B g 12 _ hC2 (by omega) (by omega)).mono ?_
    rintro e w3 ⟨k, rfl, hk, hC3, hg3⟩
    go_wp2
    go_ret
    exact ⟨_, rfl, by omega, by omega, hC3, grown_trans (grown_trans hg1 hg2) hg3⟩

set_option maxHeartbeats 1000000 in
theorem messages_any (v : Value) (l : List UInt8) (S : Nat → Prop) (w : World) (most : Nat) (hm : most ≤ 1000) (hv : Bytes S w v l) :
    Calls Try.prog 9 #[v, .int .i64 (most : Int)] w fun e w' => ∃ v' ms, e = .returned v' ∧ ms.length ≤ most ∧ (∀ m ∈ ms, 0 ≤ m.f ∧ m.f < 3 ∧ 0 ≤ m.t ∧ m.t < 3) ∧ Recs encM (fun b => w.heap.size ≤ b) w' v' ms ∧ Below w.heap.size w w' := by
  go_enter Try.func9, Try.ntmps9
  go_wp2_with fail
  refine (codnew_any v l S _ 200 (by omega) hv).mono ?_
  rintro e w1 ⟨g, rfl, hC1, hb1⟩
  have hg1 := hC1.1
  have hglt := hC1.lt
  go_wp2_with fail
  refine (codnext_any w.heap.size g (most + 1) _ hC1 (by omega) (by omega)).mono ?_
  rintro e w2 ⟨n, rfl, hn, hC2, hg2⟩
  go_wp2
  go_loopw [6, 7, 8] (fun v i _ wr => ∃ (j : Nat) (A : Option Addr) (c : Nat) (ms : List Msg), i = .int .i64 j ∧ v = .slice A ms.length c ∧ ms.length + j = n ∧ (∀ m ∈ ms, 0 ≤ m.f ∧ m.f < 3 ∧ 0 ≤ m.t ∧ m.t < 3) ∧ OwnR encM 9 wr w1.heap.size 32 (.slice A ms.length c) ms ∧ Cod w.heap.size wr g ∧ w1.grownBy wr (some g)) (fun _ i _ _ => (intOf i).toNat)
  case atStart => exact ⟨n, none, 0, [], rfl, rfl, by simp, by simp, OwnR.nil_ _ _ _, hC2, hg2⟩
  case round =>
    obtain ⟨j, A, c, ms, rfl, rfl, hlj, hsm, hown, hC, hgr⟩ := hrel
    have hlj' : ms.length + j ≤ n := by omega
    have Hlj := Lib.hid hlj
    have Hsm := Lib.hid hsm
    clear hlj hsm
    by_cases hlt : 0 < j
    · go_wp2_with fail
      refine (codnext_any w.heap.size g 3 _ hC (by omega) (by omega)).mono ?_
      rintro e w3 ⟨fr, rfl, hfr, hC3, hg3⟩
      go_wp2_with fail
      refine (codnext_any w.heap.size g 2 _ hC3 (by omega) (by omega)).mono ?_
      rintro e w4 ⟨a4, rfl, ha4, hC4, hg4⟩
      go_wp2_with fail
      refine (codnext_any w.heap.size g 2 _ hC4 (by omega) (by omega)).mono ?_
      rintro e w5 ⟨a5, rfl, ha5, hC5, hg5⟩
      go_wp2_with fail
      refine (codnext_any w.heap.size g 4 _ hC5 (by omega) (by omega)).mono ?_
      rintro e w6 ⟨a6, rfl, ha6, hC6, hg6⟩
      go_wp2_with fail
      refine (codnext_any w.heap.size g 2 _ hC6 (by omega) (by omega)).mono ?_
      rintro e w7 ⟨a7, rfl, ha7, hC7, hg7⟩
      go_wp2_with fail
      refine (codint_any w.heap.size g _ hC7).mono ?_
      rintro e w8 ⟨a8, rfl, ha8, ha8', hC8, hg8⟩
      have hgx : wr.grownBy w8 (some g) := grown_trans (grown_trans (grown_trans (grown_trans (grown_trans hg3 hg4) hg5) hg6) hg7) hg8
      have hszr := hgr.size
      have hszx := hgx.size
      have hown8 := hown.kept hgx (by
        rcases Option.eq_none_or_eq_some (Value.slice A ms.length c).ownBlock with h0 | ⟨m, h0⟩
        · exact .inl h0
        · refine .inr (fun e => ?_)
          rw [h0] at e
          cases e
          have := (World.ownsRow.lt hown _ h0).1
          omega)
      clear hg3 hg4 hg5 hg6 hg7 hg8 hC3 hC4 hC5 hC6 hC7
      obtain ⟨m, hm⟩ : ∃ m : Msg, m = ⟨fr, ((fr : Int) + 1 + a4) % 3, a5, a6, a7, a8⟩ := ⟨_, rfl⟩
      have hone : ∀ W : World, Recs encM (fun _ => True) (W.alloc (.cells (encM m).toArray 32)) (.slice (some ⟨W.heap.size, 0, none⟩) 1 1) [m] := fun W => ⟨_, 1, rfl, by simp, by simp [maxLen], by
        rw [List.flatMap_singleton]
        exact Cs.lit _ _ _ _ _ trivial rfl⟩
      have hmr : 0 ≤ m.f ∧ m.f < 3 ∧ 0 ≤ m.t ∧ m.t < 3 := by rw [hm]; refine ⟨by simp, by simp; omega, ?_, ?_⟩ <;> simp <;> omega
      unfold encM at hone
      rw [hm] at hone
      have hone8 := hone w8
      have Hm := Lib.hid hm
      have Hmr := Lib.hid hmr
      clear hm hmr hone
      go_wp2_with ((refine wpList_appR (o := ⟨some 40, _, _, _, _, _⟩) encM_len encM_one zeroM 104 _ _ 26 32 w1.heap.size ms [⟨fr, ((fr : Int) + 1 + a4) % 3, a5, a6, a7, a8⟩] (some ⟨w8.heap.size, 0, none⟩) 1 1 (.slice A ms.length c) (ms.length + 1) rfl rfl Try.underlying26 infoM rfl (by omega) rfl rfl (hown8.ext ((Below.refl _ _).alloc (Nat.le_refl _) _)) hone8 rfl (by omega) (by omega) ?c2 ?_; rotate_left; intro A9 c9 w9 hown9 hgr9 hat9 hc91 hc92))
      case c2 => first | omega | (simp; omega)
      obtain ⟨hC9, hg9⟩ := app_step _ hglt hgr hgx hC8 hgr9 (fun m hm => (World.ownsRow.lt hown8 m hm).1)
      rw [← Hm.out] at hown9
      have e : (ms ++ [m]).length = ms.length + 1 := by simp
      go_wp2
      go_roundw
      case rel =>
        refine ⟨j - 1, A9, c9, ms ++ [m], by congr 1; omega, by rw [e], by have := Hlj.out; omega, ?_, by rw [e]; exact hown9, hC9, hg9⟩
        intro y hy
        rcases List.mem_append.1 hy with h | h
        · exact Hsm.out y h
        · simp at h; subst h; exact Hmr.out
      case measure => simp [intOf]; omega
    · obtain rfl : j = 0 := by omega
      go_wp2
      go_ret
      exact ⟨_, ms, rfl, by omega, Hsm.out, hown.recs.mono (fun b _ hs => Nat.le_trans hb1.size hs.1), Below.grow hb1 hgr hg1⟩
end Go.Proofs.Ytfnafdncbbjolaa
