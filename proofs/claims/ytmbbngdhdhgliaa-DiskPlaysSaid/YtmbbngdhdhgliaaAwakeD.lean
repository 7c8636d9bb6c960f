/-
  The sanity check of law 10.
-/
import Derived.Test.YtmbbngdhdhgliaaCrash
namespace Go.Proofs.Ytmbbngdhdhgliaa
open Go.RowKit
set_option maxRecDepth 100000
set_option linter.unusedVariables false

theorem mkB (n : Nat) (hn : n ≤ 100000000) (w : World) : (Instr.makeSlice 30 (.int .i64 (n : Int)) (.int .i64 (n : Int))).run Try.prog w = .ok (.slice (some ⟨w.heap.size, 0, none⟩) n n) (w.alloc (.cells (madeCells (encB 0).toArray (n * 1)) 5)) := by
  obtain ⟨i, hi, hz, hs, hb⟩ := info_parts infoB
  have h := run_make (P := Try.prog) w 30 5 i (.int .u8 0) Try.underlying30 hi hz .i64 .i64 n n (by omega) (by omega) (by rw [hb]; omega) (by omega)
  rw [h, hs]
  simp only [Int.toNat_natCast]
  rfl
theorem mkOwnB (n : Nat) (hn : n ≤ 100000000) (w : World) : OwnR encB 1 (w.alloc (.cells (madeCells (encB 0).toArray (n * 1)) 5)) w.heap.size 5 (.slice (some ⟨w.heap.size, 0, none⟩) n n) (List.replicate n 0) := by
  unfold OwnR
  rw [List.length_replicate]
  refine ⟨by rw [flat_length encB_len]; simp, .inr ⟨w.heap.size, n, _, rfl, Nat.le_refl _, heap_alloc_new w _, Nat.le_refl _, by unfold maxLen; omega, by simp [madeCells], ?_⟩⟩
  rw [flat_made encB_len 0 (by omega) n]
  exact List.take_of_length_le (by rw [flat_length encB_len]; simp)
theorem OwnR.cellB {w : World} {base : Nat} {e : TypeId} {g n c : Nat} {l : List UInt8} (h : OwnR encB 1 w base e (.slice (some ⟨g, 0, none⟩) n c) l) {j : Nat} (hj : j < n) : (∃ x : UInt8, w.cell? ⟨g, j, none⟩ = some (.int .u8 (x.toNat : Int))) ∧ w.frozen? ⟨g, j, none⟩ = false := by
  have hl := h.len.1
  obtain ⟨b, off, x, e1, _, _, hc⟩ := h.recs.byte (k := j) hj
  cases e1
  rw [Nat.zero_add] at hc
  refine ⟨⟨x, hc⟩, ?_⟩
  subst hl
  exact World.ownsRow.frozenAt h _

def tear0 : List Tear := [⟨18, [1]⟩]
def seven (j : Nat) : List UInt8 := List.replicate j 7 ++ List.replicate (20 - j) 0
theorem seven_step (j : Nat) (h : j < 20) : (seven j).set j 7 = seven (j + 1) := by
  unfold seven
  rw [List.set_append_right _ _ (by simp), List.length_replicate, Nat.sub_self, show 20 - j = (20 - (j + 1)) + 1 by omega, List.replicate_succ, List.set_cons_zero, List.replicate_succ', List.append_assoc]
  rfl
theorem crash0 : crashL [⟨[], seven 20⟩] tear0 = [⟨List.replicate 16 7 ++ [0, 0], []⟩] := by decide

set_option maxHeartbeats 4000000 in
theorem awake_any (w : World) : Calls Try.prog 9 #[] w fun e w' => e = .returned (.bool true) ∧ Below w.heap.size w w' := by
  have hnew := new_ok 1 (by omega)
  rw [show ((1 : Nat) : Int) = 1 from rfl] at hnew
  have Hnew := Lib.hid hnew
  clear hnew
  have hmk := mkB 20 (by omega)
  rw [show ((20 : Nat) : Int) = 20 from rfl] at hmk
  go_enter Try.func9, Try.ntmps9
  go_wp2_with fail
  refine (Hnew.out w).mono ?_
  rintro e w1 ⟨A1, c1, rfl, hD1, hb1⟩
  go_wp2
  clear hmk
  obtain ⟨W, hW⟩ : ∃ W, W = w1.alloc (.cells #[.slice A1 1 c1] 24) := ⟨_, rfl⟩
  have hbW : Below w1.heap.size w1 W := by rw [hW]; exact (Below.refl _ _).alloc (Nat.le_refl _) _
  have hrD : W.heap[w1.heap.size]? = some (.cells #[.slice A1 1 c1] 24 (0, 0)) := by rw [hW]; exact heap_alloc_new _ _
  have hsW : W.heap.size = w1.heap.size + 1 := by rw [hW]; simp
  have hown := mkOwnB 20 (by omega) W
  have hbW2 : Below W.heap.size W (W.alloc (.cells (madeCells (encB 0).toArray (20 * 1)) 5)) := (Below.refl _ _).alloc (Nat.le_refl _) _
  rw [show 20 * 1 = 20 from rfl] at hown hbW2
  rw [← hW, show w1.heap.size + 1 = W.heap.size from hsW.symm]
  clear hW
  have hrD2 := (hbW2.block _ (by omega)).trans hrD
  obtain ⟨g, hg⟩ : ∃ g, g = W.heap.size := ⟨_, rfl⟩
  rw [← hg] at hown
  rw [← hg]
  have hgD : w1.heap.size < g := by omega
  have hs2 : (W.alloc (.cells (madeCells (encB 0).toArray 20) 5)).heap.size = g + 1 := by rw [World.size_alloc]; omega
  have bW2 : Below w.heap.size w (W.alloc (.cells (madeCells (encB 0).toArray 20) 5)) := Below.ext (Below.ext hb1 hbW) hbW2
  have hD2 := ((hD1.mono (S' := (· < w1.heap.size)) (fun _ h _ => h)).ext hbW).ext hbW2
  generalize W.alloc (.cells (madeCells (encB 0).toArray 20) 5) = W2 at *
  have HrD := Lib.hid hrD2
  have Hs2 := Lib.hid hs2
  have hwg : w.heap.size ≤ g := by have := hb1.size; omega
  have hww := hb1.size
  clear hrD hrD2 hs2 hbW hbW2 hD1 hsW hb1 hg
  go_loopw [15] (fun v wr => ∃ j : Nat, v = .int .i64 j ∧ j ≤ 20 ∧ OwnR encB 1 wr g 5 (.slice (some ⟨g, 0, none⟩) 20 20) (seven j) ∧ W2.grownBy wr (some g)) (fun v _ => 20 - (intOf v).toNat)
  case atStart => exact ⟨0, rfl, by omega, hown, grown_refl' _ _⟩
  case round =>
    obtain ⟨j, rfl, hj, hown, hgr⟩ := hrel
    by_cases hlt : j < 20
    · obtain ⟨⟨u, hu⟩, hf⟩ := hown.cellB hlt
      have hown2 := hown.setB j 7
      rw [seven_step j hlt] at hown2
      have Hown2 := Lib.hid hown2
      have dj : decide ((j : Int) < 20) = true := by simp; omega
      clear hown2
      go_wp2
      go_roundw
      case rel => exact ⟨j + 1, by go_num, by omega, Hown2.out, grown_set hgr⟩
      case measure => simp [intOf]; omega
    · obtain rfl : j = 20 := by omega
      have hszr := hgr.size
      have hr1 := (hgr.block w1.heap.size (by have := Hs2.out; omega) (by simp; omega)).trans HrD.out
      have q0 : wr.cell? ⟨w1.heap.size, 0, none⟩ = some (.slice A1 1 c1) := by rw [cell_of_row _ _ _ _ _ _ hr1]; rfl
      have bwr : Below w.heap.size w wr := Below.grow bW2 hgr hwg
      have hD3 : Dsk (· ≠ w1.heap.size) wr (.slice A1 1 c1) [zFil] := (hD2.keep (w' := wr) (fun b hb hs => hgr.block b hb (by simp; omega))).mono (fun _ _ h => by omega)
      have hap := append_ok A1 1 c1 [zFil] _ wr hD3 (by omega) 0 zFil rfl (some ⟨g, 0, none⟩) 20 20 (seven 20) (hown.recs.mono (fun _ _ h => by have := h.1; omega)) (by decide)
      rw [show ((0 : Nat) : Int) = 0 from rfl] at hap
      have Hap := Lib.hid hap
      have Hr1 := Lib.hid hr1
      have hltD : w1.heap.size < wr.heap.size := (Array.getElem?_eq_some_iff.1 hr1).1
      clear hap hr1 hD3 hD2 hgr hown
      go_wp2_with fail
      refine (Hap.out).mono ?_
      rintro e w3 ⟨A3, c3, rfl, hD3, hb3⟩
      have hr3 := (hb3.block _ hltD).trans Hr1.out
      have Hr3 := Lib.hid hr3
      clear hr3 q0
      obtain ⟨W4, hW4⟩ : ∃ W4, W4 = w3.setRow w1.heap.size #[.slice A3 1 c3] := ⟨_, rfl⟩
      have q4 : (w3.setRow w1.heap.size #[.slice A3 1 c3]).cell? ⟨w1.heap.size, 0, none⟩ = some (.slice A3 1 c3) := by rw [cell_setRow_same _ _ _ _ _ _ _ Hr3.out]; rfl
      have hs4 : (w3.setRow w1.heap.size #[.slice A3 1 c3]).heap.size = w3.heap.size := setRow_size _ _ _
      have b4 : Below w.heap.size w W4 := by rw [hW4]; exact Below.setRow (Below.ext bwr hb3) (by omega) _
      have hD4 : Dsk (· ≠ w1.heap.size) W4 (.slice A3 1 c3) [⟨[], seven 20⟩] := by
        rw [hW4]
        exact (hD3.mono (S' := (· ≠ w1.heap.size)) (fun b _ h => by rcases h with h | h; exact h; omega)).keep (Keep.of_grown (grown_setRow _ _ _))
      go_wp2_with (refine wpList_store_row rfl 24 _ _ rfl w1.heap.size 24 _ _ rfl rfl Hr3.out (by kernel_rfl) rfl (by simp [Value.oneCell']) ?_)
      rw [← hW4]
      rw [← hW4] at hs4
      clear q4 hW4
      obtain ⟨W5, hW5⟩ : ∃ W5, W5 = W4.alloc (.cells #[.int .i64 1] 3) := ⟨_, rfl⟩
      obtain ⟨W6, hW6⟩ : ∃ W6, W6 = W5.alloc (.cells #[.int .i64 18, .slice (some ⟨w3.heap.size, 0, none⟩) 1 1] 39) := ⟨_, rfl⟩
      have hb5 : Below W4.heap.size W4 W5 := by rw [hW5]; exact (Below.refl _ _).alloc (Nat.le_refl _) _
      have hb6 : Below W5.heap.size W5 W6 := by rw [hW6]; exact (Below.refl _ _).alloc (Nat.le_refl _) _
      have hs5 : W5.heap.size = w3.heap.size + 1 := by rw [hW5, World.size_alloc, hs4]
      have hrl : Recs encZ (fun _ => True) W5 (.slice (some ⟨w3.heap.size, 0, none⟩) 1 1) [1] := by
        rw [hW5, ← hs4]
        exact ⟨_, 1, rfl, by simp, by simp [maxLen], Cs.lit _ _ _ _ _ trivial rfl⟩
      have hrt : Recs encT (fun _ => True) W6 (.slice (some ⟨w3.heap.size + 1, 0, none⟩) 1 1) [⟨18, some ⟨w3.heap.size, 0, none⟩, 1, 1⟩] := by
        rw [hW6, ← hs5]
        exact ⟨_, 1, rfl, by simp, by simp [maxLen], Cs.lit _ _ _ _ _ trivial rfl⟩
      have hT : Trs (fun _ => True) W6 (.slice (some ⟨w3.heap.size + 1, 0, none⟩) 1 1) tear0 := ⟨_, hrt, rfl, fun i x t hx ht => by
        match i, hx, ht with
        | 0, hx, ht =>
          cases hx
          cases ht
          exact ⟨rfl, hrl.ext hb6⟩
        | i + 1, hx, ht => simp at hx⟩
      rw [← hW5, ← hW6]
      clear hW5 hW6 hrl hrt
      have b6 := Below.ext b4 (Below.ext hb5 hb6)
      refine (crash_any A3 1 c3 _ _ W6 ((hD4.ext hb5).ext hb6) (by omega) _ 1 1 tear0 _ hT (by intro f hf; simp at hf; subst hf; decide)).mono ?_
      rintro e w7 ⟨A7, c7, rfl, hD7, hb7⟩
      rw [crash0] at hD7
      have hrd := read_ok A7 1 c7 _ _ w7 hD7 (by omega) 0 ⟨List.replicate 16 7 ++ [0, 0], []⟩ rfl (by decide)
      rw [show ((0 : Nat) : Int) = 0 from rfl] at hrd
      have Hrd := Lib.hid hrd
      clear hrd
      go_wp2_with fail
      refine (Hrd.out).mono ?_
      rintro e w8 ⟨A8, c8, rfl, hown8, hb8⟩
      have hl8 : (⟨List.replicate 16 7 ++ [0, 0], []⟩ : Fil).s.length + (⟨List.replicate 16 7 ++ [0, 0], []⟩ : Fil).p.length = 18 := by decide
      rw [hl8] at hown8
      rw [hl8]
      clear hl8
      have hr8 := hown8.recs
      obtain ⟨b8, o8, x8, rfl, hb8lt, hx8, q15⟩ := hr8.byte (k := 15) (by omega)
      obtain ⟨_, _, y8, e8, _, hy8, q16⟩ := hr8.byte (k := 16) (by omega)
      cases e8
      have e15 : x8 = 7 := by have : (some x8 : Option UInt8) = some 7 := hx8.symm.trans (by decide); cases this; rfl
      have e16 : y8 = 0 := by have : (some y8 : Option UInt8) = some 0 := hy8.symm.trans (by decide); cases this; rfl
      subst e15 e16
      rw [show (((7 : UInt8).toNat : Nat) : Int) = 7 from rfl] at q15
      rw [show (((0 : UInt8).toNat : Nat) : Int) = 0 from rfl] at q16
      clear hx8 hy8
      go_wp2
      go_ret
      exact ⟨rfl, Below.ext (Below.ext b6 hb7) hb8⟩
end Go.Proofs.Ytmbbngdhdhgliaa
