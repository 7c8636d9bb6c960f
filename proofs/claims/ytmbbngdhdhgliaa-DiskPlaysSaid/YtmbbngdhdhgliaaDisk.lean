/-
  Package disk: New, missing, with, Read.
-/
import Derived.Test.YtmbbngdhdhgliaaCloneF
import Derived.Test.YtmbbngdhdhgliaaCloneB
import Derived.Test.YtmbbngdhdhgliaaConcatB
import Derived.Test.YtmbbngdhdhgliaaLexL
import Derived.Test.YtmbbngdhdhgliaaRes
namespace Go.Proofs.Ytmbbngdhdhgliaa
open Go.RowKit
set_option maxRecDepth 100000
set_option linter.unusedVariables false

def zFV : FV := ⟨none, 0, 0, none, 0, 0⟩
def zFil : Fil := ⟨[], []⟩
theorem mkFiles (n : Nat) (hn : n ≤ 1000000) (w : World) : (Instr.makeSlice 22 (.int .i64 (n : Int)) (.int .i64 (n : Int))).run Try.prog w = .ok (.slice (some ⟨w.heap.size, 0, none⟩) n n) (w.alloc (.cells (madeCells (encF zFV).toArray (n * 2)) 48)) := by
  obtain ⟨i, hi, hz, hs, hb⟩ := info_parts infoF
  have h := run_make (P := Try.prog) w 22 48 i zeroF Try.underlying22 hi hz .i64 .i64 n n (by omega) (by omega) (by rw [hb]; omega) (by omega)
  rw [h, hs]
  simp only [Int.toNat_natCast]
  rfl
theorem mkOwn (n : Nat) (hn : n ≤ 1000000) (w : World) : OwnR encF 2 (w.alloc (.cells (madeCells (encF zFV).toArray (n * 2)) 48)) w.heap.size 48 (.slice (some ⟨w.heap.size, 0, none⟩) n n) (List.replicate n zFV) := by
  unfold OwnR
  rw [List.length_replicate]
  refine ⟨by rw [flat_length encF_len]; simp, .inr ⟨w.heap.size, n, _, rfl, Nat.le_refl _, heap_alloc_new w _, Nat.le_refl _, by unfold maxLen; omega, by simp [madeCells], ?_⟩⟩
  rw [flat_made encF_len zFV (by omega) n]
  exact List.take_of_length_le (by rw [flat_length encF_len]; simp)
theorem zero_dsk {S : Nat → Prop} {w : World} {v : Value} {n : Nat} (h : Recs encF S w v (List.replicate n zFV)) : Dsk S w v (List.replicate n zFil) :=
  ⟨_, h, by simp, fun i x f hx hf => by
    rw [List.getElem?_replicate] at hx hf
    split at hx
    · cases hx
      rw [if_pos (by assumption)] at hf
      cases hf
      exact ⟨Recs.nil_ _ _, Recs.nil_ _ _⟩
    · cases hx⟩

set_option maxHeartbeats 1000000 in
theorem new_ok (n : Nat) (hn : n ≤ 16) (w : World) :
    Calls Try.prog 13 #[.int .i64 (n : Int)] w fun e w' => ∃ A c, e = .returned (.tuple #[.agg #[.slice A n c], .int .i64 0]) ∧ Dsk (fun b => w.heap.size < b) w' (.slice A n c) (List.replicate n zFil) ∧ Below w.heap.size w w' := by
  have d0 : decide ((n : Int) < 0) = false := by simp
  have d1 : decide (16 < n) = false := by simp; omega
  have d2 : decide ((16 : Int) < (n : Int)) = false := by simp; omega
  have hmk := mkFiles n (by omega)
  have hz0 : (w.alloc (.cells #[.slice none 0 0] 24)).heap[w.heap.size]? = some (.cells #[.slice none 0 0] 24 (0, 0)) := heap_alloc_new w _
  have hown := mkOwn n (by omega) (w.alloc (.cells #[.slice none 0 0] 24))
  rw [World.size_alloc] at hown
  have ha : ∀ o, Below (w.alloc (.cells #[.slice none 0 0] 24)).heap.size (w.alloc (.cells #[.slice none 0 0] 24)) ((w.alloc (.cells #[.slice none 0 0] 24)).alloc o) := fun o => (Below.refl _ _).alloc (Nat.le_refl _) o
  have hz1 := fun o => ((ha o).block w.heap.size (by simp)).trans hz0
  have hb1 : ∀ o, Below w.heap.size w ((w.alloc (.cells #[.slice none 0 0] 24)).alloc o) := fun o => Below.ext ((Below.refl _ w).alloc (Nat.le_refl _) _) (ha o)
  have Hz1 := Lib.hid hz1
  have Hown := Lib.hid hown
  clear hz0 hz1 hown
  go_enter Try.func13, Try.ntmps13
  go_wp2_with (refine wpList_store_row rfl 24 _ _ rfl w.heap.size 24 _ _ rfl rfl (Hz1.out _) (by kernel_rfl) rfl (by simp [Value.oneCell']) ?_)
  refine bodyPost_ret (results_ct rfl rfl (run_ld_block (setRow_heap _ _ _ _ _ _ (Hz1.out _)) Try.underlying24 rfl (by kernel_rfl))) rfl ?_
  refine ⟨_, _, rfl, zero_dsk (Recs.mono (OwnR.recs (OwnR.kept Hown.out (grown_setRow _ w.heap.size _) (.inr (fun e => ?_)))) (fun _ _ h => h.1)), Below.setRow (hb1 _) (Nat.le_refl _) _⟩
  have := (World.ownsRow.lt Hown.out _ e).1
  omega

set_option maxHeartbeats 1000000 in
theorem missing_no (A : Option Addr) (n c k : Nat) (w : World) (hk : k < n) (hn : n ≤ 1000) :
    Calls Try.prog 27 #[.agg #[.slice A n c], .int .i64 (k : Int)] w fun e w' => e = .returned (.bool false) ∧ Below w.heap.size w w' := by
  have d0 : decide ((k : Int) < 0) = false := by simp
  have d1 : decide (n ≤ k) = false := by simpa using hk
  go_enter Try.func27, Try.ntmps27
  go_wp2
  go_ret
  exact ⟨rfl, (Below.refl _ w).alloc (Nat.le_refl _) _⟩

set_option maxHeartbeats 1000000 in
theorem missing_yes (A : Option Addr) (n c : Nat) (k : Int) (w : World) (hk : k < 0 ∨ (n : Int) ≤ k) (hn : n ≤ 1000) :
    Calls Try.prog 27 #[.agg #[.slice A n c], .int .i64 k] w fun e w' => e = .returned (.bool true) ∧ Below w.heap.size w w' := by
  by_cases h0 : k < 0
  · have d0 : decide (k < 0) = true := by simpa using h0
    go_enter Try.func27, Try.ntmps27
    go_wp2
    go_ret
    exact ⟨rfl, (Below.refl _ w).alloc (Nat.le_refl _) _⟩
  · have d0 : decide (k < 0) = false := by simpa using h0
    have d1 : decide ((n : Int) ≤ k) = true := by simp; omega
    go_enter Try.func27, Try.ntmps27
    go_wp2
    go_ret
    exact ⟨rfl, (Below.refl _ w).alloc (Nat.le_refl _) _⟩

set_option maxHeartbeats 2000000 in
theorem with_any (A : Option Addr) (n c : Nat) (fs : List Fil) (S : Nat → Prop) (w : World) (hD : Dsk S w (.slice A n c) fs) (hn : n ≤ 1000) (k : Nat) (hk : k < n) (x : FV) (f : Fil) (hf : FOk S w x f) :
    Calls Try.prog 28 #[.agg #[.slice A n c], .int .i64 (k : Int), .agg #[.slice x.A1 x.n1 x.c1, .slice x.A2 x.n2 x.c2]] w fun e w' => ∃ A' c', e = .returned (.agg #[.slice A' n c']) ∧ Dsk (fun b => S b ∨ w.heap.size ≤ b) w' (.slice A' n c') (fs.set k f) ∧ Below w.heap.size w w' := by
  obtain ⟨xs, hR, hxl, hok⟩ := hD
  have hxn := hR.len
  go_enter Try.func28, Try.ntmps28
  go_wp2_with fail
  obtain ⟨W, hW⟩ : ∃ W, W = ((w.alloc (.cells #[.slice A n c] 24)).alloc (.cells #[.slice x.A1 x.n1 x.c1, .slice x.A2 x.n2 x.c2] 48)).alloc (.cells #[.slice none 0 0] 24) := ⟨_, rfl⟩
  have hbW : Below w.heap.size w W := by rw [hW]; exact (((Below.refl _ w).alloc (Nat.le_refl _) _).alloc (by simp) _).alloc (by simp; omega) _
  have hsW : W.heap.size = w.heap.size + 3 := by rw [hW]; simp
  have q0 : W.cell? ⟨w.heap.size + 1, 0, none⟩ = some (.slice x.A1 x.n1 x.c1) := by rw [hW]; go_simp
  have q1 : W.cell? ⟨w.heap.size + 1, 1, none⟩ = some (.slice x.A2 x.n2 x.c2) := by rw [hW]; go_simp
  have hz : W.heap[w.heap.size + 1 + 1]? = some (.cells #[.slice none 0 0] 24 (0, 0)) := by
    rw [hW]
    have := heap_alloc_new ((w.alloc (.cells #[.slice A n c] 24)).alloc (.cells #[.slice x.A1 x.n1 x.c1, .slice x.A2 x.n2 x.c2] 48)) (.cells #[.slice none 0 0] 24)
    rw [World.size_alloc, World.size_alloc] at this
    exact this
  rw [← hW]
  clear hW
  have HsW := Lib.hid hsW
  clear hsW
  refine (cloneF A n c xs _ W (hR.ext hbW) (by omega)).mono ?_
  rintro e w1 ⟨A1, c1, rfl, hown1, hb1⟩
  obtain ⟨g, rfl, hg1, hg2⟩ := hown1.some_ (by omega)
  obtain ⟨⟨u0, hu0⟩, hf0⟩ := hown1.cellF hk 0 (by omega)
  obtain ⟨⟨u1, hu1⟩, hf1⟩ := hown1.cellF hk 1 (by omega)
  rw [Nat.add_zero] at hu0 hf0
  have q0' := (hb1.cell (p := ⟨w.heap.size + 1, 0, none⟩) (by have := HsW.out; simp; omega)).trans q0
  have q1' := (hb1.cell (p := ⟨w.heap.size + 1, 1, none⟩) (by have := HsW.out; simp; omega)).trans q1
  have hz1 := (hb1.block _ (by have := HsW.out; omega)).trans hz
  clear q0 q1 hz
  have hown2 := hown1.setF x hk
  have hgr2 : w1.grownBy ((w1.setCell ⟨g, k * 2, none⟩ (.slice x.A1 x.n1 x.c1)).setCell ⟨g, k * 2 + 1, none⟩ (.slice x.A2 x.n2 x.c2)) (some g) := grown_set' (grown_set' ⟨rfl, rfl, rfl, Nat.le_refl _, fun _ _ _ => rfl⟩)
  have hz2 := (hgr2.block (w.heap.size + 1 + 1) (by have := HsW.out; omega) (by have := HsW.out; simp; omega)).trans hz1
  have Hz2 := Lib.hid hz2
  have Hown2 := Lib.hid hown2
  have Hgr2 := Lib.hid hgr2
  clear hz1 hz2 hown2 hgr2
  go_wp2_with (refine wpList_store_row rfl 24 _ _ rfl (w.heap.size + 1 + 1) 24 _ _ rfl rfl Hz2.out (by kernel_rfl) rfl (by simp [Value.oneCell']) ?_)
  refine bodyPost_ret (results_c rfl rfl (run_ld_block (setRow_heap _ _ _ _ _ _ Hz2.out) Try.underlying24 rfl (by kernel_rfl))) rfl ?_
  have hbf : Below w.heap.size w (((w1.setCell ⟨g, k * 2, none⟩ (.slice x.A1 x.n1 x.c1)).setCell ⟨g, k * 2 + 1, none⟩ (.slice x.A2 x.n2 x.c2)).setRow (w.heap.size + 1 + 1) #[.slice (some ⟨g, 0, none⟩) n c1]) :=
    Below.setRow (Below.grow (Below.ext hbW hb1) Hgr2.out (by have := HsW.out; omega)) (by omega) _
  refine ⟨_, _, rfl, ⟨xs.set k x, Recs.mono (OwnR.recs (OwnR.kept (row := some (w.heap.size + 1 + 1)) Hown2.out ⟨rfl, rfl, rfl, by simp, fun j hj hne => setRow_other _ _ _ _ (by simpa using hne)⟩ (.inr (fun e => ?_)))) (fun _ _ h => .inr (by have := h.1; have := HsW.out; omega)), by simp [hxl], fun i y h hy hh => ?_⟩, hbf⟩
  · have := (World.ownsRow.lt Hown2.out _ e).1
    have := HsW.out
    omega
  · by_cases hik : k = i
    · subst hik
      rw [List.getElem?_set_self (by omega)] at hy hh
      cases hy
      cases hh
      exact (hf.ext hbf).mono (fun _ _ h => .inl h)
    · rw [List.getElem?_set_ne hik] at hy hh
      exact ((hok i y h hy hh).ext hbf).mono (fun _ _ h => .inl h)

set_option maxHeartbeats 2000000 in
theorem read_ok (A : Option Addr) (n c : Nat) (fs : List Fil) (S : Nat → Prop) (w : World) (hD : Dsk S w (.slice A n c) fs) (hn : n ≤ 1000) (k : Nat) (f : Fil) (hf : fs[k]? = some f) (hlen : f.s.length + f.p.length ≤ 10000000) :
    Calls Try.prog 15 #[.agg #[.slice A n c], .int .i64 (k : Int)] w fun e w' => ∃ A' c', e = .returned (.tuple #[.slice A' (f.s.length + f.p.length) c', .int .i64 0]) ∧ OwnR encB 1 w' w.heap.size 5 (.slice A' (f.s.length + f.p.length) c') (f.s ++ f.p) ∧ Below w.heap.size w w' := by
  have hk : k < n := by have := (List.getElem?_eq_some_iff.1 hf).1; have := hD.len; omega
  obtain ⟨b, off, x, f', rfl, hb, hf', hx, c0, c1⟩ := hD.at_ hk
  obtain rfl : f' = f := by rw [hf] at hf'; cases hf'; rfl
  have hs1 := hx.s.len
  have hp1 := hx.p.len
  have e1 := Lib.hid hs1.1
  have e2 := Lib.hid hp1.1
  have hxs : x.n1 + x.n2 ≤ 10000000 := by have := e1.out; have := e2.out; omega
  clear hf hf' hs1 hp1
  have ha : Below w.heap.size w (w.alloc (.cells #[.slice (some ⟨b, off, none⟩) n c] 24)) := (Below.refl _ w).alloc (Nat.le_refl _) _
  go_enter Try.func15, Try.ntmps15
  go_wp2_with fail
  obtain ⟨W, hW⟩ : ∃ W, W = w.alloc (.cells #[.slice (some ⟨b, off, none⟩) n c] 24) := ⟨_, rfl⟩
  have q0 : W.cell? ⟨w.heap.size, 0, none⟩ = some (.slice (some ⟨b, off, none⟩) n c) := by rw [hW]; go_simp
  rw [← hW] at ha
  rw [← hW]
  clear hW
  refine (missing_no _ n c k W hk hn).mono ?_
  rintro e w1 ⟨rfl, hb1⟩
  have q0' := (hb1.cell (p := ⟨w.heap.size, 0, none⟩) (block_lt_of_cell q0)).trans q0
  have hlt1 := block_lt_of_cell q0'
  have hbb := Below.ext ha hb1
  have c0' := (hbb.cell (p := ⟨b, off + k * 2, none⟩) hb).trans c0
  have c1' := (hbb.cell (p := ⟨b, off + k * 2 + 1, none⟩) hb).trans c1
  have hb' := block_lt_of_cell c0'
  clear q0 c0 c1
  have ag22 : ∀ w : World, (isAgg 22).run Try.prog w = .ok false w := fun w => by simp [isAgg, run_underlying Try.underlying22]
  have ag30 : ∀ w : World, (isAgg 30).run Try.prog w = .ok false w := fun w => by simp [isAgg, run_underlying Try.underlying30]
  have A22 := Lib.hid ag22
  have A30 := Lib.hid ag30
  clear ag22 ag30
  go_wp2_with fail
  refine wp_region_lexL (Below w1.heap.size w1) (by kernel_rfl) (by kernel_rfl) ((Below.refl _ _).drew) ?_
  repeat (first | (refine lexL_q0 rfl ?_; go_big_quiet_step (fail); refine wpQuiet_nil ?_) | (refine lexL_skip0 rfl rfl ?_; simp only [Act.put, List.setIfInBounds_toArray, List.set_cons_succ, List.set_cons_zero]))
  refine lexL_ld (⟨w.heap.size, 0, none⟩) (.slice (some ⟨b, off, none⟩) n c) rfl rfl rfl (fun w' hS => run_ld1 (A22.out _) ((hS.cell (p := ⟨w.heap.size, 0, none⟩) hlt1).trans q0')) ?_
  simp only [Act.put, List.setIfInBounds_toArray, List.set_cons_succ, List.set_cons_zero]
  repeat (first | (refine lexL_q0 rfl ?_; go_big_quiet_step (fail); refine wpQuiet_nil ?_) | (refine lexL_skip0 rfl rfl ?_; simp only [Act.put, List.setIfInBounds_toArray, List.set_cons_succ, List.set_cons_zero]))
  refine lexL_ld (⟨b, off + k * 2, none⟩) (.slice x.A1 x.n1 x.c1) rfl rfl rfl (fun w' hS => run_ld1 (A30.out _) ((hS.cell (p := ⟨b, off + k * 2, none⟩) hb').trans c0')) ?_
  simp only [Act.put, List.setIfInBounds_toArray, List.set_cons_succ, List.set_cons_zero]
  repeat (first | (refine lexL_q0 rfl ?_; go_big_quiet_step (fail); refine wpQuiet_nil ?_) | (refine lexL_skip0 rfl rfl ?_; simp only [Act.put, List.setIfInBounds_toArray, List.set_cons_succ, List.set_cons_zero]))
  refine lexL_ld (⟨w.heap.size, 0, none⟩) (.slice (some ⟨b, off, none⟩) n c) rfl rfl rfl (fun w' hS => run_ld1 (A22.out _) ((hS.cell (p := ⟨w.heap.size, 0, none⟩) hlt1).trans q0')) ?_
  simp only [Act.put, List.setIfInBounds_toArray, List.set_cons_succ, List.set_cons_zero]
  repeat (first | (refine lexL_q0 rfl ?_; go_big_quiet_step (fail); refine wpQuiet_nil ?_) | (refine lexL_skip0 rfl rfl ?_; simp only [Act.put, List.setIfInBounds_toArray, List.set_cons_succ, List.set_cons_zero]))
  refine lexL_ld (⟨b, off + k * 2 + 1, none⟩) (.slice x.A2 x.n2 x.c2) rfl rfl rfl (fun w' hS => run_ld1 (A30.out _) ((hS.cell (p := ⟨b, off + k * 2 + 1, none⟩) hb').trans c1')) ?_
  simp only [Act.put, List.setIfInBounds_toArray, List.set_cons_succ, List.set_cons_zero]
  repeat (first | (refine lexL_q0 rfl ?_; go_big_quiet_step (fail); refine wpQuiet_nil ?_) | (refine lexL_skip0 rfl rfl ?_; simp only [Act.put, List.setIfInBounds_toArray, List.set_cons_succ, List.set_cons_zero]))
  have hW1 : Below w1.heap.size w1 (w1.alloc (.cells #[.slice x.A1 x.n1 x.c1, .slice x.A2 x.n2 x.c2] 30)).drew := ((Below.refl _ _).alloc (Nat.le_refl _) _).drew
  refine lexL_e rfl ?_
  go_wp2_with fail
  refine lexL_go hW1 ?_
  repeat (first | (refine lexL_q0 rfl ?_; go_big_quiet_step (fail); refine wpQuiet_nil ?_) | (refine lexL_skip0 rfl rfl ?_; simp only [Act.put, List.setIfInBounds_toArray, List.set_cons_succ, List.set_cons_zero]))
  refine lexL_e rfl ?_
  go_wp2_with fail
  refine (concatB w1.heap.size x.A1 x.A2 x.n1 x.c1 x.n2 x.c2 f'.s f'.p _ _ _ (by go_simp) (by go_simp) ((hx.s.ext hbb).ext hW1) ((hx.p.ext hbb).ext hW1) (by omega)).mono ?_
  rintro e w2 ⟨A', c', rfl, hown, hb2⟩
  have hb2' := Below.ext hW1 hb2
  go_wp2_with fail
  refine lexL_go (hb2') ?_
  repeat (first | (refine lexL_q0 rfl ?_; go_big_quiet_step (fail); refine wpQuiet_nil ?_) | (refine lexL_skip0 rfl rfl ?_; simp only [Act.put, List.setIfInBounds_toArray, List.set_cons_succ, List.set_cons_zero]))
  refine lexL_nil ?_
  go_wp2_with fail
  go_wp2
  go_ret2
  have hsz := hbb.size
  refine ⟨A', c', by rw [e1.out, e2.out]; rfl, ?_, Below.ext hbb hb2'⟩
  rw [e1.out, e2.out]
  exact hown.weak (by show w.heap.size ≤ (w1.alloc _).heap.size; rw [World.size_alloc]; omega)
end Go.Proofs.Ytmbbngdhdhgliaa
