/-
  Package disk: Append, Sync, Replace.
-/
import Derived.Test.YtmbbngdhdhgliaaDisk
namespace Go.Proofs.Ytmbbngdhdhgliaa
open Go.RowKit
set_option maxRecDepth 100000
set_option linter.unusedVariables false

/-- two boxes: a disk, and the result -/
theorem two_boxes (w : World) (v : Value) : ∃ W, W = (w.alloc (.cells #[v] 24)).alloc (.cells #[.slice none 0 0] 24) ∧ Below w.heap.size w W ∧ W.heap.size = w.heap.size + 2 ∧
    W.heap[w.heap.size]? = some (.cells #[v] 24 (0, 0)) ∧ W.heap[w.heap.size + 1]? = some (.cells #[.slice none 0 0] 24 (0, 0)) := by
  refine ⟨_, rfl, ((Below.refl _ w).alloc (Nat.le_refl _) _).alloc (by simp) _, by simp, ?_, ?_⟩
  · exact (((Below.refl _ _).alloc (Nat.le_refl _) _).block w.heap.size (by simp)).trans (heap_alloc_new w _)
  · have := heap_alloc_new (w.alloc (.cells #[v] 24)) (.cells #[.slice none 0 0] 24)
    rw [World.size_alloc] at this
    exact this

set_option maxHeartbeats 2000000 in
theorem append_ok (A : Option Addr) (n c : Nat) (fs : List Fil) (S : Nat → Prop) (w : World) (hD : Dsk S w (.slice A n c) fs) (hn : n ≤ 1000) (k : Nat) (f : Fil) (hf : fs[k]? = some f) (Ab : Option Addr) (nb cb : Nat) (lb : List UInt8) (hb : By S w (.slice Ab nb cb) lb) (hlen : f.s.length + f.p.length + nb ≤ 65536) :
    Calls Try.prog 14 #[.agg #[.slice A n c], .int .i64 (k : Int), .slice Ab nb cb] w fun e w' => ∃ A' c', e = .returned (.tuple #[.agg #[.slice A' n c'], .int .i64 0]) ∧ Dsk (fun b => S b ∨ w.heap.size ≤ b) w' (.slice A' n c') (fs.set k ⟨f.s, f.p ++ lb⟩) ∧ Below w.heap.size w w' := by
  have hk : k < n := by have := (List.getElem?_eq_some_iff.1 hf).1; have := hD.len; omega
  have hD0 := hD.mono (S' := fun b => S b ∧ b < w.heap.size) (fun b hb hs => ⟨hs, hb⟩)
  obtain ⟨b, off, x, f', rfl, hbl, hf', hx, c0, c1⟩ := hD0.at_ hk
  obtain rfl : f' = f := by rw [hf] at hf'; cases hf'; rfl
  have e1 := Lib.hid hx.s.len.1
  have e2 := Lib.hid hx.p.len.1
  have hxs : x.n1 + x.n2 + nb ≤ 65536 := by have := e1.out; have := e2.out; omega
  clear hf hf'
  obtain ⟨W, hW, hbW, hsW, hw0, hw1⟩ := two_boxes w (.slice (some ⟨b, off, none⟩) n c)
  have HsW := Lib.hid hsW
  have d1 : decide (65536 < x.n1 + x.n2 + nb) = false := by simp; omega
  go_enter Try.func14, Try.ntmps14
  go_wp2_with fail
  rw [← hW]
  clear hW hsW
  refine (missing_no _ n c k W hk hn).mono ?_
  rintro e w1 ⟨rfl, hb1⟩
  have hbb := Below.ext hbW hb1
  have hsz1 := hb1.size
  have z0 := (hb1.block _ (by have := HsW.out; omega)).trans hw0
  have z1 := (hb1.block _ (by have := HsW.out; omega)).trans hw1
  have q0 : w1.cell? ⟨w.heap.size, 0, none⟩ = some (.slice (some ⟨b, off, none⟩) n c) := by rw [cell_of_row _ _ _ _ _ _ z0]; rfl
  have c0' := (hbb.cell (p := ⟨b, off + k * 2, none⟩) hbl).trans c0
  have c1' := (hbb.cell (p := ⟨b, off + k * 2 + 1, none⟩) hbl).trans c1
  have H0 := Lib.hid z0
  have H1 := Lib.hid z1
  clear hw0 hw1 z0 z1 c0 c1
  go_wp2_with fail
  obtain ⟨W1, hW1⟩ : ∃ W1, W1 = w1.alloc (.cells #[.slice x.A1 x.n1 x.c1, .slice x.A2 x.n2 x.c2] 48) := ⟨_, rfl⟩
  obtain ⟨W2, hW2⟩ : ∃ W2, W2 = W1.alloc (.cells #[.slice x.A2 x.n2 x.c2, .slice Ab nb cb] 30) := ⟨_, rfl⟩
  have hbW1 : Below w1.heap.size w1 W1 := by rw [hW1]; exact (Below.refl _ _).alloc (Nat.le_refl _) _
  have hbW2 : Below W1.heap.size W1 W2 := by rw [hW2]; exact (Below.refl _ _).alloc (Nat.le_refl _) _
  have hrow1 : W1.heap[w1.heap.size]? = some (.cells #[.slice x.A1 x.n1 x.c1, .slice x.A2 x.n2 x.c2] 48 (0, 0)) := by rw [hW1]; exact heap_alloc_new _ _
  have hs1 : W1.heap.size = w1.heap.size + 1 := by rw [hW1]; simp
  have hs2 : W2.heap.size = w1.heap.size + 2 := by rw [hW2]; simp [hs1]
  have g0 : W2.cell? ⟨w1.heap.size + 1, 0, none⟩ = some (.slice x.A2 x.n2 x.c2) := by rw [hW2, ← hs1]; go_simp
  have g1 : W2.cell? ⟨w1.heap.size + 1, 1, none⟩ = some (.slice Ab nb cb) := by rw [hW2, ← hs1]; go_simp
  rw [← hW1, ← hW2]
  clear hW1 hW2
  have b2 := Below.ext hbb (Below.ext hbW1 hbW2)
  have Hs2 := Lib.hid hs2
  have Hs1 := Lib.hid hs1
  have hrow2 := (hbW2.block _ (by omega)).trans hrow1
  clear hs1 hs2
  refine (concatB (w1.heap.size + 1) x.A2 Ab x.n2 x.c2 nb cb f'.p lb _ _ W2 g0 g1 (hx.p.ext b2) (hb.ext b2) (by omega)).mono ?_
  rintro e w3 ⟨A3, c3, rfl, hown3, hb3⟩
  have hrow3 := (hb3.block _ (by have := Hs2.out; omega)).trans hrow2
  have f0 : w3.cell? ⟨w1.heap.size, 0, none⟩ = some (.slice x.A1 x.n1 x.c1) := by rw [cell_of_row _ _ _ _ _ _ hrow3]; rfl
  have f1 : w3.cell? ⟨w1.heap.size, 1, none⟩ = some (.slice x.A2 x.n2 x.c2) := by rw [cell_of_row _ _ _ _ _ _ hrow3]; rfl
  have fz : w3.frozen? ⟨w1.heap.size, 1, none⟩ = false := frozen_of_row _ _ _ _ _ hrow3
  have b13 : Below w1.heap.size w1 w3 := Below.ext (Below.ext hbW1 hbW2) hb3
  have q3 := (b13.cell (p := ⟨w.heap.size, 0, none⟩) (by have := HsW.out; show w.heap.size < _; omega)).trans q0
  have hsz3 := b13.size
  clear q0 c0' c1' g0 g1 hrow1 hrow2
  go_wp2_with fail
  have hg4 : w3.grownBy (w3.setCell ⟨w1.heap.size, 1, none⟩ (.slice A3 (x.n2 + nb) c3)) (some w1.heap.size) := grown_set ⟨rfl, rfl, rfl, Nat.le_refl _, fun _ _ _ => rfl⟩
  have B4 : Below w.heap.size w (w3.setCell ⟨w1.heap.size, 1, none⟩ (.slice A3 (x.n2 + nb) c3)) := Below.grow (Below.ext hbb b13) hg4 hbb.size
  have hown4 := hown3.kept hg4 (.inr (fun e => by have := (World.ownsRow.lt hown3 _ e).1; have := Hs2.out; omega))
  have z4 := ((hg4.block (w.heap.size + 1) (by have := HsW.out; omega) (by have := HsW.out; simp; omega)).trans (b13.block _ (by have := HsW.out; omega))).trans H1.out
  have hR4 : w.heap.size + 1 < (w3.setCell ⟨w1.heap.size, 1, none⟩ (.slice A3 (x.n2 + nb) c3)).heap.size := (Array.getElem?_eq_some_iff.1 z4).1
  generalize w3.setCell ⟨w1.heap.size, 1, none⟩ (.slice A3 (x.n2 + nb) c3) = w4 at *
  have hD4 : Dsk (fun b => (S b ∨ w.heap.size ≤ b) ∧ b ≠ w.heap.size + 1) w4 (.slice (some ⟨b, off, none⟩) n c) fs := (hD0.ext B4).mono (fun _ _ h => ⟨.inl h.1, by have := h.2; omega⟩)
  have hf4 : FOk (fun b => (S b ∨ w.heap.size ≤ b) ∧ b ≠ w.heap.size + 1) w4 ⟨x.A1, x.n1, x.c1, A3, x.n2 + nb, c3⟩ ⟨f'.s, f'.p ++ lb⟩ := ⟨(hx.s.ext B4).mono (fun _ _ h => ⟨.inl h.1, by have := h.2; omega⟩), hown4.recs.mono (fun _ _ h => ⟨.inr (by have := h.1; have := Hs2.out; have := HsW.out; omega), by have := h.1; have := Hs2.out; have := HsW.out; omega⟩)⟩
  refine (with_any _ n c fs _ _ hD4 hn k hk ⟨x.A1, x.n1, x.c1, A3, x.n2 + nb, c3⟩ ⟨f'.s, f'.p ++ lb⟩ hf4).mono ?_
  rintro e w5 ⟨A5, c5, rfl, hD5, hb5⟩
  have z5 := (hb5.block _ hR4).trans z4
  have Z5 := Lib.hid z5
  clear z5 z4
  go_wp2_with (refine wpList_store_row rfl 24 _ _ rfl (w.heap.size + 1) 24 _ _ rfl rfl Z5.out (by kernel_rfl) rfl (by simp [Value.oneCell']) ?_)
  refine bodyPost_ret (results_ct rfl rfl (run_ld_block (setRow_heap _ _ _ _ _ _ Z5.out) Try.underlying24 rfl (by kernel_rfl))) rfl ?_
  have hD6 := ((hD5.mono (S' := fun b => (S b ∨ w.heap.size ≤ b) ∧ b ≠ w.heap.size + 1) (fun b _ h => by rcases h with h | h; exact h; exact ⟨.inr (by omega), by omega⟩)).keep (fun b hb hs => setRow_other w5 (w.heap.size + 1) b #[.slice A5 n c5] hs.2)).mono (S' := fun b => S b ∨ w.heap.size ≤ b) (fun _ _ h => h.1)
  exact ⟨A5, c5, rfl, hD6, Below.setRow (Below.ext B4 hb5) (by omega) _⟩

set_option maxHeartbeats 2000000 in
theorem append_long (A : Option Addr) (n c : Nat) (fs : List Fil) (S : Nat → Prop) (w : World) (hD : Dsk S w (.slice A n c) fs) (hn : n ≤ 1000) (k : Nat) (f : Fil) (hf : fs[k]? = some f) (Ab : Option Addr) (nb cb : Nat) (hlen : 65536 < f.s.length + f.p.length + nb) (hl2 : f.s.length + f.p.length + nb ≤ 100000000) :
    Calls Try.prog 14 #[.agg #[.slice A n c], .int .i64 (k : Int), .slice Ab nb cb] w fun e w' => e = .returned (.tuple #[.agg #[.slice none 0 0], .int .i64 5]) ∧ Below w.heap.size w w' := by
  have hk : k < n := by have := (List.getElem?_eq_some_iff.1 hf).1; have := hD.len; omega
  obtain ⟨b, off, x, f', rfl, hbl, hf', hx, c0, c1⟩ := hD.at_ hk
  obtain rfl : f' = f := by rw [hf] at hf'; cases hf'; rfl
  have e1 := Lib.hid hx.s.len.1
  have e2 := Lib.hid hx.p.len.1
  have hxs : 65536 < x.n1 + x.n2 + nb ∧ x.n1 + x.n2 + nb ≤ 100000000 := by have := e1.out; have := e2.out; omega
  clear hf hf'
  obtain ⟨W, hW, hbW, hsW, hw0, hw1⟩ := two_boxes w (.slice (some ⟨b, off, none⟩) n c)
  have HsW := Lib.hid hsW
  have d1 : decide (65536 < x.n1 + x.n2 + nb) = true := by simpa using hxs.1
  have d2 : decide ((65536 : Int) < (x.n1 : Int) + (x.n2 : Int) + (nb : Int)) = true := by simp; omega
  go_enter Try.func14, Try.ntmps14
  go_wp2_with fail
  rw [← hW]
  clear hW hsW
  refine (missing_no _ n c k W hk hn).mono ?_
  rintro e w1 ⟨rfl, hb1⟩
  have hbb := Below.ext hbW hb1
  have hsz1 := hb1.size
  have z0 := (hb1.block _ (by have := HsW.out; omega)).trans hw0
  have z1 := (hb1.block _ (by have := HsW.out; omega)).trans hw1
  have q0 : w1.cell? ⟨w.heap.size, 0, none⟩ = some (.slice (some ⟨b, off, none⟩) n c) := by rw [cell_of_row _ _ _ _ _ _ z0]; rfl
  have c0' := (hbb.cell (p := ⟨b, off + k * 2, none⟩) hbl).trans c0
  have c1' := (hbb.cell (p := ⟨b, off + k * 2 + 1, none⟩) hbl).trans c1
  have hbW1 : ∀ o, Below w1.heap.size w1 (w1.alloc o) := fun o => (Below.refl _ _).alloc (Nat.le_refl _) _
  have hZ := fun o => ((hbW1 o).block (w.heap.size + 1) (by have := HsW.out; omega)).trans z1
  have Z5 := Lib.hid hZ
  clear hw0 hw1 z0 z1 c0 c1 hZ
  go_wp2_with (refine wpList_store_row rfl 24 _ _ rfl (w.heap.size + 1) 24 _ _ rfl rfl (Z5.out _) (by kernel_rfl) rfl (by simp [Value.oneCell']) ?_)
  refine bodyPost_ret (results_ct rfl rfl (run_ld_block (setRow_heap _ _ _ _ _ _ (Z5.out _)) Try.underlying24 rfl (by kernel_rfl))) rfl ?_
  exact ⟨rfl, Below.setRow (Below.ext hbb (hbW1 _)) (by omega) _⟩

set_option maxHeartbeats 2000000 in
theorem sync_ok (A : Option Addr) (n c : Nat) (fs : List Fil) (S : Nat → Prop) (w : World) (hD : Dsk S w (.slice A n c) fs) (hn : n ≤ 1000) (k : Nat) (f : Fil) (hf : fs[k]? = some f) (hlen : f.s.length + f.p.length ≤ 10000000) :
    Calls Try.prog 17 #[.agg #[.slice A n c], .int .i64 (k : Int)] w fun e w' => ∃ A' c', e = .returned (.tuple #[.agg #[.slice A' n c'], .int .i64 0]) ∧ Dsk (fun b => S b ∨ w.heap.size ≤ b) w' (.slice A' n c') (fs.set k ⟨f.s ++ f.p, []⟩) ∧ Below w.heap.size w w' := by
  have hk : k < n := by have := (List.getElem?_eq_some_iff.1 hf).1; have := hD.len; omega
  have hD0 := hD.mono (S' := fun b => S b ∧ b < w.heap.size) (fun b hb hs => ⟨hs, hb⟩)
  obtain ⟨b, off, x, f', rfl, hbl, hf', hx, c0, c1⟩ := hD0.at_ hk
  obtain rfl : f' = f := by rw [hf] at hf'; cases hf'; rfl
  have e1 := Lib.hid hx.s.len.1
  have e2 := Lib.hid hx.p.len.1
  have hxs : x.n1 + x.n2 ≤ 10000000 := by have := e1.out; have := e2.out; omega
  clear hf hf'
  obtain ⟨W, hW, hbW, hsW, hw0, hw1⟩ := two_boxes w (.slice (some ⟨b, off, none⟩) n c)
  have HsW := Lib.hid hsW
  go_enter Try.func17, Try.ntmps17
  go_wp2_with fail
  rw [← hW]
  clear hW hsW
  refine (missing_no _ n c k W hk hn).mono ?_
  rintro e w1 ⟨rfl, hb1⟩
  have hbb := Below.ext hbW hb1
  have hsz1 := hb1.size
  have z0 := (hb1.block _ (by have := HsW.out; omega)).trans hw0
  have z1 := (hb1.block _ (by have := HsW.out; omega)).trans hw1
  have q0 : w1.cell? ⟨w.heap.size, 0, none⟩ = some (.slice (some ⟨b, off, none⟩) n c) := by rw [cell_of_row _ _ _ _ _ _ z0]; rfl
  have c0' := (hbb.cell (p := ⟨b, off + k * 2, none⟩) hbl).trans c0
  have c1' := (hbb.cell (p := ⟨b, off + k * 2 + 1, none⟩) hbl).trans c1
  have H0 := Lib.hid z0
  have H1 := Lib.hid z1
  clear hw0 hw1 z0 z1 c0 c1
  obtain ⟨W1, hW1⟩ : ∃ W1, W1 = w1.alloc (.cells #[.slice x.A1 x.n1 x.c1, .slice x.A2 x.n2 x.c2] 48) := ⟨_, rfl⟩
  have hbW1 : Below w1.heap.size w1 W1 := by rw [hW1]; exact (Below.refl _ _).alloc (Nat.le_refl _) _
  have hrow1 : W1.heap[w1.heap.size]? = some (.cells #[.slice x.A1 x.n1 x.c1, .slice x.A2 x.n2 x.c2] 48 (0, 0)) := by rw [hW1]; exact heap_alloc_new _ _
  have hs1 : W1.heap.size = w1.heap.size + 1 := by rw [hW1]; simp
  have Hs1 := Lib.hid hs1
  have z0' := (hbW1.block _ (by have := HsW.out; omega)).trans H0.out
  have f0 : W1.cell? ⟨w1.heap.size, 0, none⟩ = some (.slice x.A1 x.n1 x.c1) := by rw [cell_of_row _ _ _ _ _ _ hrow1]; rfl
  have f1 : W1.cell? ⟨w1.heap.size, 1, none⟩ = some (.slice x.A2 x.n2 x.c2) := by rw [cell_of_row _ _ _ _ _ _ hrow1]; rfl
  have F0 := Lib.hid f0
  have F1 := Lib.hid f1
  have Z0 := Lib.hid z0'
  have ag30 : ∀ w : World, (isAgg 30).run Try.prog w = .ok false w := fun w => by simp [isAgg, run_underlying Try.underlying30]
  have A30 := Lib.hid ag30
  have bw1 := Below.ext hbb hbW1
  clear hs1 f0 f1 z0' ag30 hrow1
  go_wp2_with fail
  rw [← hW1]
  clear hW1
  -- a class that keeps what W1 holds, but for the result
  have hcl : ∀ (w' : World) (p : Addr), Keep (· ≠ w.heap.size + 1) W1 w' → p.block < W1.heap.size → p.block ≠ w.heap.size + 1 → p.spot = none → w'.cell? p = W1.cell? p := fun w' p hS h1 h2 h3 => World.cell?_of_block (hS p.block h1 h2)
  have HC := Lib.hid hcl
  clear hcl
  refine wp_region_lexL (fun w' => Below w.heap.size w w' ∧ Keep (· ≠ w.heap.size + 1) W1 w') (by kernel_rfl) (by kernel_rfl) (⟨bw1.drew, fun _ _ _ => rfl⟩) ?_
  repeat (first | (refine lexL_q0 rfl ?_; go_big_quiet_step (fail); refine wpQuiet_nil ?_) | (refine lexL_skip0 rfl rfl ?_; simp only [Act.put, List.setIfInBounds_toArray, List.set_cons_succ, List.set_cons_zero]))
  refine lexL_ld (⟨w.heap.size, 0, none⟩) (.agg #[.slice (some ⟨b, off, none⟩) n c]) rfl rfl rfl (fun w' hS => run_ld_block ((hS.2 _ (by have := Hs1.out; have := HsW.out; omega) (by omega)).trans Z0.out) Try.underlying24 rfl (by kernel_rfl)) ?_
  simp only [Act.put, List.setIfInBounds_toArray, List.set_cons_succ, List.set_cons_zero]
  repeat (first | (refine lexL_q0 rfl ?_; go_big_quiet_step (fail); refine wpQuiet_nil ?_) | (refine lexL_skip0 rfl rfl ?_; simp only [Act.put, List.setIfInBounds_toArray, List.set_cons_succ, List.set_cons_zero]))
  refine lexL_ld (⟨w1.heap.size, 0, none⟩) (.slice x.A1 x.n1 x.c1) rfl rfl rfl (fun w' hS => run_ld1 (A30.out _) ((HC.out w' ⟨w1.heap.size, 0, none⟩ hS.2 (by have := Hs1.out; show w1.heap.size < _; omega) (by have := HsW.out; show w1.heap.size ≠ _; omega) rfl).trans F0.out)) ?_
  simp only [Act.put, List.setIfInBounds_toArray, List.set_cons_succ, List.set_cons_zero]
  repeat (first | (refine lexL_q0 rfl ?_; go_big_quiet_step (fail); refine wpQuiet_nil ?_) | (refine lexL_skip0 rfl rfl ?_; simp only [Act.put, List.setIfInBounds_toArray, List.set_cons_succ, List.set_cons_zero]))
  refine lexL_ld (⟨w1.heap.size, 1, none⟩) (.slice x.A2 x.n2 x.c2) rfl rfl rfl (fun w' hS => run_ld1 (A30.out _) ((HC.out w' ⟨w1.heap.size, 1, none⟩ hS.2 (by have := Hs1.out; show w1.heap.size < _; omega) (by have := HsW.out; show w1.heap.size ≠ _; omega) rfl).trans F1.out)) ?_
  simp only [Act.put, List.setIfInBounds_toArray, List.set_cons_succ, List.set_cons_zero]
  repeat (first | (refine lexL_q0 rfl ?_; go_big_quiet_step (fail); refine wpQuiet_nil ?_) | (refine lexL_skip0 rfl rfl ?_; simp only [Act.put, List.setIfInBounds_toArray, List.set_cons_succ, List.set_cons_zero]))
  have hW2 : Below W1.heap.size W1 (W1.alloc (.cells #[.slice x.A1 x.n1 x.c1, .slice x.A2 x.n2 x.c2] 30)).drew := ((Below.refl _ _).alloc (Nat.le_refl _) _).drew
  refine lexL_e rfl ?_
  go_wp2_with fail
  refine lexL_go ⟨Below.ext bw1 hW2, fun j hj _ => hW2.block j hj⟩ ?_
  repeat (first | (refine lexL_q0 rfl ?_; go_big_quiet_step (fail); refine wpQuiet_nil ?_) | (refine lexL_skip0 rfl rfl ?_; simp only [Act.put, List.setIfInBounds_toArray, List.set_cons_succ, List.set_cons_zero]))
  refine lexL_e rfl ?_
  go_wp2_with fail
  refine (concatB W1.heap.size x.A1 x.A2 x.n1 x.c1 x.n2 x.c2 f'.s f'.p _ _ _ (by go_simp) (by go_simp) ((hx.s.ext bw1).ext hW2) ((hx.p.ext bw1).ext hW2) (by omega)).mono ?_
  rintro e w3 ⟨A3, c3, rfl, hown3, hb3⟩
  have b13 := Below.ext hW2 hb3
  go_wp2_with fail
  refine lexL_go ⟨Below.ext bw1 b13, fun j hj _ => b13.block j hj⟩ ?_
  repeat (first | (refine lexL_q0 rfl ?_; go_big_quiet_step (fail); refine wpQuiet_nil ?_) | (refine lexL_skip0 rfl rfl ?_; simp only [Act.put, List.setIfInBounds_toArray, List.set_cons_succ, List.set_cons_zero]))
  refine lexL_e rfl ?_
  go_wp2_with fail
  refine lexL_go ⟨Below.ext bw1 b13, fun j hj _ => b13.block j hj⟩ ?_
  repeat (first | (refine lexL_q0 rfl ?_; go_big_quiet_step (fail); refine wpQuiet_nil ?_) | (refine lexL_skip0 rfl rfl ?_; simp only [Act.put, List.setIfInBounds_toArray, List.set_cons_succ, List.set_cons_zero]))
  refine lexL_e rfl ?_
  go_wp2_with fail
  have B4 := Below.ext bw1 b13
  have z4 := (b13.block _ (by have := Hs1.out; have := HsW.out; omega)).trans ((hbW1.block _ (by have := HsW.out; omega)).trans H1.out)
  have hR4 : w.heap.size + 1 < w3.heap.size := (Array.getElem?_eq_some_iff.1 z4).1
  have hD4 : Dsk (fun b => (S b ∧ b < w.heap.size) ∨ w.heap.size + 2 ≤ b) w3 (.slice (some ⟨b, off, none⟩) n c) fs := (hD0.ext B4).mono (fun _ _ h => .inl h)
  have hbase : w.heap.size + 2 ≤ (W1.alloc (.cells #[.slice x.A1 x.n1 x.c1, .slice x.A2 x.n2 x.c2] 30)).drew.heap.size := by show _ ≤ (W1.alloc _).heap.size; rw [World.size_alloc]; have := Hs1.out; have := HsW.out; omega
  have hf4 : FOk (fun b => (S b ∧ b < w.heap.size) ∨ w.heap.size + 2 ≤ b) w3 ⟨A3, x.n1 + x.n2, c3, none, 0, 0⟩ ⟨f'.s ++ f'.p, []⟩ := ⟨hown3.recs.mono (fun _ _ h => .inr (by have := h.1; omega)), Recs.nil_ _ _⟩
  refine (with_any _ n c fs _ _ hD4 hn k hk ⟨A3, x.n1 + x.n2, c3, none, 0, 0⟩ ⟨f'.s ++ f'.p, []⟩ hf4).mono ?_
  rintro e w5 ⟨A5, c5, rfl, hD5, hb5⟩
  have z5 := (hb5.block _ hR4).trans z4
  have Z5 := Lib.hid z5
  clear z5 z4
  have B5 : Below w.heap.size w w5 := Below.ext B4 hb5
  have b15 := Below.ext b13 hb5
  go_wp2_with fail
  refine lexL_go (⟨B5, fun j hj _ => b15.block j hj⟩) ?_
  repeat (first | (refine lexL_q0 rfl ?_; go_big_quiet_step (fail); refine wpQuiet_nil ?_) | (refine lexL_skip0 rfl rfl ?_; simp only [Act.put, List.setIfInBounds_toArray, List.set_cons_succ, List.set_cons_zero]))
  refine lexL_e rfl ?_
  refine wpList_store_row rfl 24 _ _ rfl (w.heap.size + 1) 24 _ _ rfl rfl Z5.out (by kernel_rfl) rfl (by simp [Value.oneCell']) ?_
  refine lexL_go ⟨Below.setRow B5 (by omega) _, fun j hj hne => (setRow_other _ _ _ _ hne).trans (b15.block j hj)⟩ ?_
  simp only [Act.put]
  repeat (first | (refine lexL_q0 rfl ?_; go_big_quiet_step (fail); refine wpQuiet_nil ?_) | (refine lexL_skip0 rfl rfl ?_; simp only [Act.put, List.setIfInBounds_toArray, List.set_cons_succ, List.set_cons_zero]))
  refine lexL_nil ?_
  go_wp2_with fail
  go_wp2
  refine bodyPost_ret (results_ct rfl rfl (run_ld_block (setRow_heap _ _ _ _ _ _ Z5.out) Try.underlying24 rfl (by kernel_rfl))) rfl ?_
  have hD6 := ((hD5.mono (S' := fun b => (S b ∨ w.heap.size ≤ b) ∧ b ≠ w.heap.size + 1) (fun b _ h => by
    rcases h with (h | h) | h
    · exact ⟨.inl h.1, by omega⟩
    · exact ⟨.inr (by omega), by omega⟩
    · exact ⟨.inr (by omega), by omega⟩)).keep (fun b hb hs => setRow_other w5 (w.heap.size + 1) b #[.slice A5 n c5] hs.2)).mono (S' := fun b => S b ∨ w.heap.size ≤ b) (fun _ _ h => h.1)
  exact ⟨A5, c5, rfl, hD6, Below.setRow B5 (by omega) _⟩

set_option maxHeartbeats 2000000 in
theorem replace_ok (A : Option Addr) (n c : Nat) (fs : List Fil) (S : Nat → Prop) (w : World) (hD : Dsk S w (.slice A n c) fs) (hn : n ≤ 1000) (k : Nat) (hk : k < n) (Ab : Option Addr) (nb cb : Nat) (lb : List UInt8) (Sb : Nat → Prop) (hb : By Sb w (.slice Ab nb cb) lb) (hlen : nb ≤ 65536) :
    Calls Try.prog 20 #[.agg #[.slice A n c], .int .i64 (k : Int), .slice Ab nb cb] w fun e w' => ∃ A' c', e = .returned (.tuple #[.agg #[.slice A' n c'], .int .i64 0]) ∧ Dsk (fun b => S b ∨ w.heap.size ≤ b) w' (.slice A' n c') (fs.set k ⟨lb, []⟩) ∧ Below w.heap.size w w' := by
  have hD0 := hD.mono (S' := fun b => S b ∧ b < w.heap.size) (fun b hb hs => ⟨hs, hb⟩)
  obtain ⟨W, hW, hbW, hsW, hw0, hw1⟩ := two_boxes w (.slice A n c)
  have HsW := Lib.hid hsW
  have d1 : decide (65536 < nb) = false := by simpa using hlen
  have d2 : decide ((65536 : Int) < (nb : Int)) = false := by simp; omega
  go_enter Try.func20, Try.ntmps20
  go_wp2_with fail
  rw [← hW]
  clear hW hsW
  refine (missing_no _ n c k W hk hn).mono ?_
  rintro e w1 ⟨rfl, hb1⟩
  have hbb := Below.ext hbW hb1
  have hsz1 := hb1.size
  have z0 := (hb1.block _ (by have := HsW.out; omega)).trans hw0
  have z1 := (hb1.block _ (by have := HsW.out; omega)).trans hw1
  have H0 := Lib.hid z0
  have H1 := Lib.hid z1
  clear hw0 hw1 z0 z1
  go_wp2_with fail
  refine wp_region_lexL (fun w' => Below w.heap.size w w' ∧ Keep (· ≠ w.heap.size + 1) w1 w') (by kernel_rfl) (by kernel_rfl) (⟨hbb.drew, fun _ _ _ => rfl⟩) ?_
  repeat (first | (refine lexL_q0 rfl ?_; go_big_quiet_step (fail); refine wpQuiet_nil ?_) | (refine lexL_skip0 rfl rfl ?_; simp only [Act.put, List.setIfInBounds_toArray, List.set_cons_succ, List.set_cons_zero]))
  refine lexL_ld (⟨w.heap.size, 0, none⟩) (.agg #[.slice A n c]) rfl rfl rfl (fun w' hS => run_ld_block ((hS.2 _ (by have := HsW.out; omega) (by omega)).trans H0.out) Try.underlying24 rfl (by kernel_rfl)) ?_
  simp only [Act.put, List.setIfInBounds_toArray, List.set_cons_succ, List.set_cons_zero]
  repeat (first | (refine lexL_q0 rfl ?_; go_big_quiet_step (fail); refine wpQuiet_nil ?_) | (refine lexL_skip0 rfl rfl ?_; simp only [Act.put, List.setIfInBounds_toArray, List.set_cons_succ, List.set_cons_zero]))
  refine lexL_e rfl ?_
  go_wp2_with fail
  refine (cloneB Ab nb cb lb _ _ ((hb.ext hbb).ext (Below.refl _ _).drew) (by omega)).mono ?_
  rintro e w3 ⟨A3, c3, rfl, hown3, hb3⟩
  have b13 : Below w1.heap.size w1 w3 := Below.ext (Below.refl _ _).drew hb3
  go_wp2_with fail
  refine lexL_go ⟨Below.ext hbb b13, fun j hj _ => b13.block j hj⟩ ?_
  repeat (first | (refine lexL_q0 rfl ?_; go_big_quiet_step (fail); refine wpQuiet_nil ?_) | (refine lexL_skip0 rfl rfl ?_; simp only [Act.put, List.setIfInBounds_toArray, List.set_cons_succ, List.set_cons_zero]))
  refine lexL_e rfl ?_
  go_wp2_with fail
  refine lexL_go ⟨Below.ext hbb b13, fun j hj _ => b13.block j hj⟩ ?_
  repeat (first | (refine lexL_q0 rfl ?_; go_big_quiet_step (fail); refine wpQuiet_nil ?_) | (refine lexL_skip0 rfl rfl ?_; simp only [Act.put, List.setIfInBounds_toArray, List.set_cons_succ, List.set_cons_zero]))
  refine lexL_e rfl ?_
  go_wp2_with fail
  have B4 := Below.ext hbb b13
  have z4 := (b13.block _ (by have := HsW.out; omega)).trans H1.out
  have hR4 : w.heap.size + 1 < w3.heap.size := (Array.getElem?_eq_some_iff.1 z4).1
  have hD4 : Dsk (fun b => (S b ∧ b < w.heap.size) ∨ w.heap.size + 2 ≤ b) w3 (.slice A n c) fs := (hD0.ext B4).mono (fun _ _ h => .inl h)
  have hf4 : FOk (fun b => (S b ∧ b < w.heap.size) ∨ w.heap.size + 2 ≤ b) w3 ⟨A3, nb, c3, none, 0, 0⟩ ⟨lb, []⟩ := ⟨hown3.recs.mono (fun _ _ h => .inr (by have h1 : w1.heap.size ≤ _ := h.1; have := HsW.out; omega)), Recs.nil_ _ _⟩
  refine (with_any _ n c fs _ _ hD4 hn k hk ⟨A3, nb, c3, none, 0, 0⟩ ⟨lb, []⟩ hf4).mono ?_
  rintro e w5 ⟨A5, c5, rfl, hD5, hb5⟩
  have z5 := (hb5.block _ hR4).trans z4
  have Z5 := Lib.hid z5
  clear z5 z4
  have B5 : Below w.heap.size w w5 := Below.ext B4 hb5
  have b15 := Below.ext b13 hb5
  go_wp2_with fail
  refine lexL_go (⟨B5, fun j hj _ => b15.block j hj⟩) ?_
  repeat (first | (refine lexL_q0 rfl ?_; go_big_quiet_step (fail); refine wpQuiet_nil ?_) | (refine lexL_skip0 rfl rfl ?_; simp only [Act.put, List.setIfInBounds_toArray, List.set_cons_succ, List.set_cons_zero]))
  refine lexL_e rfl ?_
  refine wpList_store_row rfl 24 _ _ rfl (w.heap.size + 1) 24 _ _ rfl rfl Z5.out (by kernel_rfl) rfl (by simp [Value.oneCell']) ?_
  refine lexL_go ⟨Below.setRow B5 (by omega) _, fun j hj hne => (setRow_other _ _ _ _ hne).trans (b15.block j hj)⟩ ?_
  simp only [Act.put]
  repeat (first | (refine lexL_q0 rfl ?_; go_big_quiet_step (fail); refine wpQuiet_nil ?_) | (refine lexL_skip0 rfl rfl ?_; simp only [Act.put, List.setIfInBounds_toArray, List.set_cons_succ, List.set_cons_zero]))
  refine lexL_nil ?_
  go_wp2_with fail
  go_wp2
  refine bodyPost_ret (results_ct rfl rfl (run_ld_block (setRow_heap _ _ _ _ _ _ Z5.out) Try.underlying24 rfl (by kernel_rfl))) rfl ?_
  have hD6 := ((hD5.mono (S' := fun b => (S b ∨ w.heap.size ≤ b) ∧ b ≠ w.heap.size + 1) (fun b _ h => by
    rcases h with (h | h) | h
    · exact ⟨.inl h.1, by omega⟩
    · exact ⟨.inr (by omega), by omega⟩
    · exact ⟨.inr (by omega), by omega⟩)).keep (fun b hb hs => setRow_other w5 (w.heap.size + 1) b #[.slice A5 n c5] hs.2)).mono (S' := fun b => S b ∨ w.heap.size ≤ b) (fun _ _ h => h.1)
  exact ⟨A5, c5, rfl, hD6, Below.setRow B5 (by omega) _⟩

set_option maxHeartbeats 2000000 in
theorem replace_long (A : Option Addr) (n c : Nat) (w : World) (hn : n ≤ 1000) (k : Nat) (hk : k < n) (Ab : Option Addr) (nb cb : Nat) (hlen : 65536 < nb) (hl2 : nb ≤ 100000000) :
    Calls Try.prog 20 #[.agg #[.slice A n c], .int .i64 (k : Int), .slice Ab nb cb] w fun e w' => e = .returned (.tuple #[.agg #[.slice none 0 0], .int .i64 5]) ∧ Below w.heap.size w w' := by
  obtain ⟨W, hW, hbW, hsW, hw0, hw1⟩ := two_boxes w (.slice A n c)
  have HsW := Lib.hid hsW
  have d1 : decide (65536 < nb) = true := by simpa using hlen
  have d2 : decide ((65536 : Int) < (nb : Int)) = true := by simp; omega
  go_enter Try.func20, Try.ntmps20
  go_wp2_with fail
  rw [← hW]
  clear hW hsW
  refine (missing_no _ n c k W hk hn).mono ?_
  rintro e w1 ⟨rfl, hb1⟩
  have hbb := Below.ext hbW hb1
  have z1 := (hb1.block _ (by have := HsW.out; omega)).trans hw1
  have Z5 := Lib.hid z1
  clear hw0 hw1 z1
  go_wp2_with (refine wpList_store_row rfl 24 _ _ rfl (w.heap.size + 1) 24 _ _ rfl rfl Z5.out (by kernel_rfl) rfl (by simp [Value.oneCell']) ?_)
  refine bodyPost_ret (results_ct rfl rfl (run_ld_block (setRow_heap _ _ _ _ _ _ Z5.out) Try.underlying24 rfl (by kernel_rfl))) rfl ?_
  exact ⟨rfl, Below.setRow hbb (by omega) _⟩
end Go.Proofs.Ytmbbngdhdhgliaa
