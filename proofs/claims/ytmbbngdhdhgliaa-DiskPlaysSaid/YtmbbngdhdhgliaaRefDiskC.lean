/-
  The document's disk: Read, Append, Sync, Replace; and a file that is missing.
-/
import Derived.Test.YtmbbngdhdhgliaaRefDiskB
namespace Go.Proofs.Ytmbbngdhdhgliaa
open Go.RowKit
set_option maxRecDepth 100000
set_option linter.unusedVariables false

structure Stop (p : Prop) : Prop where
  out : p

/-- a walk stops ahead of the operation that fills the slot d -/
theorem wpList_stop {P : Program} {ops : Array Oper} {Q : Exit → Act → World → Prop} {rest : List Oper} {o : Oper} {a : Act} {w : World} (d : Nat) (hd : o.dst = some d) (h : Stop (wpList P ops Q (o :: rest) a w)) : wpList P ops Q (o :: rest) a w := h.out

set_option maxHeartbeats 2000000 in
theorem refread_ok (A : Option Addr) (n c : Nat) (fs : List Fil) (S : Nat → Prop) (w : World) (hD : Dsk S w (.slice A n c) fs) (hn : n ≤ 1000) (k : Nat) (f : Fil) (hf : fs[k]? = some f) (hlen : f.s.length + f.p.length ≤ 10000000) :
    Calls Try.prog 34 #[.agg #[.slice A n c], .int .i64 (k : Int)] w fun e w' => ∃ A' c', e = .returned (.tuple #[.slice A' (f.s.length + f.p.length) c', .int .i64 0]) ∧ OwnR encB 1 w' w.heap.size 5 (.slice A' (f.s.length + f.p.length) c') (f.s ++ f.p) ∧ Below w.heap.size w w' := by
  have hk : k < n := by have := (List.getElem?_eq_some_iff.1 hf).1; have := hD.len; omega
  obtain ⟨b, off, x, f', rfl, hb, hf', hx, c0, c1⟩ := hD.at_ hk
  obtain rfl : f' = f := by rw [hf] at hf'; cases hf'; rfl
  have e1 := Lib.hid hx.s.len.1
  have e2 := Lib.hid hx.p.len.1
  have hxs : x.n1 + x.n2 ≤ 10000000 := by have := e1.out; have := e2.out; omega
  clear hf hf'
  obtain ⟨W, hW⟩ : ∃ W, W = w.alloc (.cells #[.slice (some ⟨b, off, none⟩) n c] 24) := ⟨_, rfl⟩
  have ha : Below w.heap.size w W := by rw [hW]; exact (Below.refl _ w).alloc (Nat.le_refl _) _
  have q0 : W.cell? ⟨w.heap.size, 0, none⟩ = some (.slice (some ⟨b, off, none⟩) n c) := by rw [hW]; go_simp
  have Q0 := Lib.hid q0
  clear q0
  go_enter Try.func34, Try.ntmps34
  go_wp2_with fail
  rw [← hW]
  clear hW
  refine (has_yes _ n c k W hk hn).mono ?_
  rintro e w1 ⟨rfl, hb1⟩
  have q0' := (hb1.cell (p := ⟨w.heap.size, 0, none⟩) (block_lt_of_cell Q0.out)).trans Q0.out
  have hbb := Below.ext ha hb1
  have c0' := (hbb.cell (p := ⟨b, off + k * 2, none⟩) hb).trans c0
  have c1' := (hbb.cell (p := ⟨b, off + k * 2 + 1, none⟩) hb).trans c1
  clear c0 c1
  go_wp2_with fail
  refine (all_any x f' _ w1 (hx.ext hbb) hxs).mono ?_
  rintro e w2 ⟨A', c', rfl, hown, hb2⟩
  go_wp2
  go_ret2
  refine ⟨A', c', by rw [e1.out, e2.out]; rfl, ?_, Below.ext hbb hb2⟩
  rw [e1.out, e2.out]
  exact hown.weak hbb.size

set_option maxHeartbeats 2000000 in
theorem refappend_ok (A : Option Addr) (n c : Nat) (fs : List Fil) (S : Nat → Prop) (w : World) (hD : Dsk S w (.slice A n c) fs) (hn : n ≤ 1000) (k : Nat) (f : Fil) (hf : fs[k]? = some f) (Ab : Option Addr) (nb cb : Nat) (lb : List UInt8) (hb : By S w (.slice Ab nb cb) lb) (hlen : f.s.length + f.p.length + nb ≤ 65536) :
    Calls Try.prog 31 #[.agg #[.slice A n c], .int .i64 (k : Int), .slice Ab nb cb] w fun e w' => ∃ A' c', e = .returned (.tuple #[.agg #[.slice A' n c'], .int .i64 0]) ∧ Dsk (fun b => S b ∨ w.heap.size ≤ b) w' (.slice A' n c') (fs.set k ⟨f.s, f.p ++ lb⟩) ∧ Below w.heap.size w w' := by
  have hk : k < n := by have := (List.getElem?_eq_some_iff.1 hf).1; have := hD.len; omega
  have hD0 := hD.mono (S' := fun b => S b ∧ b < w.heap.size) (fun b hb hs => ⟨hs, hb⟩)
  obtain ⟨b, off, x, f', rfl, hbl, hf', hx, c0, c1⟩ := hD0.at_ hk
  obtain rfl : f' = f := by rw [hf] at hf'; cases hf'; rfl
  have e1 := Lib.hid hx.s.len.1
  have e2 := Lib.hid hx.p.len.1
  have hxs : x.n1 + x.n2 + nb ≤ 65536 := by have := e1.out; have := e2.out; omega
  clear hf hf'
  obtain ⟨W, hW, hbW, hsW, hw0, hw1⟩ := two_boxes w (.slice (some ⟨b, off, none⟩) n c)
  have HsW := Lib.hid hsW
  have d1 : decide (65536 < x.n1 + x.n2 + nb) = false := by simp; omega
  go_enter Try.func31, Try.ntmps31
  go_wp2_with fail
  rw [← hW]
  clear hW hsW
  refine (has_yes _ n c k W hk hn).mono ?_
  rintro e w1 ⟨rfl, hb1⟩
  have hbb := Below.ext hbW hb1
  have hsz1 := hb1.size
  have z0 := (hb1.block _ (by have := HsW.out; omega)).trans hw0
  have z1 := (hb1.block _ (by have := HsW.out; omega)).trans hw1
  have q0 : w1.cell? ⟨w.heap.size, 0, none⟩ = some (.slice (some ⟨b, off, none⟩) n c) := by rw [cell_of_row _ _ _ _ _ _ z0]; rfl
  have c0' := (hbb.cell (p := ⟨b, off + k * 2, none⟩) hbl).trans c0
  have c1' := (hbb.cell (p := ⟨b, off + k * 2 + 1, none⟩) hbl).trans c1
  have H0 := Lib.hid z0
  have H1 := Lib.hid z1
  clear hw0 hw1 z0 z1 c0 c1
  obtain ⟨W1, hW1⟩ : ∃ W1, W1 = w1.alloc (.cells #[.slice x.A1 x.n1 x.c1, .slice x.A2 x.n2 x.c2] 48) := ⟨_, rfl⟩
  have hbW1 : Below w1.heap.size w1 W1 := by rw [hW1]; exact (Below.refl _ _).alloc (Nat.le_refl _) _
  have hrow1 : W1.heap[w1.heap.size]? = some (.cells #[.slice x.A1 x.n1 x.c1, .slice x.A2 x.n2 x.c2] 48 (0, 0)) := by rw [hW1]; exact heap_alloc_new _ _
  have hs1 : W1.heap.size = w1.heap.size + 1 := by rw [hW1]; simp
  have b2 := Below.ext hbb hbW1
  have Hs1 := Lib.hid hs1
  have Hrow1 := Lib.hid hrow1
  have Q0 := Lib.hid q0
  clear hs1 hrow1
  go_wp2_with (first | (refine wpList_appR (o := ⟨some 33, _, _, _, _, _⟩) encB_len encB_one (.int .u8 0) 1 _ _ 30 5 W1.heap.size [] f'.p x.A2 x.n2 x.c2 (.slice none 0 0) x.n2 rfl rfl Try.underlying30 infoB rfl (by omega) rfl rfl (OwnR.nil_ _ _ _) (by rw [← hW1]; exact hx.p.ext b2) (by simp) (by simp; omega) (by simp; omega) (by rw [← hW1]; exact Nat.le_refl _) ?_; intro A5 c5 w5 hown5 hgr5 hat5 hc51 hc52; rw [← hW1] at hgr5; rw [List.nil_append] at hown5; have b5 : Below W1.heap.size W1 w5 := ⟨hgr5.os, hgr5.tape, hgr5.output, hgr5.size, fun i hi => hgr5.block i hi (by simp [Value.ownBlock])⟩; clear hgr5 hat5) | (refine wpList_stop 35 rfl ?_))
  refine ⟨?_⟩
  (refine wpList_appR (o := ⟨some 35, _, _, _, _, _⟩) encB_len encB_one (.int .u8 0) 1 _ _ 30 5 W1.heap.size f'.p lb Ab nb cb (.slice A5 x.n2 c5) (x.n2 + nb) rfl rfl Try.underlying30 infoB rfl (by omega) rfl rfl hown5 ((hb.ext b2).ext b5) (by rw [e2.out]) (by have := e2.out; omega) (by have := e2.out; omega) b5.size ?_; intro A3 c3 w3 hown3 hgr3 hat3 hc31 hc32; have hb3 : Below W1.heap.size W1 w3 := hown5.grow hgr3 b5 (Nat.le_refl _) b5.size; have hrow3 := (hb3.block w1.heap.size (by have := Hs1.out; omega)).trans Hrow1.out; have f0 : w3.cell? ⟨w1.heap.size, 0, none⟩ = some (.slice x.A1 x.n1 x.c1) := (by rw [cell_of_row _ _ _ _ _ _ hrow3]; rfl); have f1 : w3.cell? ⟨w1.heap.size, 1, none⟩ = some (.slice x.A2 x.n2 x.c2) := (by rw [cell_of_row _ _ _ _ _ _ hrow3]; rfl); have fz : w3.frozen? ⟨w1.heap.size, 1, none⟩ = false := frozen_of_row _ _ _ _ _ hrow3; have b13 : Below w1.heap.size w1 w3 := Below.ext hbW1 hb3; have q3 := (b13.cell (p := ⟨w.heap.size, 0, none⟩) (by have := HsW.out; show w.heap.size < _; omega)).trans Q0.out; have hsz3 := b13.size; clear hgr3 hat3 q0 c0' c1' hrow3)
  go_wp2_with fail
  have hg4 : w3.grownBy (w3.setCell ⟨w1.heap.size, 1, none⟩ (.slice A3 (x.n2 + nb) c3)) (some w1.heap.size) := grown_set ⟨rfl, rfl, rfl, Nat.le_refl _, fun _ _ _ => rfl⟩
  have B4 : Below w.heap.size w (w3.setCell ⟨w1.heap.size, 1, none⟩ (.slice A3 (x.n2 + nb) c3)) := Below.grow (Below.ext hbb b13) hg4 hbb.size
  have hown4 := hown3.kept hg4 (.inr (fun e => by have := (World.ownsRow.lt hown3 _ e).1; have := Hs1.out; omega))
  have z4 := ((hg4.block (w.heap.size + 1) (by have := HsW.out; omega) (by have := HsW.out; simp; omega)).trans (b13.block _ (by have := HsW.out; omega))).trans H1.out
  have hR4 : w.heap.size + 1 < (w3.setCell ⟨w1.heap.size, 1, none⟩ (.slice A3 (x.n2 + nb) c3)).heap.size := (Array.getElem?_eq_some_iff.1 z4).1
  generalize w3.setCell ⟨w1.heap.size, 1, none⟩ (.slice A3 (x.n2 + nb) c3) = w4 at *
  have hD4 : Dsk (fun b => (S b ∨ w.heap.size ≤ b) ∧ b ≠ w.heap.size + 1) w4 (.slice (some ⟨b, off, none⟩) n c) fs := (hD0.ext B4).mono (fun _ _ h => ⟨.inl h.1, by have := h.2; omega⟩)
  have hf4 : FOk (fun b => (S b ∨ w.heap.size ≤ b) ∧ b ≠ w.heap.size + 1) w4 ⟨x.A1, x.n1, x.c1, A3, x.n2 + nb, c3⟩ ⟨f'.s, f'.p ++ lb⟩ := ⟨(hx.s.ext B4).mono (fun _ _ h => ⟨.inl h.1, by have := h.2; omega⟩), hown4.recs.mono (fun _ _ h => ⟨.inr (by have := h.1; have := Hs1.out; have := HsW.out; omega), by have := h.1; have := Hs1.out; have := HsW.out; omega⟩)⟩
  refine (set_any _ n c fs _ _ hD4 hn k hk ⟨x.A1, x.n1, x.c1, A3, x.n2 + nb, c3⟩ ⟨f'.s, f'.p ++ lb⟩ hf4).mono ?_
  rintro e w5 ⟨A5, c5, rfl, hD5, hb5⟩
  have z5 := (hb5.block _ hR4).trans z4
  have Z5 := Lib.hid z5
  clear z5 z4
  go_wp2_with (refine wpList_store_row rfl 24 _ _ rfl (w.heap.size + 1) 24 _ _ rfl rfl Z5.out (by kernel_rfl) rfl (by simp [Value.oneCell']) ?_)
  refine bodyPost_ret (results_ct rfl rfl (run_ld_block (setRow_heap _ _ _ _ _ _ Z5.out) Try.underlying24 rfl (by kernel_rfl))) rfl ?_
  have hD6 := ((hD5.mono (S' := fun b => (S b ∨ w.heap.size ≤ b) ∧ b ≠ w.heap.size + 1) (fun b _ h => by rcases h with h | h; exact h; exact ⟨.inr (by omega), by omega⟩)).keep (fun b hb hs => setRow_other w5 (w.heap.size + 1) b #[.slice A5 n c5] hs.2)).mono (S' := fun b => S b ∨ w.heap.size ≤ b) (fun _ _ h => h.1)
  exact ⟨A5, c5, rfl, hD6, Below.setRow (Below.ext B4 hb5) (by omega) _⟩

set_option maxHeartbeats 2000000 in
theorem refsync_ok (A : Option Addr) (n c : Nat) (fs : List Fil) (S : Nat → Prop) (w : World) (hD : Dsk S w (.slice A n c) fs) (hn : n ≤ 1000) (k : Nat) (f : Fil) (hf : fs[k]? = some f) (hlen : f.s.length + f.p.length ≤ 10000000) :
    Calls Try.prog 32 #[.agg #[.slice A n c], .int .i64 (k : Int)] w fun e w' => ∃ A' c', e = .returned (.tuple #[.agg #[.slice A' n c'], .int .i64 0]) ∧ Dsk (fun b => S b ∨ w.heap.size ≤ b) w' (.slice A' n c') (fs.set k ⟨f.s ++ f.p, []⟩) ∧ Below w.heap.size w w' := by
  have hk : k < n := by have := (List.getElem?_eq_some_iff.1 hf).1; have := hD.len; omega
  have hD0 := hD.mono (S' := fun b => S b ∧ b < w.heap.size) (fun b hb hs => ⟨hs, hb⟩)
  obtain ⟨b, off, x, f', rfl, hbl, hf', hx, c0, c1⟩ := hD0.at_ hk
  obtain rfl : f' = f := by rw [hf] at hf'; cases hf'; rfl
  have e1 := Lib.hid hx.s.len.1
  have e2 := Lib.hid hx.p.len.1
  have hxs : x.n1 + x.n2 ≤ 10000000 := by have := e1.out; have := e2.out; omega
  clear hf hf'
  obtain ⟨W, hW, hbW, hsW, hw0, hw1⟩ := two_boxes w (.slice (some ⟨b, off, none⟩) n c)
  have HsW := Lib.hid hsW
  go_enter Try.func32, Try.ntmps32
  go_wp2_with fail
  rw [← hW]
  clear hW hsW
  refine (has_yes _ n c k W hk hn).mono ?_
  rintro e w1 ⟨rfl, hb1⟩
  have hbb := Below.ext hbW hb1
  have hsz1 := hb1.size
  have z0 := (hb1.block _ (by have := HsW.out; omega)).trans hw0
  have z1 := (hb1.block _ (by have := HsW.out; omega)).trans hw1
  have q0 : w1.cell? ⟨w.heap.size, 0, none⟩ = some (.slice (some ⟨b, off, none⟩) n c) := by rw [cell_of_row _ _ _ _ _ _ z0]; rfl
  have c0' := (hbb.cell (p := ⟨b, off + k * 2, none⟩) hbl).trans c0
  have c1' := (hbb.cell (p := ⟨b, off + k * 2 + 1, none⟩) hbl).trans c1
  have H0 := Lib.hid z0
  have Z0R := Lib.hid z0
  have H1 := Lib.hid z1
  clear hw0 hw1 z0 z1 c0 c1
  clear H0
  have H0 := Lib.hid q0
  have c0'' := Lib.hid c0'
  have c1'' := Lib.hid c1'
  have ag22 : ∀ w : World, (isAgg 22).run Try.prog w = .ok false w := fun w => by simp [isAgg, run_underlying Try.underlying22]
  have A22 := Lib.hid ag22
  have z0r : w1.heap[w.heap.size]? = some (.cells #[.slice (some ⟨b, off, none⟩) n c] 24 (0, 0)) := Z0R.out
  have HZ0 := Lib.hid z0r
  have hbl1 : b < w1.heap.size := block_lt_of_cell c0'
  have hbR : b ≠ w.heap.size + 1 := by omega
  clear ag22 z0r q0 c0' c1'
  go_wp2_with fail
  have hcl : ∀ (w' : World) (p : Addr), Keep (· ≠ w.heap.size + 1) w1 w' → p.block < w1.heap.size → p.block ≠ w.heap.size + 1 → w'.cell? p = w1.cell? p := fun w' p hS h1 h2 => World.cell?_of_block (hS p.block h1 h2)
  have HC := Lib.hid hcl
  clear hcl
  refine wp_region_lexL (fun w' => Below w.heap.size w w' ∧ Keep (· ≠ w.heap.size + 1) w1 w') (by kernel_rfl) (by kernel_rfl) (⟨hbb.drew, fun _ _ _ => rfl⟩) ?_
  repeat (first | (refine lexL_q0 rfl ?_; go_big_quiet_step (fail); refine wpQuiet_nil ?_) | (refine lexL_skip0 rfl rfl ?_; simp only [Act.put, List.setIfInBounds_toArray, List.set_cons_succ, List.set_cons_zero]))
  refine lexL_ld (⟨w.heap.size, 0, none⟩) (.agg #[.slice (some ⟨b, off, none⟩) n c]) rfl rfl rfl (fun w' hS => run_ld_block ((hS.2 _ (by have := HsW.out; omega) (by omega)).trans HZ0.out) Try.underlying24 rfl (by kernel_rfl)) ?_
  simp only [Act.put, List.setIfInBounds_toArray, List.set_cons_succ, List.set_cons_zero]
  repeat (first | (refine lexL_q0 rfl ?_; go_big_quiet_step (fail); refine wpQuiet_nil ?_) | (refine lexL_skip0 rfl rfl ?_; simp only [Act.put, List.setIfInBounds_toArray, List.set_cons_succ, List.set_cons_zero]))
  refine lexL_ld (⟨w.heap.size, 0, none⟩) (.slice (some ⟨b, off, none⟩) n c) rfl rfl rfl (fun w' hS => run_ld1 (A22.out _) ((HC.out w' ⟨w.heap.size, 0, none⟩ hS.2 (by have := HsW.out; show w.heap.size < _; omega) (by show w.heap.size ≠ _; omega)).trans H0.out)) ?_
  simp only [Act.put, List.setIfInBounds_toArray, List.set_cons_succ, List.set_cons_zero]
  repeat (first | (refine lexL_q0 rfl ?_; go_big_quiet_step (fail); refine wpQuiet_nil ?_) | (refine lexL_skip0 rfl rfl ?_; simp only [Act.put, List.setIfInBounds_toArray, List.set_cons_succ, List.set_cons_zero]))
  refine lexL_ld (⟨b, off + k * 2, none⟩) (.agg #[.slice x.A1 x.n1 x.c1, .slice x.A2 x.n2 x.c2]) rfl rfl rfl (fun w' hS => run_loadVar_mid (P := Try.prog) w' b (off + k * 2) 48 [.slice x.A1 x.n1 x.c1, .slice x.A2 x.n2 x.c2] _ (fun j v hj => by match j, hj with | 0, hj => (cases hj; exact (HC.out w' ⟨b, off + k * 2, none⟩ hS.2 hbl1 hbR).trans c0''.out) | 1, hj => (cases hj; exact (HC.out w' ⟨b, off + k * 2 + 1, none⟩ hS.2 hbl1 hbR).trans c1''.out) | j + 2, hj => simp at hj) Try.underlying48 rfl (by kernel_rfl)) ?_
  simp only [Act.put, List.setIfInBounds_toArray, List.set_cons_succ, List.set_cons_zero]
  repeat (first | (refine lexL_q0 rfl ?_; go_big_quiet_step (fail); refine wpQuiet_nil ?_) | (refine lexL_skip0 rfl rfl ?_; simp only [Act.put, List.setIfInBounds_toArray, List.set_cons_succ, List.set_cons_zero]))
  refine lexL_e rfl ?_
  go_wp2_with fail
  refine (all_any x f' _ w1.drew ((hx.ext hbb).ext (Below.refl _ _).drew) hxs).mono ?_
  rintro e w3 ⟨A3, c3, rfl, hown3, hb3⟩
  have b13 : Below w1.heap.size w1 w3 := Below.ext (Below.refl _ _).drew hb3
  go_wp2_with fail
  refine lexL_go ⟨Below.ext hbb b13, fun j hj _ => b13.block j hj⟩ ?_
  repeat (first | (refine lexL_q0 rfl ?_; go_big_quiet_step (fail); refine wpQuiet_nil ?_) | (refine lexL_skip0 rfl rfl ?_; simp only [Act.put, List.setIfInBounds_toArray, List.set_cons_succ, List.set_cons_zero]))
  refine lexL_e rfl ?_
  go_wp2_with fail
  refine lexL_go ⟨Below.ext hbb b13, fun j hj _ => b13.block j hj⟩ ?_
  repeat (first | (refine lexL_q0 rfl ?_; go_big_quiet_step (fail); refine wpQuiet_nil ?_) | (refine lexL_skip0 rfl rfl ?_; simp only [Act.put, List.setIfInBounds_toArray, List.set_cons_succ, List.set_cons_zero]))
  refine lexL_e rfl ?_
  go_wp2_with fail
  have B4 := Below.ext hbb b13
  have z4 := (b13.block _ (by have := HsW.out; omega)).trans H1.out
  have hR4 : w.heap.size + 1 < w3.heap.size := (Array.getElem?_eq_some_iff.1 z4).1
  have hD4 : Dsk (fun b => (S b ∧ b < w.heap.size) ∨ w.heap.size + 2 ≤ b) w3 (.slice (some ⟨b, off, none⟩) n c) fs := (hD0.ext B4).mono (fun _ _ h => .inl h)
  have hf4 : FOk (fun b => (S b ∧ b < w.heap.size) ∨ w.heap.size + 2 ≤ b) w3 ⟨A3, x.n1 + x.n2, c3, none, 0, 0⟩ ⟨f'.s ++ f'.p, []⟩ := ⟨hown3.recs.mono (fun _ _ h => .inr (by have h1 : w1.heap.size ≤ _ := h.1; have := HsW.out; omega)), Recs.nil_ _ _⟩
  refine (set_any _ n c fs _ _ hD4 hn k hk ⟨A3, x.n1 + x.n2, c3, none, 0, 0⟩ ⟨f'.s ++ f'.p, []⟩ hf4).mono ?_
  rintro e w5 ⟨A5, c5, rfl, hD5, hb5⟩
  have z5 := (hb5.block _ hR4).trans z4
  have Z5 := Lib.hid z5
  clear z5 z4
  have B5 : Below w.heap.size w w5 := Below.ext B4 hb5
  have b15 := Below.ext b13 hb5
  go_wp2_with fail
  refine lexL_go (⟨B5, fun j hj _ => b15.block j hj⟩) ?_
  repeat (first | (refine lexL_q0 rfl ?_; go_big_quiet_step (fail); refine wpQuiet_nil ?_) | (refine lexL_skip0 rfl rfl ?_; simp only [Act.put, List.setIfInBounds_toArray, List.set_cons_succ, List.set_cons_zero]))
  refine lexL_e rfl ?_
  refine wpList_store_row rfl 24 _ _ rfl (w.heap.size + 1) 24 _ _ rfl rfl Z5.out (by kernel_rfl) rfl (by simp [Value.oneCell']) ?_
  refine lexL_go ⟨Below.setRow B5 (by omega) _, fun j hj hne => (setRow_other _ _ _ _ hne).trans (b15.block j hj)⟩ ?_
  simp only [Act.put]
  repeat (first | (refine lexL_q0 rfl ?_; go_big_quiet_step (fail); refine wpQuiet_nil ?_) | (refine lexL_skip0 rfl rfl ?_; simp only [Act.put, List.setIfInBounds_toArray, List.set_cons_succ, List.set_cons_zero]))
  refine lexL_nil ?_
  go_wp2_with fail
  go_wp2
  refine bodyPost_ret (results_ct rfl rfl (run_ld_block (setRow_heap _ _ _ _ _ _ Z5.out) Try.underlying24 rfl (by kernel_rfl))) rfl ?_
  have hD6 := ((hD5.mono (S' := fun b => (S b ∨ w.heap.size ≤ b) ∧ b ≠ w.heap.size + 1) (fun b _ h => by
    rcases h with (h | h) | h
    · exact ⟨.inl h.1, by omega⟩
    · exact ⟨.inr (by omega), by omega⟩
    · exact ⟨.inr (by omega), by omega⟩)).keep (fun b hb hs => setRow_other w5 (w.heap.size + 1) b #[.slice A5 n c5] hs.2)).mono (S' := fun b => S b ∨ w.heap.size ≤ b) (fun _ _ h => h.1)
  exact ⟨A5, c5, rfl, hD6, Below.setRow B5 (by omega) _⟩

set_option maxHeartbeats 2000000 in
theorem refreplace_ok (A : Option Addr) (n c : Nat) (fs : List Fil) (S : Nat → Prop) (w : World) (hD : Dsk S w (.slice A n c) fs) (hn : n ≤ 1000) (k : Nat) (hk : k < n) (Ab : Option Addr) (nb cb : Nat) (lb : List UInt8) (Sb : Nat → Prop) (hb : By Sb w (.slice Ab nb cb) lb) (hlen : nb ≤ 65536) :
    Calls Try.prog 33 #[.agg #[.slice A n c], .int .i64 (k : Int), .slice Ab nb cb] w fun e w' => ∃ A' c', e = .returned (.tuple #[.agg #[.slice A' n c'], .int .i64 0]) ∧ Dsk (fun b => S b ∨ w.heap.size ≤ b) w' (.slice A' n c') (fs.set k ⟨lb, []⟩) ∧ Below w.heap.size w w' := by
  have hD0 := hD.mono (S' := fun b => S b ∧ b < w.heap.size) (fun b hb hs => ⟨hs, hb⟩)
  obtain ⟨W, hW, hbW, hsW, hw0, hw1⟩ := two_boxes w (.slice A n c)
  have HsW := Lib.hid hsW
  have d1 : decide (65536 < nb) = false := by simpa using hlen
  have d2 : decide ((65536 : Int) < (nb : Int)) = false := by simp; omega
  go_enter Try.func33, Try.ntmps33
  go_wp2_with fail
  rw [← hW]
  clear hW hsW
  refine (has_yes _ n c k W hk hn).mono ?_
  rintro e w1 ⟨rfl, hb1⟩
  have hbb := Below.ext hbW hb1
  have hsz1 := hb1.size
  have z0 := (hb1.block _ (by have := HsW.out; omega)).trans hw0
  have z1 := (hb1.block _ (by have := HsW.out; omega)).trans hw1
  have H0 := Lib.hid z0
  have H1 := Lib.hid z1
  clear hw0 hw1 z0 z1
  go_wp2_with fail
  refine wp_region_lexL (fun w' => Below w.heap.size w w' ∧ Keep (· ≠ w.heap.size + 1) w1 w') (by kernel_rfl) (by kernel_rfl) (⟨hbb.drew, fun _ _ _ => rfl⟩) ?_
  repeat (first | (refine lexL_q0 rfl ?_; go_big_quiet_step (fail); refine wpQuiet_nil ?_) | (refine lexL_skip0 rfl rfl ?_; simp only [Act.put, List.setIfInBounds_toArray, List.set_cons_succ, List.set_cons_zero]))
  refine lexL_ld (⟨w.heap.size, 0, none⟩) (.agg #[.slice A n c]) rfl rfl rfl (fun w' hS => run_ld_block ((hS.2 _ (by have := HsW.out; omega) (by omega)).trans H0.out) Try.underlying24 rfl (by kernel_rfl)) ?_
  simp only [Act.put, List.setIfInBounds_toArray, List.set_cons_succ, List.set_cons_zero]
  repeat (first | (refine lexL_q0 rfl ?_; go_big_quiet_step (fail); refine wpQuiet_nil ?_) | (refine lexL_skip0 rfl rfl ?_; simp only [Act.put, List.setIfInBounds_toArray, List.set_cons_succ, List.set_cons_zero]))
  refine lexL_e rfl ?_
  refine wpList_appR encB_len encB_one (.int .u8 0) 1 _ _ 30 5 w1.heap.size [] lb Ab nb cb (.slice none 0 0) nb rfl rfl Try.underlying30 infoB rfl (by omega) rfl rfl (OwnR.nil_ _ _ _) ((hb.ext hbb).ext (w' := w1.drew) (Below.refl _ _).drew) (by simp) (by simp; omega) (by simp; omega) (Nat.le_refl _) ?_
  intro A3 c3 w3 hown3 hgr3 hat3 hc31 hc32
  have b13 : Below w1.heap.size w1 w3 := ⟨hgr3.os, hgr3.tape, hgr3.output, hgr3.size, fun i hi => hgr3.block i hi (by simp [Value.ownBlock])⟩
  rw [List.nil_append] at hown3
  clear hgr3 hat3
  refine lexL_go ⟨Below.ext hbb b13, fun j hj _ => b13.block j hj⟩ ?_
  simp only [Act.put, List.setIfInBounds_toArray, List.set_cons_succ, List.set_cons_zero]
  repeat (first | (refine lexL_q0 rfl ?_; go_big_quiet_step (fail); refine wpQuiet_nil ?_) | (refine lexL_skip0 rfl rfl ?_; simp only [Act.put, List.setIfInBounds_toArray, List.set_cons_succ, List.set_cons_zero]))
  refine lexL_e rfl ?_
  go_wp2_with fail
  refine lexL_go ⟨Below.ext hbb b13, fun j hj _ => b13.block j hj⟩ ?_
  repeat (first | (refine lexL_q0 rfl ?_; go_big_quiet_step (fail); refine wpQuiet_nil ?_) | (refine lexL_skip0 rfl rfl ?_; simp only [Act.put, List.setIfInBounds_toArray, List.set_cons_succ, List.set_cons_zero]))
  refine lexL_e rfl ?_
  go_wp2_with fail
  have B4 := Below.ext hbb b13
  have z4 := (b13.block _ (by have := HsW.out; omega)).trans H1.out
  have hR4 : w.heap.size + 1 < w3.heap.size := (Array.getElem?_eq_some_iff.1 z4).1
  have hD4 : Dsk (fun b => (S b ∧ b < w.heap.size) ∨ w.heap.size + 2 ≤ b) w3 (.slice A n c) fs := (hD0.ext B4).mono (fun _ _ h => .inl h)
  have hf4 : FOk (fun b => (S b ∧ b < w.heap.size) ∨ w.heap.size + 2 ≤ b) w3 ⟨A3, nb, c3, none, 0, 0⟩ ⟨lb, []⟩ := ⟨hown3.recs.mono (fun _ _ h => .inr (by have h1 : w1.heap.size ≤ _ := h.1; have := HsW.out; omega)), Recs.nil_ _ _⟩
  refine (set_any _ n c fs _ _ hD4 hn k hk ⟨A3, nb, c3, none, 0, 0⟩ ⟨lb, []⟩ hf4).mono ?_
  rintro e w5 ⟨A5, c5, rfl, hD5, hb5⟩
  have z5 := (hb5.block _ hR4).trans z4
  have Z5 := Lib.hid z5
  clear z5 z4
  have B5 : Below w.heap.size w w5 := Below.ext B4 hb5
  have b15 := Below.ext b13 hb5
  go_wp2_with fail
  refine lexL_go (⟨B5, fun j hj _ => b15.block j hj⟩) ?_
  repeat (first | (refine lexL_q0 rfl ?_; go_big_quiet_step (fail); refine wpQuiet_nil ?_) | (refine lexL_skip0 rfl rfl ?_; simp only [Act.put, List.setIfInBounds_toArray, List.set_cons_succ, List.set_cons_zero]))
  refine lexL_e rfl ?_
  refine wpList_store_row rfl 24 _ _ rfl (w.heap.size + 1) 24 _ _ rfl rfl Z5.out (by kernel_rfl) rfl (by simp [Value.oneCell']) ?_
  refine lexL_go ⟨Below.setRow B5 (by omega) _, fun j hj hne => (setRow_other _ _ _ _ hne).trans (b15.block j hj)⟩ ?_
  simp only [Act.put]
  repeat (first | (refine lexL_q0 rfl ?_; go_big_quiet_step (fail); refine wpQuiet_nil ?_) | (refine lexL_skip0 rfl rfl ?_; simp only [Act.put, List.setIfInBounds_toArray, List.set_cons_succ, List.set_cons_zero]))
  refine lexL_nil ?_
  go_wp2_with fail
  go_wp2
  refine bodyPost_ret (results_ct rfl rfl (run_ld_block (setRow_heap _ _ _ _ _ _ Z5.out) Try.underlying24 rfl (by kernel_rfl))) rfl ?_
  have hD6 := ((hD5.mono (S' := fun b => (S b ∨ w.heap.size ≤ b) ∧ b ≠ w.heap.size + 1) (fun b _ h => by
    rcases h with (h | h) | h
    · exact ⟨.inl h.1, by omega⟩
    · exact ⟨.inr (by omega), by omega⟩
    · exact ⟨.inr (by omega), by omega⟩)).keep (fun b hb hs => setRow_other w5 (w.heap.size + 1) b #[.slice A5 n c5] hs.2)).mono (S' := fun b => S b ∨ w.heap.size ≤ b) (fun _ _ h => h.1)
  exact ⟨A5, c5, rfl, hD6, Below.setRow B5 (by omega) _⟩


set_option maxHeartbeats 1000000 in
theorem append_no (A : Option Addr) (n c : Nat) (k : Int) (hk : k < 0 ∨ (n : Int) ≤ k) (hn : n ≤ 1000) (Ab : Option Addr) (nb cb : Nat) (w : World) :
    Calls Try.prog 14 #[.agg #[.slice A n c], .int .i64 k, .slice Ab nb cb] w fun e w' => e = .returned (.tuple #[.agg #[.slice none 0 0], .int .i64 11]) ∧ Below w.heap.size w w' := by
  obtain ⟨W, hW, hbW, hsW, hw0, hw1⟩ := two_boxes w (.slice A n c)
  have HsW := Lib.hid hsW
  go_enter Try.func14, Try.ntmps14
  go_wp2_with fail
  rw [← hW]
  clear hW hsW
  refine (missing_yes _ n c k W hk hn).mono ?_
  rintro e w1 ⟨rfl, hb1⟩
  have hbb := Below.ext hbW hb1
  have Z5 := Lib.hid ((hb1.block _ (by have := HsW.out; omega)).trans hw1)
  clear hw0 hw1
  go_wp2_with (refine wpList_store_row rfl 24 _ _ rfl (w.heap.size + 1) 24 _ _ rfl rfl Z5.out (by kernel_rfl) rfl (by simp [Value.oneCell']) ?_)
  refine bodyPost_ret (results_ct rfl rfl (run_ld_block (setRow_heap _ _ _ _ _ _ Z5.out) Try.underlying24 rfl (by kernel_rfl))) rfl ?_
  exact ⟨rfl, Below.setRow hbb (by omega) _⟩

set_option maxHeartbeats 1000000 in
theorem replace_no (A : Option Addr) (n c : Nat) (k : Int) (hk : k < 0 ∨ (n : Int) ≤ k) (hn : n ≤ 1000) (Ab : Option Addr) (nb cb : Nat) (w : World) :
    Calls Try.prog 20 #[.agg #[.slice A n c], .int .i64 k, .slice Ab nb cb] w fun e w' => e = .returned (.tuple #[.agg #[.slice none 0 0], .int .i64 11]) ∧ Below w.heap.size w w' := by
  obtain ⟨W, hW, hbW, hsW, hw0, hw1⟩ := two_boxes w (.slice A n c)
  have HsW := Lib.hid hsW
  go_enter Try.func20, Try.ntmps20
  go_wp2_with fail
  rw [← hW]
  clear hW hsW
  refine (missing_yes _ n c k W hk hn).mono ?_
  rintro e w1 ⟨rfl, hb1⟩
  have hbb := Below.ext hbW hb1
  have Z5 := Lib.hid ((hb1.block _ (by have := HsW.out; omega)).trans hw1)
  clear hw0 hw1
  go_wp2_with (refine wpList_store_row rfl 24 _ _ rfl (w.heap.size + 1) 24 _ _ rfl rfl Z5.out (by kernel_rfl) rfl (by simp [Value.oneCell']) ?_)
  refine bodyPost_ret (results_ct rfl rfl (run_ld_block (setRow_heap _ _ _ _ _ _ Z5.out) Try.underlying24 rfl (by kernel_rfl))) rfl ?_
  exact ⟨rfl, Below.setRow hbb (by omega) _⟩

set_option maxHeartbeats 1000000 in
theorem sync_no (A : Option Addr) (n c : Nat) (k : Int) (hk : k < 0 ∨ (n : Int) ≤ k) (hn : n ≤ 1000) (w : World) :
    Calls Try.prog 17 #[.agg #[.slice A n c], .int .i64 k] w fun e w' => e = .returned (.tuple #[.agg #[.slice none 0 0], .int .i64 11]) ∧ Below w.heap.size w w' := by
  obtain ⟨W, hW, hbW, hsW, hw0, hw1⟩ := two_boxes w (.slice A n c)
  have HsW := Lib.hid hsW
  go_enter Try.func17, Try.ntmps17
  go_wp2_with fail
  rw [← hW]
  clear hW hsW
  refine (missing_yes _ n c k W hk hn).mono ?_
  rintro e w1 ⟨rfl, hb1⟩
  have hbb := Below.ext hbW hb1
  have Z5 := Lib.hid ((hb1.block _ (by have := HsW.out; omega)).trans hw1)
  clear hw0 hw1
  go_wp2_with (refine wpList_store_row rfl 24 _ _ rfl (w.heap.size + 1) 24 _ _ rfl rfl Z5.out (by kernel_rfl) rfl (by simp [Value.oneCell']) ?_)
  refine bodyPost_ret (results_ct rfl rfl (run_ld_block (setRow_heap _ _ _ _ _ _ Z5.out) Try.underlying24 rfl (by kernel_rfl))) rfl ?_
  exact ⟨rfl, Below.setRow hbb (by omega) _⟩

set_option maxHeartbeats 1000000 in
theorem read_no (A : Option Addr) (n c : Nat) (k : Int) (hk : k < 0 ∨ (n : Int) ≤ k) (hn : n ≤ 1000) (w : World) :
    Calls Try.prog 15 #[.agg #[.slice A n c], .int .i64 k] w fun e w' => e = .returned (.tuple #[.slice none 0 0, .int .i64 11]) ∧ Below w.heap.size w w' := by
  obtain ⟨W, hW⟩ : ∃ W, W = w.alloc (.cells #[.slice A n c] 24) := ⟨_, rfl⟩
  have ha : Below w.heap.size w W := by rw [hW]; exact (Below.refl _ w).alloc (Nat.le_refl _) _
  go_enter Try.func15, Try.ntmps15
  go_wp2_with fail
  rw [← hW]
  clear hW
  refine (missing_yes _ n c k W hk hn).mono ?_
  rintro e w1 ⟨rfl, hb1⟩
  go_wp2
  go_ret2
  exact ⟨rfl, Below.ext ha hb1⟩

set_option maxHeartbeats 1000000 in
theorem refappend_no (A : Option Addr) (n c : Nat) (k : Int) (hk : k < 0 ∨ (n : Int) ≤ k) (hn : n ≤ 1000) (Ab : Option Addr) (nb cb : Nat) (w : World) :
    Calls Try.prog 31 #[.agg #[.slice A n c], .int .i64 k, .slice Ab nb cb] w fun e w' => e = .returned (.tuple #[.agg #[.slice none 0 0], .int .i64 11]) ∧ Below w.heap.size w w' := by
  obtain ⟨W, hW, hbW, hsW, hw0, hw1⟩ := two_boxes w (.slice A n c)
  have HsW := Lib.hid hsW
  go_enter Try.func31, Try.ntmps31
  go_wp2_with fail
  rw [← hW]
  clear hW hsW
  refine (has_no _ n c k W hk hn).mono ?_
  rintro e w1 ⟨rfl, hb1⟩
  have hbb := Below.ext hbW hb1
  have Z5 := Lib.hid ((hb1.block _ (by have := HsW.out; omega)).trans hw1)
  clear hw0 hw1
  go_wp2_with (refine wpList_store_row rfl 24 _ _ rfl (w.heap.size + 1) 24 _ _ rfl rfl Z5.out (by kernel_rfl) rfl (by simp [Value.oneCell']) ?_)
  refine bodyPost_ret (results_ct rfl rfl (run_ld_block (setRow_heap _ _ _ _ _ _ Z5.out) Try.underlying24 rfl (by kernel_rfl))) rfl ?_
  exact ⟨rfl, Below.setRow hbb (by omega) _⟩

set_option maxHeartbeats 1000000 in
theorem refreplace_no (A : Option Addr) (n c : Nat) (k : Int) (hk : k < 0 ∨ (n : Int) ≤ k) (hn : n ≤ 1000) (Ab : Option Addr) (nb cb : Nat) (w : World) :
    Calls Try.prog 33 #[.agg #[.slice A n c], .int .i64 k, .slice Ab nb cb] w fun e w' => e = .returned (.tuple #[.agg #[.slice none 0 0], .int .i64 11]) ∧ Below w.heap.size w w' := by
  obtain ⟨W, hW, hbW, hsW, hw0, hw1⟩ := two_boxes w (.slice A n c)
  have HsW := Lib.hid hsW
  go_enter Try.func33, Try.ntmps33
  go_wp2_with fail
  rw [← hW]
  clear hW hsW
  refine (has_no _ n c k W hk hn).mono ?_
  rintro e w1 ⟨rfl, hb1⟩
  have hbb := Below.ext hbW hb1
  have Z5 := Lib.hid ((hb1.block _ (by have := HsW.out; omega)).trans hw1)
  clear hw0 hw1
  go_wp2_with (refine wpList_store_row rfl 24 _ _ rfl (w.heap.size + 1) 24 _ _ rfl rfl Z5.out (by kernel_rfl) rfl (by simp [Value.oneCell']) ?_)
  refine bodyPost_ret (results_ct rfl rfl (run_ld_block (setRow_heap _ _ _ _ _ _ Z5.out) Try.underlying24 rfl (by kernel_rfl))) rfl ?_
  exact ⟨rfl, Below.setRow hbb (by omega) _⟩

set_option maxHeartbeats 1000000 in
theorem refsync_no (A : Option Addr) (n c : Nat) (k : Int) (hk : k < 0 ∨ (n : Int) ≤ k) (hn : n ≤ 1000) (w : World) :
    Calls Try.prog 32 #[.agg #[.slice A n c], .int .i64 k] w fun e w' => e = .returned (.tuple #[.agg #[.slice none 0 0], .int .i64 11]) ∧ Below w.heap.size w w' := by
  obtain ⟨W, hW, hbW, hsW, hw0, hw1⟩ := two_boxes w (.slice A n c)
  have HsW := Lib.hid hsW
  go_enter Try.func32, Try.ntmps32
  go_wp2_with fail
  rw [← hW]
  clear hW hsW
  refine (has_no _ n c k W hk hn).mono ?_
  rintro e w1 ⟨rfl, hb1⟩
  have hbb := Below.ext hbW hb1
  have Z5 := Lib.hid ((hb1.block _ (by have := HsW.out; omega)).trans hw1)
  clear hw0 hw1
  go_wp2_with (refine wpList_store_row rfl 24 _ _ rfl (w.heap.size + 1) 24 _ _ rfl rfl Z5.out (by kernel_rfl) rfl (by simp [Value.oneCell']) ?_)
  refine bodyPost_ret (results_ct rfl rfl (run_ld_block (setRow_heap _ _ _ _ _ _ Z5.out) Try.underlying24 rfl (by kernel_rfl))) rfl ?_
  exact ⟨rfl, Below.setRow hbb (by omega) _⟩

set_option maxHeartbeats 1000000 in
theorem refread_no (A : Option Addr) (n c : Nat) (k : Int) (hk : k < 0 ∨ (n : Int) ≤ k) (hn : n ≤ 1000) (w : World) :
    Calls Try.prog 34 #[.agg #[.slice A n c], .int .i64 k] w fun e w' => e = .returned (.tuple #[.slice none 0 0, .int .i64 11]) ∧ Below w.heap.size w w' := by
  obtain ⟨W, hW⟩ : ∃ W, W = w.alloc (.cells #[.slice A n c] 24) := ⟨_, rfl⟩
  have ha : Below w.heap.size w W := by rw [hW]; exact (Below.refl _ w).alloc (Nat.le_refl _) _
  go_enter Try.func34, Try.ntmps34
  go_wp2_with fail
  rw [← hW]
  clear hW
  refine (has_no _ n c k W hk hn).mono ?_
  rintro e w1 ⟨rfl, hb1⟩
  go_wp2
  go_ret2
  exact ⟨rfl, Below.ext ha hb1⟩
end Go.Proofs.Ytmbbngdhdhgliaa
