/-
  The document's disk: has, set, New, all, Read, Append, Sync, Replace; and what is missing.
-/
import Derived.Test.YtmbbngdhdhgliaaSameDisk
namespace Go.Proofs.Ytmbbngdhdhgliaa
open Go.RowKit
set_option maxRecDepth 100000
set_option linter.unusedVariables false

set_option maxHeartbeats 1000000 in
theorem refnew_ok (n : Nat) (hn : n ≤ 16) (w : World) :
    Calls Try.prog 21 #[.int .i64 (n : Int)] w fun e w' => ∃ A c, e = .returned (.tuple #[.agg #[.slice A n c], .int .i64 0]) ∧ Dsk (fun b => w.heap.size < b) w' (.slice A n c) (List.replicate n zFil) ∧ Below w.heap.size w w' := by
  have d0 : decide ((n : Int) < 0) = false := by simp
  have d1 : decide (16 < n) = false := by simp; omega
  have d2 : decide ((16 : Int) < (n : Int)) = false := by simp; omega
  have hmk := mkFiles n (by omega)
  have hz0 : (w.alloc (.cells #[.slice none 0 0] 24)).heap[w.heap.size]? = some (.cells #[.slice none 0 0] 24 (0, 0)) := heap_alloc_new w _
  have hown := mkOwn n (by omega) (w.alloc (.cells #[.slice none 0 0] 24))
  rw [World.size_alloc] at hown
  have ha : ∀ o, Below (w.alloc (.cells #[.slice none 0 0] 24)).heap.size (w.alloc (.cells #[.slice none 0 0] 24)) ((w.alloc (.cells #[.slice none 0 0] 24)).alloc o) := fun o => (Below.refl _ _).alloc (Nat.le_refl _) o
  have hz1 := fun o => ((ha o).block w.heap.size (by simp)).trans hz0
  have hb1 : ∀ o, Below w.heap.size w ((w.alloc (.cells #[.slice none 0 0] 24)).alloc o) := fun o => Below.ext ((Below.refl _ w).alloc (Nat.le_refl _) _) (ha o)
  have Hz1 := Lib.hid hz1
  have Hown := Lib.hid hown
  clear hz0 hz1 hown
  go_enter Try.func21, Try.ntmps21
  go_wp2_with (refine wpList_store_row rfl 24 _ _ rfl w.heap.size 24 _ _ rfl rfl (Hz1.out _) (by kernel_rfl) rfl (by simp [Value.oneCell']) ?_)
  refine bodyPost_ret (results_ct rfl rfl (run_ld_block (setRow_heap _ _ _ _ _ _ (Hz1.out _)) Try.underlying24 rfl (by kernel_rfl))) rfl ?_
  refine ⟨_, _, rfl, zero_dsk (Recs.mono (OwnR.recs (OwnR.kept Hown.out (grown_setRow _ w.heap.size _) (.inr (fun e => ?_)))) (fun _ _ h => h.1)), Below.setRow (hb1 _) (Nat.le_refl _) _⟩
  have := (World.ownsRow.lt Hown.out _ e).1
  omega


set_option maxHeartbeats 1000000 in
theorem new_err (k : Int) (hk : k < 0 ∨ 16 < k) (w : World) :
    Calls Try.prog 13 #[.int .i64 k] w fun e w' => e = .returned (.tuple #[.agg #[.slice none 0 0], .int .i64 3]) ∧ Below w.heap.size w w' := by
  have hz0 : (w.alloc (.cells #[.slice none 0 0] 24)).heap[w.heap.size]? = some (.cells #[.slice none 0 0] 24 (0, 0)) := heap_alloc_new w _
  have Z := Lib.hid hz0
  have ha : Below w.heap.size w (w.alloc (.cells #[.slice none 0 0] 24)) := (Below.refl _ _).alloc (Nat.le_refl _) _
  clear hz0
  by_cases h0 : k < 0
  · have d0 : decide (k < 0) = true := by simpa using h0
    go_enter Try.func13, Try.ntmps13
    go_wp2_with (refine wpList_store_row rfl 24 _ _ rfl w.heap.size 24 _ _ rfl rfl Z.out (by kernel_rfl) rfl (by simp [Value.oneCell']) ?_)
    refine bodyPost_ret (results_ct rfl rfl (run_ld_block (setRow_heap _ _ _ _ _ _ Z.out) Try.underlying24 rfl (by kernel_rfl))) rfl ?_
    exact ⟨rfl, Below.setRow ha (Nat.le_refl _) _⟩
  · have d0 : decide (k < 0) = false := by simpa using h0
    have d1 : decide (16 < k) = true := by simp; omega
    go_enter Try.func13, Try.ntmps13
    go_wp2_with (refine wpList_store_row rfl 24 _ _ rfl w.heap.size 24 _ _ rfl rfl Z.out (by kernel_rfl) rfl (by simp [Value.oneCell']) ?_)
    refine bodyPost_ret (results_ct rfl rfl (run_ld_block (setRow_heap _ _ _ _ _ _ Z.out) Try.underlying24 rfl (by kernel_rfl))) rfl ?_
    exact ⟨rfl, Below.setRow ha (Nat.le_refl _) _⟩

set_option maxHeartbeats 1000000 in
theorem refnew_err (k : Int) (hk : k < 0 ∨ 16 < k) (w : World) :
    Calls Try.prog 21 #[.int .i64 k] w fun e w' => e = .returned (.tuple #[.agg #[.slice none 0 0], .int .i64 3]) ∧ Below w.heap.size w w' := by
  have hz0 : (w.alloc (.cells #[.slice none 0 0] 24)).heap[w.heap.size]? = some (.cells #[.slice none 0 0] 24 (0, 0)) := heap_alloc_new w _
  have Z := Lib.hid hz0
  have ha : Below w.heap.size w (w.alloc (.cells #[.slice none 0 0] 24)) := (Below.refl _ _).alloc (Nat.le_refl _) _
  clear hz0
  by_cases h0 : k < 0
  · have d0 : decide (k < 0) = true := by simpa using h0
    go_enter Try.func21, Try.ntmps21
    go_wp2_with (refine wpList_store_row rfl 24 _ _ rfl w.heap.size 24 _ _ rfl rfl Z.out (by kernel_rfl) rfl (by simp [Value.oneCell']) ?_)
    refine bodyPost_ret (results_ct rfl rfl (run_ld_block (setRow_heap _ _ _ _ _ _ Z.out) Try.underlying24 rfl (by kernel_rfl))) rfl ?_
    exact ⟨rfl, Below.setRow ha (Nat.le_refl _) _⟩
  · have d0 : decide (k < 0) = false := by simpa using h0
    have d1 : decide (16 < k) = true := by simp; omega
    go_enter Try.func21, Try.ntmps21
    go_wp2_with (refine wpList_store_row rfl 24 _ _ rfl w.heap.size 24 _ _ rfl rfl Z.out (by kernel_rfl) rfl (by simp [Value.oneCell']) ?_)
    refine bodyPost_ret (results_ct rfl rfl (run_ld_block (setRow_heap _ _ _ _ _ _ Z.out) Try.underlying24 rfl (by kernel_rfl))) rfl ?_
    exact ⟨rfl, Below.setRow ha (Nat.le_refl _) _⟩

set_option maxHeartbeats 1000000 in
theorem has_yes (A : Option Addr) (n c k : Nat) (w : World) (hk : k < n) (hn : n ≤ 1000) :
    Calls Try.prog 39 #[.agg #[.slice A n c], .int .i64 (k : Int)] w fun e w' => e = .returned (.bool true) ∧ Below w.heap.size w w' := by
  have d0 : decide ((0 : Int) ≤ (k : Int)) = true := by simp
  have d1 : decide (k < n) = true := by simpa using hk
  go_enter Try.func39, Try.ntmps39
  go_wp2
  go_ret
  exact ⟨rfl, (Below.refl _ w).alloc (Nat.le_refl _) _⟩
set_option maxHeartbeats 1000000 in
theorem has_no (A : Option Addr) (n c : Nat) (k : Int) (w : World) (hk : k < 0 ∨ (n : Int) ≤ k) (hn : n ≤ 1000) :
    Calls Try.prog 39 #[.agg #[.slice A n c], .int .i64 k] w fun e w' => e = .returned (.bool false) ∧ Below w.heap.size w w' := by
  by_cases h0 : k < 0
  · have d0 : decide (0 ≤ k) = false := by simp; omega
    go_enter Try.func39, Try.ntmps39
    go_wp2
    go_ret
    exact ⟨rfl, (Below.refl _ w).alloc (Nat.le_refl _) _⟩
  · have d0 : decide (0 ≤ k) = true := by simp; omega
    have d1 : decide (k < (n : Int)) = false := by simp; omega
    go_enter Try.func39, Try.ntmps39
    go_wp2
    go_ret
    exact ⟨rfl, (Below.refl _ w).alloc (Nat.le_refl _) _⟩

set_option maxHeartbeats 2000000 in
theorem set_any (A : Option Addr) (n c : Nat) (fs : List Fil) (S : Nat → Prop) (w : World) (hD : Dsk S w (.slice A n c) fs) (hn : n ≤ 1000) (k : Nat) (hk : k < n) (x : FV) (f : Fil) (hf : FOk S w x f) :
    Calls Try.prog 40 #[.agg #[.slice A n c], .int .i64 (k : Int), .agg #[.slice x.A1 x.n1 x.c1, .slice x.A2 x.n2 x.c2]] w fun e w' => ∃ A' c', e = .returned (.agg #[.slice A' n c']) ∧ Dsk (fun b => S b ∨ w.heap.size ≤ b) w' (.slice A' n c') (fs.set k f) ∧ Below w.heap.size w w' := by
  obtain ⟨xs, hR, hxl, hok⟩ := hD
  have hxn := hR.len
  obtain ⟨W, hW⟩ : ∃ W, W = ((w.alloc (.cells #[.slice A n c] 24)).alloc (.cells #[.slice x.A1 x.n1 x.c1, .slice x.A2 x.n2 x.c2] 48)).alloc (.cells #[.slice none 0 0] 24) := ⟨_, rfl⟩
  have hbW : Below w.heap.size w W := by rw [hW]; exact (((Below.refl _ w).alloc (Nat.le_refl _) _).alloc (by simp) _).alloc (by simp; omega) _
  have hsW : W.heap.size = w.heap.size + 3 := by rw [hW]; simp
  have q0 : W.cell? ⟨w.heap.size + 1, 0, none⟩ = some (.slice x.A1 x.n1 x.c1) := by rw [hW]; go_simp
  have q1 : W.cell? ⟨w.heap.size + 1, 1, none⟩ = some (.slice x.A2 x.n2 x.c2) := by rw [hW]; go_simp
  have hz : W.heap[w.heap.size + 1 + 1]? = some (.cells #[.slice none 0 0] 24 (0, 0)) := by
    rw [hW]
    have := heap_alloc_new ((w.alloc (.cells #[.slice A n c] 24)).alloc (.cells #[.slice x.A1 x.n1 x.c1, .slice x.A2 x.n2 x.c2] 48)) (.cells #[.slice none 0 0] 24)
    rw [World.size_alloc, World.size_alloc] at this
    exact this
  have HsW := Lib.hid hsW
  have Q0 := Lib.hid q0
  have Q1 := Lib.hid q1
  have Z := Lib.hid hz
  clear hsW q0 q1 hz
  go_enter Try.func40, Try.ntmps40
  go_wp2_with (first | (refine wpList_appR (o := ⟨some 10, _, _, _, _, _⟩) encF_len encF_one zeroF 48 _ _ 22 48 W.heap.size [] xs A n c (.slice none 0 0) n rfl rfl Try.underlying22 infoF rfl (by omega) rfl rfl (OwnR.nil_ _ _ _) (D := S) (by rw [← hW]; exact hR.ext hbW) (by simp) (by simp; omega) (by simp; omega) (by rw [← hW]; exact Nat.le_refl _) ?_; intro A1 c1 w1 hown1 hgr1 hat1 hc11 hc12; obtain ⟨g, rfl, hg1, hg2⟩ := OwnR.some_ hown1 (by simp; omega); rw [← hW] at hgr1; rw [List.nil_append] at hown1; have hb1 : Below W.heap.size W w1 := ⟨hgr1.os, hgr1.tape, hgr1.output, hgr1.size, fun i hi => hgr1.block i hi (by simp [Value.ownBlock])⟩; obtain ⟨⟨u0, hu0⟩, hf0⟩ := hown1.cellF hk 0 (by omega); obtain ⟨⟨u1, hu1⟩, hf1⟩ := hown1.cellF hk 1 (by omega); rw [Nat.add_zero] at hu0 hf0; have q0' := (hb1.cell (p := ⟨w.heap.size + 1, 0, none⟩) (by have := HsW.out; simp; omega)).trans Q0.out; have q1' := (hb1.cell (p := ⟨w.heap.size + 1, 1, none⟩) (by have := HsW.out; simp; omega)).trans Q1.out; have hgr2 : w1.grownBy ((w1.setCell ⟨g, k * 2, none⟩ (.slice x.A1 x.n1 x.c1)).setCell ⟨g, k * 2 + 1, none⟩ (.slice x.A2 x.n2 x.c2)) (some g) := grown_set' (grown_set' ⟨rfl, rfl, rfl, Nat.le_refl _, fun _ _ _ => rfl⟩); have Hz2 := Lib.hid ((hgr2.block (w.heap.size + 1 + 1) (by have := hb1.size; have := HsW.out; omega) (by have := HsW.out; simp; omega)).trans ((hb1.block _ (by have := HsW.out; omega)).trans Z.out)); have Hown2 := Lib.hid (hown1.setF x hk); have Hgr2 := Lib.hid hgr2; clear hgr2 hgr1 hat1) | (refine wpList_store_row rfl 24 _ _ rfl (w.heap.size + 1 + 1) 24 _ _ rfl rfl Hz2.out (by kernel_rfl) rfl (by simp [Value.oneCell']) ?_))
  refine bodyPost_ret (results_c rfl rfl (run_ld_block (setRow_heap _ _ _ _ _ _ Hz2.out) Try.underlying24 rfl (by kernel_rfl))) rfl ?_
  have hbf : Below w.heap.size w (((w1.setCell ⟨g, k * 2, none⟩ (.slice x.A1 x.n1 x.c1)).setCell ⟨g, k * 2 + 1, none⟩ (.slice x.A2 x.n2 x.c2)).setRow (w.heap.size + 1 + 1) #[.slice (some ⟨g, 0, none⟩) n c1]) :=
    Below.setRow (Below.grow (Below.ext hbW hb1) Hgr2.out (by have := HsW.out; omega)) (by omega) _
  refine ⟨_, _, rfl, ⟨xs.set k x, Recs.mono (OwnR.recs (OwnR.kept (row := some (w.heap.size + 1 + 1)) Hown2.out ⟨rfl, rfl, rfl, by simp, fun j hj hne => setRow_other _ _ _ _ (by simpa using hne)⟩ (.inr (fun e => ?_)))) (fun _ _ h => .inr (by have := h.1; have := HsW.out; omega)), by simp [hxl], fun i y h hy hh => ?_⟩, hbf⟩
  · have := (World.ownsRow.lt Hown2.out _ e).1
    have := HsW.out
    omega
  · by_cases hik : k = i
    · subst hik
      rw [List.getElem?_set_self (by omega)] at hy hh
      cases hy
      cases hh
      exact (hf.ext hbf).mono (fun _ _ h => .inl h)
    · rw [List.getElem?_set_ne hik] at hy hh
      exact ((hok i y h hy hh).ext hbf).mono (fun _ _ h => .inl h)

set_option maxHeartbeats 2000000 in
theorem all_any (x : FV) (f : Fil) (S : Nat → Prop) (w : World) (hx : FOk S w x f) (hlen : x.n1 + x.n2 ≤ 10000000) :
    Calls Try.prog 41 #[.agg #[.slice x.A1 x.n1 x.c1, .slice x.A2 x.n2 x.c2]] w fun e w' => ∃ A' c', e = .returned (.slice A' (x.n1 + x.n2) c') ∧ OwnR encB 1 w' w.heap.size 5 (.slice A' (x.n1 + x.n2) c') (f.s ++ f.p) ∧ Below w.heap.size w w' := by
  obtain ⟨W, hW⟩ : ∃ W, W = w.alloc (.cells #[.slice x.A1 x.n1 x.c1, .slice x.A2 x.n2 x.c2] 48) := ⟨_, rfl⟩
  have haW : Below w.heap.size w W := by rw [hW]; exact (Below.refl _ _).alloc (Nat.le_refl _) _
  have rW : W.heap[w.heap.size]? = some (.cells #[.slice x.A1 x.n1 x.c1, .slice x.A2 x.n2 x.c2] 48 (0, 0)) := by rw [hW]; exact heap_alloc_new _ _
  have hsW : w.heap.size < W.heap.size := (Array.getElem?_eq_some_iff.1 rW).1
  have RW := Lib.hid rW
  have ag30 : ∀ w : World, (isAgg 30).run Try.prog w = .ok false w := fun w => by simp [isAgg, run_underlying Try.underlying30]
  have A30 := Lib.hid ag30
  have hsl := hx.s.len.1
  have HSL := Lib.hid hsl
  have hcell : ∀ (w' : World) (o : Nat) (v : Value), Below W.heap.size W w' → #[Value.slice x.A1 x.n1 x.c1, Value.slice x.A2 x.n2 x.c2][o]? = some v → w'.cell? ⟨w.heap.size, o, none⟩ = some v := fun w' o v h hv => by rw [cell_of_row _ _ _ _ _ _ ((h.block _ hsW).trans RW.out)]; exact hv
  have HC := Lib.hid hcell
  clear rW ag30 hsl hcell
  go_enter Try.func41, Try.ntmps41
  go_wp2_with fail
  rw [← hW]
  clear hW
  refine wp_region_lexL (Below W.heap.size W) (by kernel_rfl) (by kernel_rfl) ((Below.refl _ _).drew) ?_
  repeat (first | (refine lexL_q0 rfl ?_; go_big_quiet_step (fail); refine wpQuiet_nil ?_) | (refine lexL_skip0 rfl rfl ?_; simp only [Act.put, List.setIfInBounds_toArray, List.set_cons_succ, List.set_cons_zero]))
  refine lexL_ld (⟨w.heap.size, 0, none⟩) (.slice x.A1 x.n1 x.c1) rfl rfl rfl (fun w' hS => run_ld1 (A30.out _) (HC.out w' 0 _ hS rfl)) ?_
  simp only [Act.put, List.setIfInBounds_toArray, List.set_cons_succ, List.set_cons_zero]
  repeat (first | (refine lexL_q0 rfl ?_; go_big_quiet_step (fail); refine wpQuiet_nil ?_) | (refine lexL_skip0 rfl rfl ?_; simp only [Act.put, List.setIfInBounds_toArray, List.set_cons_succ, List.set_cons_zero]))
  have hx3 := (hx.s.ext haW).ext (w' := W.drew) (Below.refl _ _).drew
  refine lexL_e rfl ?_
  refine wpList_appR encB_len encB_one (.int .u8 0) 1 _ _ 30 5 W.heap.size [] f.s x.A1 x.n1 x.c1 (.slice none 0 0) x.n1 rfl rfl Try.underlying30 infoB rfl (by omega) rfl rfl (OwnR.nil_ _ _ _) hx3 (by simp) (by simp; omega) (by simp; omega) (Nat.le_refl _) ?_
  intro A5 c5 w5 hown5 hgr5 hat5 hc51 hc52
  have b5 : Below W.heap.size W w5 := ⟨hgr5.os, hgr5.tape, hgr5.output, hgr5.size, fun i hi => hgr5.block i hi (by simp [Value.ownBlock])⟩
  rw [List.nil_append] at hown5
  clear hgr5 hat5
  refine lexL_go b5 ?_
  simp only [Act.put, List.setIfInBounds_toArray, List.set_cons_succ, List.set_cons_zero]
  repeat (first | (refine lexL_q0 rfl ?_; go_big_quiet_step (fail); refine wpQuiet_nil ?_) | (refine lexL_skip0 rfl rfl ?_; simp only [Act.put, List.setIfInBounds_toArray, List.set_cons_succ, List.set_cons_zero]))
  refine lexL_ld (⟨w.heap.size, 1, none⟩) (.slice x.A2 x.n2 x.c2) rfl rfl rfl (fun w' hS => run_ld1 (A30.out _) (HC.out w' 1 _ hS rfl)) ?_
  simp only [Act.put, List.setIfInBounds_toArray, List.set_cons_succ, List.set_cons_zero]
  repeat (first | (refine lexL_q0 rfl ?_; go_big_quiet_step (fail); refine wpQuiet_nil ?_) | (refine lexL_skip0 rfl rfl ?_; simp only [Act.put, List.setIfInBounds_toArray, List.set_cons_succ, List.set_cons_zero]))
  refine lexL_e rfl ?_
  refine wpList_appR encB_len encB_one (.int .u8 0) 1 _ _ 30 5 W.heap.size f.s f.p x.A2 x.n2 x.c2 (.slice A5 x.n1 c5) (x.n1 + x.n2) rfl rfl Try.underlying30 infoB rfl (by omega) rfl rfl hown5 ((hx.p.ext haW).ext b5) (by rw [HSL.out]) (by have := HSL.out; omega) (by have := HSL.out; omega) b5.size ?_
  intro A7 c7 w7 hown7 hgr7 hat7 hc71 hc72
  have b7 : Below W.heap.size W w7 := hown5.grow hgr7 b5 (Nat.le_refl _) b5.size
  refine lexL_go b7 ?_
  simp only [Act.put, List.setIfInBounds_toArray, List.set_cons_succ, List.set_cons_zero]
  repeat (first | (refine lexL_q0 rfl ?_; go_big_quiet_step (fail); refine wpQuiet_nil ?_) | (refine lexL_skip0 rfl rfl ?_; simp only [Act.put, List.setIfInBounds_toArray, List.set_cons_succ, List.set_cons_zero]))
  refine lexL_nil ?_
  go_wp2_with fail
  go_ret
  exact ⟨A7, c7, rfl, hown7.weak haW.size, Below.ext haW b7⟩
end Go.Proofs.Ytmbbngdhdhgliaa
