/-
  One act of law 30, as the program and the document do it.
-/
import Derived.Test.YtjcfnpmgklliiaaRlF
namespace Go.Proofs.Ytjcfnpmgklliiaa
open Go.RowKit
set_option maxRecDepth 100000
set_option linter.unusedVariables false
set_option linter.unusedSimpArgs false

/-- what an act makes of a journal -/
def StepR (t : Act30) (a b u a' b' u' : List Dt) : Prop :=
  (t.kind < 4 ∧ a' = a ∧ b' = b ∧ u' = u ++ [t.d]) ∨ (t.kind = 4 ∧ a' = a ++ (b ++ (u ++ [t.d])) ∧ b' = [] ∧ u' = []) ∨
  ((t.kind = 5 ∨ t.kind = 6) ∧ a' = a ∧ b' = b ++ u.take (wrN t.n u.length) ∧ u' = u.drop (wrN t.n u.length)) ∨ (t.kind = 7 ∧ a' = a ++ (b ++ u) ∧ b' = [] ∧ u' = []) ∨
  (t.kind = 8 ∧ WholeR (frL a ++ tornL (frL b) t.keep t.lost) a' ∧ b' = [] ∧ u' = [])
theorem StepR.ex (t : Act30) (h : t.kind < 9) (a b u : List Dt) : ∃ a' b' u', StepR t a b u a' b' u' := by
  by_cases h1 : t.kind < 4
  · exact ⟨_, _, _, .inl ⟨h1, rfl, rfl, rfl⟩⟩
  by_cases h2 : t.kind = 4
  · exact ⟨_, _, _, .inr (.inl ⟨h2, rfl, rfl, rfl⟩)⟩
  by_cases h3 : t.kind = 5 ∨ t.kind = 6
  · exact ⟨_, _, _, .inr (.inr (.inl ⟨h3, rfl, rfl, rfl⟩))⟩
  by_cases h4 : t.kind = 7
  · exact ⟨_, _, _, .inr (.inr (.inr (.inl ⟨h4, rfl, rfl, rfl⟩)))⟩
  · obtain ⟨l, hl⟩ := whole_ex (frL a ++ tornL (frL b) t.keep t.lost)
    exact ⟨l, [], [], .inr (.inr (.inr (.inr ⟨by omega, hl, rfl, rfl⟩)))⟩
theorem boxesX3 (w : World) (x y z : Array Value) (T1 T2 T3 : TypeId) : ∃ W, W = ((w.alloc (.cells x T1)).alloc (.cells y T2)).alloc (.cells z T3) ∧ Below w.heap.size w W ∧ RowKit.Hid (W.heap.size = w.heap.size + 3) ∧
    RowKit.Hid (W.heap[w.heap.size]? = some (.cells x T1 (0, 0))) ∧ RowKit.Hid (W.heap[w.heap.size + 1]? = some (.cells y T2 (0, 0))) ∧ RowKit.Hid (W.heap[w.heap.size + 2]? = some (.cells z T3 (0, 0))) := by
  have h2 : ((w.alloc (.cells x T1)).alloc (.cells y T2)).heap.size = w.heap.size + 2 := by simp
  refine ⟨_, rfl, (((Below.refl _ w).alloc (Nat.le_refl _) _).alloc (by simp) _).alloc (by simp; omega) _, Lib.hid (by simp), Lib.hid ?_, Lib.hid ?_, Lib.hid ?_⟩
  · exact (((Below.refl _ _).alloc (Nat.le_refl _) _).block w.heap.size (by simp; omega)).trans ((((Below.refl _ _).alloc (Nat.le_refl _) _).block w.heap.size (by simp)).trans (heap_alloc_new w _))
  · have := heap_alloc_new (w.alloc (.cells x T1)) (.cells y T2)
    rw [World.size_alloc] at this
    exact (((Below.refl _ _).alloc (Nat.le_refl _) _).block (w.heap.size + 1) (by simp)).trans this
  · have := heap_alloc_new ((w.alloc (.cells x T1)).alloc (.cells y T2)) (.cells z T3)
    rw [h2] at this
    exact this
theorem ld_ad {w : World} {b : Nat} {c0 c1 c2 c3 c4 c5 c6 c7 c8 c9 c10 c11 c12 : Value} (h : w.heap[b]? = some (.cells #[c0, c1, c2, c3, c4, c5, c6, c7, c8, c9, c10, c11, c12] 77 (0, 0))) : (loadVar 38 ⟨b, 1, none⟩).run Try.prog w = .ok (.agg #[c1, c2, c3, c4, c5, c6, c7, c8, c9]) w := by
  have := run_loadVar_mid (P := Try.prog) w b 1 38 [c1, c2, c3, c4, c5, c6, c7, c8, c9] _ (World.rangeAt_of_block h 1 9) Try.underlying38 rfl (by kernel_rfl)
  simpa using this
theorem ld_at {w : World} {b : Nat} {c0 c1 c2 c3 c4 c5 c6 c7 c8 c9 c10 c11 c12 : Value} (h : w.heap[b]? = some (.cells #[c0, c1, c2, c3, c4, c5, c6, c7, c8, c9, c10, c11, c12] 77 (0, 0))) : (loadVar 57 ⟨b, 11, none⟩).run Try.prog w = .ok (.agg #[c11, c12]) w := by
  have := run_loadVar_mid (P := Try.prog) w b 11 57 [c11, c12] _ (World.rangeAt_of_block h 11 2) Try.underlying57 rfl (by kernel_rfl)
  simpa using this

set_option maxHeartbeats 8000000 in
theorem do30_any (A : Option Addr) (c : Nat) (B : Option Addr) (m d : Nat) (a b u : List Dt) (K : Nat) (S : Nat → Prop) (w : World) (hJ : Jrn S w A c B m d a b u K) (x : AcV) (t : Act30) (Sx : Nat → Prop) (hx : ActOk Sx w x t) (lb : Bool) (hin : ActIn lb t) (hK1 : K + 1 ≤ 200) (a' b' u' : List Dt) (hst : StepR t a b u a' b' u') :
    Calls Try.prog 38 #[.agg #[.slice A 1 c, .slice B m d], .agg #[.int .i64 x.kind, .int .i64 x.d.proc, .int .i64 x.d.index, .int .i64 x.d.ev.k0, .int .i64 x.d.ev.k1, .int .i64 x.d.ev.k2, .int .i64 x.d.ev.k3, .int .i64 x.d.ev.k4, .int .i64 x.d.ev.k5, .int .i64 x.d.ev.k6, .int .i64 x.n, .int .i64 x.keep, .slice x.L x.nl x.cl]] w fun e w' => ∃ A' c' B' m' d', e = .returned (.tuple #[.agg #[.slice A' 1 c', .slice B' m' d'], .int .i64 0]) ∧ Jrn (fun b => S b ∨ w.heap.size ≤ b) w' A' c' B' m' d' a' b' u' (K + 1) ∧ Below w.heap.size w w' := by
  obtain ⟨W, hW, hbW, SW, R0, R1, R2⟩ := boxesX3 w #[.slice A 1 c, .slice B m d] #[.int .i64 x.kind, .int .i64 x.d.proc, .int .i64 x.d.index, .int .i64 x.d.ev.k0, .int .i64 x.d.ev.k1, .int .i64 x.d.ev.k2, .int .i64 x.d.ev.k3, .int .i64 x.d.ev.k4, .int .i64 x.d.ev.k5, .int .i64 x.d.ev.k6, .int .i64 x.n, .int .i64 x.keep, .slice x.L x.nl x.cl] #[.slice none 0 0, .slice none 0 0] 70 77 70
  have hJ0 := (hJ.mono (S' := fun b => S b ∧ b < w.heap.size) (fun b hb h => ⟨h, hb⟩)).ext hbW
  obtain ⟨x1, x2, x3, x4, x5⟩ := hx
  have hL0 := x5.ext hbW
  obtain ⟨i1, i2, i3, i4, i5, i6, i7, _⟩ := hin
  have hlu := hJ.len.1
  have hll := x5.len.1
  have hz := hJ.siz
  have q0 : W.cell? ⟨w.heap.size + 1, 0, none⟩ = some (.int .i64 x.kind) := row_cell R1.out 0 _ rfl
  have q10 : W.cell? ⟨w.heap.size + 1, 10, none⟩ = some (.int .i64 x.n) := row_cell R1.out 10 _ rfl
  have hxd : DtIn x.d := by rw [x2]; exact i2
  have X1 := Lib.hid x1
  have X2 := Lib.hid x2
  have X3 := Lib.hid x3
  have X4 := Lib.hid x4
  have HLU := Lib.hid hlu
  clear x1 x2 x3 x4 hlu x5
  have fin : ∀ (w2 : World) (A2 : Option Addr) (c2 : Nat) (B2 : Option Addr) (m2 d2 : Nat) (S2 : Nat → Prop), Jrn S2 w2 A2 c2 B2 m2 d2 a' b' u' (K + 1) → (∀ b, S2 b → (S b ∧ b < w.heap.size) ∨ W.heap.size ≤ b) → Below W.heap.size W w2 → Jrn (fun b => S b ∨ w.heap.size ≤ b) (w2.setRow (w.heap.size + 2) #[.slice A2 1 c2, .slice B2 m2 d2]) A2 c2 B2 m2 d2 a' b' u' (K + 1) ∧ Below w.heap.size w (w2.setRow (w.heap.size + 2) #[.slice A2 1 c2, .slice B2 m2 d2]) := fun w2 A2 c2 B2 m2 d2 S2 h1 h2 h3 => by
    have sW := SW.out
    refine ⟨((h1.mono (S' := fun b => (S b ∧ b < w.heap.size) ∨ w.heap.size + 3 ≤ b) (fun b _ h => by rcases h2 b h with h | h; exact Or.inl h; exact Or.inr (by omega))).keep (fun b hb h => setRow_other _ _ _ _ (by rcases h with h | h <;> omega))).mono (fun b _ h => by rcases h with h | h; exact Or.inl h.1; exact Or.inr (by omega)), Below.setRow (Below.ext hbW h3) (by omega) _⟩
  have HFIN := Lib.hid fin
  have row2 : ∀ w2, Below W.heap.size W w2 → w2.heap[w.heap.size + 2]? = some (.cells #[.slice none 0 0, .slice none 0 0] 70 (0, 0)) := fun w2 h => (h.block (w.heap.size + 2) (by have := SW.out; omega)).trans R2.out
  have HROW := Lib.hid row2
  clear fin row2
  go_enter Try.func38, Try.ntmps38
  go_upto_block 0 with fail
  rw [← hW]
  clear hW
  rcases hst with ⟨hk, ha, hb, hu⟩ | ⟨hk, ha, hb, hu⟩ | ⟨hk, ha, hb, hu⟩ | ⟨hk, ha, hb, hu⟩ | ⟨hk, ha, hb, hu⟩
  · skip
    have d1 : decide (x.kind < 5) = true := by rw [X1.out]; simp; omega
    have d2 : (x.kind == 4) = false := by rw [X1.out]; simp; omega
    subst ha hb
    rw [← X2.out] at hu
    subst hu
    go_wp2_with (first | (refine wpList_load_row rfl 70 _ rfl _ rfl 70 _ (0,0) _ R0.out Try.underlying70 rfl (by kernel_rfl) ?_) | (refine wpList_ldv (t := 38) (A := ⟨w.heap.size + 1, 1, none⟩) rfl rfl rfl (ld_ad R1.out) ?_))
    refine (rlappend_any A c B m d _ _ u K _ W hJ0 x.d hxd hK1).mono ?_
    rintro e w2 ⟨A2, c2, B2, d2, rfl, hJ2, hb2⟩
    have Z2 := Lib.hid (HROW.out w2 hb2)
    go_wp2_with (refine wpList_store_row rfl 70 _ _ rfl (w.heap.size + 2) 70 _ _ rfl rfl Z2.out (by kernel_rfl) rfl (by simp [Value.oneCell']) ?_)
    refine bodyPost_ret (results_ct rfl rfl (run_ld_block (setRow_heap _ _ _ _ _ _ Z2.out) Try.underlying70 rfl (by kernel_rfl))) rfl ?_
    exact ⟨_, _, _, _, _, rfl, HFIN.out _ _ _ _ _ _ _ (hJ2) (fun b h => h) hb2⟩
  · skip
    have d1 : decide (x.kind < 5) = true := by rw [X1.out]; simp; omega
    have d2 : (x.kind == 4) = true := by rw [X1.out]; simp; omega
    rw [← X2.out] at ha
    subst ha hb hu
    go_wp2_with (first | (refine wpList_load_row rfl 70 _ rfl _ rfl 70 _ (0,0) _ R0.out Try.underlying70 rfl (by kernel_rfl) ?_) | (refine wpList_ldv (t := 38) (A := ⟨w.heap.size + 1, 1, none⟩) rfl rfl rfl (ld_ad R1.out) ?_))
    refine (rlappend_now A c B m d a b u K _ W hJ0 x.d hxd hK1).mono ?_
    rintro e w2 ⟨A2, c2, B2, d2, rfl, hJ2, hb2⟩
    have Z2 := Lib.hid (HROW.out w2 hb2)
    go_wp2_with (refine wpList_store_row rfl 70 _ _ rfl (w.heap.size + 2) 70 _ _ rfl rfl Z2.out (by kernel_rfl) rfl (by simp [Value.oneCell']) ?_)
    refine bodyPost_ret (results_ct rfl rfl (run_ld_block (setRow_heap _ _ _ _ _ _ Z2.out) Try.underlying70 rfl (by kernel_rfl))) rfl ?_
    exact ⟨_, _, _, _, _, rfl, HFIN.out _ _ _ _ _ _ _ (hJ2) (fun b h => h) hb2⟩
  · skip
    have d1 : decide (x.kind < 5) = false := by rw [X1.out]; simp; omega
    have d2 : decide (x.kind < 7) = true := by rw [X1.out]; simp; omega
    rw [← X3.out, HLU.out] at hb hu
    subst ha hb hu
    go_wp2_with (refine wpList_load_row rfl 70 _ rfl _ rfl 70 _ (0,0) _ R0.out Try.underlying70 rfl (by kernel_rfl) ?_)
    refine (rlwrite_any A c B m d _ b u K _ W x.n hJ0).mono ?_
    rintro e w2 ⟨A2, c2, B2, d2, rfl, hJ2, hb2⟩
    have Z2 := Lib.hid (HROW.out w2 hb2)
    go_wp2_with (refine wpList_store_row rfl 70 _ _ rfl (w.heap.size + 2) 70 _ _ rfl rfl Z2.out (by kernel_rfl) rfl (by simp [Value.oneCell']) ?_)
    refine bodyPost_ret (results_ct rfl rfl (run_ld_block (setRow_heap _ _ _ _ _ _ Z2.out) Try.underlying70 rfl (by kernel_rfl))) rfl ?_
    exact ⟨_, _, _, _, _, rfl, HFIN.out _ _ _ _ _ _ _ (⟨hJ2.dsk, hJ2.buf, hJ2.ina, hJ2.inb, hJ2.inu, by have := hJ2.siz; omega, hK1⟩) (fun b h => h) hb2⟩
  · skip
    have d1 : decide (x.kind < 5) = false := by rw [X1.out]; simp; omega
    have d2 : decide (x.kind < 7) = false := by rw [X1.out]; simp; omega
    have d3 : (x.kind == 7) = true := by rw [X1.out]; simp; omega
    subst ha hb hu
    go_wp2_with (refine wpList_load_row rfl 70 _ rfl _ rfl 70 _ (0,0) _ R0.out Try.underlying70 rfl (by kernel_rfl) ?_)
    refine (rlflush_any A c B m d a b u K _ W hJ0).mono ?_
    rintro e w2 ⟨A2, c2, B2, d2, rfl, hJ2, hb2⟩
    have Z2 := Lib.hid (HROW.out w2 hb2)
    go_wp2_with (refine wpList_store_row rfl 70 _ _ rfl (w.heap.size + 2) 70 _ _ rfl rfl Z2.out (by kernel_rfl) rfl (by simp [Value.oneCell']) ?_)
    refine bodyPost_ret (results_ct rfl rfl (run_ld_block (setRow_heap _ _ _ _ _ _ Z2.out) Try.underlying70 rfl (by kernel_rfl))) rfl ?_
    exact ⟨_, _, _, _, _, rfl, HFIN.out _ _ _ _ _ _ _ (⟨hJ2.dsk, hJ2.buf, hJ2.ina, hJ2.inb, hJ2.inu, by have := hJ2.siz; omega, hK1⟩) (fun b h => h) hb2⟩
  · skip
    have d1 : decide (x.kind < 5) = false := by rw [X1.out]; simp; omega
    have d2 : decide (x.kind < 7) = false := by rw [X1.out]; simp; omega
    have d3 : (x.kind == 7) = false := by rw [X1.out]; simp; omega
    rw [← X4.out] at ha
    subst hb hu
    go_wp2_with (first | (refine wpList_load_row rfl 70 _ rfl _ rfl 70 _ (0,0) _ R0.out Try.underlying70 rfl (by kernel_rfl) ?_) | (refine wpList_ldv (t := 57) (A := ⟨w.heap.size + 1, 11, none⟩) rfl rfl rfl (ld_at R1.out) ?_))
    refine (rlcrash_any A c B m d a b u K _ W hJ0 x.keep x.L x.nl x.cl t.lost _ hL0 (by omega) a' ha).mono ?_
    rintro e w2 ⟨A2, c2, rfl, hJ2, hb2⟩
    have Z2 := Lib.hid (HROW.out w2 hb2)
    go_wp2_with (refine wpList_store_row rfl 70 _ _ rfl (w.heap.size + 2) 70 _ _ rfl rfl Z2.out (by kernel_rfl) rfl (by simp [Value.oneCell']) ?_)
    refine bodyPost_ret (results_ct rfl rfl (run_ld_block (setRow_heap _ _ _ _ _ _ Z2.out) Try.underlying70 rfl (by kernel_rfl))) rfl ?_
    exact ⟨_, _, _, _, _, rfl, HFIN.out _ _ _ _ _ _ _ (⟨hJ2.dsk, hJ2.buf, hJ2.ina, hJ2.inb, hJ2.inu, by have := hJ2.siz; omega, hK1⟩) (fun b h => Or.inr h) hb2⟩

set_option maxHeartbeats 8000000 in
theorem doc30_any (A : Option Addr) (c : Nat) (B : Option Addr) (m d : Nat) (a b u : List Dt) (K : Nat) (S : Nat → Prop) (w : World) (hJ : Jrn S w A c B m d a b u K) (x : AcV) (t : Act30) (Sx : Nat → Prop) (hx : ActOk Sx w x t) (lb : Bool) (hin : ActIn lb t) (hK1 : K + 1 ≤ 200) (a' b' u' : List Dt) (hst : StepR t a b u a' b' u') :
    Calls Try.prog 44 #[.agg #[.slice A 1 c, .slice B m d], .agg #[.int .i64 x.kind, .int .i64 x.d.proc, .int .i64 x.d.index, .int .i64 x.d.ev.k0, .int .i64 x.d.ev.k1, .int .i64 x.d.ev.k2, .int .i64 x.d.ev.k3, .int .i64 x.d.ev.k4, .int .i64 x.d.ev.k5, .int .i64 x.d.ev.k6, .int .i64 x.n, .int .i64 x.keep, .slice x.L x.nl x.cl]] w fun e w' => ∃ A' c' B' m' d', e = .returned (.tuple #[.agg #[.slice A' 1 c', .slice B' m' d'], .int .i64 0]) ∧ Jrn (fun b => S b ∨ w.heap.size ≤ b) w' A' c' B' m' d' a' b' u' (K + 1) ∧ Below w.heap.size w w' := by
  obtain ⟨W, hW, hbW, SW, R0, R1, R2⟩ := boxesX3 w #[.slice A 1 c, .slice B m d] #[.int .i64 x.kind, .int .i64 x.d.proc, .int .i64 x.d.index, .int .i64 x.d.ev.k0, .int .i64 x.d.ev.k1, .int .i64 x.d.ev.k2, .int .i64 x.d.ev.k3, .int .i64 x.d.ev.k4, .int .i64 x.d.ev.k5, .int .i64 x.d.ev.k6, .int .i64 x.n, .int .i64 x.keep, .slice x.L x.nl x.cl] #[.slice none 0 0, .slice none 0 0] 70 77 70
  have hJ0 := (hJ.mono (S' := fun b => S b ∧ b < w.heap.size) (fun b hb h => ⟨h, hb⟩)).ext hbW
  obtain ⟨x1, x2, x3, x4, x5⟩ := hx
  have hL0 := x5.ext hbW
  obtain ⟨i1, i2, i3, i4, i5, i6, i7, _⟩ := hin
  have hlu := hJ.len.1
  have hll := x5.len.1
  have hz := hJ.siz
  have q0 : W.cell? ⟨w.heap.size + 1, 0, none⟩ = some (.int .i64 x.kind) := row_cell R1.out 0 _ rfl
  have q10 : W.cell? ⟨w.heap.size + 1, 10, none⟩ = some (.int .i64 x.n) := row_cell R1.out 10 _ rfl
  have hxd : DtIn x.d := by rw [x2]; exact i2
  have X1 := Lib.hid x1
  have X2 := Lib.hid x2
  have X3 := Lib.hid x3
  have X4 := Lib.hid x4
  have HLU := Lib.hid hlu
  clear x1 x2 x3 x4 hlu x5
  have fin : ∀ (w2 : World) (A2 : Option Addr) (c2 : Nat) (B2 : Option Addr) (m2 d2 : Nat) (S2 : Nat → Prop), Jrn S2 w2 A2 c2 B2 m2 d2 a' b' u' (K + 1) → (∀ b, S2 b → (S b ∧ b < w.heap.size) ∨ W.heap.size ≤ b) → Below W.heap.size W w2 → Jrn (fun b => S b ∨ w.heap.size ≤ b) (w2.setRow (w.heap.size + 2) #[.slice A2 1 c2, .slice B2 m2 d2]) A2 c2 B2 m2 d2 a' b' u' (K + 1) ∧ Below w.heap.size w (w2.setRow (w.heap.size + 2) #[.slice A2 1 c2, .slice B2 m2 d2]) := fun w2 A2 c2 B2 m2 d2 S2 h1 h2 h3 => by
    have sW := SW.out
    refine ⟨((h1.mono (S' := fun b => (S b ∧ b < w.heap.size) ∨ w.heap.size + 3 ≤ b) (fun b _ h => by rcases h2 b h with h | h; exact Or.inl h; exact Or.inr (by omega))).keep (fun b hb h => setRow_other _ _ _ _ (by rcases h with h | h <;> omega))).mono (fun b _ h => by rcases h with h | h; exact Or.inl h.1; exact Or.inr (by omega)), Below.setRow (Below.ext hbW h3) (by omega) _⟩
  have HFIN := Lib.hid fin
  have row2 : ∀ w2, Below W.heap.size W w2 → w2.heap[w.heap.size + 2]? = some (.cells #[.slice none 0 0, .slice none 0 0] 70 (0, 0)) := fun w2 h => (h.block (w.heap.size + 2) (by have := SW.out; omega)).trans R2.out
  have HROW := Lib.hid row2
  clear fin row2
  go_enter Try.func44, Try.ntmps44
  go_upto_block 0 with fail
  rw [← hW]
  clear hW
  rcases hst with ⟨hk, ha, hb, hu⟩ | ⟨hk, ha, hb, hu⟩ | ⟨hk, ha, hb, hu⟩ | ⟨hk, ha, hb, hu⟩ | ⟨hk, ha, hb, hu⟩
  · skip
    have d1 : decide (x.kind < 5) = true := by rw [X1.out]; simp; omega
    have d2 : (x.kind == 4) = false := by rw [X1.out]; simp; omega
    subst ha hb
    rw [← X2.out] at hu
    subst hu
    go_wp2_with (first | (refine wpList_load_row rfl 70 _ rfl _ rfl 70 _ (0,0) _ R0.out Try.underlying70 rfl (by kernel_rfl) ?_) | (refine wpList_ldv (t := 38) (A := ⟨w.heap.size + 1, 1, none⟩) rfl rfl rfl (ld_ad R1.out) ?_))
    refine (refappend30_any A c B m d _ _ u K _ W hJ0 x.d hxd hK1).mono ?_
    rintro e w2 ⟨A2, c2, B2, d2, rfl, hJ2, hb2⟩
    have Z2 := Lib.hid (HROW.out w2 hb2)
    go_wp2_with (refine wpList_store_row rfl 70 _ _ rfl (w.heap.size + 2) 70 _ _ rfl rfl Z2.out (by kernel_rfl) rfl (by simp [Value.oneCell']) ?_)
    refine bodyPost_ret (results_ct rfl rfl (run_ld_block (setRow_heap _ _ _ _ _ _ Z2.out) Try.underlying70 rfl (by kernel_rfl))) rfl ?_
    exact ⟨_, _, _, _, _, rfl, HFIN.out _ _ _ _ _ _ _ (hJ2) (fun b h => h) hb2⟩
  · skip
    have d1 : decide (x.kind < 5) = true := by rw [X1.out]; simp; omega
    have d2 : (x.kind == 4) = true := by rw [X1.out]; simp; omega
    rw [← X2.out] at ha
    subst ha hb hu
    go_wp2_with (first | (refine wpList_load_row rfl 70 _ rfl _ rfl 70 _ (0,0) _ R0.out Try.underlying70 rfl (by kernel_rfl) ?_) | (refine wpList_ldv (t := 38) (A := ⟨w.heap.size + 1, 1, none⟩) rfl rfl rfl (ld_ad R1.out) ?_))
    refine (refappend30_now A c B m d a b u K _ W hJ0 x.d hxd hK1).mono ?_
    rintro e w2 ⟨A2, c2, B2, d2, rfl, hJ2, hb2⟩
    have Z2 := Lib.hid (HROW.out w2 hb2)
    go_wp2_with (refine wpList_store_row rfl 70 _ _ rfl (w.heap.size + 2) 70 _ _ rfl rfl Z2.out (by kernel_rfl) rfl (by simp [Value.oneCell']) ?_)
    refine bodyPost_ret (results_ct rfl rfl (run_ld_block (setRow_heap _ _ _ _ _ _ Z2.out) Try.underlying70 rfl (by kernel_rfl))) rfl ?_
    exact ⟨_, _, _, _, _, rfl, HFIN.out _ _ _ _ _ _ _ (hJ2) (fun b h => h) hb2⟩
  · skip
    have d1 : decide (x.kind < 5) = false := by rw [X1.out]; simp; omega
    have d2 : decide (x.kind < 7) = true := by rw [X1.out]; simp; omega
    rw [← X3.out, HLU.out] at hb hu
    subst ha hb hu
    go_wp2_with (refine wpList_load_row rfl 70 _ rfl _ rfl 70 _ (0,0) _ R0.out Try.underlying70 rfl (by kernel_rfl) ?_)
    refine (refwrite_any A c B m d _ b u K _ W x.n hJ0).mono ?_
    rintro e w2 ⟨A2, c2, B2, d2, rfl, hJ2, hb2⟩
    have Z2 := Lib.hid (HROW.out w2 hb2)
    go_wp2_with (refine wpList_store_row rfl 70 _ _ rfl (w.heap.size + 2) 70 _ _ rfl rfl Z2.out (by kernel_rfl) rfl (by simp [Value.oneCell']) ?_)
    refine bodyPost_ret (results_ct rfl rfl (run_ld_block (setRow_heap _ _ _ _ _ _ Z2.out) Try.underlying70 rfl (by kernel_rfl))) rfl ?_
    exact ⟨_, _, _, _, _, rfl, HFIN.out _ _ _ _ _ _ _ (⟨hJ2.dsk, hJ2.buf, hJ2.ina, hJ2.inb, hJ2.inu, by have := hJ2.siz; omega, hK1⟩) (fun b h => h) hb2⟩
  · skip
    have d1 : decide (x.kind < 5) = false := by rw [X1.out]; simp; omega
    have d2 : decide (x.kind < 7) = false := by rw [X1.out]; simp; omega
    have d3 : (x.kind == 7) = true := by rw [X1.out]; simp; omega
    subst ha hb hu
    go_wp2_with (refine wpList_load_row rfl 70 _ rfl _ rfl 70 _ (0,0) _ R0.out Try.underlying70 rfl (by kernel_rfl) ?_)
    refine (refflush_any A c B m d a b u K _ W hJ0).mono ?_
    rintro e w2 ⟨A2, c2, B2, d2, rfl, hJ2, hb2⟩
    have Z2 := Lib.hid (HROW.out w2 hb2)
    go_wp2_with (refine wpList_store_row rfl 70 _ _ rfl (w.heap.size + 2) 70 _ _ rfl rfl Z2.out (by kernel_rfl) rfl (by simp [Value.oneCell']) ?_)
    refine bodyPost_ret (results_ct rfl rfl (run_ld_block (setRow_heap _ _ _ _ _ _ Z2.out) Try.underlying70 rfl (by kernel_rfl))) rfl ?_
    exact ⟨_, _, _, _, _, rfl, HFIN.out _ _ _ _ _ _ _ (⟨hJ2.dsk, hJ2.buf, hJ2.ina, hJ2.inb, hJ2.inu, by have := hJ2.siz; omega, hK1⟩) (fun b h => h) hb2⟩
  · skip
    have d1 : decide (x.kind < 5) = false := by rw [X1.out]; simp; omega
    have d2 : decide (x.kind < 7) = false := by rw [X1.out]; simp; omega
    have d3 : (x.kind == 7) = false := by rw [X1.out]; simp; omega
    rw [← X4.out] at ha
    subst hb hu
    go_wp2_with (first | (refine wpList_load_row rfl 70 _ rfl _ rfl 70 _ (0,0) _ R0.out Try.underlying70 rfl (by kernel_rfl) ?_) | (refine wpList_ldv (t := 57) (A := ⟨w.heap.size + 1, 11, none⟩) rfl rfl rfl (ld_at R1.out) ?_))
    refine (refcrash30_any A c B m d a b u K _ W hJ0 x.keep x.L x.nl x.cl t.lost _ hL0 (by omega) a' ha).mono ?_
    rintro e w2 ⟨A2, c2, rfl, hJ2, hb2⟩
    have Z2 := Lib.hid (HROW.out w2 hb2)
    go_wp2_with (refine wpList_store_row rfl 70 _ _ rfl (w.heap.size + 2) 70 _ _ rfl rfl Z2.out (by kernel_rfl) rfl (by simp [Value.oneCell']) ?_)
    refine bodyPost_ret (results_ct rfl rfl (run_ld_block (setRow_heap _ _ _ _ _ _ Z2.out) Try.underlying70 rfl (by kernel_rfl))) rfl ?_
    exact ⟨_, _, _, _, _, rfl, HFIN.out _ _ _ _ _ _ _ (⟨hJ2.dsk, hJ2.buf, hJ2.ina, hJ2.inb, hJ2.inu, by have := hJ2.siz; omega, hK1⟩) (fun b h => Or.inr h) hb2⟩
end Go.Proofs.Ytjcfnpmgklliiaa
