/-
  The walk of the law DiskApart: it returns true and writes nothing that was there. Conditions: what the row says of its arguments.
-/
import Derived.Test.YtmbbngdhdhgliaaDiskLaw
import Derived.Test.YtmbbngdhdhgliaaFloatD
import Derived.Test.YtmbbngdhdhgliaaDrawB
import Derived.WalkKit
import Derived.ProofKit
import Derived.OpenShut
import Derived.ShutString
import Derived.Below
namespace Go.Proofs.Ytmbbngdhdhgliaa.diskApart
open Go.ChangeShapes Go.WideShapes Go.ChangeAt Go.RowKit
open Go.ChangeMaps (open_string shut_string)
set_option linter.unusedVariables false
set_option maxRecDepth 100000

set_option maxHeartbeats 4000000 in
theorem walk (a0 : Option Addr) (len0 cap0 : Nat) (z0 : List Int) (a1 : Int) (a2 : Int) (w : World) (w0 : IsRow .u8 w a0 len0 cap0 z0) (w1 : (Lit.int .u8 a1).wf = true) (w2 : (Lit.int .u8 a2).wf = true) :
    Calls Try.prog 8 #[.slice a0 len0 cap0, .int .u8 a1, .int .u8 a2] w fun e w' => e = .returned (.bool true) ∧ Below w.heap.size w w' := by
  obtain ⟨codes, hk1, hk2, hk3, hkB⟩ := IsRow.bytes w0
  have hn := wf_u8 w1
  have hm := wf_u8 w2
  obtain ⟨f1, rfl⟩ := Int.eq_ofNat_of_zero_le hn.1
  obtain ⟨f2, rfl⟩ := Int.eq_ofNat_of_zero_le hm.1
  have hn' : f1 < 256 := by omega
  have hm' : f2 < 256 := by omega
  clear w0 w1 w2 hn hm hk1
  go_enter Try.func8, Try.ntmps8
  go_wp2_with fail
  refine (awake_any _).mono ?_
  rintro e w1 ⟨rfl, hb1⟩
  go_wp2_with fail
  refine (codnew_any _ codes _ w1 200 (by omega) (hkB.ext hb1)).mono ?_
  rintro e w2 ⟨g, rfl, hC2, hb2⟩
  have hg1 := hC2.1
  have hg2 := hC2.lt
  have hnew := new_ok 4 (by omega) w2
  rw [show ((4 : Nat) : Int) = 4 from rfl] at hnew
  have Hnew := Lib.hid hnew
  clear hnew
  go_wp2_with fail
  refine (Hnew.out).mono ?_
  rintro e w3 ⟨A3, c3, rfl, hD3, hb3⟩
  have b3 := Below.ext hb1 (Below.ext hb2 hb3)
  have s1 := hb1.size
  have s2 := hb2.size
  have s3 := hb3.size
  have hC3 := hC2.ext hb3
  obtain ⟨D, hDd⟩ : ∃ D, D = w3.heap.size := ⟨_, rfl⟩
  obtain ⟨W, hW⟩ : ∃ W, W = w3.alloc (.cells #[.slice A3 4 c3] 24) := ⟨_, rfl⟩
  have hbW : Below w3.heap.size w3 W := by rw [hW]; exact (Below.refl _ _).alloc (Nat.le_refl _) _
  have hrD : W.heap[D]? = some (.cells #[.slice A3 4 c3] 24 (0, 0)) := by rw [hW, hDd]; exact heap_alloc_new _ _
  have hgD : g < D := by omega
  have hwg : w.heap.size ≤ g := by omega
  have hDW : Dsk (fun b => b ≠ g ∧ b ≠ D) W (.slice A3 4 c3) (List.replicate 4 zFil) := (hD3.mono (fun b hb h => ⟨by omega, by omega⟩)).ext hbW
  have bW := Below.ext b3 hbW
  have hCW := hC3.ext hbW
  go_wp2_with fail
  rw [← hW, ← hDd]
  clear hD3 hW hDd hC2 hC3 hb1 hb2 hb3 b3 hbW Hnew
  go_loopw [10] (fun i wr => ∃ (k : Nat) (A : Option Addr) (c : Nat) (fs : List Fil), i = .int .i64 k ∧ k ≤ 4 ∧ wr.heap[D]? = some (.cells #[.slice A 4 c] 24 (0, 0)) ∧ Dsk (fun b => b ≠ g ∧ b ≠ D) wr (.slice A 4 c) fs ∧ (∀ (j : Nat) (f : Fil), fs[j]? = some f → f.s.length + f.p.length ≤ if j < k then 20 else 0) ∧ Cod w1.heap.size wr g ∧ Below w.heap.size w wr) (fun i _ => 4 - (intOf i).toNat)
  case atStart =>
    refine ⟨0, A3, c3, _, rfl, by omega, hrD, hDW, fun j f hf => ?_, hCW, bW⟩
    rw [List.getElem?_replicate] at hf
    split at hf
    · cases hf
      simp [zFil]
    · cases hf
  case round =>
    clear hrD hDW hCW bW
    obtain ⟨k, A, c, fs, rfl, hk, hr, hD, hlen, hC, hb⟩ := hrel
    have Hr := Lib.hid hr
    have HLen := Lib.hid hlen
    clear hr hlen
    have hfl := hD.len
    by_cases hlt : k < 4
    · have dk : decide ((k : Int) < 4) = true := by simp; omega
      have hfk : fs[k]? = some fs[k] := List.getElem?_eq_getElem (by omega)
      have hfk0 := HLen.out k _ hfk
      rw [if_neg (Nat.lt_irrefl _)] at hfk0
      have HFK := Lib.hid hfk
      have HFK0 := Lib.hid hfk0
      clear hfk hfk0
      have Gs : g < wr.heap.size := hC.lt
      try (go_wp2_with fail)
      refine wp_region_float (fun w' => w'.heap[D]? = some (.cells #[.slice A 4 c] 24 (0, 0))) 8 11 24 (.cells #[.slice none 0 0] 24) (by kernel_rfl) (by kernel_rfl) (alloc_disk) (fun w' h => row_alloc h _) (Hr.out) ?_
      repeat (first | (refine mgL_q0 rfl rfl ?_; go_big_quiet_step (fail); refine wpQuiet_nil ?_) | (refine mgL_skip0 rfl rfl rfl ?_; simp only [Act.put, List.setIfInBounds_toArray, List.set_cons_succ, List.set_cons_zero]))
      refine mgL_ld (⟨D, 0, none⟩) (.agg #[.slice A 4 c]) rfl rfl rfl rfl (fun w' hw' => run_ld_block hw' Try.underlying24 rfl (by kernel_rfl)) ?_
      simp only [Act.put, List.setIfInBounds_toArray, List.set_cons_succ, List.set_cons_zero]
      repeat (first | (refine mgL_q0 rfl rfl ?_; go_big_quiet_step (fail); refine wpQuiet_nil ?_) | (refine mgL_skip0 rfl rfl rfl ?_; simp only [Act.put, List.setIfInBounds_toArray, List.set_cons_succ, List.set_cons_zero]))
      refine mgL_e rfl rfl (fun m1 v1 hE1 => ?_)
      go_wp2_with fail
      have x1 := hE1.bx (Bx.none_ wr.heap.size _ _) (Nat.le_refl _)
      have y1 : Below wr.heap.size wr v1 := Below.ext (Below.refl _ wr).drew hE1.below
      refine (codbytes_any w1.heap.size g 20 v1 (hC.ext y1) (by omega)).mono ?_
      rintro e v2 ⟨vb, lb, rfl, hlb, hob, hC2, hg2⟩
      have hbb := hob.bytes
      have hbb' := hbb
      obtain ⟨Ab, cb, rfl, hcb1, hcb2, _⟩ := hbb'
      have s1 := y1.size
      have s2 := hg2.size
      have x2 := x1.grown hg2 Gs
      have k2 : Keep (· ≠ g) wr v2 := fun b hb hne => (hg2.block b (by omega) (by simpa using hne)).trans (y1.block b hb)
      have hBXlt : D < wr.heap.size := (Array.getElem?_eq_some_iff.1 Hr.out).1
      have hKr := (k2 D hBXlt (by omega)).trans Hr.out
      have HKr := Lib.hid hKr
      clear hKr
      go_wp2_with fail
      refine mgL_go (HKr.out) ?_
      repeat (first | (refine mgL_q0 rfl rfl ?_; go_big_quiet_step (fail); refine wpQuiet_nil ?_) | (refine mgL_skip0 rfl rfl rfl ?_; simp only [Act.put, List.setIfInBounds_toArray, List.set_cons_succ, List.set_cons_zero]))
      refine mgL_e rfl rfl (fun m2 v3 hE2 => ?_)
      go_wp2_with fail
      have y3 := hE2.below
      have x3 := hE2.bx x2 (by omega)
      have s3 := y3.size
      have k3 : Keep (· ≠ g) wr v3 := fun b hb hne => (y3.block b (by omega)).trans (k2 b hb hne)
      have hD3 : Dsk (fun b => b ≠ g ∧ b ≠ D ∧ m2 ≠ some b) v3 (.slice A 4 c) fs := ((hD.mono (S' := fun b => (b ≠ g ∧ b ≠ D) ∧ b < wr.heap.size) (fun b hb h => ⟨⟨h.1, h.2⟩, hb⟩)).keep (fun b hb h => k3 b hb h.1.1)).mono (fun b _ h => ⟨h.1.1, h.1.2, fun e => by have := (x3 b e).1; have := h.2; omega⟩)
      have hB3 : By (fun b => b ≠ g ∧ b ≠ D ∧ m2 ≠ some b) v3 (.slice Ab lb.length cb) lb := (hbb.by_.mono (fun b hb h => ⟨by have := h.1; omega, by have := h.1; omega, hE2.ne hb (x1.lt h.1)⟩)).ext y3
      have hcon := append_ok A 4 c fs _ v3 hD3 (by omega) k _ HFK.out Ab lb.length cb lb hB3 (by have := HFK0.out; omega)
      refine hcon.mono ?_
      rintro e v4 ⟨A4, c4, rfl, hD4, hb4⟩
      have s4 := hb4.size
      have x4 := x3.ext hb4
      have hD4' := hD4.mono (S' := fun b => b ≠ g ∧ b ≠ D ∧ m2 ≠ some b) (fun b _ h => by
        rcases h with h | h
        · exact h
        · exact ⟨by omega, by omega, x3.lt h⟩)
      have k4 : Keep (· ≠ g) wr v4 := fun b hb hne => (hb4.block b (by omega)).trans (k3 b hb hne)
      have hKr4 := (k4 D hBXlt (by omega)).trans Hr.out
      have HKr4 := Lib.hid hKr4
      clear hKr4 hcon
      go_wp2_with fail
      refine mgL_go (HKr4.out) ?_
      repeat (first | (refine mgL_q0 rfl rfl ?_; go_big_quiet_step (fail); refine wpQuiet_nil ?_) | (refine mgL_skip0 rfl rfl rfl ?_; simp only [Act.put, List.setIfInBounds_toArray, List.set_cons_succ, List.set_cons_zero]))
      refine mgL_x rfl (fun X v5 hE3 => ?_)
      simp only [Act.put, List.setIfInBounds_toArray, List.set_cons_succ, List.set_cons_zero]
      repeat (first | (refine mgL_q0 rfl rfl ?_; go_big_quiet_step (fail); refine wpQuiet_nil ?_) | (refine mgL_skip0 rfl rfl rfl ?_; simp only [Act.put, List.setIfInBounds_toArray, List.set_cons_succ, List.set_cons_zero]))
      have y5 := hE3.below
      have s5 := y5.size
      have x5 := hE3.bx x4 (by omega)
      have rowX := (x5 X rfl).2
      have hWX := (x5 X rfl).1
      have hD5 := (hD4'.mono (S' := fun b => b ≠ g ∧ b ≠ D ∧ b ≠ X) (fun b hb h => ⟨h.1, h.2.1, fun e => hE3.ne hb h.2.2 (by rw [e])⟩)).ext y5
      have k5 : Keep (· ≠ g) wr v5 := fun b hb hne => (y5.block b (by omega)).trans (k4 b hb hne)
      refine mgL_d rfl rfl ?_
      refine wpList_store_row rfl 24 _ _ rfl X 24 _ _ rfl rfl rowX (by kernel_rfl) rfl (by simp [Value.oneCell']) ?_
      obtain ⟨W7, hW7⟩ : ∃ W7, W7 = v5.setRow X #[.slice A4 4 c4] := ⟨_, rfl⟩
      have hg7 : v5.grownBy W7 (some X) := by rw [hW7]; exact grown_setRow _ _ _
      have s7 := hg7.size
      have row7 : W7.heap[X]? = some (.cells #[.slice A4 4 c4] 24 (0, 0)) := by rw [hW7]; exact setRow_heap _ _ _ _ _ _ rowX
      have k7 : Keep (· ≠ g) wr W7 := fun b hb hne => (hg7.block b (by omega) (by simp; omega)).trans (k5 b hb hne)
      have hD7 := hD5.keep (fun b hb h => hg7.block b hb (by simpa using h.2.2))
      have hC7 := (((hC2.ext y3).ext hb4).ext y5).grown hg7 (fun m hm => by cases hm; have := hC2.1; omega)
      have b7 : Below w.heap.size w W7 := below_of_grown (Below.ext (Below.ext (Below.ext (below_of_grown (Below.ext hb y1) hg2 hwg) y3) hb4) y5) hg7 (by omega)
      have hKr7 := (k7 D hBXlt (by omega)).trans Hr.out
      have HKr7 := Lib.hid hKr7
      have Hrow7 := Lib.hid row7
      rw [← hW7]
      clear hKr7 row7 hW7 rowX hD5 hD4 hD4' hD3 hB3 hob hbb hC2 hg2 hb4 hE1 hE2 hE3 x1 x2 x3 x4 x5 y1 y3 y5 hg7 k2 k3 k4 k5
      refine mgL_go HKr7.out ?_
      simp only [Act.put]
      repeat (first | (refine mgL_q0 rfl rfl ?_; go_big_quiet_step (fail); refine wpQuiet_nil ?_) | (refine mgL_skip0 rfl rfl rfl ?_; simp only [Act.put, List.setIfInBounds_toArray, List.set_cons_succ, List.set_cons_zero]))
      have q7 : W7.cell? ⟨X, 0, none⟩ = some (.slice A4 4 c4) := by rw [cell_of_row _ _ _ _ _ _ Hrow7.out]; rfl
      refine mgL_nil ?_
      have rD7 := HKr7
      go_wp2_with (refine wpList_store_row rfl 24 _ _ rfl D 24 _ _ rfl rfl rD7.out (by kernel_rfl) rfl (by simp [Value.oneCell']) ?_)
      have hg8 : W7.grownBy (W7.setRow D #[.slice A4 4 c4]) (some D) := grown_setRow _ _ _
      have hr8 := setRow_heap _ _ _ #[.slice A4 4 c4] _ _ rD7.out
      refine ⟨⟨k + 1, A4, c4, _, by congr 1, by omega, hr8, (hD7.mono (S' := fun b => b ≠ g ∧ b ≠ D) (fun b _ h => ⟨h.1, h.2.1⟩)).keep (fun b hb h => hg8.block b hb (by simpa using h.2)), fun j f hf => ?_, hC7.grown hg8 (fun m hm => by cases hm; have := hC7.1; omega), below_of_grown b7 hg8 (by omega)⟩, by simp [intOf]; omega⟩
      rw [List.getElem?_set] at hf
      split at hf
      · subst_vars
        split at hf
        · cases hf
          have := HFK0.out
          rw [if_pos (by omega)]
          simp
          omega
        · cases hf
      · have := HLen.out j f hf
        by_cases hj : j < k
        · rw [if_pos hj] at this
          rw [if_pos (by omega)]
          exact this
        · rw [if_neg hj] at this
          split <;> omega
    · obtain rfl : k = 4 := by omega
      have qD : wr.cell? ⟨D, 0, none⟩ = some (.slice A 4 c) := by rw [cell_of_row _ _ _ _ _ _ Hr.out]; rfl
      obtain ⟨kk, hkk, hkk4⟩ : ∃ kk : Nat, (f1 : Int) % 4 = (kk : Int) ∧ kk < 4 := ⟨f1 % 4, by omega, by omega⟩
      obtain ⟨nn, hnn, hnn4⟩ : ∃ nn : Nat, (f2 : Int) % 4 = (nn : Int) ∧ nn < 4 := ⟨f2 % 4, by omega, by omega⟩
      obtain ⟨fn, hfn⟩ : ∃ f, fs[nn]? = some f := ⟨_, List.getElem?_eq_getElem (by omega)⟩
      obtain ⟨fk, hfk⟩ : ∃ f, fs[kk]? = some f := ⟨_, List.getElem?_eq_getElem (by omega)⟩
      have ln := HLen.out nn fn hfn
      have lk := HLen.out kk fk hfk
      rw [if_pos hnn4] at ln
      rw [if_pos hkk4] at lk
      have HFn := Lib.hid hfn
      have HFk := Lib.hid hfk
      have HKK := Lib.hid hkk
      have HNN := Lib.hid hnn
      clear hfn hfk hkk hnn
      go_wp2_with fail
      rw [HKK.out, HNN.out]
      refine (read_ok A 4 c fs _ wr hD (by omega) nn fn HFn.out (by omega)).mono ?_
      rintro e w9 ⟨A9, c9, rfl, ho9, hb9⟩
      have s9 := hb9.size
      have hgwr := hC.lt
      have hD9 := hD.ext hb9
      have hC9 := hC.ext hb9
      have b9 := Below.ext hb hb9
      have hr9 := (hb9.block D (Array.getElem?_eq_some_iff.1 Hr.out).1).trans Hr.out
      have Hr9 := Lib.hid hr9
      have hbef : By (· ≠ g) w9 (.slice A9 (fn.s.length + fn.p.length) c9) (fn.s ++ fn.p) := ho9.recs.mono (fun b _ h => by have := h.1; omega)
      clear hr9 qD hD hC ho9
      have Gsa : g < w9.heap.size := hC9.lt
      try (go_wp2_with fail)
      refine wp_region_float (fun w' => w'.heap[D]? = some (.cells #[.slice A 4 c] 24 (0, 0))) 8 17 24 (.cells #[.slice none 0 0] 24) (by kernel_rfl) (by kernel_rfl) (alloc_disk) (fun w' h => row_alloc h _) (Hr9.out) ?_
      repeat (first | (refine mgL_q0 rfl rfl ?_; go_big_quiet_step (fail); refine wpQuiet_nil ?_) | (refine mgL_skip0 rfl rfl rfl ?_; simp only [Act.put, List.setIfInBounds_toArray, List.set_cons_succ, List.set_cons_zero]))
      refine mgL_ld (⟨D, 0, none⟩) (.agg #[.slice A 4 c]) rfl rfl rfl rfl (fun w' hw' => run_ld_block hw' Try.underlying24 rfl (by kernel_rfl)) ?_
      simp only [Act.put, List.setIfInBounds_toArray, List.set_cons_succ, List.set_cons_zero]
      repeat (first | (refine mgL_q0 rfl rfl ?_; go_big_quiet_step (fail); refine wpQuiet_nil ?_) | (refine mgL_skip0 rfl rfl rfl ?_; simp only [Act.put, List.setIfInBounds_toArray, List.set_cons_succ, List.set_cons_zero]))
      refine mgL_e rfl rfl (fun m1a v1a hE1a => ?_)
      go_wp2_with fail
      have x1a := hE1a.bx (Bx.none_ w9.heap.size _ _) (Nat.le_refl _)
      have y1a : Below w9.heap.size w9 v1a := Below.ext (Below.refl _ w9).drew hE1a.below
      refine (codbytes_any w1.heap.size g 20 v1a (hC9.ext y1a) (by omega)).mono ?_
      rintro e v2a ⟨vba, lba, rfl, hlba, hoba, hC2a, hg2a⟩
      have hbba := hoba.bytes
      have hbb'a := hbba
      obtain ⟨Aba, cba, rfl, hcb1a, hcb2a, _⟩ := hbb'a
      have s1a := y1a.size
      have s2a := hg2a.size
      have x2a := x1a.grown hg2a Gsa
      have k2a : Keep (· ≠ g) w9 v2a := fun b hb hne => (hg2a.block b (by omega) (by simpa using hne)).trans (y1a.block b hb)
      have hBXlta : D < w9.heap.size := (Array.getElem?_eq_some_iff.1 Hr9.out).1
      have hKra := (k2a D hBXlta (by omega)).trans Hr9.out
      have HKra := Lib.hid hKra
      clear hKra
      go_wp2_with fail
      refine mgL_go (HKra.out) ?_
      repeat (first | (refine mgL_q0 rfl rfl ?_; go_big_quiet_step (fail); refine wpQuiet_nil ?_) | (refine mgL_skip0 rfl rfl rfl ?_; simp only [Act.put, List.setIfInBounds_toArray, List.set_cons_succ, List.set_cons_zero]))
      refine mgL_e rfl rfl (fun m2a v3a hE2a => ?_)
      go_wp2_with fail
      have y3a := hE2a.below
      have x3a := hE2a.bx x2a (by omega)
      have s3a := y3a.size
      have k3a : Keep (· ≠ g) w9 v3a := fun b hb hne => (y3a.block b (by omega)).trans (k2a b hb hne)
      have hD3a : Dsk (fun b => b ≠ g ∧ b ≠ D ∧ m2a ≠ some b) v3a (.slice A 4 c) _ := ((hD9.mono (S' := fun b => (b ≠ g ∧ b ≠ D) ∧ b < w9.heap.size) (fun b hb h => ⟨⟨h.1, h.2⟩, hb⟩)).keep (fun b hb h => k3a b hb h.1.1)).mono (fun b _ h => ⟨h.1.1, h.1.2, fun e => by have := (x3a b e).1; have := h.2; omega⟩)
      have hB3a : By (fun b => b ≠ g ∧ b ≠ D ∧ m2a ≠ some b) v3a (.slice Aba lba.length cba) lba := (hbba.by_.mono (fun b hb h => ⟨by have := h.1; omega, by have := h.1; omega, hE2a.ne hb (x1a.lt h.1)⟩)).ext y3a
      have hcona := append_ok A 4 c _ _ v3a hD3a (by omega) kk _ HFk.out Aba lba.length cba lba hB3a (by omega)
      refine hcona.mono ?_
      rintro e v4a ⟨A4a, c4a, rfl, hD4a, hb4a⟩
      have s4a := hb4a.size
      have x4a := x3a.ext hb4a
      have hD4'a := hD4a.mono (S' := fun b => b ≠ g ∧ b ≠ D ∧ m2a ≠ some b) (fun b _ h => by
        rcases h with h | h
        · exact h
        · exact ⟨by omega, by omega, x3a.lt h⟩)
      have k4a : Keep (· ≠ g) w9 v4a := fun b hb hne => (hb4a.block b (by omega)).trans (k3a b hb hne)
      have hKr4a := (k4a D hBXlta (by omega)).trans Hr9.out
      have HKr4a := Lib.hid hKr4a
      clear hKr4a hcona
      go_wp2_with fail
      refine mgL_go (HKr4a.out) ?_
      repeat (first | (refine mgL_q0 rfl rfl ?_; go_big_quiet_step (fail); refine wpQuiet_nil ?_) | (refine mgL_skip0 rfl rfl rfl ?_; simp only [Act.put, List.setIfInBounds_toArray, List.set_cons_succ, List.set_cons_zero]))
      refine mgL_x rfl (fun Xa v5a hE3a => ?_)
      simp only [Act.put, List.setIfInBounds_toArray, List.set_cons_succ, List.set_cons_zero]
      repeat (first | (refine mgL_q0 rfl rfl ?_; go_big_quiet_step (fail); refine wpQuiet_nil ?_) | (refine mgL_skip0 rfl rfl rfl ?_; simp only [Act.put, List.setIfInBounds_toArray, List.set_cons_succ, List.set_cons_zero]))
      have y5a := hE3a.below
      have s5a := y5a.size
      have x5a := hE3a.bx x4a (by omega)
      have rowXa := (x5a Xa rfl).2
      have hWXa := (x5a Xa rfl).1
      have hD5a := (hD4'a.mono (S' := fun b => b ≠ g ∧ b ≠ D ∧ b ≠ Xa) (fun b hb h => ⟨h.1, h.2.1, fun e => hE3a.ne hb h.2.2 (by rw [e])⟩)).ext y5a
      have k5a : Keep (· ≠ g) w9 v5a := fun b hb hne => (y5a.block b (by omega)).trans (k4a b hb hne)
      refine mgL_d rfl rfl ?_
      refine wpList_store_row rfl 24 _ _ rfl Xa 24 _ _ rfl rfl rowXa (by kernel_rfl) rfl (by simp [Value.oneCell']) ?_
      obtain ⟨W7a, hW7a⟩ : ∃ W7a, W7a = v5a.setRow Xa #[.slice A4a 4 c4a] := ⟨_, rfl⟩
      have hg7a : v5a.grownBy W7a (some Xa) := by rw [hW7a]; exact grown_setRow _ _ _
      have s7a := hg7a.size
      have row7a : W7a.heap[Xa]? = some (.cells #[.slice A4a 4 c4a] 24 (0, 0)) := by rw [hW7a]; exact setRow_heap _ _ _ _ _ _ rowXa
      have k7a : Keep (· ≠ g) w9 W7a := fun b hb hne => (hg7a.block b (by omega) (by simp; omega)).trans (k5a b hb hne)
      have hD7a := hD5a.keep (fun b hb h => hg7a.block b hb (by simpa using h.2.2))
      have hC7a := (((hC2a.ext y3a).ext hb4a).ext y5a).grown hg7a (fun m hm => by cases hm; have := hC2a.1; omega)
      have b7a : Below w.heap.size w W7a := below_of_grown (Below.ext (Below.ext (Below.ext (below_of_grown (Below.ext b9 y1a) hg2a hwg) y3a) hb4a) y5a) hg7a (by omega)
      have hKr7a := (k7a D hBXlta (by omega)).trans Hr9.out
      have HKr7a := Lib.hid hKr7a
      have Hrow7a := Lib.hid row7a
      rw [← hW7a]
      clear hKr7a row7a hW7a rowXa hD5a hD4a hD4'a hD3a hB3a hoba hbba hC2a hg2a hb4a hE1a hE2a hE3a x1a x2a x3a x4a x5a y1a y3a y5a hg7a k2a k3a k4a k5a
      refine mgL_go HKr7a.out ?_
      simp only [Act.put]
      repeat (first | (refine mgL_q0 rfl rfl ?_; go_big_quiet_step (fail); refine wpQuiet_nil ?_) | (refine mgL_skip0 rfl rfl rfl ?_; simp only [Act.put, List.setIfInBounds_toArray, List.set_cons_succ, List.set_cons_zero]))
      have q7a : W7a.cell? ⟨Xa, 0, none⟩ = some (.slice A4a 4 c4a) := by rw [cell_of_row _ _ _ _ _ _ Hrow7a.out]; rfl
      refine mgL_nil ?_
      have hset1 : (fs.set kk ⟨fk.s, fk.p ++ lba⟩)[kk]? = some ⟨fk.s, fk.p ++ lba⟩ := List.getElem?_set_self (by omega)
      go_wp2_with fail
      refine (sync_ok A4a 4 c4a _ _ W7a hD7a (by omega) kk _ hset1 (by simp; omega)).mono ?_
      rintro e w10 ⟨A10, c10, rfl, hD10, hb10⟩
      have s10 := hb10.size
      obtain ⟨E, hE⟩ : ∃ E, E = w10.heap.size := ⟨_, rfl⟩
      obtain ⟨W11, hW11⟩ : ∃ W11, W11 = w10.alloc (.cells #[.slice A10 4 c10] 24) := ⟨_, rfl⟩
      have hb11 : Below w10.heap.size w10 W11 := by rw [hW11]; exact (Below.refl _ _).alloc (Nat.le_refl _) _
      have hrE : W11.heap[E]? = some (.cells #[.slice A10 4 c10] 24 (0, 0)) := by rw [hW11, hE]; exact heap_alloc_new _ _
      have b1011 := Below.ext hb10 hb11
      have s11 := hb11.size
      have b11 := Below.ext b7a b1011
      have hC11 := hC7a.ext b1011
      have hltD : D < w9.heap.size := (Array.getElem?_eq_some_iff.1 Hr9.out).1
      have hD11 : Dsk (fun b => b ≠ g ∧ b ≠ D) W11 (.slice A10 4 c10) _ := (hD10.mono (S' := fun b => b ≠ g ∧ b ≠ D) (fun b _ h => by rcases h with h | h; exact ⟨h.1, h.2.1⟩; have := hC7a.lt; exact ⟨by omega, by omega⟩)).ext hb11
      have HrE := Lib.hid hrE
      have hgE : g < E := by have := hC7a.lt; omega
      have hbef11 := (hbef.keep k7a).ext b1011
      clear hrE hD10 hset1
      go_wp2_with fail
      rw [← hW11, ← hE]
      clear hW11 hE
      have Gsb : g < W11.heap.size := hC11.lt
      try (go_wp2_with fail)
      refine wp_region_float (fun w' => w'.heap[E]? = some (.cells #[.slice A10 4 c10] 24 (0, 0))) 8 21 24 (.cells #[.slice none 0 0] 24) (by kernel_rfl) (by kernel_rfl) (alloc_disk) (fun w' h => row_alloc h _) (HrE.out) ?_
      repeat (first | (refine mgL_q0 rfl rfl ?_; go_big_quiet_step (fail); refine wpQuiet_nil ?_) | (refine mgL_skip0 rfl rfl rfl ?_; simp only [Act.put, List.setIfInBounds_toArray, List.set_cons_succ, List.set_cons_zero]))
      refine mgL_ld (⟨E, 0, none⟩) (.agg #[.slice A10 4 c10]) rfl rfl rfl rfl (fun w' hw' => run_ld_block hw' Try.underlying24 rfl (by kernel_rfl)) ?_
      simp only [Act.put, List.setIfInBounds_toArray, List.set_cons_succ, List.set_cons_zero]
      repeat (first | (refine mgL_q0 rfl rfl ?_; go_big_quiet_step (fail); refine wpQuiet_nil ?_) | (refine mgL_skip0 rfl rfl rfl ?_; simp only [Act.put, List.setIfInBounds_toArray, List.set_cons_succ, List.set_cons_zero]))
      refine mgL_e rfl rfl (fun m1b v1b hE1b => ?_)
      go_wp2_with fail
      have x1b := hE1b.bx (Bx.none_ W11.heap.size _ _) (Nat.le_refl _)
      have y1b : Below W11.heap.size W11 v1b := Below.ext (Below.refl _ W11).drew hE1b.below
      refine (codbytes_any w1.heap.size g 20 v1b (hC11.ext y1b) (by omega)).mono ?_
      rintro e v2b ⟨vbb, lbb, rfl, hlbb, hobb, hC2b, hg2b⟩
      have hbbb := hobb.bytes
      have hbb'b := hbbb
      obtain ⟨Abb, cbb, rfl, hcb1b, hcb2b, _⟩ := hbb'b
      have s1b := y1b.size
      have s2b := hg2b.size
      have x2b := x1b.grown hg2b Gsb
      have k2b : Keep (· ≠ g) W11 v2b := fun b hb hne => (hg2b.block b (by omega) (by simpa using hne)).trans (y1b.block b hb)
      have hBXltb : E < W11.heap.size := (Array.getElem?_eq_some_iff.1 HrE.out).1
      have hKrb := (k2b E hBXltb (by omega)).trans HrE.out
      have HKrb := Lib.hid hKrb
      clear hKrb
      go_wp2_with fail
      refine mgL_go (HKrb.out) ?_
      repeat (first | (refine mgL_q0 rfl rfl ?_; go_big_quiet_step (fail); refine wpQuiet_nil ?_) | (refine mgL_skip0 rfl rfl rfl ?_; simp only [Act.put, List.setIfInBounds_toArray, List.set_cons_succ, List.set_cons_zero]))
      refine mgL_e rfl rfl (fun m2b v3b hE2b => ?_)
      go_wp2_with fail
      have y3b := hE2b.below
      have x3b := hE2b.bx x2b (by omega)
      have s3b := y3b.size
      have k3b : Keep (· ≠ g) W11 v3b := fun b hb hne => (y3b.block b (by omega)).trans (k2b b hb hne)
      have hD3b : Dsk (fun b => b ≠ g ∧ b ≠ D ∧ m2b ≠ some b) v3b (.slice A10 4 c10) _ := ((hD11.mono (S' := fun b => (b ≠ g ∧ b ≠ D) ∧ b < W11.heap.size) (fun b hb h => ⟨⟨h.1, h.2⟩, hb⟩)).keep (fun b hb h => k3b b hb h.1.1)).mono (fun b _ h => ⟨h.1.1, h.1.2, fun e => by have := (x3b b e).1; have := h.2; omega⟩)
      have hB3b : By (fun b => b ≠ g ∧ b ≠ D ∧ m2b ≠ some b) v3b (.slice Abb lbb.length cbb) lbb := (hbbb.by_.mono (fun b hb h => ⟨by have := h.1; omega, by have := h.1; omega, hE2b.ne hb (x1b.lt h.1)⟩)).ext y3b
      have hconb := replace_ok A10 4 c10 _ _ v3b hD3b (by omega) kk (by omega) Abb lbb.length cbb lbb _ hB3b (by omega)
      refine hconb.mono ?_
      rintro e v4b ⟨A4b, c4b, rfl, hD4b, hb4b⟩
      have s4b := hb4b.size
      have x4b := x3b.ext hb4b
      have hD4'b := hD4b.mono (S' := fun b => b ≠ g ∧ b ≠ D ∧ m2b ≠ some b) (fun b _ h => by
        rcases h with h | h
        · exact h
        · exact ⟨by omega, by omega, x3b.lt h⟩)
      have k4b : Keep (· ≠ g) W11 v4b := fun b hb hne => (hb4b.block b (by omega)).trans (k3b b hb hne)
      have hKr4b := (k4b E hBXltb (by omega)).trans HrE.out
      have HKr4b := Lib.hid hKr4b
      clear hKr4b hconb
      go_wp2_with fail
      refine mgL_go (HKr4b.out) ?_
      repeat (first | (refine mgL_q0 rfl rfl ?_; go_big_quiet_step (fail); refine wpQuiet_nil ?_) | (refine mgL_skip0 rfl rfl rfl ?_; simp only [Act.put, List.setIfInBounds_toArray, List.set_cons_succ, List.set_cons_zero]))
      refine mgL_x rfl (fun Xb v5b hE3b => ?_)
      simp only [Act.put, List.setIfInBounds_toArray, List.set_cons_succ, List.set_cons_zero]
      repeat (first | (refine mgL_q0 rfl rfl ?_; go_big_quiet_step (fail); refine wpQuiet_nil ?_) | (refine mgL_skip0 rfl rfl rfl ?_; simp only [Act.put, List.setIfInBounds_toArray, List.set_cons_succ, List.set_cons_zero]))
      have y5b := hE3b.below
      have s5b := y5b.size
      have x5b := hE3b.bx x4b (by omega)
      have rowXb := (x5b Xb rfl).2
      have hWXb := (x5b Xb rfl).1
      have hD5b := (hD4'b.mono (S' := fun b => b ≠ g ∧ b ≠ D ∧ b ≠ Xb) (fun b hb h => ⟨h.1, h.2.1, fun e => hE3b.ne hb h.2.2 (by rw [e])⟩)).ext y5b
      have k5b : Keep (· ≠ g) W11 v5b := fun b hb hne => (y5b.block b (by omega)).trans (k4b b hb hne)
      refine mgL_d rfl rfl ?_
      refine wpList_store_row rfl 24 _ _ rfl Xb 24 _ _ rfl rfl rowXb (by kernel_rfl) rfl (by simp [Value.oneCell']) ?_
      obtain ⟨W7b, hW7b⟩ : ∃ W7b, W7b = v5b.setRow Xb #[.slice A4b 4 c4b] := ⟨_, rfl⟩
      have hg7b : v5b.grownBy W7b (some Xb) := by rw [hW7b]; exact grown_setRow _ _ _
      have s7b := hg7b.size
      have row7b : W7b.heap[Xb]? = some (.cells #[.slice A4b 4 c4b] 24 (0, 0)) := by rw [hW7b]; exact setRow_heap _ _ _ _ _ _ rowXb
      have k7b : Keep (· ≠ g) W11 W7b := fun b hb hne => (hg7b.block b (by omega) (by simp; omega)).trans (k5b b hb hne)
      have hD7b := hD5b.keep (fun b hb h => hg7b.block b hb (by simpa using h.2.2))
      have hC7b := (((hC2b.ext y3b).ext hb4b).ext y5b).grown hg7b (fun m hm => by cases hm; have := hC2b.1; omega)
      have b7b : Below w.heap.size w W7b := below_of_grown (Below.ext (Below.ext (Below.ext (below_of_grown (Below.ext b11 y1b) hg2b hwg) y3b) hb4b) y5b) hg7b (by omega)
      have hKr7b := (k7b E hBXltb (by omega)).trans HrE.out
      have HKr7b := Lib.hid hKr7b
      have Hrow7b := Lib.hid row7b
      rw [← hW7b]
      clear hKr7b row7b hW7b rowXb hD5b hD4b hD4'b hD3b hB3b hobb hbbb hC2b hg2b hb4b hE1b hE2b hE3b x1b x2b x3b x4b x5b y1b y3b y5b hg7b k2b k3b k4b k5b
      refine mgL_go HKr7b.out ?_
      simp only [Act.put]
      repeat (first | (refine mgL_q0 rfl rfl ?_; go_big_quiet_step (fail); refine wpQuiet_nil ?_) | (refine mgL_skip0 rfl rfl rfl ?_; simp only [Act.put, List.setIfInBounds_toArray, List.set_cons_succ, List.set_cons_zero]))
      have q7b : W7b.cell? ⟨Xb, 0, none⟩ = some (.slice A4b 4 c4b) := by rw [cell_of_row _ _ _ _ _ _ Hrow7b.out]; rfl
      refine mgL_nil ?_
      have hbef12 := hbef11.keep k7b
      by_cases hkn : kk = nn
      · subst hkn
        have dkn : ((kk : Int) == (kk : Int)) = true := by simp
        have hset : (((fs.set kk ⟨fk.s, fk.p ++ lba⟩).set kk ⟨fk.s ++ (fk.p ++ lba), []⟩).set kk ⟨lbb, []⟩)[kk]? = some ⟨lbb, []⟩ := List.getElem?_set_self (by simp; omega)
        go_wp2_with fail
        refine (read_ok A4b 4 c4b _ _ W7b hD7b (by omega) kk _ hset (by simp; omega)).mono ?_
        rintro e w13 ⟨A13, c13, rfl, ho13, hb13⟩
        go_wp2
        go_ret
        exact ⟨rfl, Below.ext b7b hb13⟩
      · have dkn : ((kk : Int) == (nn : Int)) = false := by simp; omega
        have hset : (((fs.set kk ⟨fk.s, fk.p ++ lba⟩).set kk ⟨fk.s ++ (fk.p ++ lba), []⟩).set kk ⟨lbb, []⟩)[nn]? = some fn := by rw [List.getElem?_set_ne hkn, List.getElem?_set_ne hkn, List.getElem?_set_ne hkn]; exact HFn.out
        go_wp2_with fail
        refine (read_ok A4b 4 c4b _ _ W7b hD7b (by omega) nn _ hset (by omega)).mono ?_
        rintro e w13 ⟨A13, c13, rfl, ho13, hb13⟩
        go_wp2_with fail
        refine (samebytes_eq _ _ (fn.s ++ fn.p) _ _ w13 (hbef12.ext hb13) ho13.recs).mono ?_
        rintro e w14 ⟨rfl, hb14⟩
        go_wp2
        go_ret
        exact ⟨rfl, Below.ext b7b (Below.ext hb13 hb14)⟩
end Go.Proofs.Ytmbbngdhdhgliaa.diskApart
