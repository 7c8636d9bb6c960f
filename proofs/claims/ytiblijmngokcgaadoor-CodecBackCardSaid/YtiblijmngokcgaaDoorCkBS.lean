import Derived.Test.YtiblijmngokcgaaDoorCkAS
import Derived.Test.YtiblijmngokcgaaDoorRunCS
import Derived.Test.YtiblijmngokcgaaDoorDrPS
namespace Go.Proofs.YtiblijmngokcgaaDoor
open Go.RowKit
set_option maxRecDepth 100000
set_option linter.unusedVariables false
set_option linter.unusedSimpArgs false
theorem ld_var {w : World} {V o : Nat} {i s k : Int} {nm : ByteArray} {z y : Int} (h : w.heap[V]? = some (.cells #[.string (ByteArray.mk #[120]), .int .i64 0, .int .i64 i, .string (ByteArray.mk #[97]), .int .i64 s, .int .i64 0, .string (ByteArray.mk #[121]), .int .i64 0, .int .i64 0, .string (ByteArray.mk #[122]), .int .i64 0, .int .i64 k, .string (ByteArray.mk #[98]), .int .i64 2, .int .i64 0] 126 (0, 0))) (hc : ((#[.string (ByteArray.mk #[120]), .int .i64 0, .int .i64 i, .string (ByteArray.mk #[97]), .int .i64 s, .int .i64 0, .string (ByteArray.mk #[121]), .int .i64 0, .int .i64 0, .string (ByteArray.mk #[122]), .int .i64 0, .int .i64 k, .string (ByteArray.mk #[98]), .int .i64 2, .int .i64 0] : Array Value).toList.drop o).take 3 = [.string nm, .int .i64 z, .int .i64 y]) :
    (loadVar 126 ⟨V, o, none⟩).run Tryd.prog w = .ok (.agg #[.string nm, .int .i64 z, .int .i64 y]) w := by
  have := run_loadVar_mid (P := Tryd.prog) w V o 126 [.string nm, .int .i64 z, .int .i64 y] _ (fun j v hv => by
    rw [cell_of_row _ _ _ _ _ _ h]
    have hj : j < 3 := by have := (List.getElem?_eq_some_iff.1 hv).1; simpa using this
    rw [← hc, List.getElem?_take, if_pos hj, List.getElem?_drop] at hv
    simpa using hv) Tryd.underlying126 rfl (by kernel_rfl)
  exact this
def lkPre (s : Int) : Nat → Int
  | 0 => 0
  | 1 => 1
  | 2 => 1 + s
  | 3 => 2 + s
  | 4 => 3 + s
  | _ => 5 + s
def LkOut (nm : ByteArray) (a b : Int) (ok : Bool) : Prop := (0 ≤ a ∧ a ≤ 1000) ∧ (0 ≤ b ∧ b ≤ 1000) ∧ (isScal nm → b = 0 ∧ ok = true) ∧ (isArr nm → 1 ≤ b ∧ ok = true)
set_option maxHeartbeats 4000000 in
theorem lookup_0 (w : World) (V : Nat) (i s k : Int) (h1 : 1 ≤ s) (h5 : s ≤ 5) (hV : w.heap[V]? = some (.cells #[.string (ByteArray.mk #[120]), .int .i64 0, .int .i64 i, .string (ByteArray.mk #[97]), .int .i64 s, .int .i64 0, .string (ByteArray.mk #[121]), .int .i64 0, .int .i64 0, .string (ByteArray.mk #[122]), .int .i64 0, .int .i64 k, .string (ByteArray.mk #[98]), .int .i64 2, .int .i64 0] 126 (0, 0))) :
    Calls Tryd.prog 69 #[.slice (some ⟨V, 0, none⟩) 5 5, .string (ByteArray.mk #[120])] w fun e w' => e = .returned (.tuple #[.int .i64 (0), .int .i64 (0), .bool true]) ∧ Below w.heap.size w w' := by
  have hVl : V < w.heap.size := (Array.getElem?_eq_some_iff.1 hV).1
  have HV := Lib.hid (fun (w' : World) (hb : Below w.heap.size w w') => (hb.block V hVl).trans hV)
  clear hV
  go_enter Tryd.func69, Tryd.ntmps69
  go_wp2
  go_loopw [7, 8] (fun a b wr => ∃ j : Nat, b = .int .i64 j ∧ j ≤ 0 ∧ a = .int .i64 (lkPre s j) ∧ Below w.heap.size w wr) (fun _ b _ => 0 - (intOf b).toNat)
  case atStart => exact ⟨0, rfl, by omega, rfl, Below.refl _ _⟩
  case round =>
    obtain ⟨j, rfl, hj, rfl, hb⟩ := hrel
    have R := Lib.hid (HV.out wr hb)
    obtain rfl : j = 0 := by omega
    have ep : lkPre s 0 = 0 := rfl
    rw [ep]
    have q : wr.cell? ⟨V, 0, none⟩ = some (.string (ByteArray.mk #[120])) := by rw [cell_of_row _ _ _ _ _ _ R.out]; rfl
    have q1 : wr.cell? ⟨V, 1, none⟩ = some (.int .i64 0) := by rw [cell_of_row _ _ _ _ _ _ R.out]; rfl
    go_wp2_with fail
    refine wp_region_lex (fun _ => True) (by kernel_rfl) (by kernel_rfl) trivial ?_
    repeat (first | (refine lex_q rfl ⟨default, trivial⟩ ?_; go_big_quiet_step (fail); refine wpQuiet_nil ?_) | (refine lex_skip rfl rfl trivial ?_; simp only [Act.put, List.setIfInBounds_toArray, List.set_cons_succ, List.set_cons_zero]) | (refine lex_e rfl ?_; go_wp2_with fail; refine lex_go trivial ?_))
    refine lex_nil ?_
    go_wp2_with fail
    go_wp2
    all_goals
      go_ret3
      exact ⟨by first | rfl | (simp at *; omega), hb.drew⟩
set_option maxHeartbeats 4000000 in
theorem lookup_1 (w : World) (V : Nat) (i s k : Int) (h1 : 1 ≤ s) (h5 : s ≤ 5) (hV : w.heap[V]? = some (.cells #[.string (ByteArray.mk #[120]), .int .i64 0, .int .i64 i, .string (ByteArray.mk #[97]), .int .i64 s, .int .i64 0, .string (ByteArray.mk #[121]), .int .i64 0, .int .i64 0, .string (ByteArray.mk #[122]), .int .i64 0, .int .i64 k, .string (ByteArray.mk #[98]), .int .i64 2, .int .i64 0] 126 (0, 0))) :
    Calls Tryd.prog 69 #[.slice (some ⟨V, 0, none⟩) 5 5, .string (ByteArray.mk #[97])] w fun e w' => e = .returned (.tuple #[.int .i64 (1), .int .i64 (s), .bool true]) ∧ Below w.heap.size w w' := by
  have hVl : V < w.heap.size := (Array.getElem?_eq_some_iff.1 hV).1
  have HV := Lib.hid (fun (w' : World) (hb : Below w.heap.size w w') => (hb.block V hVl).trans hV)
  clear hV
  go_enter Tryd.func69, Tryd.ntmps69
  go_wp2
  go_loopw [7, 8] (fun a b wr => ∃ j : Nat, b = .int .i64 j ∧ j ≤ 1 ∧ a = .int .i64 (lkPre s j) ∧ Below w.heap.size w wr) (fun _ b _ => 1 - (intOf b).toNat)
  case atStart => exact ⟨0, rfl, by omega, rfl, Below.refl _ _⟩
  case round =>
    obtain ⟨j, rfl, hj, rfl, hb⟩ := hrel
    have R := Lib.hid (HV.out wr hb)
    by_cases h0 : j = 0
    · subst h0
      have ep : lkPre s 0 = 0 := rfl
      rw [ep]
      have q : wr.cell? ⟨V, 0, none⟩ = some (.string (ByteArray.mk #[120])) := by rw [cell_of_row _ _ _ _ _ _ R.out]; rfl
      go_wp2_with (refine wpList_ldv (t := 126) (A := ⟨V, 0, none⟩) rfl rfl rfl (ld_var (nm := (ByteArray.mk #[120])) (z := 0) (y := i) R.out rfl) ?_)
      refine (cells_any _ _ _ (by omega) (by omega) wr).mono ?_
      rintro e w2 ⟨rfl, hb2⟩
      have e1 : max (0 : Int) 1 = 1 := by omega
      rw [e1]
      clear e1
      go_wp2
      go_roundw
      case rel => exact ⟨1, rfl, by omega, (by show _ = Value.int .i64 (1); exact congrArg _ (by omega)), Below.ext hb hb2⟩
      case measure => simp [intOf]
    obtain rfl : j = 1 := by omega
    have ep : lkPre s 1 = 1 := rfl
    rw [ep]
    have q : wr.cell? ⟨V, 3, none⟩ = some (.string (ByteArray.mk #[97])) := by rw [cell_of_row _ _ _ _ _ _ R.out]; rfl
    have q1 : wr.cell? ⟨V, 4, none⟩ = some (.int .i64 s) := by rw [cell_of_row _ _ _ _ _ _ R.out]; rfl
    go_wp2_with fail
    refine wp_region_lex (fun _ => True) (by kernel_rfl) (by kernel_rfl) trivial ?_
    repeat (first | (refine lex_q rfl ⟨default, trivial⟩ ?_; go_big_quiet_step (fail); refine wpQuiet_nil ?_) | (refine lex_skip rfl rfl trivial ?_; simp only [Act.put, List.setIfInBounds_toArray, List.set_cons_succ, List.set_cons_zero]) | (refine lex_e rfl ?_; go_wp2_with fail; refine lex_go trivial ?_))
    refine lex_nil ?_
    go_wp2_with fail
    go_wp2
    all_goals
      go_ret3
      exact ⟨by first | rfl | (simp at *; omega), hb.drew⟩
set_option maxHeartbeats 4000000 in
theorem lookup_2 (w : World) (V : Nat) (i s k : Int) (h1 : 1 ≤ s) (h5 : s ≤ 5) (hV : w.heap[V]? = some (.cells #[.string (ByteArray.mk #[120]), .int .i64 0, .int .i64 i, .string (ByteArray.mk #[97]), .int .i64 s, .int .i64 0, .string (ByteArray.mk #[121]), .int .i64 0, .int .i64 0, .string (ByteArray.mk #[122]), .int .i64 0, .int .i64 k, .string (ByteArray.mk #[98]), .int .i64 2, .int .i64 0] 126 (0, 0))) :
    Calls Tryd.prog 69 #[.slice (some ⟨V, 0, none⟩) 5 5, .string (ByteArray.mk #[121])] w fun e w' => e = .returned (.tuple #[.int .i64 (1 + s), .int .i64 (0), .bool true]) ∧ Below w.heap.size w w' := by
  have hVl : V < w.heap.size := (Array.getElem?_eq_some_iff.1 hV).1
  have HV := Lib.hid (fun (w' : World) (hb : Below w.heap.size w w') => (hb.block V hVl).trans hV)
  clear hV
  go_enter Tryd.func69, Tryd.ntmps69
  go_wp2
  go_loopw [7, 8] (fun a b wr => ∃ j : Nat, b = .int .i64 j ∧ j ≤ 2 ∧ a = .int .i64 (lkPre s j) ∧ Below w.heap.size w wr) (fun _ b _ => 2 - (intOf b).toNat)
  case atStart => exact ⟨0, rfl, by omega, rfl, Below.refl _ _⟩
  case round =>
    obtain ⟨j, rfl, hj, rfl, hb⟩ := hrel
    have R := Lib.hid (HV.out wr hb)
    by_cases h0 : j = 0
    · subst h0
      have ep : lkPre s 0 = 0 := rfl
      rw [ep]
      have q : wr.cell? ⟨V, 0, none⟩ = some (.string (ByteArray.mk #[120])) := by rw [cell_of_row _ _ _ _ _ _ R.out]; rfl
      go_wp2_with (refine wpList_ldv (t := 126) (A := ⟨V, 0, none⟩) rfl rfl rfl (ld_var (nm := (ByteArray.mk #[120])) (z := 0) (y := i) R.out rfl) ?_)
      refine (cells_any _ _ _ (by omega) (by omega) wr).mono ?_
      rintro e w2 ⟨rfl, hb2⟩
      have e1 : max (0 : Int) 1 = 1 := by omega
      rw [e1]
      clear e1
      go_wp2
      go_roundw
      case rel => exact ⟨1, rfl, by omega, (by show _ = Value.int .i64 (1); exact congrArg _ (by omega)), Below.ext hb hb2⟩
      case measure => simp [intOf]
    by_cases h1 : j = 1
    · subst h1
      have ep : lkPre s 1 = 1 := rfl
      rw [ep]
      have q : wr.cell? ⟨V, 3, none⟩ = some (.string (ByteArray.mk #[97])) := by rw [cell_of_row _ _ _ _ _ _ R.out]; rfl
      go_wp2_with (refine wpList_ldv (t := 126) (A := ⟨V, 3, none⟩) rfl rfl rfl (ld_var (nm := (ByteArray.mk #[97])) (z := s) (y := 0) R.out rfl) ?_)
      refine (cells_any _ _ _ (by omega) (by omega) wr).mono ?_
      rintro e w2 ⟨rfl, hb2⟩
      have e1 : max (s : Int) 1 = s := by omega
      rw [e1]
      clear e1
      go_wp2
      go_roundw
      case rel => exact ⟨2, rfl, by omega, (by show _ = Value.int .i64 (1 + s); exact congrArg _ (by omega)), Below.ext hb hb2⟩
      case measure => simp [intOf]
    obtain rfl : j = 2 := by omega
    have ep : lkPre s 2 = 1 + s := rfl
    rw [ep]
    have q : wr.cell? ⟨V, 6, none⟩ = some (.string (ByteArray.mk #[121])) := by rw [cell_of_row _ _ _ _ _ _ R.out]; rfl
    have q1 : wr.cell? ⟨V, 7, none⟩ = some (.int .i64 0) := by rw [cell_of_row _ _ _ _ _ _ R.out]; rfl
    go_wp2_with fail
    refine wp_region_lex (fun _ => True) (by kernel_rfl) (by kernel_rfl) trivial ?_
    repeat (first | (refine lex_q rfl ⟨default, trivial⟩ ?_; go_big_quiet_step (fail); refine wpQuiet_nil ?_) | (refine lex_skip rfl rfl trivial ?_; simp only [Act.put, List.setIfInBounds_toArray, List.set_cons_succ, List.set_cons_zero]) | (refine lex_e rfl ?_; go_wp2_with fail; refine lex_go trivial ?_))
    refine lex_nil ?_
    go_wp2_with fail
    go_wp2
    all_goals
      go_ret3
      exact ⟨by first | rfl | (simp at *; omega), hb.drew⟩
set_option maxHeartbeats 4000000 in
theorem lookup_3 (w : World) (V : Nat) (i s k : Int) (h1 : 1 ≤ s) (h5 : s ≤ 5) (hV : w.heap[V]? = some (.cells #[.string (ByteArray.mk #[120]), .int .i64 0, .int .i64 i, .string (ByteArray.mk #[97]), .int .i64 s, .int .i64 0, .string (ByteArray.mk #[121]), .int .i64 0, .int .i64 0, .string (ByteArray.mk #[122]), .int .i64 0, .int .i64 k, .string (ByteArray.mk #[98]), .int .i64 2, .int .i64 0] 126 (0, 0))) :
    Calls Tryd.prog 69 #[.slice (some ⟨V, 0, none⟩) 5 5, .string (ByteArray.mk #[122])] w fun e w' => e = .returned (.tuple #[.int .i64 (2 + s), .int .i64 (0), .bool true]) ∧ Below w.heap.size w w' := by
  have hVl : V < w.heap.size := (Array.getElem?_eq_some_iff.1 hV).1
  have HV := Lib.hid (fun (w' : World) (hb : Below w.heap.size w w') => (hb.block V hVl).trans hV)
  clear hV
  go_enter Tryd.func69, Tryd.ntmps69
  go_wp2
  go_loopw [7, 8] (fun a b wr => ∃ j : Nat, b = .int .i64 j ∧ j ≤ 3 ∧ a = .int .i64 (lkPre s j) ∧ Below w.heap.size w wr) (fun _ b _ => 3 - (intOf b).toNat)
  case atStart => exact ⟨0, rfl, by omega, rfl, Below.refl _ _⟩
  case round =>
    obtain ⟨j, rfl, hj, rfl, hb⟩ := hrel
    have R := Lib.hid (HV.out wr hb)
    by_cases h0 : j = 0
    · subst h0
      have ep : lkPre s 0 = 0 := rfl
      rw [ep]
      have q : wr.cell? ⟨V, 0, none⟩ = some (.string (ByteArray.mk #[120])) := by rw [cell_of_row _ _ _ _ _ _ R.out]; rfl
      go_wp2_with (refine wpList_ldv (t := 126) (A := ⟨V, 0, none⟩) rfl rfl rfl (ld_var (nm := (ByteArray.mk #[120])) (z := 0) (y := i) R.out rfl) ?_)
      refine (cells_any _ _ _ (by omega) (by omega) wr).mono ?_
      rintro e w2 ⟨rfl, hb2⟩
      have e1 : max (0 : Int) 1 = 1 := by omega
      rw [e1]
      clear e1
      go_wp2
      go_roundw
      case rel => exact ⟨1, rfl, by omega, (by show _ = Value.int .i64 (1); exact congrArg _ (by omega)), Below.ext hb hb2⟩
      case measure => simp [intOf]
    by_cases h1 : j = 1
    · subst h1
      have ep : lkPre s 1 = 1 := rfl
      rw [ep]
      have q : wr.cell? ⟨V, 3, none⟩ = some (.string (ByteArray.mk #[97])) := by rw [cell_of_row _ _ _ _ _ _ R.out]; rfl
      go_wp2_with (refine wpList_ldv (t := 126) (A := ⟨V, 3, none⟩) rfl rfl rfl (ld_var (nm := (ByteArray.mk #[97])) (z := s) (y := 0) R.out rfl) ?_)
      refine (cells_any _ _ _ (by omega) (by omega) wr).mono ?_
      rintro e w2 ⟨rfl, hb2⟩
      have e1 : max (s : Int) 1 = s := by omega
      rw [e1]
      clear e1
      go_wp2
      go_roundw
      case rel => exact ⟨2, rfl, by omega, (by show _ = Value.int .i64 (1 + s); exact congrArg _ (by omega)), Below.ext hb hb2⟩
      case measure => simp [intOf]
    by_cases h2 : j = 2
    · subst h2
      have ep : lkPre s 2 = 1 + s := rfl
      rw [ep]
      have q : wr.cell? ⟨V, 6, none⟩ = some (.string (ByteArray.mk #[121])) := by rw [cell_of_row _ _ _ _ _ _ R.out]; rfl
      go_wp2_with (refine wpList_ldv (t := 126) (A := ⟨V, 6, none⟩) rfl rfl rfl (ld_var (nm := (ByteArray.mk #[121])) (z := 0) (y := 0) R.out rfl) ?_)
      refine (cells_any _ _ _ (by omega) (by omega) wr).mono ?_
      rintro e w2 ⟨rfl, hb2⟩
      have e1 : max (0 : Int) 1 = 1 := by omega
      rw [e1]
      clear e1
      go_wp2
      go_roundw
      case rel => exact ⟨3, rfl, by omega, (by show _ = Value.int .i64 (2 + s); exact congrArg _ (by omega)), Below.ext hb hb2⟩
      case measure => simp [intOf]
    obtain rfl : j = 3 := by omega
    have ep : lkPre s 3 = 2 + s := rfl
    rw [ep]
    have q : wr.cell? ⟨V, 9, none⟩ = some (.string (ByteArray.mk #[122])) := by rw [cell_of_row _ _ _ _ _ _ R.out]; rfl
    have q1 : wr.cell? ⟨V, 10, none⟩ = some (.int .i64 0) := by rw [cell_of_row _ _ _ _ _ _ R.out]; rfl
    go_wp2_with fail
    refine wp_region_lex (fun _ => True) (by kernel_rfl) (by kernel_rfl) trivial ?_
    repeat (first | (refine lex_q rfl ⟨default, trivial⟩ ?_; go_big_quiet_step (fail); refine wpQuiet_nil ?_) | (refine lex_skip rfl rfl trivial ?_; simp only [Act.put, List.setIfInBounds_toArray, List.set_cons_succ, List.set_cons_zero]) | (refine lex_e rfl ?_; go_wp2_with fail; refine lex_go trivial ?_))
    refine lex_nil ?_
    go_wp2_with fail
    go_wp2
    all_goals
      go_ret3
      exact ⟨by first | rfl | (simp at *; omega), hb.drew⟩
set_option maxHeartbeats 4000000 in
theorem lookup_4 (w : World) (V : Nat) (i s k : Int) (h1 : 1 ≤ s) (h5 : s ≤ 5) (hV : w.heap[V]? = some (.cells #[.string (ByteArray.mk #[120]), .int .i64 0, .int .i64 i, .string (ByteArray.mk #[97]), .int .i64 s, .int .i64 0, .string (ByteArray.mk #[121]), .int .i64 0, .int .i64 0, .string (ByteArray.mk #[122]), .int .i64 0, .int .i64 k, .string (ByteArray.mk #[98]), .int .i64 2, .int .i64 0] 126 (0, 0))) :
    Calls Tryd.prog 69 #[.slice (some ⟨V, 0, none⟩) 5 5, .string (ByteArray.mk #[98])] w fun e w' => e = .returned (.tuple #[.int .i64 (3 + s), .int .i64 (2), .bool true]) ∧ Below w.heap.size w w' := by
  have hVl : V < w.heap.size := (Array.getElem?_eq_some_iff.1 hV).1
  have HV := Lib.hid (fun (w' : World) (hb : Below w.heap.size w w') => (hb.block V hVl).trans hV)
  clear hV
  go_enter Tryd.func69, Tryd.ntmps69
  go_wp2
  go_loopw [7, 8] (fun a b wr => ∃ j : Nat, b = .int .i64 j ∧ j ≤ 4 ∧ a = .int .i64 (lkPre s j) ∧ Below w.heap.size w wr) (fun _ b _ => 4 - (intOf b).toNat)
  case atStart => exact ⟨0, rfl, by omega, rfl, Below.refl _ _⟩
  case round =>
    obtain ⟨j, rfl, hj, rfl, hb⟩ := hrel
    have R := Lib.hid (HV.out wr hb)
    by_cases h0 : j = 0
    · subst h0
      have ep : lkPre s 0 = 0 := rfl
      rw [ep]
      have q : wr.cell? ⟨V, 0, none⟩ = some (.string (ByteArray.mk #[120])) := by rw [cell_of_row _ _ _ _ _ _ R.out]; rfl
      go_wp2_with (refine wpList_ldv (t := 126) (A := ⟨V, 0, none⟩) rfl rfl rfl (ld_var (nm := (ByteArray.mk #[120])) (z := 0) (y := i) R.out rfl) ?_)
      refine (cells_any _ _ _ (by omega) (by omega) wr).mono ?_
      rintro e w2 ⟨rfl, hb2⟩
      have e1 : max (0 : Int) 1 = 1 := by omega
      rw [e1]
      clear e1
      go_wp2
      go_roundw
      case rel => exact ⟨1, rfl, by omega, (by show _ = Value.int .i64 (1); exact congrArg _ (by omega)), Below.ext hb hb2⟩
      case measure => simp [intOf]
    by_cases h1 : j = 1
    · subst h1
      have ep : lkPre s 1 = 1 := rfl
      rw [ep]
      have q : wr.cell? ⟨V, 3, none⟩ = some (.string (ByteArray.mk #[97])) := by rw [cell_of_row _ _ _ _ _ _ R.out]; rfl
      go_wp2_with (refine wpList_ldv (t := 126) (A := ⟨V, 3, none⟩) rfl rfl rfl (ld_var (nm := (ByteArray.mk #[97])) (z := s) (y := 0) R.out rfl) ?_)
      refine (cells_any _ _ _ (by omega) (by omega) wr).mono ?_
      rintro e w2 ⟨rfl, hb2⟩
      have e1 : max (s : Int) 1 = s := by omega
      rw [e1]
      clear e1
      go_wp2
      go_roundw
      case rel => exact ⟨2, rfl, by omega, (by show _ = Value.int .i64 (1 + s); exact congrArg _ (by omega)), Below.ext hb hb2⟩
      case measure => simp [intOf]
    by_cases h2 : j = 2
    · subst h2
      have ep : lkPre s 2 = 1 + s := rfl
      rw [ep]
      have q : wr.cell? ⟨V, 6, none⟩ = some (.string (ByteArray.mk #[121])) := by rw [cell_of_row _ _ _ _ _ _ R.out]; rfl
      go_wp2_with (refine wpList_ldv (t := 126) (A := ⟨V, 6, none⟩) rfl rfl rfl (ld_var (nm := (ByteArray.mk #[121])) (z := 0) (y := 0) R.out rfl) ?_)
      refine (cells_any _ _ _ (by omega) (by omega) wr).mono ?_
      rintro e w2 ⟨rfl, hb2⟩
      have e1 : max (0 : Int) 1 = 1 := by omega
      rw [e1]
      clear e1
      go_wp2
      go_roundw
      case rel => exact ⟨3, rfl, by omega, (by show _ = Value.int .i64 (2 + s); exact congrArg _ (by omega)), Below.ext hb hb2⟩
      case measure => simp [intOf]
    by_cases h3 : j = 3
    · subst h3
      have ep : lkPre s 3 = 2 + s := rfl
      rw [ep]
      have q : wr.cell? ⟨V, 9, none⟩ = some (.string (ByteArray.mk #[122])) := by rw [cell_of_row _ _ _ _ _ _ R.out]; rfl
      go_wp2_with (refine wpList_ldv (t := 126) (A := ⟨V, 9, none⟩) rfl rfl rfl (ld_var (nm := (ByteArray.mk #[122])) (z := 0) (y := k) R.out rfl) ?_)
      refine (cells_any _ _ _ (by omega) (by omega) wr).mono ?_
      rintro e w2 ⟨rfl, hb2⟩
      have e1 : max (0 : Int) 1 = 1 := by omega
      rw [e1]
      clear e1
      go_wp2
      go_roundw
      case rel => exact ⟨4, rfl, by omega, (by show _ = Value.int .i64 (3 + s); exact congrArg _ (by omega)), Below.ext hb hb2⟩
      case measure => simp [intOf]
    obtain rfl : j = 4 := by omega
    have ep : lkPre s 4 = 3 + s := rfl
    rw [ep]
    have q : wr.cell? ⟨V, 12, none⟩ = some (.string (ByteArray.mk #[98])) := by rw [cell_of_row _ _ _ _ _ _ R.out]; rfl
    have q1 : wr.cell? ⟨V, 13, none⟩ = some (.int .i64 2) := by rw [cell_of_row _ _ _ _ _ _ R.out]; rfl
    go_wp2_with fail
    refine wp_region_lex (fun _ => True) (by kernel_rfl) (by kernel_rfl) trivial ?_
    repeat (first | (refine lex_q rfl ⟨default, trivial⟩ ?_; go_big_quiet_step (fail); refine wpQuiet_nil ?_) | (refine lex_skip rfl rfl trivial ?_; simp only [Act.put, List.setIfInBounds_toArray, List.set_cons_succ, List.set_cons_zero]) | (refine lex_e rfl ?_; go_wp2_with fail; refine lex_go trivial ?_))
    refine lex_nil ?_
    go_wp2_with fail
    go_wp2
    all_goals
      go_ret3
      exact ⟨by first | rfl | (simp at *; omega), hb.drew⟩
set_option maxHeartbeats 4000000 in
theorem lookup_5 (w : World) (V : Nat) (i s k : Int) (h1 : 1 ≤ s) (h5 : s ≤ 5) (hV : w.heap[V]? = some (.cells #[.string (ByteArray.mk #[120]), .int .i64 0, .int .i64 i, .string (ByteArray.mk #[97]), .int .i64 s, .int .i64 0, .string (ByteArray.mk #[121]), .int .i64 0, .int .i64 0, .string (ByteArray.mk #[122]), .int .i64 0, .int .i64 k, .string (ByteArray.mk #[98]), .int .i64 2, .int .i64 0] 126 (0, 0))) :
    Calls Tryd.prog 69 #[.slice (some ⟨V, 0, none⟩) 5 5, .string (ByteArray.mk #[])] w fun e w' => e = .returned (.tuple #[.int .i64 (0), .int .i64 (0), .bool false]) ∧ Below w.heap.size w w' := by
  have hVl : V < w.heap.size := (Array.getElem?_eq_some_iff.1 hV).1
  have HV := Lib.hid (fun (w' : World) (hb : Below w.heap.size w w') => (hb.block V hVl).trans hV)
  clear hV
  go_enter Tryd.func69, Tryd.ntmps69
  go_wp2
  go_loopw [7, 8] (fun a b wr => ∃ j : Nat, b = .int .i64 j ∧ j ≤ 5 ∧ a = .int .i64 (lkPre s j) ∧ Below w.heap.size w wr) (fun _ b _ => 5 - (intOf b).toNat)
  case atStart => exact ⟨0, rfl, by omega, rfl, Below.refl _ _⟩
  case round =>
    obtain ⟨j, rfl, hj, rfl, hb⟩ := hrel
    have R := Lib.hid (HV.out wr hb)
    by_cases h0 : j = 0
    · subst h0
      have ep : lkPre s 0 = 0 := rfl
      rw [ep]
      have q : wr.cell? ⟨V, 0, none⟩ = some (.string (ByteArray.mk #[120])) := by rw [cell_of_row _ _ _ _ _ _ R.out]; rfl
      go_wp2_with (refine wpList_ldv (t := 126) (A := ⟨V, 0, none⟩) rfl rfl rfl (ld_var (nm := (ByteArray.mk #[120])) (z := 0) (y := i) R.out rfl) ?_)
      refine (cells_any _ _ _ (by omega) (by omega) wr).mono ?_
      rintro e w2 ⟨rfl, hb2⟩
      have e1 : max (0 : Int) 1 = 1 := by omega
      rw [e1]
      clear e1
      go_wp2
      go_roundw
      case rel => exact ⟨1, rfl, by omega, (by show _ = Value.int .i64 (1); exact congrArg _ (by omega)), Below.ext hb hb2⟩
      case measure => simp [intOf]
    by_cases h1 : j = 1
    · subst h1
      have ep : lkPre s 1 = 1 := rfl
      rw [ep]
      have q : wr.cell? ⟨V, 3, none⟩ = some (.string (ByteArray.mk #[97])) := by rw [cell_of_row _ _ _ _ _ _ R.out]; rfl
      go_wp2_with (refine wpList_ldv (t := 126) (A := ⟨V, 3, none⟩) rfl rfl rfl (ld_var (nm := (ByteArray.mk #[97])) (z := s) (y := 0) R.out rfl) ?_)
      refine (cells_any _ _ _ (by omega) (by omega) wr).mono ?_
      rintro e w2 ⟨rfl, hb2⟩
      have e1 : max (s : Int) 1 = s := by omega
      rw [e1]
      clear e1
      go_wp2
      go_roundw
      case rel => exact ⟨2, rfl, by omega, (by show _ = Value.int .i64 (1 + s); exact congrArg _ (by omega)), Below.ext hb hb2⟩
      case measure => simp [intOf]
    by_cases h2 : j = 2
    · subst h2
      have ep : lkPre s 2 = 1 + s := rfl
      rw [ep]
      have q : wr.cell? ⟨V, 6, none⟩ = some (.string (ByteArray.mk #[121])) := by rw [cell_of_row _ _ _ _ _ _ R.out]; rfl
      go_wp2_with (refine wpList_ldv (t := 126) (A := ⟨V, 6, none⟩) rfl rfl rfl (ld_var (nm := (ByteArray.mk #[121])) (z := 0) (y := 0) R.out rfl) ?_)
      refine (cells_any _ _ _ (by omega) (by omega) wr).mono ?_
      rintro e w2 ⟨rfl, hb2⟩
      have e1 : max (0 : Int) 1 = 1 := by omega
      rw [e1]
      clear e1
      go_wp2
      go_roundw
      case rel => exact ⟨3, rfl, by omega, (by show _ = Value.int .i64 (2 + s); exact congrArg _ (by omega)), Below.ext hb hb2⟩
      case measure => simp [intOf]
    by_cases h3 : j = 3
    · subst h3
      have ep : lkPre s 3 = 2 + s := rfl
      rw [ep]
      have q : wr.cell? ⟨V, 9, none⟩ = some (.string (ByteArray.mk #[122])) := by rw [cell_of_row _ _ _ _ _ _ R.out]; rfl
      go_wp2_with (refine wpList_ldv (t := 126) (A := ⟨V, 9, none⟩) rfl rfl rfl (ld_var (nm := (ByteArray.mk #[122])) (z := 0) (y := k) R.out rfl) ?_)
      refine (cells_any _ _ _ (by omega) (by omega) wr).mono ?_
      rintro e w2 ⟨rfl, hb2⟩
      have e1 : max (0 : Int) 1 = 1 := by omega
      rw [e1]
      clear e1
      go_wp2
      go_roundw
      case rel => exact ⟨4, rfl, by omega, (by show _ = Value.int .i64 (3 + s); exact congrArg _ (by omega)), Below.ext hb hb2⟩
      case measure => simp [intOf]
    by_cases h4 : j = 4
    · subst h4
      have ep : lkPre s 4 = 3 + s := rfl
      rw [ep]
      have q : wr.cell? ⟨V, 12, none⟩ = some (.string (ByteArray.mk #[98])) := by rw [cell_of_row _ _ _ _ _ _ R.out]; rfl
      go_wp2_with (refine wpList_ldv (t := 126) (A := ⟨V, 12, none⟩) rfl rfl rfl (ld_var (nm := (ByteArray.mk #[98])) (z := 2) (y := 0) R.out rfl) ?_)
      refine (cells_any _ _ _ (by omega) (by omega) wr).mono ?_
      rintro e w2 ⟨rfl, hb2⟩
      have e1 : max (2 : Int) 1 = 2 := by omega
      rw [e1]
      clear e1
      go_wp2
      go_roundw
      case rel => exact ⟨5, rfl, by omega, (by show _ = Value.int .i64 (5 + s); exact congrArg _ (by omega)), Below.ext hb hb2⟩
      case measure => simp [intOf]
    obtain rfl : j = 5 := by omega
    go_wp2
    go_ret3
    exact ⟨rfl, hb⟩
theorem lookup_any (w : World) (V : Nat) (i s k : Int) (h1 : 1 ≤ s) (h5 : s ≤ 5) (hV : w.heap[V]? = some (.cells (varCells i s k) 126 (0, 0))) (nm : ByteArray) (hn : isScal nm ∨ isArr nm ∨ nm = ByteArray.mk #[]) :
    Calls Tryd.prog 69 #[.slice (some ⟨V, 0, none⟩) 5 5, .string nm] w fun e w' => ∃ a b ok, e = .returned (.tuple #[.int .i64 a, .int .i64 b, .bool ok]) ∧ LkOut nm a b ok ∧ Below w.heap.size w w' := by
  rcases hn with (rfl | rfl | rfl) | (rfl | rfl) | rfl
  · exact (lookup_0 w V i s k h1 h5 hV).mono fun e w' h => ⟨_, _, _, h.1, ⟨⟨by omega, by omega⟩, ⟨by omega, by omega⟩, fun _ => ⟨rfl, rfl⟩, fun h => absurd h (by rintro (h | h) <;> revert h <;> decide)⟩, h.2⟩
  · exact (lookup_2 w V i s k h1 h5 hV).mono fun e w' h => ⟨_, _, _, h.1, ⟨⟨by omega, by omega⟩, ⟨by omega, by omega⟩, fun _ => ⟨rfl, rfl⟩, fun h => absurd h (by rintro (h | h) <;> revert h <;> decide)⟩, h.2⟩
  · exact (lookup_3 w V i s k h1 h5 hV).mono fun e w' h => ⟨_, _, _, h.1, ⟨⟨by omega, by omega⟩, ⟨by omega, by omega⟩, fun _ => ⟨rfl, rfl⟩, fun h => absurd h (by rintro (h | h) <;> revert h <;> decide)⟩, h.2⟩
  · exact (lookup_1 w V i s k h1 h5 hV).mono fun e w' h => ⟨_, _, _, h.1, ⟨⟨by omega, by omega⟩, ⟨by omega, by omega⟩, fun h => absurd h (by rintro (h | h | h) <;> revert h <;> decide), fun _ => ⟨h1, rfl⟩⟩, h.2⟩
  · exact (lookup_4 w V i s k h1 h5 hV).mono fun e w' h => ⟨_, _, _, h.1, ⟨⟨by omega, by omega⟩, ⟨by omega, by omega⟩, fun h => absurd h (by rintro (h | h | h) <;> revert h <;> decide), fun _ => ⟨by omega, rfl⟩⟩, h.2⟩
  · exact (lookup_5 w V i s k h1 h5 hV).mono fun e w' h => ⟨_, _, _, h.1, ⟨⟨by omega, by omega⟩, ⟨by omega, by omega⟩, fun h => absurd h (by rintro (h | h | h) <;> revert h <;> decide), fun h => absurd h (by rintro (h | h) <;> revert h <;> decide)⟩, h.2⟩
end Go.Proofs.YtiblijmngokcgaaDoor
