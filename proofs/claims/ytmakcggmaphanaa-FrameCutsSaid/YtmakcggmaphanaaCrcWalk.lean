/-
  The walks of package crc and of the document's checksum, and of Mod.
-/
import Derived.Test.YtmakcggmaphanaaProg
import Derived.Test.YtmakcggmaphanaaCrcFn
namespace Go.Proofs.Ytmakcggmaphanaa
open Go.RowKit
attribute [local irreducible] tabCells stpN stp tab inv pby rby
set_option maxRecDepth 100000
set_option linter.unusedVariables false

theorem zeroTab (w : World) : (zeroValue 48).run Try.prog w = .ok (.agg (tabCells 0)) w := by kernel_rfl

set_option maxHeartbeats 400000 in
theorem table_any (w : World) : Calls Try.prog 29 #[] w fun e w' => e = .returned (.agg (tabCells 256)) ∧ Below w.heap.size w w' := by
  have hz := zeroTab
  go_enter Try.func29, Try.ntmps29
  go_wp2
  go_loopw [2, 3, 4] (fun _ _ i wr => ∃ k : Nat, k ≤ 256 ∧ i = .int .u32 k ∧ wr.heap[w.heap.size + 1]? = some (.cells (tabCells k) 48 (0,0)) ∧ wr.heap[w.heap.size]? = some (.cells (tabCells 0) 48 (0,0)) ∧ Below w.heap.size w wr) (fun _ _ i _ => 256 - (intOf i).toNat)
  case atStart =>
    exact ⟨0, by omega, rfl, heap_alloc2_new _ _ _, heap_alloc2_old _ _ _, ((Below.refl _ _).alloc (Nat.le_refl _) _).alloc (by simp) _⟩
  case round =>
    clear hz
    obtain ⟨k, hk, rfl, h1, h0, hb⟩ := hrel
    by_cases hlt : k < 256
    · have hc : wr.cell? ⟨w.heap.size + 1, k, none⟩ = some (.int .u32 0) := by
        rw [cell_of_row _ _ _ _ _ _ h1, tabCells_get _ _ hlt]; simp
      have hf : wr.frozen? ⟨w.heap.size + 1, k, none⟩ = false := frozen_of_row _ _ _ _ _ h1
      have H1 := Lib.hid h1
      have H0 := Lib.hid h0
      clear h1 h0
      go_wp2
      go_loop [3, 8] (fun s j => ∃ m : Nat, m ≤ 8 ∧ j = .int .i64 m ∧ s = .int .u32 (stpN m k : Nat)) (fun _ j => 8 - (intOf j).toNat)
      case atStart => exact ⟨0, by omega, rfl, by rw [stpN_zero]⟩
      case round =>
        obtain ⟨m, hm, rfl, rfl⟩ := hrel
        by_cases hlt2 : m < 8
        · have hb := stpN_lt (s := k) (by omega) m
          go_wp2
          · go_round
            case rel =>
              refine ⟨m + 1, by omega, by go_num, ?_⟩
              rw [odd_step hb (by assumption), stpN_succ]
            case measure => simp [intOf]; omega
          · go_round
            case rel =>
              refine ⟨m + 1, by omega, by go_num, ?_⟩
              rw [stpN_succ, even_step hb (by assumption)]; rfl
            case measure => simp [intOf]; omega
        · obtain rfl : m = 8 := by omega
          go_wp2
          go_roundw
          case rel => exact ⟨k + 1, by omega, by go_num, (by rw [heap_setCell_same _ _ _ _ _ _ H1.out]; rw [← tabCells_set k hlt, tab_def]), (by rw [heap_setCell_other _ _ _ _ (by simp)]; exact H0.out), hb.setCell (by simp) _⟩
          case measure => simp [intOf]; omega
    · obtain rfl : k = 256 := by omega
      have H1 := Lib.hid h1
      have H0 := Lib.hid h0
      clear h1 h0
      go_wp2_with (first | (refine wpList_load_row rfl 48 _ rfl (w.heap.size+1) rfl 48 (tabCells 256) (0,0) _ H1.out Try.underlying48 rfl (by kernel_rfl) ?_) | (refine wpList_store_row rfl 48 _ _ rfl w.heap.size 48 (tabCells 0) (tabCells 256) rfl rfl H0.out (by kernel_rfl) (by simp [tabCells_size]) (tabCells_one _) ?_))
      refine bodyPost_ret (results_cell_row rfl _ _ w.heap.size 48 (tabCells 256) (0, 0) _ rfl (setRow_heap _ _ _ _ _ _ H0.out) Try.underlying48 rfl (by kernel_rfl)) rfl ⟨rfl, ?_⟩
      exact Below.setRow hb (Nat.le_refl _) _

set_option maxHeartbeats 400000 in
theorem update_any (s : Nat) (v : Value) (l : List UInt8) (S : Nat → Prop) (w : World) (hs : s < 4294967296) (hv : Bytes S w v l) :
    Calls Try.prog 16 #[.int .u32 s, v] w fun e w' => e = .returned (.int .u32 (upd s l : Nat)) ∧ Below w.heap.size w w' := by
  obtain ⟨A, c, rfl, hc1, hc2, hcs⟩ := hv
  unfold maxLen at hc2
  have hz := zeroTab
  go_enter Try.func16, Try.ntmps16
  go_wp2_with (first | (go_at_call 29; refine (table_any _).mono ?_; rintro e w1 ⟨rfl, hb1⟩) | (refine wpList_store_new rfl 48 _ _ rfl 48 (tabCells 0) (tabCells 256) rfl rfl (by kernel_rfl) (by simp [tabCells_size]) (tabCells_one _) ?_))
  have hinv : bits BinOp.xor IntKind.u32 IntKind.u32.max (s : Int) = ((inv s : Nat) : Int) := inv_step hs
  clear hz
  go_loop [6, 14] (fun t i => ∃ k : Nat, k ≤ l.length ∧ i = .int .i64 k ∧ t = .int .u32 ((l.take k).foldl pby (inv s) : Nat)) (fun _ i => l.length - (intOf i).toNat)
  case atStart => exact ⟨0, by omega, rfl, by rw [hinv]; rfl⟩
  case round =>
    obtain ⟨k, hk, rfl, rfl⟩ := hrel
    clear hinv
    by_cases hlt : k < l.length
    · obtain ⟨b, off, x, rfl, _, hb, hx, hcell⟩ := (hcs.keep (Keep.of_below hb1)).byte hlt
      have hcell' : (w1.alloc (.cells (tabCells 256) 48)).cell? ⟨b, off + k, none⟩ = some (.int .u8 (x.toNat : Int)) := by
        rw [World.cell?_alloc_lt _ _ _ hb]; exact hcell
      have hlt8 := u8_lt x
      have ht := foldl_pby_lt (inv_lt hs) (l.take k)
      have Hx := Lib.hid hx
      clear hx hcell
      generalize ht0 : (l.take k).foldl pby (inv s) = t at ht ⊢
      have Ht0 := Lib.hid ht0
      clear ht0
      have hbx := xor8_step t x
      have hj := idx_lt t x
      have hq := Lib.hid (pby_step ht x)
      generalize t % 256 ^^^ x.toNat = j at hbx hj hq
      have htab : (tabCells 256)[j]? = some (.int .u32 (tab j : Nat)) := by rw [tabCells_get _ _ hj, if_pos hj]
      go_wp2
      go_round
      case rel => exact ⟨k + 1, by omega, by go_num, by rw [hq.out, foldl_take_succ _ _ _ _ _ Hx.out, Ht0.out]⟩
      case measure => simp [intOf]; omega
    · obtain rfl : k = l.length := by omega
      have ht := foldl_pby_lt (inv_lt hs) l
      have hfin := Lib.hid (inv_step ht)
      rw [List.take_length]
      go_wp2
      go_ret
      refine ⟨?_, hb1.alloc hb1.size _⟩
      exact congrArg _ (congrArg _ hfin.out)

theorem of_any (v : Value) (l : List UInt8) (S : Nat → Prop) (w : World) (hv : Bytes S w v l) :
    Calls Try.prog 14 #[v] w fun e w' => e = .returned (.int .u32 (upd 0 l : Nat)) ∧ Below w.heap.size w w' := by
  go_enter Try.func14, Try.ntmps14
  go_wp2_with (go_at_call 16; refine (update_any 0 v l S _ (by omega) hv).mono ?_; rintro e w1 ⟨rfl, hb1⟩)
  go_ret
  exact ⟨rfl, hb1⟩

set_option maxHeartbeats 400000 in
theorem refupdate_any (s : Nat) (v : Value) (l : List UInt8) (S : Nat → Prop) (w : World) (hs : s < 4294967296) (hv : Bytes S w v l) :
    Calls Try.prog 17 #[.int .u32 s, v] w fun e w' => e = .returned (.int .u32 (rupd s l : Nat)) ∧ w = w' := by
  obtain ⟨A, c, rfl, hc1, hc2, hcs⟩ := hv
  unfold maxLen at hc2
  go_enter Try.func17, Try.ntmps17
  go_wp2
  have hinv : bits BinOp.xor IntKind.u32 IntKind.u32.max (s : Int) = ((inv s : Nat) : Int) := inv_step hs
  go_loop [5, 6] (fun t i => ∃ k : Nat, k ≤ l.length ∧ i = .int .i64 k ∧ t = .int .u32 ((l.take k).foldl rby (inv s) : Nat)) (fun _ i => l.length - (intOf i).toNat)
  case atStart => exact ⟨0, by omega, rfl, by rw [hinv]; rfl⟩
  case round =>
    obtain ⟨k, hk, rfl, rfl⟩ := hrel
    clear hinv
    by_cases hlt : k < l.length
    · obtain ⟨b, off, x, rfl, _, hb, hx, hcell⟩ := hcs.byte hlt
      have hlt8 := u8_lt x
      have ht := foldl_rby_lt (inv_lt hs) (l.take k)
      have Hx := Lib.hid hx
      clear hx
      generalize ht0 : (l.take k).foldl rby (inv s) = t at ht ⊢
      have Ht0 := Lib.hid ht0
      clear ht0
      have hbx : bits BinOp.xor IntKind.u32 (t : Int) (x.toNat : Int) = ((t ^^^ x.toNat : Nat) : Int) := u32_xor_nat _ _ ht (by omega)
      have hq : t ^^^ x.toNat < 4294967296 := Nat.xor_lt_two_pow (n := 32) (by omega) (by omega)
      go_wp2
      go_loop [5, 7] (fun u j => ∃ m : Nat, m ≤ 8 ∧ j = .int .i64 m ∧ u = .int .u32 (stpN m (t ^^^ x.toNat) : Nat)) (fun _ j => 8 - (intOf j).toNat)
      case atStart => exact ⟨0, by omega, rfl, by rw [stpN_zero]⟩
      case round =>
        obtain ⟨m, hm, rfl, rfl⟩ := hrel
        clear hbx
        by_cases hlt2 : m < 8
        · have hb := stpN_lt hq m
          go_wp2
          · go_round
            case rel =>
              refine ⟨m + 1, by omega, by go_num, ?_⟩
              rw [odd_step' hb (by assumption), stpN_succ]
            case measure => simp [intOf]; omega
          · go_round
            case rel =>
              refine ⟨m + 1, by omega, by go_num, ?_⟩
              rw [stpN_succ, even_step' hb (by assumption)]; rfl
            case measure => simp [intOf]; omega
        · obtain rfl : m = 8 := by omega
          go_wp2
          go_round
          case rel => exact ⟨k + 1, by omega, by go_num, by rw [foldl_take_succ _ _ _ _ _ Hx.out, Ht0.out, rby_def]⟩
          case measure => simp [intOf]; omega
    · obtain rfl : k = l.length := by omega
      have ht := foldl_rby_lt (inv_lt hs) l
      have hfin := Lib.hid (inv_step ht)
      rw [List.take_length]
      go_wp2
      go_ret
      refine ⟨?_, rfl⟩
      exact congrArg _ (congrArg _ hfin.out)

theorem refof_any (v : Value) (l : List UInt8) (S : Nat → Prop) (w : World) (hv : Bytes S w v l) :
    Calls Try.prog 15 #[v] w fun e w' => e = .returned (.int .u32 (rupd 0 l : Nat)) ∧ w = w' := by
  go_enter Try.func15, Try.ntmps15
  go_wp2_with (go_at_call 17; refine (refupdate_any 0 v l S _ (by omega) hv).mono ?_; rintro e w1 ⟨rfl, rfl⟩)
  go_ret
  exact ⟨rfl, rfl⟩

theorem mkBytes (n : Nat) (hn : n ≤ 140737488355328) (w : World) : (Instr.makeSlice 23 (.int .i64 (n : Int)) (.int .i64 (n : Int))).run Try.prog w = .ok (.slice (some ⟨w.heap.size, 0, none⟩) n n) (w.alloc (.cells (brow (List.replicate n 0)) 5)) := by
  obtain ⟨i, hi, hz, hs, hb⟩ := info_parts (P := Try.prog) (e := 5) (z := .int .u8 0) (size := 1) (bytes := 1) (by kernel_rfl)
  have h := run_make (P := Try.prog) w 23 5 i (.int .u8 0) Try.underlying23 hi hz .i64 .i64 n n (by omega) (by omega) (by rw [hb]; omega) (by omega)
  rw [h, hs]
  simp only [Int.toNat_natCast, Nat.mul_one]
  rw [← madeCells_brow]
  rfl
theorem mod_lem (x n : Int) (hn : 1 ≤ n) : (0 ≤ x.tmod n → x.tmod n = x % n) ∧ (x.tmod n < 0 → x.tmod n + n = x % n) := by
  have e := Int.tmod_eq_emod (a := x) (b := n)
  have h1 := Int.emod_nonneg x (b := n) (by omega)
  have h2 := Int.emod_lt_of_pos x (b := n) (by omega)
  split at e
  · constructor <;> intros <;> omega
  · constructor <;> intros <;> omega
set_option maxHeartbeats 400000 in
theorem mod_any (x n : Int) (w : World) (hn : 1 ≤ n) (hn2 : n ≤ 9223372036854775807) (hx1 : -9223372036854775808 ≤ x) (hx2 : x ≤ 9223372036854775807):
    Calls Try.prog 18 #[.int .i64 x, .int .i64 n] w fun e w' => e = .returned (.int .i64 (x % n)) ∧ w = w' := by
  have hm := Lib.hid (mod_lem x n hn)
  have h1 := Int.emod_nonneg x (b := n) (by omega)
  have h2 := Int.emod_lt_of_pos x (b := n) (by omega)
  go_enter Try.func18, Try.ntmps18
  go_wp2
  · go_ret
    have h : x.tmod n < 0 := by assumption
    have e := hm.out.2 h
    refine ⟨ret_int ?_, rfl⟩
    rw [e]
    exact IntWalk.wrap64_in _ ⟨by omega, by omega⟩
  · go_ret
    have h : 0 ≤ x.tmod n := by assumption
    exact ⟨ret_int (hm.out.1 h), rfl⟩

theorem awake09_1 : upd 0 [49, 50, 51, 52, 53, 54, 55, 56, 57] = 3421780262 := by decide +kernel
theorem awake09_2 : upd 0 [0, 0, 0, 0] = 558161692 := by decide +kernel
set_option maxHeartbeats 400000 in
theorem awake09_any (w : World) : Calls Try.prog 13 #[] w fun e w' => e = .returned (.bool true) ∧ Below w.heap.size w w' := by
  have kc := fun (w : World) (C : Array Value) (n c : Nat) => Lib.run_convert_bytes_const (P := Try.prog) w 23 5 C n c Try.underlying23 Try.underlying5
  go_enter Try.func13, Try.ntmps13
  go_wp2_with fail
  clear kc
  refine (of_any _ [49, 50, 51, 52, 53, 54, 55, 56, 57] (fun _ => True) _ (Bytes.lit w _ _ _ _ 9 9 trivial rfl (by omega) (by simp [maxLen]) rfl)).mono ?_
  rintro e w1 ⟨rfl, hb1⟩
  rw [awake09_1]
  go_wp2_with fail
  refine (of_any _ [0, 0, 0, 0] (fun _ => True) _ (Bytes.lit w1 _ _ _ _ 4 4 trivial rfl (by omega) (by simp [maxLen]) rfl)).mono ?_
  rintro e w2 ⟨rfl, hb2⟩
  rw [awake09_2]
  go_wp2_with fail
  go_ret
  have hs1 := hb1.size
  have hs2 := hb2.size
  simp only [World.size_alloc] at hs1 hs2
  exact ⟨rfl, ((((Below.refl _ _).alloc (Nat.le_refl _) _).trans (hb1.mono (by simp))).alloc (by omega) _).trans (hb2.mono (by simp; omega))⟩
end Go.Proofs.Ytmakcggmaphanaa
