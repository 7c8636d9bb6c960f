/-
  Joined from texts of ours: XCrcFn, XCrcWalk, XCrcLaw.
-/
import Derived.Test.YtjcfnpmgklliiaaKit
import Derived.Laws.BitsAllLaws
import Derived.Test.YtjcfnpmgklliiaaProg
namespace Go.Proofs.Ytjcfnpmgklliiaa
open Go.RowKit

def stp (s : Nat) : Nat := if s % 2 = 1 then (s / 2) ^^^ 3988292384 else s / 2
def stpN : Nat → Nat → Nat
  | 0, s => s
  | k + 1, s => stp (stpN k s)
def tab (i : Nat) : Nat := stpN 8 i
def inv (s : Nat) : Nat := 4294967295 ^^^ s
/-- one byte of the program's update -/
def pby (s : Nat) (c : UInt8) : Nat := (s / 256) ^^^ tab ((s % 256) ^^^ c.toNat)
/-- one byte of the document's update -/
def rby (s : Nat) (c : UInt8) : Nat := stpN 8 (s ^^^ c.toNat)
def upd (s : Nat) (l : List UInt8) : Nat := inv (l.foldl pby (inv s))
def rupd (s : Nat) (l : List UInt8) : Nat := inv (l.foldl rby (inv s))

theorem stpN_succ (k s : Nat) : stpN (k + 1) s = stp (stpN k s) := rfl
theorem stpN_zero (s : Nat) : stpN 0 s = s := rfl
theorem tab_def (s : Nat) : tab s = stpN 8 s := rfl
theorem rby_def (s : Nat) (c : UInt8) : rby s c = stpN 8 (s ^^^ c.toNat) := rfl
theorem stp_lt {s : Nat} (h : s < 4294967296) : stp s < 4294967296 := by
  unfold stp
  split
  · exact Nat.xor_lt_two_pow (n := 32) (by omega) (by omega)
  · omega
theorem stpN_lt {s : Nat} (h : s < 4294967296) : ∀ k, stpN k s < 4294967296
  | 0 => h
  | k + 1 => stp_lt (stpN_lt h k)
theorem inv_lt {s : Nat} (h : s < 4294967296) : inv s < 4294967296 := Nat.xor_lt_two_pow (n := 32) (by omega) (by omega)
theorem idx_lt (s : Nat) (c : UInt8) : (s % 256) ^^^ c.toNat < 256 := Nat.xor_lt_two_pow (n := 8) (by omega) (u8_lt c)
theorem pby_lt {s : Nat} (h : s < 4294967296) (c : UInt8) : pby s c < 4294967296 :=
  Nat.xor_lt_two_pow (n := 32) (by omega) (stpN_lt (by have := idx_lt s c; omega) 8)
theorem rby_lt {s : Nat} (h : s < 4294967296) (c : UInt8) : rby s c < 4294967296 :=
  stpN_lt (Nat.xor_lt_two_pow (n := 32) (by omega) (by have := u8_lt c; omega)) 8
theorem foldl_pby_lt {s : Nat} (h : s < 4294967296) (l : List UInt8) : l.foldl pby s < 4294967296 := by
  induction l generalizing s with
  | nil => exact h
  | cons c l ih => exact ih (pby_lt h c)
theorem foldl_rby_lt {s : Nat} (h : s < 4294967296) (l : List UInt8) : l.foldl rby s < 4294967296 := by
  induction l generalizing s with
  | nil => exact h
  | cons c l ih => exact ih (rby_lt h c)
theorem upd_lt {s : Nat} (h : s < 4294967296) (l : List UInt8) : upd s l < 4294967296 := inv_lt (foldl_pby_lt (inv_lt h) l)
theorem rupd_lt {s : Nat} (h : s < 4294967296) (l : List UInt8) : rupd s l < 4294967296 := inv_lt (foldl_rby_lt (inv_lt h) l)
theorem foldl_take_succ {β : Type} (f : β → UInt8 → β) (b : β) (l : List UInt8) (k : Nat) (c : UInt8) (h : l[k]? = some c) : (l.take (k + 1)).foldl f b = f ((l.take k).foldl f b) c := by
  obtain ⟨hk, rfl⟩ := List.getElem?_eq_some_iff.1 h
  rw [List.take_succ_eq_append_getElem hk, List.foldl_append]
  rfl
theorem foldl_take_all {β : Type} (f : β → UInt8 → β) (b : β) (l : List UInt8) (k : Nat) (h : l.length ≤ k) : (l.take k).foldl f b = l.foldl f b := by rw [List.take_of_length_le h]

/-- a step of the program's spelling -/
theorem even_step {s : Nat} (hs : s < 4294967296) (h : (bits BinOp.and IntKind.u32 (s : Int) 1 != 0) = false) : stp s = s / 2 := by
  have e : bits BinOp.and IntKind.u32 (s : Int) ((1 : Nat) : Int) = _ := u32_and_nat s 1 hs (by omega)
  rw [nat_mask1] at e
  simp only [Int.natCast_one] at e
  rw [e] at h
  simp at h
  unfold stp
  rw [if_neg (by omega)]
theorem odd_step {s : Nat} (hs : s < 4294967296) (h : (bits BinOp.and IntKind.u32 (s : Int) 1 != 0) = true) : (bits BinOp.xor IntKind.u32 ((s : Int) / 2) 3988292384) = ((stp s : Nat) : Int) := by
  have e : bits BinOp.and IntKind.u32 (s : Int) ((1 : Nat) : Int) = _ := u32_and_nat s 1 hs (by omega)
  rw [nat_mask1] at e
  simp only [Int.natCast_one] at e
  rw [e] at h
  simp at h
  unfold stp
  rw [if_pos (by omega)]
  exact u32_xor_nat (s / 2) 3988292384 (by omega) (by omega)
/-- a step of the document's spelling -/
theorem even_step' {s : Nat} (hs : s < 4294967296) (h : (bits BinOp.and IntKind.u32 (s : Int) 1 == 1) = false) : stp s = s / 2 := by
  have e : bits BinOp.and IntKind.u32 (s : Int) ((1 : Nat) : Int) = _ := u32_and_nat s 1 hs (by omega)
  rw [nat_mask1] at e
  simp only [Int.natCast_one] at e
  rw [e] at h
  simp at h
  unfold stp
  rw [if_neg (by omega)]
theorem odd_step' {s : Nat} (hs : s < 4294967296) (h : (bits BinOp.and IntKind.u32 (s : Int) 1 == 1) = true) : (bits BinOp.xor IntKind.u32 ((s : Int) / 2) 3988292384) = ((stp s : Nat) : Int) := by
  have e : bits BinOp.and IntKind.u32 (s : Int) ((1 : Nat) : Int) = _ := u32_and_nat s 1 hs (by omega)
  rw [nat_mask1] at e
  simp only [Int.natCast_one] at e
  rw [e] at h
  simp at h
  unfold stp
  rw [if_pos (by omega)]
  exact u32_xor_nat (s / 2) 3988292384 (by omega) (by omega)
theorem inv_step {s : Nat} (hs : s < 4294967296) : bits BinOp.xor IntKind.u32 4294967295 (s : Int) = ((inv s : Nat) : Int) := u32_xor_nat 4294967295 s (by omega) hs

theorem xor8_step (t : Nat) (x : UInt8) : bits BinOp.xor IntKind.u8 ((t : Int) % 256) (x.toNat : Int) = ((t % 256 ^^^ x.toNat : Nat) : Int) :=
  u8_xor_nat (t % 256) x.toNat (by omega) (u8_lt x)
theorem pby_step {t : Nat} (ht : t < 4294967296) (x : UInt8) : bits BinOp.xor IntKind.u32 ((t : Int) / 256) ((tab (t % 256 ^^^ x.toNat) : Nat) : Int) = ((pby t x : Nat) : Int) :=
  u32_xor_nat (t / 256) _ (by omega) (stpN_lt (by have := idx_lt t x; omega) 8)
/-- the cells of the table, of which k are filled -/
def tabCells (k : Nat) : Array Value := ((List.range 256).map fun i => Value.int .u32 ((if i < k then tab i else 0 : Nat) : Int)).toArray
theorem tabCells_get (k j : Nat) (h : j < 256) : (tabCells k)[j]? = some (.int .u32 ((if j < k then tab j else 0 : Nat) : Int)) := by
  unfold tabCells
  simp [h]
theorem tabCells_size (k : Nat) : (tabCells k).size = 256 := by simp [tabCells]
theorem tabCells_one (k : Nat) : (tabCells k).all (·.oneCell') = true := by
  unfold tabCells
  exact all_oneCell_toArray (by simp [Value.oneCell'])
theorem tabCells_set (k : Nat) (h : k < 256) : (tabCells k).setIfInBounds k (.int .u32 (tab k : Nat)) = tabCells (k + 1) := by
  apply Array.ext_getElem?
  intro j
  by_cases hj : j < 256
  · rw [tabCells_get _ _ hj]
    by_cases e : j = k
    · subst e
      rw [Array.getElem?_setIfInBounds_self_of_lt (by rw [tabCells_size]; exact hj)]
      simp
    · rw [Array.getElem?_setIfInBounds_ne (by omega), tabCells_get _ _ hj]
      have : (j < k + 1) ↔ (j < k) := by omega
      simp [this]
  · rw [Array.getElem?_eq_none (by simp [tabCells_size]; omega), Array.getElem?_eq_none (by simp [tabCells_size]; omega)]
end Go.Proofs.Ytjcfnpmgklliiaa

namespace Go.Proofs.Ytjcfnpmgklliiaa
open Go.RowKit
attribute [local irreducible] tabCells stpN stp tab inv pby rby
set_option maxRecDepth 100000
set_option linter.unusedVariables false

theorem zeroTab (w : World) : (zeroValue 113).run Try.prog w = .ok (.agg (tabCells 0)) w := by kernel_rfl

set_option maxHeartbeats 400000 in
theorem table_any (w : World) : Calls Try.prog 85 #[] w fun e w' => e = .returned (.agg (tabCells 256)) ∧ Below w.heap.size w w' := by
  have hz := zeroTab
  go_enter Try.func85, Try.ntmps85
  go_wp2
  go_loopw [2, 3, 4] (fun _ _ i wr => ∃ k : Nat, k ≤ 256 ∧ i = .int .u32 k ∧ wr.heap[w.heap.size + 1]? = some (.cells (tabCells k) 113 (0,0)) ∧ wr.heap[w.heap.size]? = some (.cells (tabCells 0) 113 (0,0)) ∧ Below w.heap.size w wr) (fun _ _ i _ => 256 - (intOf i).toNat)
  case atStart =>
    exact ⟨0, by omega, rfl, heap_alloc2_new _ _ _, heap_alloc2_old _ _ _, ((Below.refl _ _).alloc (Nat.le_refl _) _).alloc (by simp) _⟩
  case round =>
    clear hz
    obtain ⟨k, hk, rfl, h1, h0, hb⟩ := hrel
    by_cases hlt : k < 256
    · have hc : wr.cell? ⟨w.heap.size + 1, k, none⟩ = some (.int .u32 0) := by
        rw [cell_of_row _ _ _ _ _ _ h1, tabCells_get _ _ hlt]; simp
      have hf : wr.frozen? ⟨w.heap.size + 1, k, none⟩ = false := frozen_of_row _ _ _ _ _ h1
      have H1 := Lib.hid h1
      have H0 := Lib.hid h0
      clear h1 h0
      go_wp2
      go_loop [3, 8] (fun s j => ∃ m : Nat, m ≤ 8 ∧ j = .int .i64 m ∧ s = .int .u32 (stpN m k : Nat)) (fun _ j => 8 - (intOf j).toNat)
      case atStart => exact ⟨0, by omega, rfl, by rw [stpN_zero]⟩
      case round =>
        obtain ⟨m, hm, rfl, rfl⟩ := hrel
        by_cases hlt2 : m < 8
        · have hb := stpN_lt (s := k) (by omega) m
          go_wp2
          · go_round
            case rel =>
              refine ⟨m + 1, by omega, by go_num, ?_⟩
              rw [odd_step hb (by assumption), stpN_succ]
            case measure => simp [intOf]; omega
          · go_round
            case rel =>
              refine ⟨m + 1, by omega, by go_num, ?_⟩
              rw [stpN_succ, even_step hb (by assumption)]; rfl
            case measure => simp [intOf]; omega
        · obtain rfl : m = 8 := by omega
          go_wp2
          go_roundw
          case rel => exact ⟨k + 1, by omega, by go_num, (by rw [heap_setCell_same _ _ _ _ _ _ H1.out]; rw [← tabCells_set k hlt, tab_def]), (by rw [heap_setCell_other _ _ _ _ (by simp)]; exact H0.out), hb.setCell (by simp) _⟩
          case measure => simp [intOf]; omega
    · obtain rfl : k = 256 := by omega
      have H1 := Lib.hid h1
      have H0 := Lib.hid h0
      clear h1 h0
      go_wp2_with (first | (refine wpList_load_row rfl 113 _ rfl (w.heap.size+1) rfl 113 (tabCells 256) (0,0) _ H1.out Try.underlying113 rfl (by kernel_rfl) ?_) | (refine wpList_store_row rfl 113 _ _ rfl w.heap.size 113 (tabCells 0) (tabCells 256) rfl rfl H0.out (by kernel_rfl) (by simp [tabCells_size]) (tabCells_one _) ?_))
      refine bodyPost_ret (results_cell_row rfl _ _ w.heap.size 113 (tabCells 256) (0, 0) _ rfl (setRow_heap _ _ _ _ _ _ H0.out) Try.underlying113 rfl (by kernel_rfl)) rfl ⟨rfl, ?_⟩
      exact Below.setRow hb (Nat.le_refl _) _

set_option maxHeartbeats 400000 in
theorem update_any (s : Nat) (v : Value) (l : List UInt8) (S : Nat → Prop) (w : World) (hs : s < 4294967296) (hv : Bytes S w v l) :
    Calls Try.prog 54 #[.int .u32 s, v] w fun e w' => e = .returned (.int .u32 (upd s l : Nat)) ∧ Below w.heap.size w w' := by
  obtain ⟨A, c, rfl, hc1, hc2, hcs⟩ := hv
  unfold maxLen at hc2
  have hz := zeroTab
  go_enter Try.func54, Try.ntmps54
  go_wp2_with (first | (go_at_call 85; refine (table_any _).mono ?_; rintro e w1 ⟨rfl, hb1⟩) | (refine wpList_store_new rfl 113 _ _ rfl 113 (tabCells 0) (tabCells 256) rfl rfl (by kernel_rfl) (by simp [tabCells_size]) (tabCells_one _) ?_))
  have hinv : bits BinOp.xor IntKind.u32 IntKind.u32.max (s : Int) = ((inv s : Nat) : Int) := inv_step hs
  clear hz
  go_loop [6, 14] (fun t i => ∃ k : Nat, k ≤ l.length ∧ i = .int .i64 k ∧ t = .int .u32 ((l.take k).foldl pby (inv s) : Nat)) (fun _ i => l.length - (intOf i).toNat)
  case atStart => exact ⟨0, by omega, rfl, by rw [hinv]; rfl⟩
  case round =>
    obtain ⟨k, hk, rfl, rfl⟩ := hrel
    clear hinv
    by_cases hlt : k < l.length
    · obtain ⟨b, off, x, rfl, _, hb, hx, hcell⟩ := (hcs.keep (Keep.of_below hb1)).byte hlt
      have hcell' : (w1.alloc (.cells (tabCells 256) 113)).cell? ⟨b, off + k, none⟩ = some (.int .u8 (x.toNat : Int)) := by
        rw [World.cell?_alloc_lt _ _ _ hb]; exact hcell
      have hlt8 := u8_lt x
      have ht := foldl_pby_lt (inv_lt hs) (l.take k)
      have Hx := Lib.hid hx
      clear hx hcell
      generalize ht0 : (l.take k).foldl pby (inv s) = t at ht ⊢
      have Ht0 := Lib.hid ht0
      clear ht0
      have hbx := xor8_step t x
      have hj := idx_lt t x
      have hq := Lib.hid (pby_step ht x)
      generalize t % 256 ^^^ x.toNat = j at hbx hj hq
      have htab : (tabCells 256)[j]? = some (.int .u32 (tab j : Nat)) := by rw [tabCells_get _ _ hj, if_pos hj]
      go_wp2
      go_round
      case rel => exact ⟨k + 1, by omega, by go_num, by rw [hq.out, foldl_take_succ _ _ _ _ _ Hx.out, Ht0.out]⟩
      case measure => simp [intOf]; omega
    · obtain rfl : k = l.length := by omega
      have ht := foldl_pby_lt (inv_lt hs) l
      have hfin := Lib.hid (inv_step ht)
      rw [List.take_length]
      go_wp2
      go_ret
      refine ⟨?_, hb1.alloc hb1.size _⟩
      exact congrArg _ (congrArg _ hfin.out)

theorem of_any (v : Value) (l : List UInt8) (S : Nat → Prop) (w : World) (hv : Bytes S w v l) :
    Calls Try.prog 55 #[v] w fun e w' => e = .returned (.int .u32 (upd 0 l : Nat)) ∧ Below w.heap.size w w' := by
  go_enter Try.func55, Try.ntmps55
  go_wp2_with (go_at_call 54; refine (update_any 0 v l S _ (by omega) hv).mono ?_; rintro e w1 ⟨rfl, hb1⟩)
  go_ret
  exact ⟨rfl, hb1⟩

set_option maxHeartbeats 400000 in
theorem refupdate_any (s : Nat) (v : Value) (l : List UInt8) (S : Nat → Prop) (w : World) (hs : s < 4294967296) (hv : Bytes S w v l) :
    Calls Try.prog 103 #[.int .u32 s, v] w fun e w' => e = .returned (.int .u32 (rupd s l : Nat)) ∧ w = w' := by
  obtain ⟨A, c, rfl, hc1, hc2, hcs⟩ := hv
  unfold maxLen at hc2
  go_enter Try.func103, Try.ntmps103
  go_wp2
  have hinv : bits BinOp.xor IntKind.u32 IntKind.u32.max (s : Int) = ((inv s : Nat) : Int) := inv_step hs
  go_loop [5, 6] (fun t i => ∃ k : Nat, k ≤ l.length ∧ i = .int .i64 k ∧ t = .int .u32 ((l.take k).foldl rby (inv s) : Nat)) (fun _ i => l.length - (intOf i).toNat)
  case atStart => exact ⟨0, by omega, rfl, by rw [hinv]; rfl⟩
  case round =>
    obtain ⟨k, hk, rfl, rfl⟩ := hrel
    clear hinv
    by_cases hlt : k < l.length
    · obtain ⟨b, off, x, rfl, _, hb, hx, hcell⟩ := hcs.byte hlt
      have hlt8 := u8_lt x
      have ht := foldl_rby_lt (inv_lt hs) (l.take k)
      have Hx := Lib.hid hx
      clear hx
      generalize ht0 : (l.take k).foldl rby (inv s) = t at ht ⊢
      have Ht0 := Lib.hid ht0
      clear ht0
      have hbx : bits BinOp.xor IntKind.u32 (t : Int) (x.toNat : Int) = ((t ^^^ x.toNat : Nat) : Int) := u32_xor_nat _ _ ht (by omega)
      have hq : t ^^^ x.toNat < 4294967296 := Nat.xor_lt_two_pow (n := 32) (by omega) (by omega)
      go_wp2
      go_loop [5, 7] (fun u j => ∃ m : Nat, m ≤ 8 ∧ j = .int .i64 m ∧ u = .int .u32 (stpN m (t ^^^ x.toNat) : Nat)) (fun _ j => 8 - (intOf j).toNat)
      case atStart => exact ⟨0, by omega, rfl, by rw [stpN_zero]⟩
      case round =>
        obtain ⟨m, hm, rfl, rfl⟩ := hrel
        clear hbx
        by_cases hlt2 : m < 8
        · have hb := stpN_lt hq m
          go_wp2
          · go_round
            case rel =>
              refine ⟨m + 1, by omega, by go_num, ?_⟩
              rw [odd_step' hb (by assumption), stpN_succ]
            case measure => simp [intOf]; omega
          · go_round
            case rel =>
              refine ⟨m + 1, by omega, by go_num, ?_⟩
              rw [stpN_succ, even_step' hb (by assumption)]; rfl
            case measure => simp [intOf]; omega
        · obtain rfl : m = 8 := by omega
          go_wp2
          go_round
          case rel => exact ⟨k + 1, by omega, by go_num, by rw [foldl_take_succ _ _ _ _ _ Hx.out, Ht0.out, rby_def]⟩
          case measure => simp [intOf]; omega
    · obtain rfl : k = l.length := by omega
      have ht := foldl_rby_lt (inv_lt hs) l
      have hfin := Lib.hid (inv_step ht)
      rw [List.take_length]
      go_wp2
      go_ret
      refine ⟨?_, rfl⟩
      exact congrArg _ (congrArg _ hfin.out)

theorem refof_any (v : Value) (l : List UInt8) (S : Nat → Prop) (w : World) (hv : Bytes S w v l) :
    Calls Try.prog 104 #[v] w fun e w' => e = .returned (.int .u32 (rupd 0 l : Nat)) ∧ w = w' := by
  go_enter Try.func104, Try.ntmps104
  go_wp2_with (go_at_call 103; refine (refupdate_any 0 v l S _ (by omega) hv).mono ?_; rintro e w1 ⟨rfl, rfl⟩)
  go_ret
  exact ⟨rfl, rfl⟩

theorem mkBytes (n : Nat) (hn : n ≤ 140737488355328) (w : World) : (Instr.makeSlice 22 (.int .i64 (n : Int)) (.int .i64 (n : Int))).run Try.prog w = .ok (.slice (some ⟨w.heap.size, 0, none⟩) n n) (w.alloc (.cells (brow (List.replicate n 0)) 5)) := by
  obtain ⟨i, hi, hz, hs, hb⟩ := info_parts (P := Try.prog) (e := 5) (z := .int .u8 0) (size := 1) (bytes := 1) (by kernel_rfl)
  have h := run_make (P := Try.prog) w 22 5 i (.int .u8 0) Try.underlying22 hi hz .i64 .i64 n n (by omega) (by omega) (by rw [hb]; omega) (by omega)
  rw [h, hs]
  simp only [Int.toNat_natCast, Nat.mul_one]
  rw [← madeCells_brow]
  rfl
theorem mod_lem (x n : Int) (hn : 1 ≤ n) : (0 ≤ x.tmod n → x.tmod n = x % n) ∧ (x.tmod n < 0 → x.tmod n + n = x % n) := by
  have e := Int.tmod_eq_emod (a := x) (b := n)
  have h1 := Int.emod_nonneg x (b := n) (by omega)
  have h2 := Int.emod_lt_of_pos x (b := n) (by omega)
  split at e
  · constructor <;> intros <;> omega
  · constructor <;> intros <;> omega
set_option maxHeartbeats 400000 in
theorem mod_any (x n : Int) (w : World) (hn : 1 ≤ n) (hn2 : n ≤ 9223372036854775807) (hx1 : -9223372036854775808 ≤ x) (hx2 : x ≤ 9223372036854775807):
    Calls Try.prog 19 #[.int .i64 x, .int .i64 n] w fun e w' => e = .returned (.int .i64 (x % n)) ∧ w = w' := by
  have hm := Lib.hid (mod_lem x n hn)
  have h1 := Int.emod_nonneg x (b := n) (by omega)
  have h2 := Int.emod_lt_of_pos x (b := n) (by omega)
  go_enter Try.func19, Try.ntmps19
  go_wp2
  · go_ret
    have h : x.tmod n < 0 := by assumption
    have e := hm.out.2 h
    refine ⟨ret_int ?_, rfl⟩
    rw [e]
    exact IntWalk.wrap64_in _ ⟨by omega, by omega⟩
  · go_ret
    have h : 0 ≤ x.tmod n := by assumption
    exact ⟨ret_int (hm.out.1 h), rfl⟩

theorem awake09_1 : upd 0 [49, 50, 51, 52, 53, 54, 55, 56, 57] = 3421780262 := by decide +kernel
theorem awake09_2 : upd 0 [0, 0, 0, 0] = 558161692 := by decide +kernel
end Go.Proofs.Ytjcfnpmgklliiaa

namespace Go.Proofs.Ytjcfnpmgklliiaa

theorem stp_xor (a b : Nat) : stp (a ^^^ b) = stp a ^^^ stp b := by
  unfold stp
  rw [Nat.xor_div_two]
  by_cases ha : a % 2 = 1 <;> by_cases hb : b % 2 = 1
  · rw [if_neg (by rw [Nat.xor_mod_two_eq_one]; simp [ha, hb]), if_pos ha, if_pos hb]
    rw [show a / 2 ^^^ 3988292384 ^^^ (b / 2 ^^^ 3988292384) = (a / 2 ^^^ b / 2) ^^^ (3988292384 ^^^ 3988292384) by ac_rfl]
    simp
  · rw [if_pos (by rw [Nat.xor_mod_two_eq_one]; simp [ha, hb]), if_pos ha, if_neg hb]
    ac_rfl
  · rw [if_pos (by rw [Nat.xor_mod_two_eq_one]; simp [ha, hb]), if_neg ha, if_pos hb]
    ac_rfl
  · rw [if_neg (by rw [Nat.xor_mod_two_eq_one]; simp [ha, hb]), if_neg ha, if_neg hb]
theorem stpN_xor (a b : Nat) : ∀ k, stpN k (a ^^^ b) = stpN k a ^^^ stpN k b
  | 0 => rfl
  | k + 1 => by rw [stpN_succ, stpN_xor a b k, stp_xor, stpN_succ, stpN_succ]
theorem stpN_add (j : Nat) (s : Nat) : ∀ k, stpN (j + k) s = stpN k (stpN j s)
  | 0 => rfl
  | k + 1 => by rw [← Nat.add_assoc, stpN_succ, stpN_add j s k, stpN_succ]
theorem stp_double (y : Nat) : stp (2 * y) = y := by
  unfold stp
  rw [if_neg (by omega)]
  omega
theorem stpN_shift (y : Nat) : ∀ k, stpN k (2 ^ k * y) = y
  | 0 => by simp [stpN_zero]
  | k + 1 => by
    rw [show k + 1 = 1 + k by omega, stpN_add 1 _ k]
    have : stpN 1 (2 ^ (1 + k) * y) = 2 ^ k * y := by
      show stp (2 ^ (1 + k) * y) = _
      rw [show 2 ^ (1 + k) * y = 2 * (2 ^ k * y) by rw [Nat.pow_add]; simp [Nat.mul_assoc]]
      exact stp_double _
    rw [this]
    exact stpN_shift y k
theorem stp_zero {s : Nat} (h : s < 4294967296) (h0 : stp s = 0) : s = 0 := by
  unfold stp at h0
  split at h0
  · have h1 : s / 2 ^^^ 3988292384 ^^^ 3988292384 = 0 ^^^ 3988292384 := by rw [h0]
    rw [Nat.xor_assoc, Nat.xor_self] at h1
    simp at h1
    omega
  · omega
theorem stpN_ne {s : Nat} (h : s < 4294967296) (h0 : s ≠ 0) : ∀ k, stpN k s ≠ 0
  | 0 => h0
  | k + 1 => fun e => stpN_ne h h0 k (stp_zero (stpN_lt h k) e)

theorem xor_add (a b : Nat) (h : b < 256) : 256 * a ^^^ b = 256 * a + b := by
  have h1 : (256 * a ^^^ b) / 2 ^ 8 = a := by rw [Nat.xor_div_two_pow]; simp [Nat.div_eq_of_lt h]
  have h2 : (256 * a ^^^ b) % 2 ^ 8 = b := by rw [Nat.xor_mod_two_pow]; simp [Nat.mod_eq_of_lt h]
  omega

/-- the bytes ls one number, the first one lowest -/
def num : List UInt8 → Nat
  | [] => 0
  | c :: l => c.toNat + 256 * num l
theorem num_cons (c : UInt8) (l : List UInt8) : num (c :: l) = 256 * num l ^^^ c.toNat := by
  rw [xor_add _ _ (u8_lt c)]; simp [num]; omega

theorem foldl_rby (l : List UInt8) : ∀ s, l.foldl rby s = stpN (8 * l.length) (s ^^^ num l) := by
  induction l with
  | nil => intro s; simp [num, stpN_zero]
  | cons c l ih =>
    intro s
    rw [List.foldl_cons, ih, List.length_cons, show 8 * (l.length + 1) = 8 + 8 * l.length by omega, stpN_add, num_cons, rby_def]
    congr 1
    rw [show s ^^^ (256 * num l ^^^ c.toNat) = (s ^^^ c.toNat) ^^^ (2 ^ 8 * num l) by
      rw [show (256 : Nat) = 2 ^ 8 from rfl]; ac_rfl, stpN_xor (s ^^^ c.toNat), stpN_shift]

theorem pby_rby (s : Nat) (c : UInt8) : pby s c = rby s c := by
  have h : s ^^^ c.toNat = (2 ^ 8 * (s / 256)) ^^^ ((s % 256) ^^^ c.toNat) := by
    rw [← Nat.xor_assoc, show (2 : Nat) ^ 8 = 256 from rfl, xor_add _ _ (by omega)]
    congr 1; omega
  rw [rby_def, h, stpN_xor, stpN_shift]
  rfl
theorem upd_eq (s : Nat) (l : List UInt8) : upd s l = rupd s l := by
  unfold upd rupd
  congr 1
  have : pby = rby := funext fun s => funext fun c => pby_rby s c
  rw [this]

theorem xor_xor (a s : Nat) : a ^^^ (a ^^^ s) = s := by rw [← Nat.xor_assoc, Nat.xor_self, Nat.zero_xor]
theorem inv_def (s : Nat) : inv s = 4294967295 ^^^ s := rfl
theorem inv_inv (s : Nat) : inv (inv s) = s := by
  rw [inv_def, inv_def]
  generalize 4294967295 = a
  exact xor_xor a s
theorem upd_append (s : Nat) (l m : List UInt8) : upd (upd s l) m = upd s (l ++ m) := by
  unfold upd
  rw [inv_inv, List.foldl_append]
theorem upd_nil (s : Nat) : upd s [] = s := by
  unfold upd
  simp [inv_inv]

theorem upd_num (s : Nat) (l : List UInt8) : upd s l = 4294967295 ^^^ stpN (8 * l.length) (inv s ^^^ num l) := by
  rw [upd_eq]
  unfold rupd
  rw [foldl_rby]
  rfl

theorem upd_xor3 (a b c x : List UInt8) (ha : a.length = x.length) (hb : b.length = x.length) (hc : c.length = x.length) (h : num x = num a ^^^ num b ^^^ num c) :
    upd 0 x = upd 0 a ^^^ upd 0 b ^^^ upd 0 c := by
  rw [upd_num, upd_num, upd_num, upd_num, ha, hb, hc, h]
  generalize 8 * x.length = k
  generalize inv 0 = i
  rw [show i ^^^ (num a ^^^ num b ^^^ num c) = (i ^^^ num a) ^^^ ((i ^^^ num b) ^^^ (i ^^^ num c)) by
    rw [show i ^^^ num a ^^^ (i ^^^ num b ^^^ (i ^^^ num c)) = (i ^^^ i) ^^^ (i ^^^ (num a ^^^ num b ^^^ num c)) by ac_rfl]
    simp]
  rw [stpN_xor, stpN_xor (i ^^^ num b)]
  generalize stpN k (i ^^^ num a) = A
  generalize stpN k (i ^^^ num b) = B
  generalize stpN k (i ^^^ num c) = C
  rw [show 4294967295 ^^^ A ^^^ (4294967295 ^^^ B) ^^^ (4294967295 ^^^ C) = (4294967295 ^^^ 4294967295) ^^^ (4294967295 ^^^ (A ^^^ (B ^^^ C))) by ac_rfl]
  simp

/-- two lists of one length whose difference is a burst have different checksums -/
theorem upd_burst (s : Nat) (l m : List UInt8) (k mask : Nat) (hl : m.length = l.length) (hk : k + 32 ≤ 8 * l.length) (h0 : mask ≠ 0) (h32 : mask < 4294967296)
    (hn : num m = num l ^^^ (2 ^ k * mask)) : upd s l ≠ upd s m := by
  intro e
  rw [upd_num, upd_num, hl, hn] at e
  have e2 : stpN (8 * l.length) (inv s ^^^ num l) = stpN (8 * l.length) (inv s ^^^ (num l ^^^ 2 ^ k * mask)) := by
    have := congrArg (fun z => 4294967295 ^^^ z) e
    simp only [← Nat.xor_assoc, Nat.xor_self, Nat.zero_xor] at this
    rw [← Nat.xor_assoc]
    exact this
  rw [← Nat.xor_assoc, stpN_xor _ (2 ^ k * mask)] at e2
  have e3 : stpN (8 * l.length) (2 ^ k * mask) = 0 := by
    have := congrArg (fun z => stpN (8 * l.length) (inv s ^^^ num l) ^^^ z) e2
    simp only [← Nat.xor_assoc, Nat.xor_self, Nat.zero_xor] at this
    exact this.symm
  rw [show 8 * l.length = k + (8 * l.length - k) by omega, stpN_add, stpN_shift] at e3
  exact stpN_ne h32 h0 _ e3

/-- the exclusive or of three lists -/
def zip3 : List UInt8 → List UInt8 → List UInt8 → List UInt8
  | a :: ls, b :: bs, c :: cs => (a ^^^ b ^^^ c) :: zip3 ls bs cs
  | _, _, _ => []
theorem zip3_length : ∀ (a b c : List UInt8), a.length = b.length → a.length = c.length → (zip3 a b c).length = a.length
  | [], [], [], _, _ => rfl
  | a :: ls, b :: bs, c :: cs, h1, h2 => by simp [zip3, zip3_length ls bs cs (by simpa using h1) (by simpa using h2)]
theorem mul256_xor (a b : Nat) : 256 * (a ^^^ b) = 256 * a ^^^ 256 * b := by
  have h : ∀ x, 256 * x = x <<< 8 := fun x => by rw [Nat.shiftLeft_eq]; omega
  rw [h, h, h, Nat.shiftLeft_xor_distrib]
theorem num_zip3 : ∀ (a b c : List UInt8), a.length = b.length → a.length = c.length → num (zip3 a b c) = num a ^^^ num b ^^^ num c
  | [], [], [], _, _ => by simp [zip3, num]
  | a :: ls, b :: bs, c :: cs, h1, h2 => by
    rw [zip3, num_cons, num_cons, num_cons, num_cons, num_zip3 ls bs cs (by simpa using h1) (by simpa using h2), mul256_xor, mul256_xor, UInt8.toNat_xor, UInt8.toNat_xor]
    ac_rfl
theorem zip3_get : ∀ (a b c : List UInt8) (j : Nat) (x y z : UInt8), a[j]? = some x → b[j]? = some y → c[j]? = some z → (zip3 a b c)[j]? = some (x ^^^ y ^^^ z)
  | a :: ls, b :: bs, c :: cs, 0, x, y, z, h1, h2, h3 => by simp at h1 h2 h3; subst h1 h2 h3; rfl
  | a :: ls, b :: bs, c :: cs, j + 1, x, y, z, h1, h2, h3 => by
    simp at h1 h2 h3
    simpa [zip3] using zip3_get ls bs cs j x y z h1 h2 h3
/-- a row of n bytes of which the first k are done -/
def part0 (l : List UInt8) (k : Nat) : List UInt8 := l.take k ++ List.replicate (l.length - k) 0
theorem part0_length (l : List UInt8) (k : Nat) : (part0 l k).length = l.length := by simp [part0]; omega
theorem part0_zero (l : List UInt8) : part0 l 0 = List.replicate l.length 0 := by simp [part0]
theorem part0_full (l : List UInt8) (k : Nat) (h : l.length ≤ k) : part0 l k = l := by simp [part0, List.take_of_length_le h, Nat.sub_eq_zero_of_le h]
theorem part0_set (l : List UInt8) (k : Nat) (c : UInt8) (h : l[k]? = some c) : (part0 l k).set k c = part0 l (k + 1) := by
  obtain ⟨hk, rfl⟩ := List.getElem?_eq_some_iff.1 h
  unfold part0
  rw [List.set_append_right _ _ (by simp; omega), List.take_succ_eq_append_getElem hk, List.append_assoc]
  congr 1
  have e : l.length - k = (l.length - (k + 1)) + 1 := by omega
  rw [e, List.replicate_succ]
  have : k - (l.take k).length = 0 := by simp; omega
  rw [this]
  rfl
theorem mul_pow_xor (n a b : Nat) : 2 ^ n * (a ^^^ b) = 2 ^ n * a ^^^ 2 ^ n * b := by
  have h : ∀ x, 2 ^ n * x = x <<< n := fun x => by rw [Nat.shiftLeft_eq, Nat.mul_comm]
  rw [h, h, h, Nat.shiftLeft_xor_distrib]
/-- a bit of a byte is turned -/
theorem num_set : ∀ (l : List UInt8) (j : Nat) (x y : UInt8), l[j]? = some x → num (l.set j (x ^^^ y)) = num l ^^^ (2 ^ (8 * j) * y.toNat)
  | c :: l, 0, x, y, h => by
    simp at h
    subst h
    rw [List.set_cons_zero, num_cons, num_cons, UInt8.toNat_xor]
    simp
    ac_rfl
  | c :: l, j + 1, x, y, h => by
    simp at h
    rw [List.set_cons_succ, num_cons, num_cons, num_set l j x y h, show (256 : Nat) = 2 ^ 8 from rfl, mul_pow_xor]
    rw [show 2 ^ 8 * (2 ^ (8 * j) * y.toNat) = 2 ^ (8 * (j + 1)) * y.toNat by rw [← Nat.mul_assoc, ← Nat.pow_add]; congr 2; omega]
    ac_rfl
/-- the mask's low bits, one more -/
theorem low_bits (mask i : Nat) : mask % 2 ^ (i + 1) = (mask % 2 ^ i) ^^^ (2 ^ i * (mask / 2 ^ i % 2)) := by
  have e : mask % 2 ^ (i + 1) = 2 ^ i * (mask / 2 ^ i % 2) + mask % 2 ^ i := by
    rw [Nat.pow_succ, Nat.mod_mul]
    omega
  have hlt : mask % 2 ^ i < 2 ^ i := Nat.mod_lt _ (Nat.two_pow_pos i)
  have h1 : ((mask % 2 ^ i) ^^^ (2 ^ i * (mask / 2 ^ i % 2))) / 2 ^ i = mask / 2 ^ i % 2 := by
    rw [Nat.xor_div_two_pow, Nat.div_eq_of_lt hlt, Nat.mul_div_cancel_left _ (Nat.two_pow_pos i), Nat.zero_xor]
  have h2 : ((mask % 2 ^ i) ^^^ (2 ^ i * (mask / 2 ^ i % 2))) % 2 ^ i = mask % 2 ^ i := by
    rw [Nat.xor_mod_two_pow, Nat.mod_mod, Nat.mul_mod_right, Nat.xor_zero]
  rw [e, ← Nat.div_add_mod ((mask % 2 ^ i) ^^^ (2 ^ i * (mask / 2 ^ i % 2))) (2 ^ i), h1, h2]
/-- one round of the burst -/
theorem burst_yes (l m : List UInt8) (k i mask : Nat) (x : UInt8) (hm : num m = num l ^^^ (2 ^ k * (mask % 2 ^ i))) (hb : mask / 2 ^ i % 2 = 1) (hx : m[(k + i) / 8]? = some x) :
    num (m.set ((k + i) / 8) (x ^^^ UInt8.ofNat (2 ^ ((k + i) % 8)))) = num l ^^^ (2 ^ k * (mask % 2 ^ (i + 1))) := by
  have hlt : 2 ^ ((k + i) % 8) < 256 := by
    have : 2 ^ ((k + i) % 8) ≤ 2 ^ 7 := Nat.pow_le_pow_right (by omega) (by omega)
    omega
  rw [num_set m _ x _ hx, hm, low_bits, hb, mul_pow_xor, Nat.mul_one]
  have : (UInt8.ofNat (2 ^ ((k + i) % 8))).toNat = 2 ^ ((k + i) % 8) := by simp; omega
  rw [this, ← Nat.pow_add, ← Nat.pow_add, Nat.xor_assoc, show 8 * ((k + i) / 8) + (k + i) % 8 = k + i by omega]
theorem burst_no (l m : List UInt8) (k i mask : Nat) (hm : num m = num l ^^^ (2 ^ k * (mask % 2 ^ i))) (hb : mask / 2 ^ i % 2 = 0) : num m = num l ^^^ (2 ^ k * (mask % 2 ^ (i + 1))) := by
  rw [low_bits, hb, hm]
  simp
theorem cast_bit (mask j : Nat) : (mask : Int) / 2 ^ j = ((mask / 2 ^ j : Nat) : Int) := by
  rw [Int.natCast_ediv, Int.natCast_pow]
  rfl
theorem bit_and {mask : Nat} (hm : mask < 4294967296) (j : Nat) : bits BinOp.and IntKind.u32 ((mask : Int) / 2 ^ j) 1 = ((mask / 2 ^ j % 2 : Nat) : Int) := by
  have hlt : mask / 2 ^ j < 4294967296 := Nat.lt_of_le_of_lt (Nat.div_le_self _ _) hm
  have e : bits BinOp.and IntKind.u32 (((mask / 2 ^ j : Nat) : Int)) ((1 : Nat) : Int) = _ := u32_and_nat _ 1 hlt (by omega)
  rw [nat_mask1] at e
  rw [cast_bit]
  exact e
theorem bit_yes {mask j : Nat} (hm : mask < 4294967296) (h : (bits BinOp.and IntKind.u32 ((mask : Int) / 2 ^ j) 1 == 1) = true) : mask / 2 ^ j % 2 = 1 := by
  rw [bit_and hm] at h
  generalize mask / 2 ^ j = q at h ⊢
  have h := beq_iff_eq.1 h
  omega
theorem bit_no {mask j : Nat} (hm : mask < 4294967296) (h : (bits BinOp.and IntKind.u32 ((mask : Int) / 2 ^ j) 1 == 1) = false) : mask / 2 ^ j % 2 = 0 := by
  rw [bit_and hm] at h
  generalize mask / 2 ^ j = q at h ⊢
  have h := beq_eq_false_iff_ne.1 h
  omega
theorem pow_lt_256 {e : Nat} (he : e < 8) : 2 ^ e < 256 := by
  have : 2 ^ e ≤ 2 ^ 7 := Nat.pow_le_pow_right (by omega) (by omega)
  omega
theorem bit8 (x : UInt8) {e : Nat} (he : e < 8) : bits BinOp.xor IntKind.u8 (x.toNat : Int) ((2 : Int) ^ e % 256) = (((x ^^^ UInt8.ofNat (2 ^ e)).toNat : Nat) : Int) := by
  have h := pow_lt_256 he
  have e1 : (2 : Int) ^ e % 256 = ((2 ^ e : Nat) : Int) := by
    rw [show (2 : Int) ^ e = ((2 ^ e : Nat) : Int) by rw [Int.natCast_pow]; rfl]
    generalize 2 ^ e = q at h ⊢
    omega
  rw [e1, u8_xor_nat _ _ (u8_lt x) h, UInt8.toNat_xor]
  congr 2
  simp
  omega
theorem u8_xor_step (x y : UInt8) : bits BinOp.xor IntKind.u8 (x.toNat : Int) (y.toNat : Int) = (((x ^^^ y).toNat : Nat) : Int) := by
  rw [UInt8.toNat_xor]
  exact u8_xor_nat _ _ (u8_lt x) (u8_lt y)
theorem u32_xor_step {a b : Nat} (ha : a < 4294967296) (hb : b < 4294967296) : bits BinOp.xor IntKind.u32 (a : Int) (b : Int) = ((a ^^^ b : Nat) : Int) := u32_xor_nat a b ha hb
end Go.Proofs.Ytjcfnpmgklliiaa
