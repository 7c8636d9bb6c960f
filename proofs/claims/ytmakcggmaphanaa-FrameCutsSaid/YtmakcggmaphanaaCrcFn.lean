/-
  The checksum as plain functions on numbers: one step, the table, the program's update and the document's.
-/
import Derived.Test.YtmakcggmaphanaaBase
import Derived.Laws.BitsAllLaws
namespace Go.Proofs.Ytmakcggmaphanaa
open Go.RowKit

def stp (s : Nat) : Nat := if s % 2 = 1 then (s / 2) ^^^ 3988292384 else s / 2
def stpN : Nat → Nat → Nat
  | 0, s => s
  | k + 1, s => stp (stpN k s)
def tab (i : Nat) : Nat := stpN 8 i
def inv (s : Nat) : Nat := 4294967295 ^^^ s
/-- one byte of the program's update -/
def pby (s : Nat) (c : UInt8) : Nat := (s / 256) ^^^ tab ((s % 256) ^^^ c.toNat)
/-- one byte of the document's update -/
def rby (s : Nat) (c : UInt8) : Nat := stpN 8 (s ^^^ c.toNat)
def upd (s : Nat) (l : List UInt8) : Nat := inv (l.foldl pby (inv s))
def rupd (s : Nat) (l : List UInt8) : Nat := inv (l.foldl rby (inv s))

theorem stpN_succ (k s : Nat) : stpN (k + 1) s = stp (stpN k s) := rfl
theorem stpN_zero (s : Nat) : stpN 0 s = s := rfl
theorem tab_def (s : Nat) : tab s = stpN 8 s := rfl
theorem rby_def (s : Nat) (c : UInt8) : rby s c = stpN 8 (s ^^^ c.toNat) := rfl
theorem stp_lt {s : Nat} (h : s < 4294967296) : stp s < 4294967296 := by
  unfold stp
  split
  · exact Nat.xor_lt_two_pow (n := 32) (by omega) (by omega)
  · omega
theorem stpN_lt {s : Nat} (h : s < 4294967296) : ∀ k, stpN k s < 4294967296
  | 0 => h
  | k + 1 => stp_lt (stpN_lt h k)
theorem inv_lt {s : Nat} (h : s < 4294967296) : inv s < 4294967296 := Nat.xor_lt_two_pow (n := 32) (by omega) (by omega)
theorem idx_lt (s : Nat) (c : UInt8) : (s % 256) ^^^ c.toNat < 256 := Nat.xor_lt_two_pow (n := 8) (by omega) (u8_lt c)
theorem pby_lt {s : Nat} (h : s < 4294967296) (c : UInt8) : pby s c < 4294967296 :=
  Nat.xor_lt_two_pow (n := 32) (by omega) (stpN_lt (by have := idx_lt s c; omega) 8)
theorem rby_lt {s : Nat} (h : s < 4294967296) (c : UInt8) : rby s c < 4294967296 :=
  stpN_lt (Nat.xor_lt_two_pow (n := 32) (by omega) (by have := u8_lt c; omega)) 8
theorem foldl_pby_lt {s : Nat} (h : s < 4294967296) (l : List UInt8) : l.foldl pby s < 4294967296 := by
  induction l generalizing s with
  | nil => exact h
  | cons c l ih => exact ih (pby_lt h c)
theorem foldl_rby_lt {s : Nat} (h : s < 4294967296) (l : List UInt8) : l.foldl rby s < 4294967296 := by
  induction l generalizing s with
  | nil => exact h
  | cons c l ih => exact ih (rby_lt h c)
theorem upd_lt {s : Nat} (h : s < 4294967296) (l : List UInt8) : upd s l < 4294967296 := inv_lt (foldl_pby_lt (inv_lt h) l)
theorem rupd_lt {s : Nat} (h : s < 4294967296) (l : List UInt8) : rupd s l < 4294967296 := inv_lt (foldl_rby_lt (inv_lt h) l)
theorem foldl_take_succ {β : Type} (f : β → UInt8 → β) (b : β) (l : List UInt8) (k : Nat) (c : UInt8) (h : l[k]? = some c) : (l.take (k + 1)).foldl f b = f ((l.take k).foldl f b) c := by
  obtain ⟨hk, rfl⟩ := List.getElem?_eq_some_iff.1 h
  rw [List.take_succ_eq_append_getElem hk, List.foldl_append]
  rfl
theorem foldl_take_all {β : Type} (f : β → UInt8 → β) (b : β) (l : List UInt8) (k : Nat) (h : l.length ≤ k) : (l.take k).foldl f b = l.foldl f b := by rw [List.take_of_length_le h]

/-- a step of the program's spelling -/
theorem even_step {s : Nat} (hs : s < 4294967296) (h : (bits BinOp.and IntKind.u32 (s : Int) 1 != 0) = false) : stp s = s / 2 := by
  have e : bits BinOp.and IntKind.u32 (s : Int) ((1 : Nat) : Int) = _ := u32_and_nat s 1 hs (by omega)
  rw [nat_mask1] at e
  simp only [Int.natCast_one] at e
  rw [e] at h
  simp at h
  unfold stp
  rw [if_neg (by omega)]
theorem odd_step {s : Nat} (hs : s < 4294967296) (h : (bits BinOp.and IntKind.u32 (s : Int) 1 != 0) = true) : (bits BinOp.xor IntKind.u32 ((s : Int) / 2) 3988292384) = ((stp s : Nat) : Int) := by
  have e : bits BinOp.and IntKind.u32 (s : Int) ((1 : Nat) : Int) = _ := u32_and_nat s 1 hs (by omega)
  rw [nat_mask1] at e
  simp only [Int.natCast_one] at e
  rw [e] at h
  simp at h
  unfold stp
  rw [if_pos (by omega)]
  exact u32_xor_nat (s / 2) 3988292384 (by omega) (by omega)
/-- a step of the document's spelling -/
theorem even_step' {s : Nat} (hs : s < 4294967296) (h : (bits BinOp.and IntKind.u32 (s : Int) 1 == 1) = false) : stp s = s / 2 := by
  have e : bits BinOp.and IntKind.u32 (s : Int) ((1 : Nat) : Int) = _ := u32_and_nat s 1 hs (by omega)
  rw [nat_mask1] at e
  simp only [Int.natCast_one] at e
  rw [e] at h
  simp at h
  unfold stp
  rw [if_neg (by omega)]
theorem odd_step' {s : Nat} (hs : s < 4294967296) (h : (bits BinOp.and IntKind.u32 (s : Int) 1 == 1) = true) : (bits BinOp.xor IntKind.u32 ((s : Int) / 2) 3988292384) = ((stp s : Nat) : Int) := by
  have e : bits BinOp.and IntKind.u32 (s : Int) ((1 : Nat) : Int) = _ := u32_and_nat s 1 hs (by omega)
  rw [nat_mask1] at e
  simp only [Int.natCast_one] at e
  rw [e] at h
  simp at h
  unfold stp
  rw [if_pos (by omega)]
  exact u32_xor_nat (s / 2) 3988292384 (by omega) (by omega)
theorem inv_step {s : Nat} (hs : s < 4294967296) : bits BinOp.xor IntKind.u32 4294967295 (s : Int) = ((inv s : Nat) : Int) := u32_xor_nat 4294967295 s (by omega) hs

theorem xor8_step (t : Nat) (x : UInt8) : bits BinOp.xor IntKind.u8 ((t : Int) % 256) (x.toNat : Int) = ((t % 256 ^^^ x.toNat : Nat) : Int) :=
  u8_xor_nat (t % 256) x.toNat (by omega) (u8_lt x)
theorem pby_step {t : Nat} (ht : t < 4294967296) (x : UInt8) : bits BinOp.xor IntKind.u32 ((t : Int) / 256) ((tab (t % 256 ^^^ x.toNat) : Nat) : Int) = ((pby t x : Nat) : Int) :=
  u32_xor_nat (t / 256) _ (by omega) (stpN_lt (by have := idx_lt t x; omega) 8)
/-- the cells of the table, of which k are filled -/
def tabCells (k : Nat) : Array Value := ((List.range 256).map fun i => Value.int .u32 ((if i < k then tab i else 0 : Nat) : Int)).toArray
theorem tabCells_get (k j : Nat) (h : j < 256) : (tabCells k)[j]? = some (.int .u32 ((if j < k then tab j else 0 : Nat) : Int)) := by
  unfold tabCells
  simp [h]
theorem tabCells_size (k : Nat) : (tabCells k).size = 256 := by simp [tabCells]
theorem tabCells_one (k : Nat) : (tabCells k).all (·.oneCell') = true := by
  unfold tabCells
  exact all_oneCell_toArray (by simp [Value.oneCell'])
theorem tabCells_set (k : Nat) (h : k < 256) : (tabCells k).setIfInBounds k (.int .u32 (tab k : Nat)) = tabCells (k + 1) := by
  apply Array.ext_getElem?
  intro j
  by_cases hj : j < 256
  · rw [tabCells_get _ _ hj]
    by_cases e : j = k
    · subst e
      rw [Array.getElem?_setIfInBounds_self_of_lt (by rw [tabCells_size]; exact hj)]
      simp
    · rw [Array.getElem?_setIfInBounds_ne (by omega), tabCells_get _ _ hj]
      have : (j < k + 1) ↔ (j < k) := by omega
      simp [this]
  · rw [Array.getElem?_eq_none (by simp [tabCells_size]; omega), Array.getElem?_eq_none (by simp [tabCells_size]; omega)]
end Go.Proofs.Ytmakcggmaphanaa
