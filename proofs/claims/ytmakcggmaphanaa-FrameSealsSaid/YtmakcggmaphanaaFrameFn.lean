/-
  Frames as plain functions on lists of bytes.
-/
import Derived.Test.YtmakcggmaphanaaCrcLaw
namespace Go.Proofs.Ytmakcggmaphanaa
open Go.RowKit
set_option linter.unusedVariables false

/-- four bytes of a number, the lowest first -/
def le4 (v : Nat) : List UInt8 := [UInt8.ofNat v, UInt8.ofNat (v / 256), UInt8.ofNat (v / 65536), UInt8.ofNat (v / 16777216)]
theorem le4_length (v : Nat) : (le4 v).length = 4 := rfl
/-- a byte of a number -/
def byteOf (v i : Nat) : UInt8 := UInt8.ofNat (v / 2 ^ (8 * i))
/-- the first i bytes of a number are written at an offset -/
def putN (l : List UInt8) (off v : Nat) : Nat → List UInt8
  | 0 => l
  | i + 1 => (putN l off v i).set (off + i) (byteOf v i)
theorem putN_succ (l : List UInt8) (off v i : Nat) : putN l off v (i + 1) = (putN l off v i).set (off + i) (byteOf v i) := rfl
theorem putN_zero (l : List UInt8) (off v : Nat) : putN l off v 0 = l := rfl
theorem putN_length (l : List UInt8) (off v : Nat) : ∀ i, (putN l off v i).length = l.length
  | 0 => rfl
  | i + 1 => by rw [putN_succ, List.length_set, putN_length l off v i]
def z8 : List UInt8 := [0, 0, 0, 0, 0, 0, 0, 0]
theorem z8_length : z8.length = 8 := rfl
theorem put_first (v : Nat) : putN z8 0 v 4 = le4 v ++ [0, 0, 0, 0] := by simp [putN, z8, le4, byteOf]
theorem put_second (v s : Nat) : putN (le4 v ++ [0, 0, 0, 0]) 4 s 4 = le4 v ++ le4 s := by simp [putN, le4, byteOf]
theorem take_first (v : Nat) (l : List UInt8) : (le4 v ++ l).take 4 = le4 v := by simp [le4]

/-- the checksum of a body -/
def sumL (body : List UInt8) : Nat := upd (upd 0 (le4 body.length)) body
def headL (body : List UInt8) : List UInt8 := le4 body.length ++ le4 (sumL body)
/-- the frame of a body -/
def sealL (body : List UInt8) : List UInt8 := headL body ++ body
theorem sumL_def (body : List UInt8) : upd (upd 0 (le4 body.length)) body = sumL body := rfl
theorem headL_def (body : List UInt8) : le4 body.length ++ le4 (sumL body) = headL body := rfl
theorem sealL_def (body : List UInt8) : headL body ++ body = sealL body := rfl
theorem headL_length (body : List UInt8) : (headL body).length = 8 := rfl
theorem sealL_length (body : List UInt8) : (sealL body).length = 8 + body.length := by simp [sealL, headL_length]
theorem sumL_lt (body : List UInt8) : sumL body < 4294967296 := upd_lt (upd_lt (by omega) _) _
theorem sealL_nil : sealL [] = [0, 0, 0, 0, 28, 223, 68, 33] := by decide +kernel

theorem byteOf_val (v i : Nat) : (v : Int) / 2 ^ (8 * i) % 256 = (((byteOf v i).toNat : Nat) : Int) := by
  rw [cast_bit]
  unfold byteOf
  generalize v / 2 ^ (8 * i) = q
  simp
theorem brow_le4_small (n : Nat) (hn : n ≤ 4096) : #[Value.int IntKind.u8 ((n : Int) % 256), Value.int IntKind.u8 ((n : Int) / 256), Value.int IntKind.u8 ((n : Int) / 65536), Value.int IntKind.u8 ((n : Int) / 16777216)] = brow (le4 n) := by
  simp [brow, le4, bv_def]
  omega
theorem brow_le4 (n : Nat) (hn : n < 4294967296) : #[Value.int IntKind.u8 ((n : Int) % 256), Value.int IntKind.u8 ((n : Int) / 256 % 256), Value.int IntKind.u8 ((n : Int) / 65536 % 256), Value.int IntKind.u8 ((n : Int) / 16777216)] = brow (le4 n) := by
  simp [brow, le4, bv_def]
  omega
theorem brow_take (l : List UInt8) (n : Nat) (h : n = l.length) : (brow l).toList.take n = l.map bv := by
  subst h
  simp only [brow]
  exact List.take_of_length_le (by simp)
theorem take_eq_succ {l m : List UInt8} {k : Nat} {x : UInt8} (h : l.take k = m.take k) (hl : l[k]? = some x) (hm : m[k]? = some x) : l.take (k + 1) = m.take (k + 1) := by
  obtain ⟨h1, e1⟩ := List.getElem?_eq_some_iff.1 hl
  obtain ⟨h2, e2⟩ := List.getElem?_eq_some_iff.1 hm
  rw [List.take_succ_eq_append_getElem h1, List.take_succ_eq_append_getElem h2, h, e1, e2]
theorem byte_ofNat (x : Nat) : ((x : Int) % 256) = (((UInt8.ofNat x).toNat : Nat) : Int) := by simp
end Go.Proofs.Ytmakcggmaphanaa
