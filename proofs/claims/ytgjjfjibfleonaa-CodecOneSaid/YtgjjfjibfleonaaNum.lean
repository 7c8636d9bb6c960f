/-
  Numbers as bytes, in plain terms: how a number is read at an offset, and how it is written.
-/
import Derived.Test.YtgjjfjibfleonaaBase
import Derived.Laws.BitsAllLaws
import Derived.Laws.DeepNot64
namespace Go.Proofs.Ytgjjfjibfleonaa
open Go.RowKit
set_option linter.unusedVariables false

/-- the groups of a number from offset p on: n groups are left, i were read, with the value u; 8: the bytes end; 9: a form that is refused -/
def rdI (L : List UInt8) : Nat → Nat → Nat → Nat → Except Nat (Nat × Nat)
  | 0, _, _, _ => .error 9
  | n + 1, i, u, p =>
    match L[p]? with
    | none => .error 8
    | some c => if (i = 9 ∧ 1 < c.toNat) ∨ (0 < i ∧ c.toNat = 0) then .error 9 else if c.toNat < 128 then .ok (u + c.toNat * 2 ^ (7 * i), p + 1) else rdI L n (i + 1) (u + (c.toNat - 128) * 2 ^ (7 * i)) (p + 1)
def rdU (L : List UInt8) (p : Nat) : Except Nat (Nat × Nat) := rdI L 10 0 0 p
/-- zigzag -/
def zd (u : Nat) : Int := if u % 2 = 0 then ((u / 2 : Nat) : Int) else -((u / 2 : Nat) : Int) - 1
def zz (v : Int) : Nat := if 0 ≤ v then (2 * v).toNat else (-2 * v - 1).toNat
theorem rdI_none {L : List UInt8} {n i u p : Nat} (h : L[p]? = none) : rdI L (n + 1) i u p = .error 8 := by rw [rdI, h]
theorem rdI_bad {L : List UInt8} {n i u p : Nat} {c : UInt8} (h : L[p]? = some c) (hb : (i = 9 ∧ 1 < c.toNat) ∨ (0 < i ∧ c.toNat = 0)) : rdI L (n + 1) i u p = .error 9 := by rw [rdI, h]; exact if_pos hb
theorem rdI_end {L : List UInt8} {n i u p : Nat} {c : UInt8} (h : L[p]? = some c) (hb : ¬ ((i = 9 ∧ 1 < c.toNat) ∨ (0 < i ∧ c.toNat = 0))) (hc : c.toNat < 128) : rdI L (n + 1) i u p = .ok (u + c.toNat * 2 ^ (7 * i), p + 1) := by
  rw [rdI, h]
  show (if _ then _ else _) = _
  rw [if_neg hb, if_pos hc]
theorem rdI_go {L : List UInt8} {n i u p : Nat} {c : UInt8} (h : L[p]? = some c) (hb : ¬ ((i = 9 ∧ 1 < c.toNat) ∨ (0 < i ∧ c.toNat = 0))) (hc : ¬ c.toNat < 128) : rdI L (n + 1) i u p = rdI L n (i + 1) (u + (c.toNat - 128) * 2 ^ (7 * i)) (p + 1) := by
  rw [rdI, h]
  show (if _ then _ else _) = _
  rw [if_neg hb, if_neg hc]
/-- the value stays below 2^64 -/
theorem grp_lt {i u : Nat} {x : Nat} (hi : i ≤ 9) (hu : u < 2 ^ (7 * i)) (hx : x < 128) : u + x * 2 ^ (7 * i) < 2 ^ (7 * (i + 1)) := by
  have h1 : 2 ^ (7 * (i + 1)) = 128 * 2 ^ (7 * i) := by rw [show 7 * (i + 1) = 7 + 7 * i by omega, Nat.pow_add]
  rw [h1]
  have : (x + 1) * 2 ^ (7 * i) ≤ 128 * 2 ^ (7 * i) := Nat.mul_le_mul_right _ (by omega)
  rw [Nat.add_mul] at this
  omega
theorem grp_lt9 {u : Nat} {x : Nat} (hu : u < 2 ^ 63) (hx : x ≤ 1) : u + x * 2 ^ 63 < 2 ^ 64 := by
  have : x * 2 ^ 63 ≤ 1 * 2 ^ 63 := Nat.mul_le_mul_right _ hx
  omega
theorem grp_lt64 {i u : Nat} {c : Nat} (hi : i ≤ 9) (hu : u < 2 ^ (7 * i)) (hc : c < 256) (h9 : ¬ (i = 9 ∧ 1 < c)) : u + (c % 128) * 2 ^ (7 * i) < 18446744073709551616 := by
  by_cases h : i = 9
  · subst h
    exact grp_lt9 hu (by omega)
  · have h1 := grp_lt hi hu (x := c % 128) (by omega)
    have h2 : 2 ^ (7 * (i + 1)) ≤ 2 ^ 63 := Nat.pow_le_pow_right (by omega) (by omega)
    have : (2 : Nat) ^ 63 = 9223372036854775808 := by decide
    omega
theorem or_add {i u x : Nat} (hu : u < 2 ^ i) : u ||| (x * 2 ^ i) = u + x * 2 ^ i := by
  have := Nat.two_pow_add_eq_or_of_lt hu x
  rw [Nat.or_comm, Nat.mul_comm x, ← this, Nat.add_comm]
theorem and127 (c : Nat) : c &&& 127 = c % 128 := Nat.and_two_pow_sub_one_eq_mod c 7

theorem grown_drew {a b : World} {row : Option Nat} (h : a.grownBy b row) : a.grownBy b.drew row := ⟨h.os, h.tape, h.output, h.size, h.block⟩
/-- a group joins the value, in the program's spelling -/
theorem grp_or {i u x : Nat} (hi : i ≤ 9) (hu : u < 2 ^ (7 * i)) (hx : x < 256) (h9 : ¬ (i = 9 ∧ 1 < x)) (K : Int) (hK : K = ((2 ^ (7 * i) : Nat) : Int)) :
    bits BinOp.or IntKind.u64 (u : Int) (IntKind.u64.wrap (IntKind.u64.wrap (bits BinOp.and IntKind.u8 (x : Int) 127) * K)) = ((u + (x % 128) * 2 ^ (7 * i) : Nat) : Int) := by
  have h1 : bits BinOp.and IntKind.u8 (x : Int) 127 = ((x % 128 : Nat) : Int) := by
    rw [show (127 : Int) = ((127 : Nat) : Int) from rfl, u8_and_nat x 127 hx (by omega), and127]
  have hlt := grp_lt64 hi hu hx h9
  have h2 : IntKind.u64.wrap ((x % 128 : Nat) : Int) = ((x % 128 : Nat) : Int) := by
    rw [IntKind.wrap_u64]; omega
  have h3 : IntKind.u64.wrap (((x % 128 : Nat) : Int) * ((2 ^ (7 * i) : Nat) : Int)) = (((x % 128) * 2 ^ (7 * i) : Nat) : Int) := by
    rw [IntKind.wrap_u64, ← Int.natCast_mul]
    omega
  rw [h1, h2, hK, h3, u64_or_nat u _ (by omega) (by omega), or_add hu]
theorem i64_not' (a : Nat) (ha : a < 9223372036854775808) : bits BinOp.xor IntKind.i64 (a : Int) (-1) = -(a : Int) - 1 := by
  have h := i64_not a ha
  have hc : bits BinOp.xor IntKind.i64 (a : Int) (-1) = bits BinOp.xor IntKind.i64 (-1) (a : Int) := by
    unfold bits
    simp [BitVec.xor_comm]
  rw [hc, h]
  omega
/-- the number of a value, in the program's spelling -/
theorem zd_run (t : Nat) (ht : t < 18446744073709551616) : bits BinOp.xor IntKind.i64 (wrap64 ((t : Int) / 2)) (wrap64 (-wrap64 (bits BinOp.and IntKind.u64 (t : Int) 1))) = zd t := by
  have h1 : bits BinOp.and IntKind.u64 (t : Int) 1 = ((t % 2 : Nat) : Int) := by
    rw [show (1 : Int) = ((1 : Nat) : Int) from rfl, u64_and_nat t 1 ht (by omega), Nat.and_one_is_mod]
  have h2 : wrap64 ((t : Int) / 2) = ((t / 2 : Nat) : Int) := by
    rw [IntWalk.wrap64_in _ ⟨by omega, by omega⟩]
    omega
  have h3 : wrap64 (((t % 2 : Nat) : Int)) = ((t % 2 : Nat) : Int) := IntWalk.wrap64_in _ ⟨by omega, by omega⟩
  have h4 : wrap64 (-((t % 2 : Nat) : Int)) = -((t % 2 : Nat) : Int) := IntWalk.wrap64_in _ ⟨by omega, by omega⟩
  rw [h1, h2, h3, h4]
  unfold zd
  by_cases h : t % 2 = 0
  · rw [if_pos h, h]
    have : bits BinOp.xor IntKind.i64 ((t / 2 : Nat) : Int) (-((0 : Nat) : Int)) = ((t / 2 : Nat) : Int) := by
      show IntKind.i64.wrap ((BitVec.ofInt 64 ((t / 2 : Nat) : Int) ^^^ BitVec.ofInt 64 (-((0 : Nat) : Int))).toNat : Int) = _
      have h5 : BitVec.ofInt 64 (-((0 : Nat) : Int)) = 0#64 := by decide
      rw [h5, BitVec.xor_zero, ofInt_u64 (t / 2) (by omega)]
      simp [IntKind.wrap, IntKind.bits, IntKind.signed]
      omega
    exact this
  · rw [if_neg h, show t % 2 = 1 by omega]
    exact i64_not' (t / 2) (by omega)

/-! ### writing -/
/-- the groups of a number -/
def encU (u : Nat) : List UInt8 := if h : u < 128 then [UInt8.ofNat u] else UInt8.ofNat (u % 128 + 128) :: encU (u / 128)
termination_by u
def encI (v : Int) : List UInt8 := encU (zz v)
def encs (l : List Int) : List UInt8 := l.flatMap encI
theorem encU_lt {u : Nat} (h : u < 128) : encU u = [UInt8.ofNat u] := by rw [encU, dif_pos h]
theorem encU_ge {u : Nat} (h : ¬ u < 128) : encU u = UInt8.ofNat (u % 128 + 128) :: encU (u / 128) := by rw [encU, dif_neg h]
end Go.Proofs.Ytgjjfjibfleonaa
