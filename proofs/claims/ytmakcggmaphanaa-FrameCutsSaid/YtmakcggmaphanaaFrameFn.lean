/-
  Frames as plain functions on lists of bytes.
-/
import Derived.Test.YtmakcggmaphanaaCrcLaw
namespace Go.Proofs.Ytmakcggmaphanaa
open Go.RowKit
set_option linter.unusedVariables false

/-- four bytes of a number, the lowest first -/
def le4 (v : Nat) : List UInt8 := [UInt8.ofNat v, UInt8.ofNat (v / 256), UInt8.ofNat (v / 65536), UInt8.ofNat (v / 16777216)]
theorem le4_length (v : Nat) : (le4 v).length = 4 := rfl
/-- a byte of a number -/
def byteOf (v i : Nat) : UInt8 := UInt8.ofNat (v / 2 ^ (8 * i))
/-- the first i bytes of a number are written at an offset -/
def putN (l : List UInt8) (off v : Nat) : Nat → List UInt8
  | 0 => l
  | i + 1 => (putN l off v i).set (off + i) (byteOf v i)
theorem putN_succ (l : List UInt8) (off v i : Nat) : putN l off v (i + 1) = (putN l off v i).set (off + i) (byteOf v i) := rfl
theorem putN_zero (l : List UInt8) (off v : Nat) : putN l off v 0 = l := rfl
theorem putN_length (l : List UInt8) (off v : Nat) : ∀ i, (putN l off v i).length = l.length
  | 0 => rfl
  | i + 1 => by rw [putN_succ, List.length_set, putN_length l off v i]
def z8 : List UInt8 := [0, 0, 0, 0, 0, 0, 0, 0]
theorem z8_length : z8.length = 8 := rfl
theorem put_first (v : Nat) : putN z8 0 v 4 = le4 v ++ [0, 0, 0, 0] := by simp [putN, z8, le4, byteOf]
theorem put_second (v s : Nat) : putN (le4 v ++ [0, 0, 0, 0]) 4 s 4 = le4 v ++ le4 s := by simp [putN, le4, byteOf]
theorem take_first (v : Nat) (l : List UInt8) : (le4 v ++ l).take 4 = le4 v := by simp [le4]

/-- the checksum of a body -/
def sumL (body : List UInt8) : Nat := upd (upd 0 (le4 body.length)) body
def headL (body : List UInt8) : List UInt8 := le4 body.length ++ le4 (sumL body)
/-- the frame of a body -/
def sealL (body : List UInt8) : List UInt8 := headL body ++ body
theorem sumL_def (body : List UInt8) : upd (upd 0 (le4 body.length)) body = sumL body := rfl
theorem headL_def (body : List UInt8) : le4 body.length ++ le4 (sumL body) = headL body := rfl
theorem sealL_def (body : List UInt8) : headL body ++ body = sealL body := rfl
theorem headL_length (body : List UInt8) : (headL body).length = 8 := rfl
theorem sealL_length (body : List UInt8) : (sealL body).length = 8 + body.length := by simp [sealL, headL_length]
theorem sumL_lt (body : List UInt8) : sumL body < 4294967296 := upd_lt (upd_lt (by omega) _) _
theorem sealL_nil : sealL [] = [0, 0, 0, 0, 28, 223, 68, 33] := by decide +kernel

theorem num_lt : ∀ l : List UInt8, num l < 256 ^ l.length
  | [] => by simp [num]
  | c :: l => by
    have := num_lt l
    have hc := u8_lt c
    simp only [num, List.length_cons, Nat.pow_succ]
    omega
theorem num4 (a b c d : UInt8) : num [a, b, c, d] = a.toNat + 256 * b.toNat + 65536 * c.toNat + 16777216 * d.toNat := by simp [num]; omega
theorem le4_num (l : List UInt8) (h : l.length = 4) : le4 (num l) = l := by
  match l, h with
  | [a, b, c, d], _ =>
    have ha := u8_lt a
    have hb := u8_lt b
    have hc := u8_lt c
    have hd := u8_lt d
    have e : ∀ x : UInt8, ∀ n : Nat, n % 256 = x.toNat → UInt8.ofNat n = x := fun x n hn => by
      apply UInt8.toNat_inj.1
      simp
      exact hn
    rw [num4]
    unfold le4
    rw [e a _ (by omega), e b _ (by omega), e c _ (by omega), e d _ (by omega)]
theorem num_le4 (v : Nat) (h : v < 4294967296) : num (le4 v) = v := by
  unfold le4
  rw [num4]
  simp
  omega
theorem le4_inj {a b : Nat} (ha : a < 4294967296) (hb : b < 4294967296) (h : le4 a = le4 b) : a = b := by
  rw [← num_le4 a ha, ← num_le4 b hb, h]

theorem or_join (i x y : Nat) (hx : x < 2 ^ i) (hy : y % 2 ^ i = 0) : x ||| y = x + y := by
  rw [Nat.or_comm, nat_join i y x hy hx, Nat.add_comm]
theorem or4_nat (a b c d : Nat) (ha : a < 256) (hb : b < 256) (hc : c < 256) (hd : d < 256) : ((a ||| b * 256) ||| c * 65536) ||| d * 16777216 = a + 256 * b + 65536 * c + 16777216 * d := by
  rw [or_join 8 a (b * 256) (by omega) (by omega), or_join 16 (a + b * 256) (c * 65536) (by omega) (by omega), or_join 24 (a + b * 256 + c * 65536) (d * 16777216) (by omega) (by omega)]
  omega
theorem or4_u32 (a b c d : Nat) (ha : a < 256) (hb : b < 256) (hc : c < 256) (hd : d < 256) :
    bits BinOp.or IntKind.u32 (bits BinOp.or IntKind.u32 (bits BinOp.or IntKind.u32 (a : Int) ((b : Int) * 256)) ((c : Int) * 65536)) ((d : Int) * 16777216) = ((a + 256 * b + 65536 * c + 16777216 * d : Nat) : Int) := by
  have e1 : bits BinOp.or IntKind.u32 (a : Int) ((b : Int) * 256) = ((a ||| b * 256 : Nat) : Int) := u32_or_nat a (b * 256) (by omega) (by omega)
  have l1 : a ||| b * 256 < 4294967296 := by rw [or_join 8 a _ (by omega) (by omega)]; omega
  have e2 : bits BinOp.or IntKind.u32 ((a ||| b * 256 : Nat) : Int) ((c : Int) * 65536) = (((a ||| b * 256) ||| c * 65536 : Nat) : Int) := u32_or_nat _ (c * 65536) l1 (by omega)
  have l2 : (a ||| b * 256) ||| c * 65536 < 4294967296 := by rw [or_join 8 a (b * 256) (by omega) (by omega), or_join 16 (a + b * 256) (c * 65536) (by omega) (by omega)]; omega
  rw [e1, e2, ← or4_nat a b c d ha hb hc hd]
  exact u32_or_nat _ (d * 16777216) l2 (by omega)
theorem i64_ofInt (a : Nat) (ha : a < 9223372036854775808) : (BitVec.ofInt 64 (a : Int)).toNat = a := by
  rw [BitVec.ofInt_natCast, BitVec.toNat_ofNat]; exact Nat.mod_eq_of_lt (by omega)
theorem i64_or (a b : Nat) (ha : a < 9223372036854775808) (hb : b < 9223372036854775808) : bits .or .i64 (a : Int) (b : Int) = ((a ||| b : Nat) : Int) := by
  have hx : a ||| b < 2 ^ 63 := Nat.or_lt_two_pow (by omega) (by omega)
  show IntKind.i64.wrap ((BitVec.ofInt 64 (a : Int) ||| BitVec.ofInt 64 (b : Int)).toNat : Int) = _
  rw [BitVec.toNat_or, i64_ofInt a ha, i64_ofInt b hb, IntKind.wrap_i64]
  omega
theorem or4_i64 (a b c d : Nat) (ha : a < 256) (hb : b < 256) (hc : c < 256) (hd : d < 256) :
    bits BinOp.or IntKind.i64 (bits BinOp.or IntKind.i64 (bits BinOp.or IntKind.i64 (a : Int) ((b : Int) * 256)) ((c : Int) * 65536)) ((d : Int) * 16777216) = ((a + 256 * b + 65536 * c + 16777216 * d : Nat) : Int) := by
  have e1 : bits BinOp.or IntKind.i64 (a : Int) ((b : Int) * 256) = ((a ||| b * 256 : Nat) : Int) := i64_or a (b * 256) (by omega) (by omega)
  have l1 : a ||| b * 256 < 4294967296 := by rw [or_join 8 a _ (by omega) (by omega)]; omega
  have e2 : bits BinOp.or IntKind.i64 ((a ||| b * 256 : Nat) : Int) ((c : Int) * 65536) = (((a ||| b * 256) ||| c * 65536 : Nat) : Int) := i64_or _ (c * 65536) (by omega) (by omega)
  have l2 : (a ||| b * 256) ||| c * 65536 < 4294967296 := by rw [or_join 8 a (b * 256) (by omega) (by omega), or_join 16 (a + b * 256) (c * 65536) (by omega) (by omega)]; omega
  rw [e1, e2, ← or4_nat a b c d ha hb hc hd]
  exact i64_or _ (d * 16777216) (by omega) (by omega)
theorem take4 {l : List UInt8} {a b c d : UInt8} (h0 : l[0]? = some a) (h1 : l[1]? = some b) (h2 : l[2]? = some c) (h3 : l[3]? = some d) : l.take 4 = [a, b, c, d] := by
  match l with
  | [] => simp at h0
  | [_] => simp at h1
  | [_, _] => simp at h2
  | [_, _, _] => simp at h3
  | p :: q :: r :: s :: t =>
    simp at h0 h1 h2 h3
    subst h0 h1 h2 h3
    rfl

/-- the frame at an offset: the body, the offset behind it, the error -/
def nextL (b : List UInt8) (at_ : Int) : List UInt8 × Nat × Nat :=
  if at_ < 0 ∨ (b.length : Int) < at_ then ([], 0, 3)
  else if at_.toNat = b.length then ([], 0, 11)
  else if b.length - at_.toNat < 8 then ([], 0, 8)
  else if 4096 < num ((b.drop at_.toNat).take 4) then ([], 0, 5)
  else if b.length - at_.toNat - 8 < num ((b.drop at_.toNat).take 4) then ([], 0, 8)
  else if num ((b.drop (at_.toNat + 4)).take 4) = sumL ((b.drop (at_.toNat + 8)).take (num ((b.drop at_.toNat).take 4))) then
    ((b.drop (at_.toNat + 8)).take (num ((b.drop at_.toNat).take 4)), at_.toNat + 8 + num ((b.drop at_.toNat).take 4), 0)
  else ([], 0, 10)
theorem nextL_range {b : List UInt8} {at_ : Int} (h : at_ < 0 ∨ (b.length : Int) < at_) : nextL b at_ = ([], 0, 3) := by
  unfold nextL
  rw [if_pos h]
section
variable {b : List UInt8} {k : Nat}
theorem nextL_end (h : k = b.length) : nextL b k = ([], 0, 11) := by
  unfold nextL
  rw [if_neg (by omega), Int.toNat_natCast, if_pos h]
theorem nextL_short1 (h1 : k < b.length) (h : b.length - k < 8) : nextL b k = ([], 0, 8) := by
  unfold nextL
  rw [if_neg (by omega), Int.toNat_natCast, if_neg (by omega), if_pos h]
theorem nextL_long (h1 : k + 8 ≤ b.length) (h : 4096 < num ((b.drop k).take 4)) : nextL b k = ([], 0, 5) := by
  unfold nextL
  rw [if_neg (by omega), Int.toNat_natCast, if_neg (by omega), if_neg (by omega), if_pos h]
theorem nextL_short2 (h1 : k + 8 ≤ b.length) (h : num ((b.drop k).take 4) ≤ 4096) (h2 : b.length - k - 8 < num ((b.drop k).take 4)) : nextL b k = ([], 0, 8) := by
  unfold nextL
  rw [if_neg (by omega), Int.toNat_natCast, if_neg (by omega), if_neg (by omega), if_neg (by omega), if_pos h2]
theorem nextL_sum (h1 : k + 8 ≤ b.length) (h : num ((b.drop k).take 4) ≤ 4096) (h2 : k + 8 + num ((b.drop k).take 4) ≤ b.length)
    (h3 : num ((b.drop (k + 4)).take 4) ≠ sumL ((b.drop (k + 8)).take (num ((b.drop k).take 4)))) : nextL b k = ([], 0, 10) := by
  unfold nextL
  rw [if_neg (by omega), Int.toNat_natCast, if_neg (by omega), if_neg (by omega), if_neg (by omega), if_neg (by omega), if_neg h3]
theorem nextL_ok (h1 : k + 8 ≤ b.length) (h : num ((b.drop k).take 4) ≤ 4096) (h2 : k + 8 + num ((b.drop k).take 4) ≤ b.length)
    (h3 : num ((b.drop (k + 4)).take 4) = sumL ((b.drop (k + 8)).take (num ((b.drop k).take 4)))) :
    nextL b k = ((b.drop (k + 8)).take (num ((b.drop k).take 4)), k + 8 + num ((b.drop k).take 4), 0) := by
  unfold nextL
  rw [if_neg (by omega), Int.toNat_natCast, if_neg (by omega), if_neg (by omega), if_neg (by omega), if_neg (by omega), if_pos h3]
end
theorem head_second (b : List UInt8) (k : Nat) : (((b.drop k).take 8).drop 4).take 4 = (b.drop (k + 4)).take 4 := by
  rw [List.drop_take, List.take_take, List.drop_drop]
  rfl
theorem sum_of_head (b : List UInt8) (k n : Nat) (hk : k + 8 + n ≤ b.length) (hn : num ((b.drop k).take 4) = n) : upd (upd 0 ((b.drop k).take 4)) ((b.drop (k + 8)).take n) = sumL ((b.drop (k + 8)).take n) := by
  have e : ((b.drop (k + 8)).take n).length = n := by simp; omega
  unfold sumL
  rw [e, ← hn, le4_num _ (by simp; omega)]
theorem take8 (b : List UInt8) (k : Nat) : (b.drop k).take 8 = (b.drop k).take 4 ++ (b.drop (k + 4)).take 4 := by
  rw [show 8 = 4 + 4 from rfl, List.take_add, List.drop_drop]
theorem head_iff (b : List UInt8) (k n : Nat) (hk : k + 8 + n ≤ b.length) (hn : num ((b.drop k).take 4) = n) :
    headL ((b.drop (k + 8)).take n) = (b.drop k).take 8 ↔ num ((b.drop (k + 4)).take 4) = sumL ((b.drop (k + 8)).take n) := by
  have e : ((b.drop (k + 8)).take n).length = n := by simp; omega
  have e4 : le4 n = (b.drop k).take 4 := by rw [← hn, le4_num _ (by simp; omega)]
  have l4 : ((b.drop (k + 4)).take 4).length = 4 := by simp; omega
  unfold headL
  rw [e, take8, e4, List.append_cancel_left_eq]
  constructor
  · intro h
    rw [← h, num_le4 _ (sumL_lt _)]
  · intro h
    rw [← h, le4_num _ l4]
theorem flat_len (m : Nat) : ∀ ll : List (List UInt8), (∀ li ∈ ll, li.length ≤ m) → (ll.flatMap sealL).length ≤ ll.length * (8 + m)
  | [], _ => by simp
  | l :: ll, h => by
    have h1 := h l (by simp)
    have h2 := flat_len m ll (fun li hli => h li (by simp [hli]))
    rw [List.flatMap_cons, List.length_append, sealL_length, List.length_cons, Nat.add_mul]
    omega
theorem flat_snoc (ll : List (List UInt8)) (k : Nat) (li : List UInt8) (h : ll[k]? = some li) : (ll.take (k + 1)).flatMap sealL = (ll.take k).flatMap sealL ++ sealL li := by
  obtain ⟨hk, rfl⟩ := List.getElem?_eq_some_iff.1 h
  rw [List.take_succ_eq_append_getElem hk, List.flatMap_append]
  simp
theorem byteOf_val (v i : Nat) : (v : Int) / 2 ^ (8 * i) % 256 = (((byteOf v i).toNat : Nat) : Int) := by
  rw [cast_bit]
  unfold byteOf
  generalize v / 2 ^ (8 * i) = q
  simp
theorem brow_le4_small (n : Nat) (hn : n ≤ 4096) : #[Value.int IntKind.u8 ((n : Int) % 256), Value.int IntKind.u8 ((n : Int) / 256), Value.int IntKind.u8 ((n : Int) / 65536), Value.int IntKind.u8 ((n : Int) / 16777216)] = brow (le4 n) := by
  simp [brow, le4, bv_def]
  omega
theorem brow_le4 (n : Nat) (hn : n < 4294967296) : #[Value.int IntKind.u8 ((n : Int) % 256), Value.int IntKind.u8 ((n : Int) / 256 % 256), Value.int IntKind.u8 ((n : Int) / 65536 % 256), Value.int IntKind.u8 ((n : Int) / 16777216)] = brow (le4 n) := by
  simp [brow, le4, bv_def]
  omega
theorem brow_take (l : List UInt8) (n : Nat) (h : n = l.length) : (brow l).toList.take n = l.map bv := by
  subst h
  simp only [brow]
  exact List.take_of_length_le (by simp)
theorem take_eq_succ {l m : List UInt8} {k : Nat} {x : UInt8} (h : l.take k = m.take k) (hl : l[k]? = some x) (hm : m[k]? = some x) : l.take (k + 1) = m.take (k + 1) := by
  obtain ⟨h1, e1⟩ := List.getElem?_eq_some_iff.1 hl
  obtain ⟨h2, e2⟩ := List.getElem?_eq_some_iff.1 hm
  rw [List.take_succ_eq_append_getElem h1, List.take_succ_eq_append_getElem h2, h, e1, e2]
theorem byte_ofNat (x : Nat) : ((x : Int) % 256) = (((UInt8.ofNat x).toNat : Nat) : Int) := by simp
end Go.Proofs.Ytmakcggmaphanaa
