/-
  Joined from texts of ours: XFrameFn, XFrameWalk, XNextWalk, XRefNext, XScanFn.
-/
import Derived.Test.YtjcfnpmgklliiaaCrc
import Derived.Test.YtjcfnpmgklliiaaKit
namespace Go.Proofs.Ytjcfnpmgklliiaa
open Go.RowKit
set_option linter.unusedVariables false

/-- four bytes of a number, the lowest first -/
def le4 (v : Nat) : List UInt8 := [UInt8.ofNat v, UInt8.ofNat (v / 256), UInt8.ofNat (v / 65536), UInt8.ofNat (v / 16777216)]
theorem le4_length (v : Nat) : (le4 v).length = 4 := rfl
/-- a byte of a number -/
def byteOf (v i : Nat) : UInt8 := UInt8.ofNat (v / 2 ^ (8 * i))
/-- the first i bytes of a number are written at an offset -/
def putN (l : List UInt8) (off v : Nat) : Nat → List UInt8
  | 0 => l
  | i + 1 => (putN l off v i).set (off + i) (byteOf v i)
theorem putN_succ (l : List UInt8) (off v i : Nat) : putN l off v (i + 1) = (putN l off v i).set (off + i) (byteOf v i) := rfl
theorem putN_zero (l : List UInt8) (off v : Nat) : putN l off v 0 = l := rfl
theorem putN_length (l : List UInt8) (off v : Nat) : ∀ i, (putN l off v i).length = l.length
  | 0 => rfl
  | i + 1 => by rw [putN_succ, List.length_set, putN_length l off v i]
def z8 : List UInt8 := [0, 0, 0, 0, 0, 0, 0, 0]
theorem z8_length : z8.length = 8 := rfl
theorem put_first (v : Nat) : putN z8 0 v 4 = le4 v ++ [0, 0, 0, 0] := by simp [putN, z8, le4, byteOf]
theorem put_second (v s : Nat) : putN (le4 v ++ [0, 0, 0, 0]) 4 s 4 = le4 v ++ le4 s := by simp [putN, le4, byteOf]
theorem take_first (v : Nat) (l : List UInt8) : (le4 v ++ l).take 4 = le4 v := by simp [le4]

/-- the checksum of a body -/
def sumL (body : List UInt8) : Nat := upd (upd 0 (le4 body.length)) body
def headL (body : List UInt8) : List UInt8 := le4 body.length ++ le4 (sumL body)
/-- the frame of a body -/
def sealL (body : List UInt8) : List UInt8 := headL body ++ body
theorem sumL_def (body : List UInt8) : upd (upd 0 (le4 body.length)) body = sumL body := rfl
theorem headL_def (body : List UInt8) : le4 body.length ++ le4 (sumL body) = headL body := rfl
theorem sealL_def (body : List UInt8) : headL body ++ body = sealL body := rfl
theorem headL_length (body : List UInt8) : (headL body).length = 8 := rfl
theorem sealL_length (body : List UInt8) : (sealL body).length = 8 + body.length := by simp [sealL, headL_length]
theorem sumL_lt (body : List UInt8) : sumL body < 4294967296 := upd_lt (upd_lt (by omega) _) _
theorem sealL_nil : sealL [] = [0, 0, 0, 0, 28, 223, 68, 33] := by decide +kernel

theorem num_lt : ∀ l : List UInt8, num l < 256 ^ l.length
  | [] => by simp [num]
  | c :: l => by
    have := num_lt l
    have hc := u8_lt c
    simp only [num, List.length_cons, Nat.pow_succ]
    omega
theorem num4 (a b c d : UInt8) : num [a, b, c, d] = a.toNat + 256 * b.toNat + 65536 * c.toNat + 16777216 * d.toNat := by simp [num]; omega
theorem le4_num (l : List UInt8) (h : l.length = 4) : le4 (num l) = l := by
  match l, h with
  | [a, b, c, d], _ =>
    have ha := u8_lt a
    have hb := u8_lt b
    have hc := u8_lt c
    have hd := u8_lt d
    have e : ∀ x : UInt8, ∀ n : Nat, n % 256 = x.toNat → UInt8.ofNat n = x := fun x n hn => by
      apply UInt8.toNat_inj.1
      simp
      exact hn
    rw [num4]
    unfold le4
    rw [e a _ (by omega), e b _ (by omega), e c _ (by omega), e d _ (by omega)]
theorem num_le4 (v : Nat) (h : v < 4294967296) : num (le4 v) = v := by
  unfold le4
  rw [num4]
  simp
  omega
theorem le4_inj {a b : Nat} (ha : a < 4294967296) (hb : b < 4294967296) (h : le4 a = le4 b) : a = b := by
  rw [← num_le4 a ha, ← num_le4 b hb, h]

theorem or_join (i x y : Nat) (hx : x < 2 ^ i) (hy : y % 2 ^ i = 0) : x ||| y = x + y := by
  rw [Nat.or_comm, nat_join i y x hy hx, Nat.add_comm]
theorem or4_nat (a b c d : Nat) (ha : a < 256) (hb : b < 256) (hc : c < 256) (hd : d < 256) : ((a ||| b * 256) ||| c * 65536) ||| d * 16777216 = a + 256 * b + 65536 * c + 16777216 * d := by
  rw [or_join 8 a (b * 256) (by omega) (by omega), or_join 16 (a + b * 256) (c * 65536) (by omega) (by omega), or_join 24 (a + b * 256 + c * 65536) (d * 16777216) (by omega) (by omega)]
  omega
theorem or4_u32 (a b c d : Nat) (ha : a < 256) (hb : b < 256) (hc : c < 256) (hd : d < 256) :
    bits BinOp.or IntKind.u32 (bits BinOp.or IntKind.u32 (bits BinOp.or IntKind.u32 (a : Int) ((b : Int) * 256)) ((c : Int) * 65536)) ((d : Int) * 16777216) = ((a + 256 * b + 65536 * c + 16777216 * d : Nat) : Int) := by
  have e1 : bits BinOp.or IntKind.u32 (a : Int) ((b : Int) * 256) = ((a ||| b * 256 : Nat) : Int) := u32_or_nat a (b * 256) (by omega) (by omega)
  have l1 : a ||| b * 256 < 4294967296 := by rw [or_join 8 a _ (by omega) (by omega)]; omega
  have e2 : bits BinOp.or IntKind.u32 ((a ||| b * 256 : Nat) : Int) ((c : Int) * 65536) = (((a ||| b * 256) ||| c * 65536 : Nat) : Int) := u32_or_nat _ (c * 65536) l1 (by omega)
  have l2 : (a ||| b * 256) ||| c * 65536 < 4294967296 := by rw [or_join 8 a (b * 256) (by omega) (by omega), or_join 16 (a + b * 256) (c * 65536) (by omega) (by omega)]; omega
  rw [e1, e2, ← or4_nat a b c d ha hb hc hd]
  exact u32_or_nat _ (d * 16777216) l2 (by omega)
theorem i64_ofInt (a : Nat) (ha : a < 9223372036854775808) : (BitVec.ofInt 64 (a : Int)).toNat = a := by
  rw [BitVec.ofInt_natCast, BitVec.toNat_ofNat]; exact Nat.mod_eq_of_lt (by omega)
theorem i64_or (a b : Nat) (ha : a < 9223372036854775808) (hb : b < 9223372036854775808) : bits .or .i64 (a : Int) (b : Int) = ((a ||| b : Nat) : Int) := by
  have hx : a ||| b < 2 ^ 63 := Nat.or_lt_two_pow (by omega) (by omega)
  show IntKind.i64.wrap ((BitVec.ofInt 64 (a : Int) ||| BitVec.ofInt 64 (b : Int)).toNat : Int) = _
  rw [BitVec.toNat_or, i64_ofInt a ha, i64_ofInt b hb, IntKind.wrap_i64]
  omega
theorem or4_i64 (a b c d : Nat) (ha : a < 256) (hb : b < 256) (hc : c < 256) (hd : d < 256) :
    bits BinOp.or IntKind.i64 (bits BinOp.or IntKind.i64 (bits BinOp.or IntKind.i64 (a : Int) ((b : Int) * 256)) ((c : Int) * 65536)) ((d : Int) * 16777216) = ((a + 256 * b + 65536 * c + 16777216 * d : Nat) : Int) := by
  have e1 : bits BinOp.or IntKind.i64 (a : Int) ((b : Int) * 256) = ((a ||| b * 256 : Nat) : Int) := i64_or a (b * 256) (by omega) (by omega)
  have l1 : a ||| b * 256 < 4294967296 := by rw [or_join 8 a _ (by omega) (by omega)]; omega
  have e2 : bits BinOp.or IntKind.i64 ((a ||| b * 256 : Nat) : Int) ((c : Int) * 65536) = (((a ||| b * 256) ||| c * 65536 : Nat) : Int) := i64_or _ (c * 65536) (by omega) (by omega)
  have l2 : (a ||| b * 256) ||| c * 65536 < 4294967296 := by rw [or_join 8 a (b * 256) (by omega) (by omega), or_join 16 (a + b * 256) (c * 65536) (by omega) (by omega)]; omega
  rw [e1, e2, ← or4_nat a b c d ha hb hc hd]
  exact i64_or _ (d * 16777216) (by omega) (by omega)
theorem take4 {l : List UInt8} {a b c d : UInt8} (h0 : l[0]? = some a) (h1 : l[1]? = some b) (h2 : l[2]? = some c) (h3 : l[3]? = some d) : l.take 4 = [a, b, c, d] := by
  match l with
  | [] => simp at h0
  | [_] => simp at h1
  | [_, _] => simp at h2
  | [_, _, _] => simp at h3
  | p :: q :: r :: s :: t =>
    simp at h0 h1 h2 h3
    subst h0 h1 h2 h3
    rfl

/-- the frame at an offset: the body, the offset behind it, the error -/
def nextL (b : List UInt8) (at_ : Int) : List UInt8 × Nat × Nat :=
  if at_ < 0 ∨ (b.length : Int) < at_ then ([], 0, 3)
  else if at_.toNat = b.length then ([], 0, 11)
  else if b.length - at_.toNat < 8 then ([], 0, 8)
  else if 4096 < num ((b.drop at_.toNat).take 4) then ([], 0, 5)
  else if b.length - at_.toNat - 8 < num ((b.drop at_.toNat).take 4) then ([], 0, 8)
  else if num ((b.drop (at_.toNat + 4)).take 4) = sumL ((b.drop (at_.toNat + 8)).take (num ((b.drop at_.toNat).take 4))) then
    ((b.drop (at_.toNat + 8)).take (num ((b.drop at_.toNat).take 4)), at_.toNat + 8 + num ((b.drop at_.toNat).take 4), 0)
  else ([], 0, 10)
theorem nextL_range {b : List UInt8} {at_ : Int} (h : at_ < 0 ∨ (b.length : Int) < at_) : nextL b at_ = ([], 0, 3) := by
  unfold nextL
  rw [if_pos h]
section
variable {b : List UInt8} {k : Nat}
theorem nextL_end (h : k = b.length) : nextL b k = ([], 0, 11) := by
  unfold nextL
  rw [if_neg (by omega), Int.toNat_natCast, if_pos h]
theorem nextL_short1 (h1 : k < b.length) (h : b.length - k < 8) : nextL b k = ([], 0, 8) := by
  unfold nextL
  rw [if_neg (by omega), Int.toNat_natCast, if_neg (by omega), if_pos h]
theorem nextL_long (h1 : k + 8 ≤ b.length) (h : 4096 < num ((b.drop k).take 4)) : nextL b k = ([], 0, 5) := by
  unfold nextL
  rw [if_neg (by omega), Int.toNat_natCast, if_neg (by omega), if_neg (by omega), if_pos h]
theorem nextL_short2 (h1 : k + 8 ≤ b.length) (h : num ((b.drop k).take 4) ≤ 4096) (h2 : b.length - k - 8 < num ((b.drop k).take 4)) : nextL b k = ([], 0, 8) := by
  unfold nextL
  rw [if_neg (by omega), Int.toNat_natCast, if_neg (by omega), if_neg (by omega), if_neg (by omega), if_pos h2]
theorem nextL_sum (h1 : k + 8 ≤ b.length) (h : num ((b.drop k).take 4) ≤ 4096) (h2 : k + 8 + num ((b.drop k).take 4) ≤ b.length)
    (h3 : num ((b.drop (k + 4)).take 4) ≠ sumL ((b.drop (k + 8)).take (num ((b.drop k).take 4)))) : nextL b k = ([], 0, 10) := by
  unfold nextL
  rw [if_neg (by omega), Int.toNat_natCast, if_neg (by omega), if_neg (by omega), if_neg (by omega), if_neg (by omega), if_neg h3]
theorem nextL_ok (h1 : k + 8 ≤ b.length) (h : num ((b.drop k).take 4) ≤ 4096) (h2 : k + 8 + num ((b.drop k).take 4) ≤ b.length)
    (h3 : num ((b.drop (k + 4)).take 4) = sumL ((b.drop (k + 8)).take (num ((b.drop k).take 4)))) :
    nextL b k = ((b.drop (k + 8)).take (num ((b.drop k).take 4)), k + 8 + num ((b.drop k).take 4), 0) := by
  unfold nextL
  rw [if_neg (by omega), Int.toNat_natCast, if_neg (by omega), if_neg (by omega), if_neg (by omega), if_neg (by omega), if_pos h3]
end
theorem head_second (b : List UInt8) (k : Nat) : (((b.drop k).take 8).drop 4).take 4 = (b.drop (k + 4)).take 4 := by
  rw [List.drop_take, List.take_take, List.drop_drop]
  rfl
theorem sum_of_head (b : List UInt8) (k n : Nat) (hk : k + 8 + n ≤ b.length) (hn : num ((b.drop k).take 4) = n) : upd (upd 0 ((b.drop k).take 4)) ((b.drop (k + 8)).take n) = sumL ((b.drop (k + 8)).take n) := by
  have e : ((b.drop (k + 8)).take n).length = n := by simp; omega
  unfold sumL
  rw [e, ← hn, le4_num _ (by simp; omega)]
theorem take8 (b : List UInt8) (k : Nat) : (b.drop k).take 8 = (b.drop k).take 4 ++ (b.drop (k + 4)).take 4 := by
  rw [show 8 = 4 + 4 from rfl, List.take_add, List.drop_drop]
theorem head_iff (b : List UInt8) (k n : Nat) (hk : k + 8 + n ≤ b.length) (hn : num ((b.drop k).take 4) = n) :
    headL ((b.drop (k + 8)).take n) = (b.drop k).take 8 ↔ num ((b.drop (k + 4)).take 4) = sumL ((b.drop (k + 8)).take n) := by
  have e : ((b.drop (k + 8)).take n).length = n := by simp; omega
  have e4 : le4 n = (b.drop k).take 4 := by rw [← hn, le4_num _ (by simp; omega)]
  have l4 : ((b.drop (k + 4)).take 4).length = 4 := by simp; omega
  unfold headL
  rw [e, take8, e4, List.append_cancel_left_eq]
  constructor
  · intro h
    rw [← h, num_le4 _ (sumL_lt _)]
  · intro h
    rw [← h, le4_num _ l4]
theorem flat_len (m : Nat) : ∀ ll : List (List UInt8), (∀ li ∈ ll, li.length ≤ m) → (ll.flatMap sealL).length ≤ ll.length * (8 + m)
  | [], _ => by simp
  | l :: ll, h => by
    have h1 := h l (by simp)
    have h2 := flat_len m ll (fun li hli => h li (by simp [hli]))
    rw [List.flatMap_cons, List.length_append, sealL_length, List.length_cons, Nat.add_mul]
    omega
theorem flat_snoc (ll : List (List UInt8)) (k : Nat) (li : List UInt8) (h : ll[k]? = some li) : (ll.take (k + 1)).flatMap sealL = (ll.take k).flatMap sealL ++ sealL li := by
  obtain ⟨hk, rfl⟩ := List.getElem?_eq_some_iff.1 h
  rw [List.take_succ_eq_append_getElem hk, List.flatMap_append]
  simp
theorem byteOf_val (v i : Nat) : (v : Int) / 2 ^ (8 * i) % 256 = (((byteOf v i).toNat : Nat) : Int) := by
  rw [cast_bit]
  unfold byteOf
  generalize v / 2 ^ (8 * i) = q
  simp
theorem brow_le4_small (n : Nat) (hn : n ≤ 4096) : #[Value.int IntKind.u8 ((n : Int) % 256), Value.int IntKind.u8 ((n : Int) / 256), Value.int IntKind.u8 ((n : Int) / 65536), Value.int IntKind.u8 ((n : Int) / 16777216)] = brow (le4 n) := by
  simp [brow, le4, bv_def]
  omega
theorem brow_le4 (n : Nat) (hn : n < 4294967296) : #[Value.int IntKind.u8 ((n : Int) % 256), Value.int IntKind.u8 ((n : Int) / 256 % 256), Value.int IntKind.u8 ((n : Int) / 65536 % 256), Value.int IntKind.u8 ((n : Int) / 16777216)] = brow (le4 n) := by
  simp [brow, le4, bv_def]
  omega
theorem brow_take (l : List UInt8) (n : Nat) (h : n = l.length) : (brow l).toList.take n = l.map bv := by
  subst h
  simp only [brow]
  exact List.take_of_length_le (by simp)
theorem take_eq_succ {l m : List UInt8} {k : Nat} {x : UInt8} (h : l.take k = m.take k) (hl : l[k]? = some x) (hm : m[k]? = some x) : l.take (k + 1) = m.take (k + 1) := by
  obtain ⟨h1, e1⟩ := List.getElem?_eq_some_iff.1 hl
  obtain ⟨h2, e2⟩ := List.getElem?_eq_some_iff.1 hm
  rw [List.take_succ_eq_append_getElem h1, List.take_succ_eq_append_getElem h2, h, e1, e2]
theorem byte_ofNat (x : Nat) : ((x : Int) % 256) = (((UInt8.ofNat x).toNat : Nat) : Int) := by simp
end Go.Proofs.Ytjcfnpmgklliiaa

namespace Go.Proofs.Ytjcfnpmgklliiaa
open Go.RowKit
attribute [local irreducible] upd inv le4 putN byteOf z8 sumL headL sealL brow
set_option maxRecDepth 100000
set_option linter.unusedVariables false

set_option maxHeartbeats 400000 in
theorem samebytes_any (va vb : Value) (la lb : List UInt8) (S T : Nat → Prop) (w : World) (ha : Bytes S w va la) (hb : Bytes T w vb lb) :
    Calls Try.prog 33 #[va, vb] w fun e w' => e = .returned (.bool (decide (la = lb))) ∧ Below w.heap.size w w' := by
  obtain ⟨A, c, rfl, hc1, hc2, hcs⟩ := ha
  obtain ⟨B, d, rfl, hd1, hd2, hds⟩ := hb
  unfold maxLen at hc2 hd2
  by_cases hlen : la.length = lb.length
  · have hne : ((la.length : Int) != (lb.length : Int)) = false := by simp [hlen]
    have Hlen := Lib.hid hlen
    clear hlen
    have hle : la.length ≤ lb.length := by have := Hlen.out; omega
    go_enter Try.func33, Try.ntmps33
    go_wp2
    go_loopw [5] (fun i wr => ∃ k : Nat, k ≤ la.length ∧ i = .int .i64 k ∧ la.take k = lb.take k ∧ Below w.heap.size w wr) (fun i _ => la.length - (intOf i).toNat)
    case atStart => exact ⟨0, by omega, rfl, rfl, Below.refl _ _⟩
    case round =>
      obtain ⟨k, hk, rfl, htk, hbw⟩ := hrel
      have Htk := Lib.hid htk
      clear htk
      by_cases hlt : k < la.length
      · obtain ⟨b0, o0, x, rfl, _, _, hx, hcx⟩ := (hcs.keep (Keep.of_below hbw)).byte hlt
        obtain ⟨b1, o1, y, rfl, _, _, hy, hcy⟩ := (hds.keep (Keep.of_below hbw)).byte (k := k) (by omega)
        have Hx := Lib.hid hx
        have Hy := Lib.hid hy
        clear hx hy
        by_cases hxy : x = y
        · subst hxy
          have hne2 : (((x.toNat : Nat) : Int) != ((x.toNat : Nat) : Int)) = false := by simp
          go_wp2_with fail
          refine wp_region_lex (fun _ => True) (by kernel_rfl) (by kernel_rfl) trivial ?_
          repeat (refine lex_q rfl ⟨default, trivial⟩ ?_; go_big_quiet_step (fail); refine wpQuiet_nil ?_)
          refine lex_e rfl ?_
          go_wp2_with fail
          refine lex_go trivial ?_
          repeat (refine lex_q rfl ⟨default, trivial⟩ ?_; go_big_quiet_step (fail); refine wpQuiet_nil ?_)
          refine lex_e rfl ?_
          go_wp2_with fail
          refine lex_go trivial ?_
          repeat (refine lex_q rfl ⟨default, trivial⟩ ?_; go_big_quiet_step (fail); refine wpQuiet_nil ?_)
          refine lex_nil ?_
          go_wp2_with fail
          go_roundw
          case rel => exact ⟨k + 1, by omega, by go_num, take_eq_succ Htk.out Hx.out Hy.out, hbw.drew⟩
          case measure => simp [intOf]; omega
        · have hne2 : (((x.toNat : Nat) : Int) != ((y.toNat : Nat) : Int)) = true := by
            rw [bne_iff_ne]; intro h; exact hxy (UInt8.toNat_inj.1 (by omega))
          go_wp2_with fail
          refine wp_region_lex (fun _ => True) (by kernel_rfl) (by kernel_rfl) trivial ?_
          repeat (refine lex_q rfl ⟨default, trivial⟩ ?_; go_big_quiet_step (fail); refine wpQuiet_nil ?_)
          refine lex_e rfl ?_
          go_wp2_with fail
          refine lex_go trivial ?_
          repeat (refine lex_q rfl ⟨default, trivial⟩ ?_; go_big_quiet_step (fail); refine wpQuiet_nil ?_)
          refine lex_e rfl ?_
          go_wp2_with fail
          refine lex_go trivial ?_
          repeat (refine lex_q rfl ⟨default, trivial⟩ ?_; go_big_quiet_step (fail); refine wpQuiet_nil ?_)
          refine lex_nil ?_
          go_wp2_with fail
          go_ret
          refine ⟨ret_bool (a := false) ?_, hbw.drew⟩
          symm
          rw [decide_eq_false_iff_not]
          intro h
          subst h
          have := Hx.out.symm.trans Hy.out
          simp at this
          exact hxy this
      · go_wp2
        go_ret
        refine ⟨ret_bool (a := true) ?_, hbw⟩
        symm
        rw [decide_eq_true_iff]
        have h1 := Htk.out
        rw [List.take_of_length_le (by omega), List.take_of_length_le (by have := Hlen.out; omega)] at h1
        exact h1
  · have hne : ((la.length : Int) != (lb.length : Int)) = true := by rw [bne_iff_ne]; omega
    go_enter Try.func33, Try.ntmps33
    go_wp2
    go_ret
    refine ⟨ret_bool (a := false) ?_, Below.refl _ _⟩
    symm
    rw [decide_eq_false_iff_not]
    intro h
    exact hlen (by rw [h])
theorem samebytesY_eq (va vb : Value) (l : List UInt8) (S T : Nat → Prop) (w : World) (ha : Bytes S w va l) (hb : Bytes T w vb l) :
    Calls Try.prog 33 #[va, vb] w fun e w' => e = .returned (.bool true) ∧ Below w.heap.size w w' := by
  have := samebytes_any va vb l l S T w ha hb
  simpa using this

set_option maxHeartbeats 400000 in
theorem putword_any (g off n c : Nat) (t : TypeId) (l : List UInt8) (v : Nat) (w : World) (hv : v < 4294967296) (hrow : BRow w g t l) (hoff : off + 4 ≤ l.length) (hn : 4 ≤ n) :
    Calls Try.prog 53 #[.slice (some ⟨g, off, none⟩) n c, .int .u32 v] w fun e w' => e = .returned (.tuple #[]) ∧ BRow w' g t (putN l off v 4) ∧ w.grownBy w' (some g) ∧ w'.heap.size = w.heap.size := by
  have Hrow := Lib.hid hrow
  clear hrow
  go_enter Try.func53, Try.ntmps53
  go_wp2
  go_loopw [4, 5] (fun _ i wr => ∃ k : Nat, k ≤ 4 ∧ i = .int .i64 k ∧ BRow wr g t (putN l off v k) ∧ w.grownBy wr (some g) ∧ wr.heap.size = w.heap.size) (fun _ i _ => 4 - (intOf i).toNat)
  case atStart => exact ⟨0, by omega, rfl, by rw [putN_zero]; exact Hrow.out, ⟨rfl, rfl, rfl, Nat.le_refl _, fun _ _ _ => rfl⟩, rfl⟩
  case round =>
    obtain ⟨k, hk, rfl, hrow, hgr, hsz⟩ := hrel
    by_cases hlt : k < 4
    · obtain ⟨x, hx, hcx⟩ := hrow.at_ (j := off + k) (by rw [putN_length]; omega)
      have hfx := hrow.frozen (off + k)
      have Hr := Lib.hid hrow
      have Hsz := Lib.hid hsz
      clear hrow hx hsz
      go_wp2
      go_roundw
      case rel =>
        rw [byteOf_val]
        exact ⟨k + 1, by omega, by go_num, by rw [putN_succ]; exact Hr.out.set_ _ _, grown_set hgr, by simpa [World.setCell] using Hsz.out⟩
      case measure => simp [intOf]; omega
    · obtain rfl : k = 4 := by omega
      have Hr := Lib.hid hrow
      have Hsz := Lib.hid hsz
      clear hrow hsz
      go_wp2
      go_end0
      exact ⟨rfl, Hr.out, hgr, Hsz.out⟩

theorem zero8 (w : World) : (zeroValue 88).run Try.prog w = .ok (.agg (brow z8)) w := by kernel_rfl
theorem mkBytes0 (n : Nat) (hn : n ≤ 140737488355328) (w : World) : (Instr.makeSlice 22 (.int .i64 0) (.int .i64 (n : Int))).run Try.prog w = .ok (.slice (some ⟨w.heap.size, 0, none⟩) 0 n) (w.alloc (.cells (brow (List.replicate n 0)) 5)) := by
  obtain ⟨i, hi, hz, hs, hb⟩ := info_parts (P := Try.prog) (e := 5) (z := .int .u8 0) (size := 1) (bytes := 1) (by kernel_rfl)
  have h := run_make (P := Try.prog) w 22 5 i (.int .u8 0) Try.underlying22 hi hz .i64 .i64 0 n (by omega) (by omega) (by rw [hb]; omega) (by omega)
  rw [h, hs]
  simp only [Int.toNat_natCast, Nat.mul_one]
  rw [← madeCells_brow]
  rfl
theorem own_made (w : World) (t : TypeId) (n : Nat) (l : List UInt8) (hl : l.length = n) (hn : n ≤ 9223372036854775807) (base : Nat) (hb : base ≤ w.heap.size) : OwnB (w.alloc (.cells (brow l) t)) base t (.slice (some ⟨w.heap.size, 0, none⟩) 0 n) [] := by
  refine ⟨by simp, .inr ⟨w.heap.size, n, brow l, rfl, hb, heap_alloc_new w _, by simp, by unfold maxLen; exact hn, by rw [brow_size, hl, Nat.mul_one], by simp⟩⟩

set_option maxHeartbeats 1000000 in
theorem seal_any (v : Value) (l : List UInt8) (S : Nat → Prop) (w : World) (hv : Bytes S w v l) (hl : l.length ≤ 4096) :
    Calls Try.prog 17 #[v] w fun e w' => ∃ v', e = .returned (.tuple #[v', .int .i64 0]) ∧ OwnB w' w.heap.size 5 v' (sealL l) ∧ Below w.heap.size w w' := by
  have hB := hv
  obtain ⟨A, c, rfl, hc1, hc2, hcs⟩ := hv
  unfold maxLen at hc2
  have hz := zero8
  go_enter Try.func17, Try.ntmps17
  go_wp2_with fail
  refine (putword_any w.heap.size 0 4 8 88 z8 _ _ (by omega) (BRow.new _ _ _) (by rw [z8_length]; omega) (by omega)).mono ?_
  rintro e w1 ⟨rfl, hr1, hg1, hs1⟩
  rw [put_first] at hr1
  have hb1 : Below w.heap.size w w1 := Below.grow ((Below.refl _ _).alloc (Nat.le_refl _) _) hg1 (Nat.le_refl _)
  have Hr1 := Lib.hid hr1
  have Hs1 := Lib.hid hs1
  clear hr1 hs1 hg1 hz
  have hA1 := (Hr1.out.bytes (S := fun _ => True) (n := 8) (c := 8) (by simp [le4_length]) (by omega) (by simp [maxLen]) trivial).take_ (k := 4) (by omega)
  rw [take_first] at hA1
  have hB1 := hB.ext hb1
  go_wp2_with fail
  refine wp_region_lex (fun _ => True) (by kernel_rfl) (by kernel_rfl) trivial ?_
  repeat (refine lex_q rfl ⟨default, trivial⟩ ?_; go_big_quiet_step (fail); refine wpQuiet_nil ?_)
  refine lex_e rfl ?_
  go_wp2_with fail
  refine (of_any _ (le4 l.length) _ _ hA1.drew).mono ?_
  rintro e w2 ⟨rfl, hb2⟩
  go_wp2_with fail
  refine lex_go trivial ?_
  repeat (first | (refine lex_q rfl ⟨default, trivial⟩ ?_; go_big_quiet_step (fail); refine wpQuiet_nil ?_) | (refine lex_skip rfl rfl trivial ?_; simp only [Act.put, List.setIfInBounds_toArray, List.set_cons_succ, List.set_cons_zero]) | (refine lex_e rfl ?_; go_wp2_with fail; refine lex_go trivial ?_))
  refine lex_e rfl ?_
  go_wp2_with fail
  refine (update_any _ _ l _ _ (upd_lt (by omega) _) (hB1.drew.ext hb2)).mono ?_
  rintro e w3 ⟨rfl, hb3⟩
  go_wp2_with fail
  refine lex_go trivial ?_
  repeat (first | (refine lex_q rfl ⟨default, trivial⟩ ?_; go_big_quiet_step (fail); refine wpQuiet_nil ?_) | (refine lex_skip rfl rfl trivial ?_; simp only [Act.put, List.setIfInBounds_toArray, List.set_cons_succ, List.set_cons_zero]) | (refine lex_e rfl ?_; go_wp2_with fail; refine lex_go trivial ?_))
  have hr3 := (Hr1.out.drew.ext hb2).ext hb3
  have hB3 := (hB1.drew.ext hb2).ext hb3
  have hb13 : Below w.heap.size w w3 := Below.ext (Below.ext hb1.drew hb2) hb3
  have Hr3 := Lib.hid hr3
  clear hr3 hA1 hB1 hcs
  refine lex_e rfl ?_
  go_wp2_with fail
  refine (putword_any w.heap.size 4 4 4 88 _ _ _ (upd_lt (upd_lt (by omega) _) _) Hr3.out (by simp [le4_length]) (by omega)).mono ?_
  rintro e w4 ⟨rfl, hr4, hg4, hs4⟩
  go_wp2_with fail
  refine lex_go trivial ?_
  repeat (first | (refine lex_q rfl ⟨default, trivial⟩ ?_; go_big_quiet_step (fail); refine wpQuiet_nil ?_) | (refine lex_skip rfl rfl trivial ?_; simp only [Act.put, List.setIfInBounds_toArray, List.set_cons_succ, List.set_cons_zero]) | (refine lex_e rfl ?_; go_wp2_with fail; refine lex_go trivial ?_))
  rw [put_second] at hr4
  have hb4 : Below w.heap.size w w4 := Below.grow hb13 hg4 (Nat.le_refl _)
  have hB4 := hB.ext hb4
  have hH4 := hr4.bytes (S := fun _ => True) (n := 8) (c := 8) (by simp [le4_length]) (by omega) (by simp [maxLen]) trivial
  clear hr4 hg4 hs4 hB3
  have hmk := mkBytes0 (8 + l.length) (by omega)
  have ecast : ((8 + l.length : Nat) : Int) = 8 + (l.length : Int) := by omega
  rw [ecast] at hmk
  clear ecast
  have hs4 := hb4.size
  have hown4 := own_made w4 5 (8 + l.length) (List.replicate (8 + l.length) 0) (by simp) (by omega) w.heap.size hs4
  have hba : Below w4.heap.size w4 (w4.alloc (.cells (brow (List.replicate (8 + l.length) 0)) 5)) := (Below.refl _ _).alloc (Nat.le_refl _) _
  have hH5 := hH4.ext hba
  rw [sumL_def, headL_def] at hH5
  clear hH4 hB4
  refine lex_nil ?_
  go_wp2_with (first
    | (refine wpList_appB (o := ⟨some 26, _, _, _, _, _⟩) _ _ 22 5 w.heap.size [] (headL l) (some ⟨w.heap.size, 0, none⟩) 8 8 (.slice (some ⟨w4.heap.size, 0, none⟩) 0 (8 + l.length)) 8 rfl rfl Try.underlying22 (by kernel_rfl) rfl rfl hown4 hH5 (by simp) (by simp) (by simp; omega) ?_; intro A5 c5 w5 hown5 hgr5 hat5 hc51 hc52; clear hmk)
    | (refine wpList_appB (o := ⟨some 29, _, _, _, _, _⟩) _ _ 22 5 w.heap.size ([] ++ headL l) l A l.length c (.slice A5 8 c5) (8 + l.length) rfl rfl Try.underlying22 (by kernel_rfl) rfl rfl hown5 (hB.ext (Below.grow (Below.ext hb4 hba) hgr5 hs4)) (by simp [headL_length]) (by simp [headL_length]; omega) (Nat.le_trans hs4 (Nat.le_trans hba.size hgr5.size)) ?_; intro A6 c6 w6 hown6 hgr6 hat6 hc61 hc62))
  go_ret2
  have hb5 := Below.grow (Below.ext hb4 hba) hgr5 hs4
  refine ⟨_, rfl, ?_, hown5.grow hgr6 hb5 (Nat.le_refl _) hb5.size⟩
  rw [List.nil_append, sealL_def] at hown6
  exact hown6
theorem seal_long (v : Value) (l : List UInt8) (S : Nat → Prop) (w : World) (hv : Bytes S w v l) (hl : 4096 < l.length) :
    Calls Try.prog 17 #[v] w fun e w' => e = .returned (.tuple #[.slice none 0 0, .int .i64 5]) ∧ w = w' := by
  obtain ⟨A, c, rfl, hc1, hc2, hcs⟩ := hv
  go_enter Try.func17, Try.ntmps17
  go_wp2
  go_ret2
  exact ⟨rfl, rfl⟩

set_option maxHeartbeats 1000000 in
theorem refhead_any (v : Value) (l : List UInt8) (S : Nat → Prop) (w : World) (hv : Bytes S w v l) (hl : l.length ≤ 4096) :
    Calls Try.prog 83 #[v] w fun e w' => ∃ v', e = .returned v' ∧ OwnB w' w.heap.size 5 v' (headL l) ∧ Below w.heap.size w w' := by
  have hB := hv
  obtain ⟨A, c, rfl, hc1, hc2, hcs⟩ := hv
  unfold maxLen at hc2
  go_enter Try.func83, Try.ntmps83
  go_wp2_with fail
  rw [brow_le4_small _ hl]
  have hown1 := OwnB.lit w 5 (le4 l.length) 4 (le4_length _).symm (by omega) w.heap.size (Nat.le_refl _)
  have hba : Below w.heap.size w (w.alloc (.cells (brow (le4 l.length)) 5)) := (Below.refl _ _).alloc (Nat.le_refl _) _
  refine (refof_any _ (le4 l.length) _ _ hown1.bytes).mono ?_
  rintro e w1 ⟨rfl, rfl⟩
  rw [← upd_eq]
  go_wp2_with fail
  refine (refupdate_any _ _ l _ _ (upd_lt (by omega) _) (hB.ext hba)).mono ?_
  rintro e w1 ⟨rfl, rfl⟩
  rw [← upd_eq, sumL_def]
  have hsum := sumL_lt l
  generalize hs : sumL l = s at hsum ⊢
  have Hs := Lib.hid hs
  clear hs
  go_wp2_with (refine wpList_appB (D := fun _ => True) (o := ⟨some 37, _, _, _, _, _⟩) _ _ 22 5 w.heap.size (le4 l.length) (le4 s) (some ⟨w.heap.size + 1, 0, none⟩) 4 4 (.slice (some ⟨w.heap.size, 0, none⟩) 4 4) 8 rfl rfl Try.underlying22 (by kernel_rfl) rfl rfl (OwnB.ext hown1 ((Below.refl _ _).alloc (Nat.le_refl _) _)) ?c1 (by simp [le4_length]) (by simp [le4_length]) (by simp; omega) ?_; rotate_left; intro A5 c5 w5 hown5 hgr5 hat5 hc51 hc52)
  case c1 =>
    rw [brow_le4 _ hsum]
    have h := Bytes.lit (S := fun _ => True) (w.alloc (.cells (brow (le4 l.length)) 5)) (brow (le4 s)) 5 (0, 0) (le4 s) 4 4 trivial (le4_length _) (by omega) (by simp [maxLen]) (brow_take _ _ (le4_length _).symm)
    rw [World.size_alloc] at h
    exact h
  go_ret
  rw [← Hs.out, headL_def] at hown5
  refine ⟨_, rfl, hown5, ?_⟩
  exact Below.grow (((Below.refl _ _).alloc (Nat.le_refl _) _).alloc (by simp) _) hgr5 (Nat.le_refl _)

set_option maxHeartbeats 1000000 in
theorem refseal_any (v : Value) (l : List UInt8) (S : Nat → Prop) (w : World) (hv : Bytes S w v l) (hl : l.length ≤ 4096) :
    Calls Try.prog 51 #[v] w fun e w' => ∃ v', e = .returned (.tuple #[v', .int .i64 0]) ∧ OwnB w' w.heap.size 5 v' (sealL l) ∧ Below w.heap.size w w' := by
  have hB := hv
  obtain ⟨A, c, rfl, hc1, hc2, hcs⟩ := hv
  unfold maxLen at hc2
  go_enter Try.func51, Try.ntmps51
  go_wp2_with fail
  refine (refhead_any _ l _ _ hB hl).mono ?_
  rintro e w1 ⟨v1, rfl, hown1, hb1⟩
  go_wp2_with (refine wpList_appB (o := ⟨some 10, _, _, _, _, _⟩) _ _ 22 5 w.heap.size (headL l) l A l.length c v1 (8 + l.length) rfl rfl Try.underlying22 (by kernel_rfl) rfl rfl hown1 (hB.ext hb1) (by simp [headL_length]) (by simp [headL_length]; omega) hb1.size ?_; intro A5 c5 w5 hown5 hgr5 hat5 hc51 hc52)
  go_ret2
  rw [sealL_def] at hown5
  exact ⟨_, rfl, hown5, hown1.grow hgr5 hb1 (Nat.le_refl _) hb1.size⟩
theorem refseal_long (v : Value) (l : List UInt8) (S : Nat → Prop) (w : World) (hv : Bytes S w v l) (hl : 4096 < l.length) :
    Calls Try.prog 51 #[v] w fun e w' => e = .returned (.tuple #[.slice none 0 0, .int .i64 5]) ∧ w = w' := by
  obtain ⟨A, c, rfl, hc1, hc2, hcs⟩ := hv
  go_enter Try.func51, Try.ntmps51
  go_wp2
  go_ret2
  exact ⟨rfl, rfl⟩

end Go.Proofs.Ytjcfnpmgklliiaa

namespace Go.Proofs.Ytjcfnpmgklliiaa
open Go.RowKit
attribute [local irreducible] upd inv le4 putN byteOf z8 sumL headL sealL brow num nextL
set_option maxRecDepth 100000
set_option linter.unusedVariables false

/-- the slice of a body, by its place -/
def bodyV (v : Value) (k n : Nat) : Value :=
  match v with
  | .slice A _ c => .slice (if c = k + 8 then A else Option.map (fun x => x.add (k + 8)) A) n n
  | _ => undef
theorem bodyV_slice (A : Option Addr) (m c k n : Nat) : bodyV (.slice A m c) k n = .slice (if c = k + 8 then A else Option.map (fun x => x.add (k + 8)) A) n n := rfl

set_option maxHeartbeats 400000 in
theorem word_any (v : Value) (l : List UInt8) (S : Nat → Prop) (w : World) (hv : Bytes S w v l) (hl : 4 ≤ l.length) :
    Calls Try.prog 74 #[v] w fun e w' => e = .returned (.int .u32 (num (l.take 4) : Nat)) ∧ Below w.heap.size w w' := by
  obtain ⟨A, c, rfl, hc1, hc2, hcs⟩ := hv
  unfold maxLen at hc2
  obtain ⟨b0, o0, x0, rfl, _, _, hx0, hc0⟩ := hcs.byte (k := 0) (by omega)
  obtain ⟨_, _, x1, e1, _, _, hx1, hc1'⟩ := hcs.byte (k := 1) (by omega)
  cases e1
  obtain ⟨_, _, x2, e2, _, _, hx2, hc2'⟩ := hcs.byte (k := 2) (by omega)
  cases e2
  obtain ⟨_, _, x3, e3, _, _, hx3, hc3'⟩ := hcs.byte (k := 3) (by omega)
  cases e3
  have h0 := u8_lt x0
  have h1 := u8_lt x1
  have h2 := u8_lt x2
  have h3 := u8_lt x3
  simp only [Nat.add_zero] at hc0
  have Hx0 := Lib.hid hx0
  have Hx1 := Lib.hid hx1
  have Hx2 := Lib.hid hx2
  have Hx3 := Lib.hid hx3
  clear hx0 hx1 hx2 hx3 hcs
  go_enter Try.func74, Try.ntmps74
  go_wp2_with fail
  refine wp_region_lex (fun _ => True) (by kernel_rfl) (by kernel_rfl) trivial ?_
  repeat (refine lex_q rfl ⟨default, trivial⟩ ?_; go_big_quiet_step (fail); refine wpQuiet_nil ?_)
  refine lex_e rfl ?_
  go_wp2_with fail
  refine lex_go trivial ?_
  repeat (refine lex_q rfl ⟨default, trivial⟩ ?_; go_big_quiet_step (fail); refine wpQuiet_nil ?_)
  refine lex_e rfl ?_
  go_wp2_with fail
  refine lex_go trivial ?_
  repeat (refine lex_q rfl ⟨default, trivial⟩ ?_; go_big_quiet_step (fail); refine wpQuiet_nil ?_)
  refine lex_e rfl ?_
  go_wp2_with fail
  refine lex_go trivial ?_
  repeat (refine lex_q rfl ⟨default, trivial⟩ ?_; go_big_quiet_step (fail); refine wpQuiet_nil ?_)
  refine lex_e rfl ?_
  go_wp2_with fail
  refine lex_go trivial ?_
  repeat (refine lex_q rfl ⟨default, trivial⟩ ?_; go_big_quiet_step (fail); refine wpQuiet_nil ?_)
  refine lex_nil ?_
  go_wp2_with fail
  go_ret
  refine ⟨ret_int ?_, (Below.refl _ _).drew⟩
  rw [or4_u32 _ _ _ _ h0 h1 h2 h3, take4 Hx0.out Hx1.out Hx2.out Hx3.out, num4]

set_option maxHeartbeats 1000000 in
theorem next_det (v : Value) (b : List UInt8) (S : Nat → Prop) (w : World) (at_ : Int) (hv : Bytes S w v b) (hb : b.length ≤ 140737488355328) :
    Calls Try.prog 34 #[v, .int .i64 at_] w fun e w' => ∃ v', e = .returned (.tuple #[v', .int .i64 ((nextL b at_).2.1 : Nat), .int .i64 ((nextL b at_).2.2 : Nat)]) ∧ Bytes S w' v' (nextL b at_).1 ∧ Below w.heap.size w w' ∧ ((nextL b at_).2.2 = 0 → v' = bodyV v at_.toNat (num ((b.drop at_.toNat).take 4))) := by
  have hB := hv
  obtain ⟨A, c, rfl, hc1, hc2, hcs⟩ := hv
  unfold maxLen at hc2
  by_cases h1 : at_ < 0
  · have d1 : decide (at_ < 0) = true := by simpa using h1
    have hfin := Lib.hid (nextL_range (b := b) (at_ := at_) (.inl h1))
    go_enter Try.func34, Try.ntmps34
    go_wp2
    go_ret3
    rw [hfin.out]
    exact ⟨_, rfl, Bytes.nil_ _ _, Below.refl _ _, fun h => absurd h (by decide)⟩
  · have d1 : decide (at_ < 0) = false := by simpa using h1
    obtain ⟨k, rfl⟩ := Int.eq_ofNat_of_zero_le (by omega : 0 ≤ at_)
    clear d1
    by_cases h2 : b.length < k
    · have d2 : decide (b.length < k) = true := by simpa using h2
      have hfin := Lib.hid (nextL_range (b := b) (at_ := k) (.inr (by omega)))
      go_enter Try.func34, Try.ntmps34
      go_wp2
      go_ret3
      rw [hfin.out]
      exact ⟨_, rfl, Bytes.nil_ _ _, Below.refl _ _, fun h => absurd h (by decide)⟩
    · have d2 : decide (b.length < k) = false := by simpa using h2
      by_cases h3 : k = b.length
      · have hfin := Lib.hid (nextL_end h3)
        have d3 : ((k : Int) == (b.length : Int)) = true := beq_iff_eq.2 (by omega)
        clear h3
        go_enter Try.func34, Try.ntmps34
        go_wp2
        go_ret3
        rw [hfin.out]
        exact ⟨_, rfl, Bytes.nil_ _ _, Below.refl _ _, fun h => absurd h (by decide)⟩
      · have d3 : ((k : Int) == (b.length : Int)) = false := by simp; omega
        by_cases h4 : b.length - k < 8
        · have hfin := Lib.hid (nextL_short1 (b := b) (k := k) (by omega) h4)
          have d4 : decide ((b.length : Int) - (k : Int) < 8) = true := by simp; omega
          go_enter Try.func34, Try.ntmps34
          go_wp2
          go_ret3
          rw [hfin.out]
          exact ⟨_, rfl, Bytes.nil_ _ _, Below.refl _ _, fun h => absurd h (by decide)⟩
        · have d4 : decide ((b.length : Int) - (k : Int) < 8) = false := by simp; omega
          have hk8 : k + 8 ≤ b.length := by omega
          go_enter Try.func34, Try.ntmps34
          go_wp2_with fail
          refine wp_region_lex (fun _ => True) (by kernel_rfl) (by kernel_rfl) trivial ?_
          repeat (refine lex_q rfl ⟨default, trivial⟩ ?_; go_big_quiet_step (fail); refine wpQuiet_nil ?_)
          have hH := hB.part (l := k) (h := k + 8) (m := c) (by omega) (by omega) hk8 (Nat.le_refl _)
          rw [if_neg (by omega), Nat.mul_one, show k + 8 - k = 8 by omega] at hH
          rw [show k + 8 - k = 8 by omega]
          generalize (Option.map (fun x => x.add k) A) = A1 at hH ⊢
          have hR := hB.drop_ (k := k + 8) hk8 (q := c = k + 8) (by omega)
          generalize hA2 : (if c = k + 8 then A else Option.map (fun x => x.add (k + 8)) A) = A2 at hR ⊢
          have HA2 := Lib.hid hA2
          clear hA2
          clear d2 d3 d4 hcs
          refine lex_nil ?_
          go_wp2_with fail
          refine (word_any _ _ _ _ hH.drew (by simp; omega)).mono ?_
          rintro e w1 ⟨rfl, hb1⟩
          rw [List.take_take, show min 4 8 = 4 from rfl]
          obtain ⟨n, hn⟩ : ∃ n, num ((b.drop k).take 4) = n := ⟨_, rfl⟩
          have hn32 : n < 4294967296 := by
            rw [← hn]
            have := num_lt ((b.drop k).take 4)
            have e : ((b.drop k).take 4).length = 4 := by simp; omega
            rw [e] at this
            omega
          rw [hn]
          by_cases h5 : 4096 < n
          · have hfin := Lib.hid (nextL_long hk8 (by rw [hn]; exact h5))
            clear hn
            go_wp2
            go_ret3
            rw [hfin.out]
            exact ⟨_, rfl, Bytes.nil_ _ _, (Below.refl _ _).drew.trans hb1, fun h => absurd h (by decide)⟩
          · by_cases h6 : b.length - k - 8 < n
            · have hfin := Lib.hid (nextL_short2 hk8 (by rw [hn]; omega) (by rw [hn]; exact h6))
              have d6 : decide (b.length - (k + 8) < n) = true := by simp; omega
              clear hn
              go_wp2
              go_ret3
              rw [hfin.out]
              exact ⟨_, rfl, Bytes.nil_ _ _, (Below.refl _ _).drew.trans hb1, fun h => absurd h (by decide)⟩
            · have d6 : decide (b.length - (k + 8) < n) = false := by simp; omega
              have Hn := Lib.hid hn
              clear hn
              have hH1 := (hH.drew.ext hb1).drew
              have hR1 := (hR.drew.ext hb1).drew
              have h52 := hH1.drop_ (k := 4) (by omega) (q := False) (fun x => x.elim)
              rw [if_neg (fun x => x)] at h52
              have h55 := hH1.take_ (k := 4) (by omega)
              rw [List.take_take, show min 4 8 = 4 from rfl] at h55
              have h59 := hR1.take_ (k := n) (by omega)
              go_wp2_with fail
              refine wp_region_lex (fun _ => True) (by kernel_rfl) (by kernel_rfl) trivial ?_
              repeat (refine lex_q rfl ⟨default, trivial⟩ ?_; go_big_quiet_step (fail); refine wpQuiet_nil ?_)
              refine lex_e rfl ?_
              go_wp2_with fail
              refine (word_any _ _ _ _ h52 (by simp; omega)).mono ?_
              rintro e w2 ⟨rfl, hb2⟩
              rw [head_second]
              go_wp2_with fail
              refine lex_go trivial ?_
              repeat (first | (refine lex_q rfl ⟨default, trivial⟩ ?_; go_big_quiet_step (fail); refine wpQuiet_nil ?_) | (refine lex_skip rfl rfl trivial ?_; simp only [Act.put, List.setIfInBounds_toArray, List.set_cons_succ, List.set_cons_zero]) | (refine lex_e rfl ?_; go_wp2_with fail; refine lex_go trivial ?_))
              refine lex_e rfl ?_
              go_wp2_with fail
              refine (of_any _ _ _ _ (h55.ext hb2)).mono ?_
              rintro e w3 ⟨rfl, hb3⟩
              go_wp2_with fail
              refine lex_go trivial ?_
              repeat (first | (refine lex_q rfl ⟨default, trivial⟩ ?_; go_big_quiet_step (fail); refine wpQuiet_nil ?_) | (refine lex_skip rfl rfl trivial ?_; simp only [Act.put, List.setIfInBounds_toArray, List.set_cons_succ, List.set_cons_zero]) | (refine lex_e rfl ?_; go_wp2_with fail; refine lex_go trivial ?_))
              refine lex_e rfl ?_
              go_wp2_with fail
              refine (update_any _ _ _ _ _ (upd_lt (by omega) _) ((h59.ext hb2).ext hb3)).mono ?_
              rintro e w4 ⟨rfl, hb4⟩
              rw [sum_of_head b k n (by omega) Hn.out]
              go_wp2_with fail
              refine lex_go trivial ?_
              repeat (first | (refine lex_q rfl ⟨default, trivial⟩ ?_; go_big_quiet_step (fail); refine wpQuiet_nil ?_) | (refine lex_skip rfl rfl trivial ?_; simp only [Act.put, List.setIfInBounds_toArray, List.set_cons_succ, List.set_cons_zero]) | (refine lex_e rfl ?_; go_wp2_with fail; refine lex_go trivial ?_))
              have hbw : Below w.heap.size w w4 := Below.ext (Below.ext (Below.ext (Below.ext (Below.refl _ _).drew hb1).drew hb2) hb3) hb4
              have h59' := ((h59.ext hb2).ext hb3).ext hb4
              by_cases h7 : num ((b.drop (k + 4)).take 4) = sumL ((b.drop (k + 8)).take n)
              · have hfin := Lib.hid (nextL_ok hk8 (by rw [Hn.out]; omega) (by rw [Hn.out]; omega) (by rw [Hn.out]; exact h7))
                rw [h7]
                clear h7 h52 h55 h59
                refine lex_nil ?_
                go_wp2_with fail
                go_ret3
                rw [hfin.out, Hn.out]
                refine ⟨_, ?_, h59'.clip (c' := n) (Nat.le_refl _) (by unfold maxLen; omega), hbw, fun _ => ?_⟩
                rotate_left
                · rw [Int.toNat_natCast, Hn.out, bodyV_slice, HA2.out]
                show Ending.returned (Value.tuple #[.slice A2 n n, .int .i64 ((k : Int) + 8 + (n : Int)), .int .i64 0]) = _
                rw [show (k : Int) + 8 + (n : Int) = ((k + 8 + n : Nat) : Int) by omega]
                rfl
              · have hfin := Lib.hid (nextL_sum hk8 (by rw [Hn.out]; omega) (by rw [Hn.out]; omega) (by rw [Hn.out]; exact h7))
                have d7 : ((num ((b.drop (k + 4)).take 4) : Int) != (sumL ((b.drop (k + 8)).take n) : Int)) = true := by rw [bne_iff_ne]; omega
                clear h7 h52 h55 h59
                refine lex_nil ?_
                go_wp2_with fail
                go_ret3
                rw [hfin.out]
                exact ⟨_, rfl, Bytes.nil_ _ _, hbw, fun h => absurd h (by decide)⟩
theorem next_any (v : Value) (b : List UInt8) (S : Nat → Prop) (w : World) (at_ : Int) (hv : Bytes S w v b) (hb : b.length ≤ 140737488355328) :
    Calls Try.prog 34 #[v, .int .i64 at_] w fun e w' => ∃ v', e = .returned (.tuple #[v', .int .i64 ((nextL b at_).2.1 : Nat), .int .i64 ((nextL b at_).2.2 : Nat)]) ∧ Bytes S w' v' (nextL b at_).1 ∧ Below w.heap.size w w' :=
  (next_det v b S w at_ hv hb).mono fun _ _ ⟨v', h1, h2, h3, _⟩ => ⟨v', h1, h2, h3⟩
end Go.Proofs.Ytjcfnpmgklliiaa

namespace Go.Proofs.Ytjcfnpmgklliiaa
open Go.RowKit
attribute [local irreducible] upd inv le4 putN byteOf z8 sumL headL sealL brow num nextL
set_option maxRecDepth 100000
set_option linter.unusedVariables false


set_option maxHeartbeats 1000000 in
theorem refnext_any (v : Value) (b : List UInt8) (S : Nat → Prop) (w : World) (at_ : Int) (hv : Bytes S w v b) (hb : b.length ≤ 140737488355328) :
    Calls Try.prog 112 #[v, .int .i64 at_] w fun e w' => ∃ v', e = .returned (.tuple #[v', .int .i64 ((nextL b at_).2.1 : Nat), .int .i64 ((nextL b at_).2.2 : Nat)]) ∧ OwnB w' w.heap.size 5 v' (nextL b at_).1 ∧ Below w.heap.size w w' := by
  have hB := hv
  obtain ⟨A, c, rfl, hc1, hc2, hcs⟩ := hv
  unfold maxLen at hc2
  by_cases h1 : at_ < 0
  · have d1 : decide (at_ < 0) = true := by simpa using h1
    have hfin := Lib.hid (nextL_range (b := b) (at_ := at_) (.inl h1))
    go_enter Try.func112, Try.ntmps112
    go_wp2
    go_ret3
    rw [hfin.out]
    exact ⟨_, rfl, OwnB.nil_ _ _ _, Below.refl _ _⟩
  · have d1 : decide (at_ < 0) = false := by simpa using h1
    obtain ⟨k, rfl⟩ := Int.eq_ofNat_of_zero_le (by omega : 0 ≤ at_)
    clear d1
    by_cases h2 : b.length < k
    · have d2 : decide (b.length < k) = true := by simpa using h2
      have hfin := Lib.hid (nextL_range (b := b) (at_ := k) (.inr (by omega)))
      go_enter Try.func112, Try.ntmps112
      go_wp2
      go_ret3
      rw [hfin.out]
      exact ⟨_, rfl, OwnB.nil_ _ _ _, Below.refl _ _⟩
    · have d2 : decide (b.length < k) = false := by simpa using h2
      by_cases h3 : k = b.length
      · have hfin := Lib.hid (nextL_end h3)
        have d3 : ((k : Int) == (b.length : Int)) = true := beq_iff_eq.2 (by omega)
        clear h3
        go_enter Try.func112, Try.ntmps112
        go_wp2
        go_ret3
        rw [hfin.out]
        exact ⟨_, rfl, OwnB.nil_ _ _ _, Below.refl _ _⟩
      · have d3 : ((k : Int) == (b.length : Int)) = false := by simp; omega
        by_cases h4 : b.length - k < 8
        · have hfin := Lib.hid (nextL_short1 (b := b) (k := k) (by omega) h4)
          have d4 : decide ((b.length : Int) - (k : Int) < 8) = true := by simp; omega
          go_enter Try.func112, Try.ntmps112
          go_wp2
          go_ret3
          rw [hfin.out]
          exact ⟨_, rfl, OwnB.nil_ _ _ _, Below.refl _ _⟩
        · have d4 : decide ((b.length : Int) - (k : Int) < 8) = false := by simp; omega
          have hk8 : k + 8 ≤ b.length := by omega
          obtain ⟨b0, o0, x0, rfl, _, _, hx0, hc0⟩ := hcs.byte (k := k) (by omega)
          obtain ⟨_, _, x1, e1, _, _, hx1, hc1'⟩ := hcs.byte (k := k + 1) (by omega)
          cases e1
          obtain ⟨_, _, x2, e2, _, _, hx2, hc2'⟩ := hcs.byte (k := k + 2) (by omega)
          cases e2
          obtain ⟨_, _, x3, e3, _, _, hx3, hc3'⟩ := hcs.byte (k := k + 3) (by omega)
          cases e3
          have g0 := u8_lt x0
          have g1 := u8_lt x1
          have g2 := u8_lt x2
          have g3 := u8_lt x3
          have hor := or4_i64 _ _ _ _ g0 g1 g2 g3
          obtain ⟨n, hn'⟩ : ∃ n, x0.toNat + 256 * x1.toNat + 65536 * x2.toNat + 16777216 * x3.toNat = n := ⟨_, rfl⟩
          rw [hn'] at hor
          have hn : num ((b.drop k).take 4) = n := by
            rw [take4 (a := x0) (b := x1) (c := x2) (d := x3) (by simpa using hx0) (by simpa using hx1) (by simpa using hx2) (by simpa using hx3), num4, hn']
          have hn32 : n < 4294967296 := by omega
          have Hn := Lib.hid hn
          clear hn hn' hx0 hx1 hx2 hx3
          go_enter Try.func112, Try.ntmps112
          go_wp2_with fail
          refine wp_region_lex (fun _ => True) (by kernel_rfl) (by kernel_rfl) trivial ?_
          repeat (refine lex_q rfl ⟨default, trivial⟩ ?_; go_big_quiet_step (fail); refine wpQuiet_nil ?_)
          refine lex_e rfl ?_
          go_wp2_with fail
          refine lex_go trivial ?_
          repeat (refine lex_q rfl ⟨default, trivial⟩ ?_; go_big_quiet_step (fail); refine wpQuiet_nil ?_)
          refine lex_e rfl ?_
          go_wp2_with fail
          refine lex_go trivial ?_
          repeat (refine lex_q rfl ⟨default, trivial⟩ ?_; go_big_quiet_step (fail); refine wpQuiet_nil ?_)
          refine lex_e rfl ?_
          go_wp2_with fail
          refine lex_go trivial ?_
          repeat (refine lex_q rfl ⟨default, trivial⟩ ?_; go_big_quiet_step (fail); refine wpQuiet_nil ?_)
          refine lex_e rfl ?_
          go_wp2_with fail
          refine lex_go trivial ?_
          repeat (refine lex_q rfl ⟨default, trivial⟩ ?_; go_big_quiet_step (fail); refine wpQuiet_nil ?_)
          refine lex_nil ?_
          by_cases h5 : 4096 < n
          · have hfin := Lib.hid (nextL_long hk8 (by rw [Hn.out]; exact h5))
            go_wp2
            go_ret3
            rw [hfin.out]
            exact ⟨_, rfl, OwnB.nil_ _ _ _, (Below.refl _ _).drew⟩
          · by_cases h6 : b.length - k - 8 < n
            · have hfin := Lib.hid (nextL_short2 hk8 (by rw [Hn.out]; omega) (by rw [Hn.out]; exact h6))
              have d6 : decide ((b.length : Int) - (k : Int) - 8 < (n : Int)) = true := by simp; omega
              go_wp2
              go_ret3
              rw [hfin.out]
              exact ⟨_, rfl, OwnB.nil_ _ _ _, (Below.refl _ _).drew⟩
            · have d6 : decide ((b.length : Int) - (k : Int) - 8 < (n : Int)) = false := by simp; omega
              go_wp2_with (refine wpList_slB (o := ⟨some 76, _, _, _, _, _⟩) (k + 8) (k + 8 + n) c n (c - (k + 8)) ((b.drop (k + 8)).take n) rfl rfl rfl Try.underlying22 (by kernel_rfl) (.inr ⟨_, _, _, rfl, rfl, by omega⟩) (.inr ⟨_, _, _, rfl, rfl, by omega⟩) (.inl ⟨rfl, rfl⟩) hB.drew (by omega) (by omega) (by omega) (Nat.le_refl _) (by omega) rfl (by rw [Nat.add_sub_cancel_left]) ?_; intro A2 hA2 hA2c)
              have hlb : ((b.drop (k + 8)).take n).length = n := by simp; omega
              refine (refhead_any _ _ _ _ hA2 (by rw [hlb]; omega)).mono ?_
              rintro e w1 ⟨vh, rfl, hown1, hb1⟩
              obtain ⟨Ah, ch, rfl, _, _, hcsh⟩ := hown1.bytes
              have hhl : (headL ((b.drop (k + 8)).take n)).length = 8 := headL_length _
              have hiff := head_iff b k n (by omega) Hn.out
              generalize hbody : (b.drop (k + 8)).take n = body at *
              have Hbody := Lib.hid hbody
              have Hiff := Lib.hid hiff
              have Hlb := Lib.hid hlb
              clear hbody hiff hlb hor
              rw [hhl]
              have Hhl := Lib.hid hhl
              clear hhl
              have hb01 : Below w.heap.size w w1 := (Below.refl _ _).drew.trans hb1
              go_wp2
              go_loopw [10] (fun i wr => ∃ j : Nat, j ≤ 8 ∧ i = .int .i64 j ∧ (headL body).take j = ((b.drop k).take 8).take j ∧ Below w1.heap.size w1 wr) (fun i _ => 8 - (intOf i).toNat)
              case atStart => exact ⟨0, by omega, rfl, rfl, Below.refl _ _⟩
              case round =>
                obtain ⟨j, hj, rfl, htk, hbw⟩ := hrel
                have Htk := Lib.hid htk
                clear htk
                by_cases hlt : j < 8
                · obtain ⟨bh, oh, x, rfl, _, _, hx, hcx⟩ := (hcsh.keep (Keep.of_below hbw)).byte (k := j) (by rw [Hhl.out]; exact hlt)
                  obtain ⟨_, _, y, e4, _, _, hy, hcy⟩ := ((hcs.keep (Keep.of_below hb01)).keep (Keep.of_below hbw)).byte (k := k + j) (by omega)
                  cases e4
                  have Hx := Lib.hid hx
                  have Hy : Hid (((b.drop k).take 8)[j]? = some y) := by rw [List.getElem?_take_of_lt hlt, List.getElem?_drop]; exact hy
                  clear hx hy hc0 hc1' hc2' hc3'
                  by_cases hxy : x = y
                  · subst hxy
                    have hne2 : (((x.toNat : Nat) : Int) != ((x.toNat : Nat) : Int)) = false := by simp
                    go_wp2_with fail
                    refine wp_region_lex (fun _ => True) (by kernel_rfl) (by kernel_rfl) trivial ?_
                    repeat (refine lex_q rfl ⟨default, trivial⟩ ?_; go_big_quiet_step (fail); refine wpQuiet_nil ?_)
                    refine lex_e rfl ?_
                    go_wp2_with fail
                    refine lex_go trivial ?_
                    repeat (refine lex_q rfl ⟨default, trivial⟩ ?_; go_big_quiet_step (fail); refine wpQuiet_nil ?_)
                    refine lex_e rfl ?_
                    go_wp2_with fail
                    refine lex_go trivial ?_
                    repeat (refine lex_q rfl ⟨default, trivial⟩ ?_; go_big_quiet_step (fail); refine wpQuiet_nil ?_)
                    refine lex_nil ?_
                    go_wp2_with fail
                    go_roundw
                    case rel => exact ⟨j + 1, by omega, by go_num, take_eq_succ Htk.out Hx.out Hy.out, hbw.drew⟩
                    case measure => simp [intOf]; omega
                  · have hne2 : (((x.toNat : Nat) : Int) != ((y.toNat : Nat) : Int)) = true := by
                      rw [bne_iff_ne]; intro h; exact hxy (UInt8.toNat_inj.1 (by omega))
                    have hfin := Lib.hid (nextL_sum hk8 (by rw [Hn.out]; omega) (by rw [Hn.out]; omega) (by
                      rw [Hn.out, Hbody.out]
                      intro h
                      have e := Hiff.out.2 h
                      have h1 := Hx.out
                      rw [e] at h1
                      have := h1.symm.trans Hy.out
                      simp at this
                      exact hxy this))
                    go_wp2_with fail
                    refine wp_region_lex (fun _ => True) (by kernel_rfl) (by kernel_rfl) trivial ?_
                    repeat (refine lex_q rfl ⟨default, trivial⟩ ?_; go_big_quiet_step (fail); refine wpQuiet_nil ?_)
                    refine lex_e rfl ?_
                    go_wp2_with fail
                    refine lex_go trivial ?_
                    repeat (refine lex_q rfl ⟨default, trivial⟩ ?_; go_big_quiet_step (fail); refine wpQuiet_nil ?_)
                    refine lex_e rfl ?_
                    go_wp2_with fail
                    refine lex_go trivial ?_
                    repeat (refine lex_q rfl ⟨default, trivial⟩ ?_; go_big_quiet_step (fail); refine wpQuiet_nil ?_)
                    refine lex_nil ?_
                    go_wp2_with fail
                    go_ret3
                    rw [hfin.out]
                    exact ⟨_, rfl, OwnB.nil_ _ _ _, (Below.ext hb01 hbw).drew⟩
                · obtain rfl : j = 8 := by omega
                  have heq : headL body = (b.drop k).take 8 := by
                    have h1 := Htk.out
                    rw [List.take_of_length_le (by rw [Hhl.out]; omega), List.take_take] at h1
                    exact h1
                  have hfin := Lib.hid (nextL_ok hk8 (by rw [Hn.out]; omega) (by rw [Hn.out]; omega) (by rw [Hn.out, Hbody.out]; exact Hiff.out.1 heq))
                  clear heq
                  have hAr := ((hA2.ext hb1).ext hbw)
                  have hs0 := (Below.ext hb01 hbw).size
                  go_wp2_with (refine wpList_appB (o := ⟨some 95, _, _, _, _, _⟩) _ _ 22 5 w.heap.size [] body A2 n (c - (k + 8)) (.slice none 0 0) n rfl rfl Try.underlying22 (by kernel_rfl) rfl rfl (OwnB.nil_ _ _ _) hAr (by simp) (by simp; omega) hs0 ?_; intro A5 c5 w5 hown5 hgr5 hat5 hc51 hc52)
                  go_ret3
                  rw [hfin.out, Hn.out, Hbody.out]
                  refine ⟨_, ?_, hown5, OwnB.grow (OwnB.nil_ wr w.heap.size 5) hgr5 (Below.ext hb01 hbw) (Nat.le_refl _) hs0⟩
                  show Ending.returned (Value.tuple #[.slice A5 n c5, .int .i64 ((k : Int) + 8 + (n : Int)), .int .i64 0]) = _
                  rw [show (k : Int) + 8 + (n : Int) = ((k + 8 + n : Nat) : Int) by omega]
                  rfl
end Go.Proofs.Ytjcfnpmgklliiaa

namespace Go.Proofs.Ytjcfnpmgklliiaa

/-- the frames from an offset on: where each begins and how long its body is; and the offset behind the last one -/
inductive Scans (b : List UInt8) : Nat → List (Nat × Nat) → Nat → Prop
  | stop {k : Nat} : (nextL b k).2.2 ≠ 0 → Scans b k [] k
  | go {k n : Nat} {ps : List (Nat × Nat)} {e : Nat} : nextL b k = ((b.drop (k + 8)).take n, k + 8 + n, 0) → n = num ((b.drop k).take 4) → k + 8 + n ≤ b.length → Scans b (k + 8 + n) ps e → Scans b k ((k, n) :: ps) e

theorem nextL_cases (b : List UInt8) (k : Nat) : (nextL b k).2.2 ≠ 0 ∨ ∃ n, n = num ((b.drop k).take 4) ∧ k + 8 + n ≤ b.length ∧ nextL b k = ((b.drop (k + 8)).take n, k + 8 + n, 0) := by
  by_cases h1 : b.length < k
  · left; rw [nextL_range (.inr (by omega))]; decide
  by_cases h2 : k = b.length
  · left; rw [nextL_end h2]; decide
  by_cases h3 : b.length - k < 8
  · left; rw [nextL_short1 (by omega) h3]; decide
  by_cases h4 : 4096 < num ((b.drop k).take 4)
  · left; rw [nextL_long (by omega) h4]; decide
  by_cases h5 : b.length - k - 8 < num ((b.drop k).take 4)
  · left; rw [nextL_short2 (by omega) (by omega) h5]; decide
  by_cases h6 : num ((b.drop (k + 4)).take 4) = sumL ((b.drop (k + 8)).take (num ((b.drop k).take 4)))
  · right; exact ⟨_, rfl, by omega, nextL_ok (by omega) (by omega) (by omega) h6⟩
  · left; rw [nextL_sum (by omega) (by omega) (by omega) h6]; decide
theorem scans_ex (b : List UInt8) : ∀ (m k : Nat), b.length - k ≤ m → ∃ ps e, Scans b k ps e
  | m, k, h => by
    rcases nextL_cases b k with h1 | ⟨n, hn, hl, he⟩
    · exact ⟨[], k, .stop h1⟩
    · match m with
      | 0 => omega
      | m + 1 =>
        obtain ⟨ps, e, hs⟩ := scans_ex b m (k + 8 + n) (by omega)
        exact ⟨_, e, .go he hn hl hs⟩
theorem Scans.len {b : List UInt8} {k : Nat} {ps : List (Nat × Nat)} {e : Nat} (h : Scans b k ps e) (hk : k ≤ b.length) : k + 8 * ps.length ≤ e ∧ e ≤ b.length := by
  induction h with
  | stop _ => exact ⟨by simp, hk⟩
  | go _ _ hl _ ih => have := ih hl; simp; omega
theorem Scans.unique {b : List UInt8} {k : Nat} {ps qs : List (Nat × Nat)} {e f : Nat} (h : Scans b k ps e) (h' : Scans b k qs f) : ps = qs ∧ e = f := by
  induction h generalizing qs f with
  | stop h1 =>
    cases h' with
    | stop _ => exact ⟨rfl, rfl⟩
    | go he _ _ _ => rw [he] at h1; exact absurd rfl h1
  | go he hn _ _ ih =>
    cases h' with
    | stop h1 => rw [he] at h1; exact absurd rfl h1
    | go he' hn' _ hs' =>
      subst hn
      subst hn'
      obtain ⟨h1, h2⟩ := ih hs'
      exact ⟨by rw [h1], h2⟩
/-- the offset behind the last one -/
def endOf (ps : List (Nat × Nat)) : Nat := match ps.getLast? with | none => 0 | some p => p.1 + 8 + p.2
theorem endOf_nil : endOf [] = 0 := rfl
theorem endOf_snoc (ps : List (Nat × Nat)) (p : Nat × Nat) : endOf (ps ++ [p]) = p.1 + 8 + p.2 := by simp [endOf]
theorem Scans.end_ {b : List UInt8} {k : Nat} {ps : List (Nat × Nat)} {e : Nat} (h : Scans b k ps e) : ps = [] ∧ e = k ∨ e = endOf ps := by
  induction h with
  | stop _ => exact .inl ⟨rfl, rfl⟩
  | @go k n ps e _ _ _ _ ih =>
    right
    rcases ih with ⟨rfl, rfl⟩ | ih
    · rfl
    · by_cases hp : ps = []
      · subst hp
        rename_i hs
        cases hs
        rfl
      · rw [ih, endOf, endOf, List.getLast?_cons_of_ne_nil hp]
theorem Scans.end0 {b : List UInt8} {ps : List (Nat × Nat)} {e : Nat} (h : Scans b 0 ps e) : e = endOf ps := by
  rcases h.end_ with ⟨rfl, rfl⟩ | h
  · rfl
  · exact h
/-- the bodies -/
def bodyL (b : List UInt8) (p : Nat × Nat) : List UInt8 := (b.drop (p.1 + 8)).take p.2
theorem Scans.body_len {b : List UInt8} {k : Nat} {ps : List (Nat × Nat)} {e : Nat} (h : Scans b k ps e) : ∀ p ∈ ps, p.1 + 8 + p.2 ≤ b.length := by
  induction h with
  | stop _ => intro p hp; cases hp
  | go _ _ hl _ ih =>
    intro p hp
    rcases List.mem_cons.1 hp with rfl | hp
    · exact hl
    · exact ih p hp
theorem Scans.inv {b : List UInt8} {k : Nat} {ps : List (Nat × Nat)} {e : Nat} (h : Scans b k ps e) : (ps = [] ∧ e = k ∧ (nextL b k).2.2 ≠ 0) ∨
    ∃ n ps', ps = (k, n) :: ps' ∧ nextL b k = ((b.drop (k + 8)).take n, k + 8 + n, 0) ∧ n = num ((b.drop k).take 4) ∧ k + 8 + n ≤ b.length ∧ Scans b (k + 8 + n) ps' e := by
  cases h with
  | stop h => exact .inl ⟨rfl, rfl, h⟩
  | go h1 h2 h3 h4 => exact .inr ⟨_, _, rfl, h1, h2, h3, h4⟩
end Go.Proofs.Ytjcfnpmgklliiaa
