/-
  Plain laws of frames: bursts are found; frames come back; scans.
-/
import Derived.Test.YtmakcggmaphanaaFrameFn
namespace Go.Proofs.Ytmakcggmaphanaa
set_option linter.unusedVariables false

theorem num_append : ∀ a b : List UInt8, num (a ++ b) = num a + 256 ^ a.length * num b
  | [], b => by simp [num]
  | c :: a, b => by
    rw [List.cons_append, num, num, num_append a b, List.length_cons, Nat.pow_succ, Nat.mul_add, Nat.mul_assoc (256 ^ a.length) 256, Nat.mul_left_comm]
    omega
theorem num_inj : ∀ a b : List UInt8, a.length = b.length → num a = num b → a = b
  | [], [], _, _ => rfl
  | c :: a, d :: b, h, e => by
    have hc := u8_lt c
    have hd := u8_lt d
    simp only [num] at e
    have h1 : c.toNat = d.toNat := by omega
    have h2 : num a = num b := by omega
    rw [UInt8.toNat_inj.1 h1, num_inj a b (by simpa using h) h2]
theorem num_split {a b : List UInt8} (i : Nat) (h : a.length = i) (x : Nat) : (num a + 256 ^ i * num b) ^^^ (256 ^ i * x) = num a + 256 ^ i * (num b ^^^ x) := by
  have hlt := num_lt a
  rw [h] at hlt
  have e256 : (256 : Nat) ^ i = 2 ^ (8 * i) := by rw [Nat.pow_mul]
  rw [e256] at hlt ⊢
  clear e256
  generalize 8 * i = j at hlt ⊢
  generalize num a = p at hlt ⊢
  generalize num b = q
  have hd : ((p + 2 ^ j * q) ^^^ (2 ^ j * x)) / 2 ^ j = q ^^^ x := by
    rw [Nat.xor_div_two_pow, Nat.add_mul_div_left _ _ (Nat.two_pow_pos j), Nat.div_eq_of_lt hlt, Nat.zero_add, Nat.mul_div_cancel_left _ (Nat.two_pow_pos j)]
  have hm : ((p + 2 ^ j * q) ^^^ (2 ^ j * x)) % 2 ^ j = p := by
    rw [Nat.xor_mod_two_pow, Nat.add_mul_mod_self_left, Nat.mod_eq_of_lt hlt, Nat.mul_mod_right, Nat.xor_zero]
  rw [← Nat.div_add_mod ((p + 2 ^ j * q) ^^^ (2 ^ j * x)) (2 ^ j), hd, hm, Nat.add_comm]

/-- what is read of a head and what stands behind it -/
theorem drop_head (h t : List UInt8) (hh : h.length = 8) : (h ++ t).drop 8 = t := by rw [← hh, List.drop_left]
theorem head_of {n s : Nat} (t : List UInt8) : ((le4 n ++ le4 s ++ t).drop 0).take 4 = le4 n ∧ ((le4 n ++ le4 s ++ t).drop 4).take 4 = le4 s := by
  simp [le4]
theorem finds_law (body b : List UInt8) (k mask : Nat) (h4 : 4 ≤ body.length) (h1000 : body.length ≤ 4096) (hl : b.length = 8 + body.length) (hk : k + 32 ≤ 8 * body.length) (h0 : mask ≠ 0) (h32 : mask < 4294967296)
    (hn : num b = num (sealL body) ^^^ (2 ^ (64 + k) * mask)) : nextL b 0 = ([], 0, 10) := by
  have e1 : 2 ^ (64 + k) * mask = 256 ^ 8 * (2 ^ k * mask) := by rw [Nat.pow_add, Nat.mul_assoc]
  have hb : b = b.take 8 ++ b.drop 8 := (List.take_append_drop 8 b).symm
  have l8 : (b.take 8).length = 8 := by simp; omega
  have hs : num (sealL body) = num (headL body) + 256 ^ 8 * num body := by
    unfold sealL
    rw [num_append]
    rfl
  rw [e1, hs, num_split 8 (headL_length body)] at hn
  rw [hb, num_append, l8] at hn
  have hlt1 := num_lt (b.take 8)
  have hlt2 := num_lt (headL body)
  rw [l8] at hlt1
  rw [headL_length] at hlt2
  generalize hx : num body ^^^ 2 ^ k * mask = x at hn
  have hh : num (b.take 8) = num (headL body) := by
    have h1 := congrArg (· % 256 ^ 8) hn
    simp only [Nat.add_mul_mod_self_left] at h1
    rwa [Nat.mod_eq_of_lt hlt1, Nat.mod_eq_of_lt hlt2] at h1
  have ht : num (b.drop 8) = x := by
    rw [hh] at hn
    have := Nat.add_left_cancel hn
    exact Nat.eq_of_mul_eq_mul_left (by decide) this
  have hhe : b.take 8 = headL body := num_inj _ _ (by rw [l8, headL_length]) hh
  have ld : (b.drop 8).length = body.length := by simp; omega
  have hburst := upd_burst (upd 0 (le4 body.length)) body (b.drop 8) k mask ld hk h0 h32 (by rw [ht, hx])
  have hbb : b = le4 body.length ++ le4 (sumL body) ++ b.drop 8 := by
    conv => lhs; rw [hb, hhe]
    rfl
  have e4 : (b.drop 0).take 4 = le4 body.length := by rw [hbb]; exact (head_of _).1
  have e5 : (b.drop (0 + 4)).take 4 = le4 (sumL body) := by rw [hbb]; exact (head_of _).2
  have n4 : num ((b.drop 0).take 4) = body.length := by rw [e4, num_le4 _ (by omega)]
  refine nextL_sum (k := 0) (by omega) (by rw [n4]; omega) (by rw [n4]; omega) ?_
  rw [n4, e5, num_le4 _ (sumL_lt _), show (0 + 8) = 8 from rfl, List.take_of_length_le (by omega)]
  unfold sumL
  rw [ld]
  exact hburst
end Go.Proofs.Ytmakcggmaphanaa
