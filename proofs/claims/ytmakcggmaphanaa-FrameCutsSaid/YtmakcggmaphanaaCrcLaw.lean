/-
  The plain laws of the checksum: the program's and the document's updates are one; a checksum is linear; it can be continued; a burst of at most 32 bits changes it.
-/
import Derived.Test.YtmakcggmaphanaaCrcFn
namespace Go.Proofs.Ytmakcggmaphanaa

theorem stp_xor (a b : Nat) : stp (a ^^^ b) = stp a ^^^ stp b := by
  unfold stp
  rw [Nat.xor_div_two]
  by_cases ha : a % 2 = 1 <;> by_cases hb : b % 2 = 1
  · rw [if_neg (by rw [Nat.xor_mod_two_eq_one]; simp [ha, hb]), if_pos ha, if_pos hb]
    rw [show a / 2 ^^^ 3988292384 ^^^ (b / 2 ^^^ 3988292384) = (a / 2 ^^^ b / 2) ^^^ (3988292384 ^^^ 3988292384) by ac_rfl]
    simp
  · rw [if_pos (by rw [Nat.xor_mod_two_eq_one]; simp [ha, hb]), if_pos ha, if_neg hb]
    ac_rfl
  · rw [if_pos (by rw [Nat.xor_mod_two_eq_one]; simp [ha, hb]), if_neg ha, if_pos hb]
    ac_rfl
  · rw [if_neg (by rw [Nat.xor_mod_two_eq_one]; simp [ha, hb]), if_neg ha, if_neg hb]
theorem stpN_xor (a b : Nat) : ∀ k, stpN k (a ^^^ b) = stpN k a ^^^ stpN k b
  | 0 => rfl
  | k + 1 => by rw [stpN_succ, stpN_xor a b k, stp_xor, stpN_succ, stpN_succ]
theorem stpN_add (j : Nat) (s : Nat) : ∀ k, stpN (j + k) s = stpN k (stpN j s)
  | 0 => rfl
  | k + 1 => by rw [← Nat.add_assoc, stpN_succ, stpN_add j s k, stpN_succ]
theorem stp_double (y : Nat) : stp (2 * y) = y := by
  unfold stp
  rw [if_neg (by omega)]
  omega
theorem stpN_shift (y : Nat) : ∀ k, stpN k (2 ^ k * y) = y
  | 0 => by simp [stpN_zero]
  | k + 1 => by
    rw [show k + 1 = 1 + k by omega, stpN_add 1 _ k]
    have : stpN 1 (2 ^ (1 + k) * y) = 2 ^ k * y := by
      show stp (2 ^ (1 + k) * y) = _
      rw [show 2 ^ (1 + k) * y = 2 * (2 ^ k * y) by rw [Nat.pow_add]; simp [Nat.mul_assoc]]
      exact stp_double _
    rw [this]
    exact stpN_shift y k
theorem stp_zero {s : Nat} (h : s < 4294967296) (h0 : stp s = 0) : s = 0 := by
  unfold stp at h0
  split at h0
  · have h1 : s / 2 ^^^ 3988292384 ^^^ 3988292384 = 0 ^^^ 3988292384 := by rw [h0]
    rw [Nat.xor_assoc, Nat.xor_self] at h1
    simp at h1
    omega
  · omega
theorem stpN_ne {s : Nat} (h : s < 4294967296) (h0 : s ≠ 0) : ∀ k, stpN k s ≠ 0
  | 0 => h0
  | k + 1 => fun e => stpN_ne h h0 k (stp_zero (stpN_lt h k) e)

theorem xor_add (a b : Nat) (h : b < 256) : 256 * a ^^^ b = 256 * a + b := by
  have h1 : (256 * a ^^^ b) / 2 ^ 8 = a := by rw [Nat.xor_div_two_pow]; simp [Nat.div_eq_of_lt h]
  have h2 : (256 * a ^^^ b) % 2 ^ 8 = b := by rw [Nat.xor_mod_two_pow]; simp [Nat.mod_eq_of_lt h]
  omega

/-- the bytes as one number, the first one lowest -/
def num : List UInt8 → Nat
  | [] => 0
  | c :: l => c.toNat + 256 * num l
theorem num_cons (c : UInt8) (l : List UInt8) : num (c :: l) = 256 * num l ^^^ c.toNat := by
  rw [xor_add _ _ (u8_lt c)]; simp [num]; omega

theorem foldl_rby (l : List UInt8) : ∀ s, l.foldl rby s = stpN (8 * l.length) (s ^^^ num l) := by
  induction l with
  | nil => intro s; simp [num, stpN_zero]
  | cons c l ih =>
    intro s
    rw [List.foldl_cons, ih, List.length_cons, show 8 * (l.length + 1) = 8 + 8 * l.length by omega, stpN_add, num_cons, rby_def]
    congr 1
    rw [show s ^^^ (256 * num l ^^^ c.toNat) = (s ^^^ c.toNat) ^^^ (2 ^ 8 * num l) by
      rw [show (256 : Nat) = 2 ^ 8 from rfl]; ac_rfl, stpN_xor (s ^^^ c.toNat), stpN_shift]

theorem pby_rby (s : Nat) (c : UInt8) : pby s c = rby s c := by
  have h : s ^^^ c.toNat = (2 ^ 8 * (s / 256)) ^^^ ((s % 256) ^^^ c.toNat) := by
    rw [← Nat.xor_assoc, show (2 : Nat) ^ 8 = 256 from rfl, xor_add _ _ (by omega)]
    congr 1; omega
  rw [rby_def, h, stpN_xor, stpN_shift]
  rfl
theorem upd_eq (s : Nat) (l : List UInt8) : upd s l = rupd s l := by
  unfold upd rupd
  congr 1
  have : pby = rby := funext fun s => funext fun c => pby_rby s c
  rw [this]

theorem xor_xor (a s : Nat) : a ^^^ (a ^^^ s) = s := by rw [← Nat.xor_assoc, Nat.xor_self, Nat.zero_xor]
theorem inv_def (s : Nat) : inv s = 4294967295 ^^^ s := rfl
theorem inv_inv (s : Nat) : inv (inv s) = s := by
  rw [inv_def, inv_def]
  generalize 4294967295 = a
  exact xor_xor a s
theorem upd_append (s : Nat) (l m : List UInt8) : upd (upd s l) m = upd s (l ++ m) := by
  unfold upd
  rw [inv_inv, List.foldl_append]
theorem upd_nil (s : Nat) : upd s [] = s := by
  unfold upd
  simp [inv_inv]

theorem upd_num (s : Nat) (l : List UInt8) : upd s l = 4294967295 ^^^ stpN (8 * l.length) (inv s ^^^ num l) := by
  rw [upd_eq]
  unfold rupd
  rw [foldl_rby]
  rfl

theorem upd_xor3 (a b c x : List UInt8) (ha : a.length = x.length) (hb : b.length = x.length) (hc : c.length = x.length) (h : num x = num a ^^^ num b ^^^ num c) :
    upd 0 x = upd 0 a ^^^ upd 0 b ^^^ upd 0 c := by
  rw [upd_num, upd_num, upd_num, upd_num, ha, hb, hc, h]
  generalize 8 * x.length = k
  generalize inv 0 = i
  rw [show i ^^^ (num a ^^^ num b ^^^ num c) = (i ^^^ num a) ^^^ ((i ^^^ num b) ^^^ (i ^^^ num c)) by
    rw [show i ^^^ num a ^^^ (i ^^^ num b ^^^ (i ^^^ num c)) = (i ^^^ i) ^^^ (i ^^^ (num a ^^^ num b ^^^ num c)) by ac_rfl]
    simp]
  rw [stpN_xor, stpN_xor (i ^^^ num b)]
  generalize stpN k (i ^^^ num a) = A
  generalize stpN k (i ^^^ num b) = B
  generalize stpN k (i ^^^ num c) = C
  rw [show 4294967295 ^^^ A ^^^ (4294967295 ^^^ B) ^^^ (4294967295 ^^^ C) = (4294967295 ^^^ 4294967295) ^^^ (4294967295 ^^^ (A ^^^ (B ^^^ C))) by ac_rfl]
  simp

/-- two lists of one length whose difference is a burst have different checksums -/
theorem upd_burst (s : Nat) (l m : List UInt8) (k mask : Nat) (hl : m.length = l.length) (hk : k + 32 ≤ 8 * l.length) (h0 : mask ≠ 0) (h32 : mask < 4294967296)
    (hn : num m = num l ^^^ (2 ^ k * mask)) : upd s l ≠ upd s m := by
  intro e
  rw [upd_num, upd_num, hl, hn] at e
  have e2 : stpN (8 * l.length) (inv s ^^^ num l) = stpN (8 * l.length) (inv s ^^^ (num l ^^^ 2 ^ k * mask)) := by
    have := congrArg (fun z => 4294967295 ^^^ z) e
    simp only [← Nat.xor_assoc, Nat.xor_self, Nat.zero_xor] at this
    rw [← Nat.xor_assoc]
    exact this
  rw [← Nat.xor_assoc, stpN_xor _ (2 ^ k * mask)] at e2
  have e3 : stpN (8 * l.length) (2 ^ k * mask) = 0 := by
    have := congrArg (fun z => stpN (8 * l.length) (inv s ^^^ num l) ^^^ z) e2
    simp only [← Nat.xor_assoc, Nat.xor_self, Nat.zero_xor] at this
    exact this.symm
  rw [show 8 * l.length = k + (8 * l.length - k) by omega, stpN_add, stpN_shift] at e3
  exact stpN_ne h32 h0 _ e3

/-- the exclusive or of three lists -/
def zip3 : List UInt8 → List UInt8 → List UInt8 → List UInt8
  | a :: as, b :: bs, c :: cs => (a ^^^ b ^^^ c) :: zip3 as bs cs
  | _, _, _ => []
theorem zip3_length : ∀ (a b c : List UInt8), a.length = b.length → a.length = c.length → (zip3 a b c).length = a.length
  | [], [], [], _, _ => rfl
  | a :: as, b :: bs, c :: cs, h1, h2 => by simp [zip3, zip3_length as bs cs (by simpa using h1) (by simpa using h2)]
theorem mul256_xor (a b : Nat) : 256 * (a ^^^ b) = 256 * a ^^^ 256 * b := by
  have h : ∀ x, 256 * x = x <<< 8 := fun x => by rw [Nat.shiftLeft_eq]; omega
  rw [h, h, h, Nat.shiftLeft_xor_distrib]
theorem num_zip3 : ∀ (a b c : List UInt8), a.length = b.length → a.length = c.length → num (zip3 a b c) = num a ^^^ num b ^^^ num c
  | [], [], [], _, _ => by simp [zip3, num]
  | a :: as, b :: bs, c :: cs, h1, h2 => by
    rw [zip3, num_cons, num_cons, num_cons, num_cons, num_zip3 as bs cs (by simpa using h1) (by simpa using h2), mul256_xor, mul256_xor, UInt8.toNat_xor, UInt8.toNat_xor]
    ac_rfl
theorem zip3_get : ∀ (a b c : List UInt8) (j : Nat) (x y z : UInt8), a[j]? = some x → b[j]? = some y → c[j]? = some z → (zip3 a b c)[j]? = some (x ^^^ y ^^^ z)
  | a :: as, b :: bs, c :: cs, 0, x, y, z, h1, h2, h3 => by simp at h1 h2 h3; subst h1 h2 h3; rfl
  | a :: as, b :: bs, c :: cs, j + 1, x, y, z, h1, h2, h3 => by
    simp at h1 h2 h3
    simpa [zip3] using zip3_get as bs cs j x y z h1 h2 h3
/-- a row of n bytes of which the first k are done -/
def part0 (l : List UInt8) (k : Nat) : List UInt8 := l.take k ++ List.replicate (l.length - k) 0
theorem part0_length (l : List UInt8) (k : Nat) : (part0 l k).length = l.length := by simp [part0]; omega
theorem part0_zero (l : List UInt8) : part0 l 0 = List.replicate l.length 0 := by simp [part0]
theorem part0_full (l : List UInt8) (k : Nat) (h : l.length ≤ k) : part0 l k = l := by simp [part0, List.take_of_length_le h, Nat.sub_eq_zero_of_le h]
theorem part0_set (l : List UInt8) (k : Nat) (c : UInt8) (h : l[k]? = some c) : (part0 l k).set k c = part0 l (k + 1) := by
  obtain ⟨hk, rfl⟩ := List.getElem?_eq_some_iff.1 h
  unfold part0
  rw [List.set_append_right _ _ (by simp; omega), List.take_succ_eq_append_getElem hk, List.append_assoc]
  congr 1
  have e : l.length - k = (l.length - (k + 1)) + 1 := by omega
  rw [e, List.replicate_succ]
  have : k - (l.take k).length = 0 := by simp; omega
  rw [this]
  rfl
theorem mul_pow_xor (n a b : Nat) : 2 ^ n * (a ^^^ b) = 2 ^ n * a ^^^ 2 ^ n * b := by
  have h : ∀ x, 2 ^ n * x = x <<< n := fun x => by rw [Nat.shiftLeft_eq, Nat.mul_comm]
  rw [h, h, h, Nat.shiftLeft_xor_distrib]
/-- a bit of a byte is turned -/
theorem num_set : ∀ (l : List UInt8) (j : Nat) (x y : UInt8), l[j]? = some x → num (l.set j (x ^^^ y)) = num l ^^^ (2 ^ (8 * j) * y.toNat)
  | c :: l, 0, x, y, h => by
    simp at h
    subst h
    rw [List.set_cons_zero, num_cons, num_cons, UInt8.toNat_xor]
    simp
    ac_rfl
  | c :: l, j + 1, x, y, h => by
    simp at h
    rw [List.set_cons_succ, num_cons, num_cons, num_set l j x y h, show (256 : Nat) = 2 ^ 8 from rfl, mul_pow_xor]
    rw [show 2 ^ 8 * (2 ^ (8 * j) * y.toNat) = 2 ^ (8 * (j + 1)) * y.toNat by rw [← Nat.mul_assoc, ← Nat.pow_add]; congr 2; omega]
    ac_rfl
/-- the mask's low bits, one more -/
theorem low_bits (mask i : Nat) : mask % 2 ^ (i + 1) = (mask % 2 ^ i) ^^^ (2 ^ i * (mask / 2 ^ i % 2)) := by
  have e : mask % 2 ^ (i + 1) = 2 ^ i * (mask / 2 ^ i % 2) + mask % 2 ^ i := by
    rw [Nat.pow_succ, Nat.mod_mul]
    omega
  have hlt : mask % 2 ^ i < 2 ^ i := Nat.mod_lt _ (Nat.two_pow_pos i)
  have h1 : ((mask % 2 ^ i) ^^^ (2 ^ i * (mask / 2 ^ i % 2))) / 2 ^ i = mask / 2 ^ i % 2 := by
    rw [Nat.xor_div_two_pow, Nat.div_eq_of_lt hlt, Nat.mul_div_cancel_left _ (Nat.two_pow_pos i), Nat.zero_xor]
  have h2 : ((mask % 2 ^ i) ^^^ (2 ^ i * (mask / 2 ^ i % 2))) % 2 ^ i = mask % 2 ^ i := by
    rw [Nat.xor_mod_two_pow, Nat.mod_mod, Nat.mul_mod_right, Nat.xor_zero]
  rw [e, ← Nat.div_add_mod ((mask % 2 ^ i) ^^^ (2 ^ i * (mask / 2 ^ i % 2))) (2 ^ i), h1, h2]
/-- one round of the burst -/
theorem burst_yes (l m : List UInt8) (k i mask : Nat) (x : UInt8) (hm : num m = num l ^^^ (2 ^ k * (mask % 2 ^ i))) (hb : mask / 2 ^ i % 2 = 1) (hx : m[(k + i) / 8]? = some x) :
    num (m.set ((k + i) / 8) (x ^^^ UInt8.ofNat (2 ^ ((k + i) % 8)))) = num l ^^^ (2 ^ k * (mask % 2 ^ (i + 1))) := by
  have hlt : 2 ^ ((k + i) % 8) < 256 := by
    have : 2 ^ ((k + i) % 8) ≤ 2 ^ 7 := Nat.pow_le_pow_right (by omega) (by omega)
    omega
  rw [num_set m _ x _ hx, hm, low_bits, hb, mul_pow_xor, Nat.mul_one]
  have : (UInt8.ofNat (2 ^ ((k + i) % 8))).toNat = 2 ^ ((k + i) % 8) := by simp; omega
  rw [this, ← Nat.pow_add, ← Nat.pow_add, Nat.xor_assoc, show 8 * ((k + i) / 8) + (k + i) % 8 = k + i by omega]
theorem burst_no (l m : List UInt8) (k i mask : Nat) (hm : num m = num l ^^^ (2 ^ k * (mask % 2 ^ i))) (hb : mask / 2 ^ i % 2 = 0) : num m = num l ^^^ (2 ^ k * (mask % 2 ^ (i + 1))) := by
  rw [low_bits, hb, hm]
  simp
theorem cast_bit (mask j : Nat) : (mask : Int) / 2 ^ j = ((mask / 2 ^ j : Nat) : Int) := by
  rw [Int.natCast_ediv, Int.natCast_pow]
  rfl
theorem bit_and {mask : Nat} (hm : mask < 4294967296) (j : Nat) : bits BinOp.and IntKind.u32 ((mask : Int) / 2 ^ j) 1 = ((mask / 2 ^ j % 2 : Nat) : Int) := by
  have hlt : mask / 2 ^ j < 4294967296 := Nat.lt_of_le_of_lt (Nat.div_le_self _ _) hm
  have e : bits BinOp.and IntKind.u32 (((mask / 2 ^ j : Nat) : Int)) ((1 : Nat) : Int) = _ := u32_and_nat _ 1 hlt (by omega)
  rw [nat_mask1] at e
  rw [cast_bit]
  exact e
theorem bit_yes {mask j : Nat} (hm : mask < 4294967296) (h : (bits BinOp.and IntKind.u32 ((mask : Int) / 2 ^ j) 1 == 1) = true) : mask / 2 ^ j % 2 = 1 := by
  rw [bit_and hm] at h
  generalize mask / 2 ^ j = q at h ⊢
  have h := beq_iff_eq.1 h
  omega
theorem bit_no {mask j : Nat} (hm : mask < 4294967296) (h : (bits BinOp.and IntKind.u32 ((mask : Int) / 2 ^ j) 1 == 1) = false) : mask / 2 ^ j % 2 = 0 := by
  rw [bit_and hm] at h
  generalize mask / 2 ^ j = q at h ⊢
  have h := beq_eq_false_iff_ne.1 h
  omega
theorem pow_lt_256 {e : Nat} (he : e < 8) : 2 ^ e < 256 := by
  have : 2 ^ e ≤ 2 ^ 7 := Nat.pow_le_pow_right (by omega) (by omega)
  omega
theorem bit8 (x : UInt8) {e : Nat} (he : e < 8) : bits BinOp.xor IntKind.u8 (x.toNat : Int) ((2 : Int) ^ e % 256) = (((x ^^^ UInt8.ofNat (2 ^ e)).toNat : Nat) : Int) := by
  have h := pow_lt_256 he
  have e1 : (2 : Int) ^ e % 256 = ((2 ^ e : Nat) : Int) := by
    rw [show (2 : Int) ^ e = ((2 ^ e : Nat) : Int) by rw [Int.natCast_pow]; rfl]
    generalize 2 ^ e = q at h ⊢
    omega
  rw [e1, u8_xor_nat _ _ (u8_lt x) h, UInt8.toNat_xor]
  congr 2
  simp
  omega
theorem u8_xor_step (x y : UInt8) : bits BinOp.xor IntKind.u8 (x.toNat : Int) (y.toNat : Int) = (((x ^^^ y).toNat : Nat) : Int) := by
  rw [UInt8.toNat_xor]
  exact u8_xor_nat _ _ (u8_lt x) (u8_lt y)
theorem u32_xor_step {a b : Nat} (ha : a < 4294967296) (hb : b < 4294967296) : bits BinOp.xor IntKind.u32 (a : Int) (b : Int) = ((a ^^^ b : Nat) : Int) := u32_xor_nat a b ha hb
end Go.Proofs.Ytmakcggmaphanaa
