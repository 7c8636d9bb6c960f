/-
  Numbers are written: codec.put, codec.PutInt, and the document's PutInt.
-/
import Derived.Test.YtgjjfjibfleonaaRefNum
import Derived.Test.YtgjjfjibfleonaaRec
import Derived.ArgAppend
namespace Go.Proofs.Ytgjjfjibfleonaa
open Go.RowKit
set_option maxRecDepth 100000
set_option linter.unusedVariables false

def encZ (z : Int) : List Value := [.int .i64 z]
theorem encZ_len (z : Int) : (encZ z).length = 1 := rfl
theorem encZ_one (z : Int) : ∀ u ∈ encZ z, u.oneCell' = true := by
  intro u hu
  simp [encZ] at hu
  subst hu
  rfl
theorem OwnB.weak {w : World} {base base' : Nat} {e : TypeId} {v : Value} {l : List UInt8} (h : OwnB w base e v l) (hb : base' ≤ base) : OwnB w base' e v l := by
  refine ⟨h.1, ?_⟩
  rcases h.2 with hn | ⟨g, cap, cur, hv, hbg, rest⟩
  · exact .inl hn
  · exact .inr ⟨g, cap, cur, hv, Nat.le_trans hb hbg, rest⟩
/-- bytes that are appended to: a row of the call's own, or a slice without room -/
def Acc (w : World) (base : Nat) (row : Option Nat) (v : Value) (l : List UInt8) : Prop :=
  (row = v.ownBlock ∧ OwnB w base 5 v l) ∨ (row = none ∧ (∃ A, v = .slice A l.length l.length) ∧ Bytes (fun _ => True) w v l)
theorem Acc.bytes {w : World} {base : Nat} {row : Option Nat} {v : Value} {l : List UInt8} (h : Acc w base row v l) : Bytes (fun _ => True) w v l := by
  rcases h with ⟨_, h⟩ | ⟨_, _, h⟩
  · exact h.bytes.mono (fun _ _ _ => trivial)
  · exact h
theorem Acc.lo {w : World} {base : Nat} {row : Option Nat} {v : Value} {l : List UInt8} (h : Acc w base row v l) : ∀ m, row = some m → base ≤ m ∧ m < w.heap.size := by
  rcases h with ⟨e, h⟩ | ⟨e, _⟩
  · intro m hm
    exact World.ownsRow.lt h m (e ▸ hm)
  · intro m hm
    rw [e] at hm
    cases hm
theorem Acc.weak {w : World} {base base' : Nat} {row : Option Nat} {v : Value} {l : List UInt8} (h : Acc w base row v l) (hb : base' ≤ base) : Acc w base' row v l := by
  rcases h with ⟨e, h⟩ | h
  · exact .inl ⟨e, h.weak hb⟩
  · exact .inr h
theorem Acc.ext {w w' : World} {base : Nat} {row : Option Nat} {v : Value} {l : List UInt8} (h : Acc w base row v l) (hb : Below w.heap.size w w') : Acc w' base row v l := by
  rcases h with ⟨e, h⟩ | ⟨e, h1, h2⟩
  · exact .inl ⟨e, h.ext hb⟩
  · exact .inr ⟨e, h1, h2.ext hb⟩
theorem Acc.slice_ {w : World} {base : Nat} {row : Option Nat} {v : Value} {l : List UInt8} (h : Acc w base row v l) : ∃ A c, v = .slice A l.length c ∧ l.length ≤ c ∧ c ≤ 9223372036854775807 := by
  obtain ⟨A, c, e, h1, h2, _⟩ := h.bytes
  exact ⟨A, c, e, h1, by unfold maxLen at h2; exact h2⟩
/-- rows made since do not count -/
theorem grown_row {a b c : World} {row row' : Option Nat} (h : a.grownBy b row) (k : b.grownBy c row') (hr : ∀ m, row' = some m → a.heap.size ≤ m ∨ row = some m) : a.grownBy c row :=
  ⟨k.os.trans h.os, k.tape.trans h.tape, k.output.trans h.output, Nat.le_trans h.size k.size, fun i hi hne => (k.block i (Nat.lt_of_lt_of_le hi h.size) (fun e => by
    rcases hr i e.symm with h1 | h1
    · omega
    · exact hne h1.symm)).trans (h.block i hi hne)⟩
theorem grown_ext {a b c : World} {row : Option Nat} (h : a.grownBy b row) (k : Below b.heap.size b c) : a.grownBy c row := grown_row (row' := none) h ⟨k.os, k.tape, k.output, k.size, fun i hi _ => k.block i hi⟩ (fun m hm => by cases hm)
theorem grown_self (a : World) (row : Option Nat) : a.grownBy a row := ⟨rfl, rfl, rfl, Nat.le_refl _, fun _ _ _ => rfl⟩

/-- an append of bytes, one at least, that lie in a block of their own -/
theorem wpList_appAcc {w : World} {D : Nat → Prop} {ops : Array Oper} {rest : List Oper} {o : Oper} {a : Act} {Q : Exit → Act → World → Prop} (s x : Operand) (base : Nat) (row : Option Nat) (l r : List UInt8) (ad : Addr) (m c : Nat) (v : Value) (N : Nat)
    (hgd : o.guard = none) (ho : o.op = .call { callee := .builtin .append, args := #[s, x], argTypes := #[22, 22] })
    (hs : a.eval s = v) (hx : a.eval x = .slice (some ad) m c) (hacc : Acc w base row v l) (hr : Bytes D w (.slice (some ad) m c) r) (hm : 0 < m) (hN : N = l.length + m) (hbytes : l.length + m ≤ 140737488355328) (hbase : base ≤ w.heap.size)
    (K : ∀ A' c' w', OwnB w' base 5 (.slice A' N c') (l ++ r) → w.grownBy w' row → ((Value.slice A' N c').ownBlock = row ∨ ∃ m, (Value.slice A' N c').ownBlock = some m ∧ w.heap.size ≤ m) → N ≤ c' → c' ≤ 9223372036854775807 → wpList Try.prog ops Q rest (a.put o.dst (.slice A' N c')) w') :
    wpList Try.prog ops Q (o :: rest) a w := by
  have hinfo : (Try.prog.info? 5).map (fun i => (i.zero, i.size, i.bytes)) = some (some (.int .u8 0), 1, 1) := by kernel_rfl
  rcases hacc with ⟨rfl, hown⟩ | ⟨rfl, ⟨A, rfl⟩, hb⟩
  · exact wpList_appB s x 22 5 base l r (some ad) m c v N hgd ho Try.underlying22 hinfo hs hx hown hr hN hbytes hbase (fun A' c' w' k1 k2 k3 k4 k5 => K A' c' w' k1 k2 (k3.imp id (fun h => ⟨_, h, Nat.le_refl _⟩)) k4 k5)
  · obtain ⟨i, hi, hz, hsz, hby⟩ := info_parts hinfo
    obtain ⟨A2, c2, e2, g1, g2, g3⟩ := hr
    cases e2
    obtain ⟨A3, c3, e3, g4, g5, g6⟩ := hb
    cases e3
    subst hN
    have cs : ∀ (X : Addr) (L : List UInt8) (D : Nat → Prop), Cs D w (some X) (L.map bv) → ∀ j u, (L.map bv)[j]? = some u → w.cell? (X.add j) = some u := by
      intro X L D h j u hu
      obtain ⟨b, off, e, _, hc⟩ := h (by have := (List.getElem?_eq_some_iff.1 hu).1; omega)
      cases e
      rw [Addr.add_lit]
      exact hc j u hu
    refine wpList_append_grows w hgd s x 22 ho 5 i (.int .u8 0) 1 1 Try.underlying22 hi hz hsz hby rfl (by omega) A l.length l.length (l.map bv) hs (fun e => ?_) (by simp) (fun b e j u hu => ?_) ad r.length c (r.map bv) hx (by simp) (cs ad r D g3) (fun u hu => ?_) (by omega) (by unfold maxLen; omega) (by omega) ?_
    · cases hl : l with
      | nil => exact ⟨rfl, rfl⟩
      | cons y ys =>
        subst e hl
        obtain ⟨_, _, h, _⟩ := g6 (by simp)
        cases h
    · subst e
      exact cs b l _ g6 j u hu
    · obtain ⟨y, _, rfl⟩ := List.mem_map.1 hu
      rfl
    · intro v' w' h1 h2
      obtain ⟨A', c', rfl, k1, k2⟩ := ownsRow_slice h1
      have hown : OwnB w' w.heap.size 5 (.slice A' (l.length + r.length) c') (l ++ r) := by
        unfold OwnB
        rw [List.length_append, List.map_append]
        exact h1
      refine K A' c' w' (hown.weak hbase) h2 (.inr ?_) k1 (by unfold maxLen at k2; exact k2)
      obtain ⟨g, rfl, hg1, _⟩ := hown.some_ (by simp; omega)
      exact ⟨g, rfl, hg1⟩

/-! ### how long -/
theorem encU_len : ∀ (k u : Nat), u < 2 ^ (7 * (k + 1)) → (encU u).length ≤ k + 1
  | 0, u, h => by rw [encU_lt (by simpa using h)]; simp
  | k + 1, u, h => by
    by_cases hu : u < 128
    · rw [encU_lt hu]; simp
    · rw [encU_ge hu, List.length_cons]
      have := encU_len k (u / 128) (by rw [Nat.div_lt_iff_lt_mul (by omega)]; rw [show 7 * (k + 1 + 1) = 7 * (k + 1) + 7 by omega, Nat.pow_add] at h; exact h)
      omega
theorem zz_lt {v : Int} (h1 : -9223372036854775808 ≤ v) (h2 : v ≤ 9223372036854775807) : zz v < 18446744073709551616 := by
  unfold zz
  split <;> omega
theorem encI_len {v : Int} (h1 : -9223372036854775808 ≤ v) (h2 : v ≤ 9223372036854775807) : (encI v).length ≤ 10 := by
  have := zz_lt h1 h2
  exact encU_len 9 (zz v) (by have : (2 : Nat) ^ (7 * (9 + 1)) = 1180591620717411303424 := by decide
                              omega)

/-! ### the zigzag and the groups, in the program's spelling -/
theorem u64_xor_max (a : Nat) (ha : a < 18446744073709551616) : bits BinOp.xor IntKind.u64 (a : Int) 18446744073709551615 = ((18446744073709551615 - a : Nat) : Int) := by
  have h := u64_not a ha
  have hc : bits BinOp.xor IntKind.u64 (a : Int) 18446744073709551615 = bits BinOp.xor IntKind.u64 IntKind.u64.max (a : Int) := by
    show bits BinOp.xor IntKind.u64 (a : Int) IntKind.u64.max = _
    unfold bits
    simp [BitVec.xor_comm]
  rw [hc, h]
theorem zz_run {z : Int} (h1 : -9223372036854775808 ≤ z) (h2 : z ≤ 9223372036854775807) : bits BinOp.xor IntKind.u64 (IntKind.u64.wrap (IntKind.u64.wrap z * 2)) (IntKind.u64.wrap (z / 9223372036854775808)) = ((zz z : Nat) : Int) := by
  simp only [IntKind.wrap_u64]
  unfold zz
  by_cases h : 0 ≤ z
  · rw [if_pos h]
    have e1 : z % 18446744073709551616 * 2 % 18446744073709551616 = (((2 * z).toNat : Nat) : Int) := by omega
    have e2 : z / 9223372036854775808 % 18446744073709551616 = ((0 : Nat) : Int) := by omega
    rw [e1, e2, u64_xor_nat _ 0 (by omega) (by omega), Nat.xor_zero]
  · rw [if_neg h]
    have e1 : z % 18446744073709551616 * 2 % 18446744073709551616 = (((2 * z + 18446744073709551616).toNat : Nat) : Int) := by omega
    have e2 : z / 9223372036854775808 % 18446744073709551616 = 18446744073709551615 := by omega
    rw [e1, e2, u64_xor_max _ (by omega)]
    omega
theorem zz_neg {z : Int} (h1 : -9223372036854775808 ≤ z) (h2 : z < 0) : bits BinOp.xor IntKind.u64 IntKind.u64.max (IntKind.u64.wrap (IntKind.u64.wrap z * 2)) = ((zz z : Nat) : Int) := by
  simp only [IntKind.wrap_u64]
  unfold zz
  rw [if_neg (by omega)]
  have e1 : z % 18446744073709551616 * 2 % 18446744073709551616 = (((2 * z + 18446744073709551616).toNat : Nat) : Int) := by omega
  rw [e1, u64_not _ (by omega)]
  omega
theorem zz_pos {z : Int} (h1 : 0 ≤ z) (h2 : z ≤ 9223372036854775807) : z * 2 = ((zz z : Nat) : Int) := by
  unfold zz
  rw [if_pos h1]
  omega
theorem or128 : ∀ a, a < 256 → a ||| 128 = a % 128 + 128 := by decide
theorem grp_byte (u : Nat) : bits BinOp.or IntKind.u8 ((u : Int) % 256) 128 = ((u % 128 + 128 : Nat) : Int) := by
  rw [show (u : Int) % 256 = ((u % 256 : Nat) : Int) by omega, show (128 : Int) = ((128 : Nat) : Int) from rfl, u8_or_nat _ 128 (by omega) (by omega), or128 _ (by omega)]
  omega

theorem avoid_keep {w w' : World} {row row' : Option Nat} {α : Type} {enc : α → List Value} {u : Value} {l : List α} (h : Recs enc (fun b => row ≠ some b) w u l) (hg : w.grownBy w' row) (hat : row' = row ∨ ∃ m, row' = some m ∧ w.heap.size ≤ m) : Recs enc (fun b => row' ≠ some b) w' u l := by
  have h1 : Recs enc (fun b => row ≠ some b ∧ b < w.heap.size) w u l := h.mono (fun b hb hs => ⟨hs, hb⟩)
  refine (h1.keep (fun b hb hs => hg.block b hb (fun e => hs.1 e.symm))).mono (fun b _ hs => ?_)
  rcases hat with rfl | ⟨m, rfl, hm⟩
  · exact hs.1
  · intro e
    cases e
    have := hs.2
    omega
theorem one_byte (w : World) (t : TypeId) (x : Nat) (hx : x < 256) : Bytes (fun _ => True) (w.alloc (.cells #[.int .u8 (x : Int)] t)) (.slice (some ⟨w.heap.size, 0, none⟩) 1 1) [UInt8.ofNat x] :=
  Bytes.lit (S := fun _ => True) w _ _ _ _ 1 1 trivial rfl (by omega) (by simp [maxLen]) (by simp [bv_def]; omega)

set_option maxHeartbeats 1000000 in
theorem put_any (base : Nat) (row : Option Nat) (v : Value) (l : List UInt8) (w : World) (hacc : Acc w base row v l) (hbase : base ≤ w.heap.size) (Au : Option Addr) (nu cu : Nat) (zs : List Int) (hu : Recs encZ (fun b => row ≠ some b) w (.slice Au nu cu) zs) (hz : ∀ z ∈ zs, -9223372036854775808 ≤ z ∧ z ≤ 9223372036854775807) (hlen : l.length + 10 * nu ≤ 100000000000) :
    Calls Try.prog 30 #[v, .slice Au nu cu] w fun e w' => ∃ v' row', e = .returned v' ∧ Acc w' base row' v' (l ++ encs zs) ∧ (row' = row ∨ ∃ m, row' = some m ∧ w.heap.size ≤ m) ∧ w.grownBy w' row := by
  have hul := hu.len
  have HZ := Lib.hid hz
  have HUL := Lib.hid hul.1
  clear hz
  go_enter Try.func30, Try.ntmps30
  go_wp2
  go_loopw [0, 10] (fun v i wr => ∃ (k : Nat) (row' : Option Nat), i = .int .i64 k ∧ k ≤ nu ∧ Acc wr base row' v (l ++ encs (zs.take k)) ∧ (l ++ encs (zs.take k)).length ≤ l.length + 10 * k ∧ (row' = row ∨ ∃ m, row' = some m ∧ w.heap.size ≤ m) ∧ w.grownBy wr row ∧ Recs encZ (fun b => row' ≠ some b) wr (.slice Au nu cu) zs) (fun _ i _ => nu - (intOf i).toNat)
  case atStart => exact ⟨0, row, rfl, by omega, by simpa [encs] using hacc, by simp [encs], .inl rfl, grown_self _ _, hu⟩
  case round =>
    clear hacc hu
    obtain ⟨k, row1, rfl, hk, hacc, hll, hrow, hg, hu⟩ := hrel
    by_cases hlt : k < nu
    · obtain ⟨b, off, z, rfl, _, hb, hzk, hc⟩ := hu.at_ encZ_len (j := k) (by have := HUL.out; omega) (by omega)
      have qz := hc 0 _ rfl
      rw [Nat.mul_one, Nat.add_zero] at qz
      have hzr := HZ.out z (List.mem_of_getElem? hzk)
      have htk : zs.take (k + 1) = zs.take k ++ [z] := by rw [List.take_add_one, hzk]; rfl
      have htk' : l ++ encs (zs.take (k + 1)) = (l ++ encs (zs.take k)) ++ encI z := by rw [htk]; simp [encs]
      have HTK := Lib.hid htk'
      have hil := encI_len hzr.1 hzr.2
      clear hc htk htk' hzk
      have hzz := zz_run hzr.1 hzr.2
      have hzl := zz_lt hzr.1 hzr.2
      unfold encI at hil
      obtain ⟨lk, hlk⟩ : ∃ lk, lk = l ++ encs (zs.take k) := ⟨_, rfl⟩
      rw [← hlk] at hacc hll
      obtain ⟨Z, hZ⟩ : ∃ Z, Z = zz z := ⟨_, rfl⟩
      rw [← hZ] at hzz hzl hil
      have HTK2 : l ++ encs (zs.take (k + 1)) = lk ++ encU Z := by rw [HTK.out, hlk, hZ]; rfl
      have HT2 := Lib.hid HTK2
      clear HTK HTK2 hlk hZ
      have hgw := hg.size
      go_wp2
      clear hzz
      go_loopw [0, 7] (fun v t wr => ∃ (u : Nat) (lc : List UInt8) (row' : Option Nat), t = .int .u64 u ∧ u < 18446744073709551616 ∧ Acc wr base row' v lc ∧ lc ++ encU u = lk ++ encU Z ∧ (row' = row ∨ ∃ m, row' = some m ∧ w.heap.size ≤ m) ∧ w.grownBy wr row ∧ Recs encZ (fun b => row' ≠ some b) wr (.slice (some ⟨b, off, none⟩) nu cu) zs) (fun _ t _ => (intOf t).toNat)
      case atStart => exact ⟨Z, lk, row1, rfl, hzl, hacc, rfl, hrow, hg, hu⟩
      case round =>
        clear hacc hrow hg hu hgw
        obtain ⟨u, lc, row2, rfl, hu64, hacc, heq, hrow, hg, hu⟩ := hrel
        have hcl : lc.length + (encU u).length = lk.length + (encU Z).length := by have := congrArg List.length heq; simpa using this
        have HEQ := Lib.hid heq
        have hsz := hg.size
        have ha : ∀ o, Below wr.heap.size wr (wr.alloc o) := fun o => (Below.refl _ _).alloc (Nat.le_refl _) o
        have hlo := hacc.lo
        clear heq
        by_cases hge : 128 ≤ u
        · have dg : decide ((128 : Int) ≤ (u : Int)) = true := by simp; omega
          have hby := grp_byte u
          obtain ⟨X, hX⟩ : ∃ X, X = u % 128 + 128 := ⟨_, rfl⟩
          rw [← hX] at hby
          have hX2 : X < 256 := by omega
          have hen : encU u = UInt8.ofNat X :: encU (u / 128) := by rw [encU_ge (by omega), hX]
          rw [hen, List.length_cons] at hcl
          have HEN := Lib.hid hen
          clear hX hen
          obtain ⟨A1, c1, rfl, hc1, hc2⟩ := hacc.slice_
          go_wp2_with (refine wpList_appAcc (D := fun _ => True) (o := ⟨some 28, _, _, _, _, _⟩) _ _ base row2 lc [UInt8.ofNat X] ⟨wr.heap.size, 0, none⟩ 1 1 _ (lc.length + 1) rfl rfl rfl rfl (hacc.ext (ha _)) (one_byte wr _ X hX2) (by omega) rfl (by omega) (by simp; omega) ?_; intro A5 c5 w5 hown5 hgr5 hat5 hc51 hc52)
          have hgs := grown_row (grown_ext hg (ha _)) hgr5 (fun m hm => by
            rcases hrow with h | ⟨m', h, hm'⟩
            · exact .inr (by rw [← h, hm])
            · rw [h] at hm; cases hm; exact .inl hm')
          have hu5 := avoid_keep (hu.ext (ha _)) hgr5 hat5
          have hsz5 := hgr5.size
          rw [World.size_alloc] at hsz5
          refine ⟨⟨u / 128, lc ++ [UInt8.ofNat X], (Value.slice A5 (lc.length + 1) c5).ownBlock, by congr 1, by omega, .inl ⟨rfl, hown5⟩, ?_, ?_, hgs, hu5⟩, ?_⟩
          · rw [← HEQ.out, HEN.out, List.append_assoc]; rfl
          · rcases hat5 with h | ⟨m', h, hm'⟩
            · rw [h]; exact hrow
            · exact .inr ⟨m', h, by rw [World.size_alloc] at hm'; omega⟩
          · simp [intOf]; omega
        · have dg : decide ((128 : Int) ≤ (u : Int)) = false := by simp; omega
          have hby : (u : Int) % 256 = (u : Int) := by omega
          have hX2 : u < 256 := by omega
          have hen : encU u = [UInt8.ofNat u] := encU_lt (by omega)
          rw [hen, List.length_singleton] at hcl
          have HEN := Lib.hid hen
          have Hcl := Lib.hid hcl
          have hcl2 : lc.length + 1 ≤ 100000000100 := by omega
          clear hen hcl
          obtain ⟨A1, c1, rfl, hc1, hc2⟩ := hacc.slice_
          go_wp2_with (refine wpList_appAcc (D := fun _ => True) (o := ⟨some 35, _, _, _, _, _⟩) _ _ base row2 lc [UInt8.ofNat u] ⟨wr.heap.size, 0, none⟩ 1 1 _ (lc.length + 1) rfl rfl rfl rfl (hacc.ext (ha _)) (one_byte wr _ u hX2) (by omega) rfl (by omega) (by simp; omega) ?_; intro A5 c5 w5 hown5 hgr5 hat5 hc51 hc52)
          have hgs := grown_row (grown_ext hg (ha _)) hgr5 (fun m hm => by
            rcases hrow with h | ⟨m', h, hm'⟩
            · exact .inr (by rw [← h, hm])
            · rw [h] at hm; cases hm; exact .inl hm')
          have hu5 := avoid_keep (hu.ext (ha _)) hgr5 hat5
          have hfin : l ++ encs (zs.take (k + 1)) = lc ++ [UInt8.ofNat u] := by rw [HT2.out, ← HEQ.out, HEN.out]
          have hfl : (l ++ encs (zs.take (k + 1))).length = lc.length + 1 := by rw [hfin]; simp
          refine ⟨⟨k + 1, (Value.slice A5 (lc.length + 1) c5).ownBlock, by congr 1, by omega, .inl ⟨rfl, by rw [hfin]; exact hown5⟩, by have := Hcl.out; omega, ?_, hgs, hu5⟩, by simp [intOf]; omega⟩
          rcases hat5 with h | ⟨m', h, hm'⟩
          · rw [h]; exact hrow
          · exact .inr ⟨m', h, by rw [World.size_alloc] at hm'; omega⟩
    · obtain rfl : k = nu := by omega
      rw [List.take_of_length_le (by have := HUL.out; omega)] at hacc
      go_wp2
      go_ret
      exact ⟨_, row1, rfl, hacc, hrow, hg⟩

theorem clip_any (A : Option Addr) (n c : Nat) (w : World) (hn : n ≤ c) (hc : c ≤ 9223372036854775807) : Calls Try.prog 31 #[.slice A n c] w fun e w' => e = .returned (.slice A n n) ∧ w' = w := by
  go_enter Try.func31, Try.ntmps31
  go_wp2
  go_ret
  exact ⟨rfl, rfl⟩

set_option maxHeartbeats 400000 in
theorem putint_any (A : Option Addr) (n c : Nat) (z : Int) (l : List UInt8) (S : Nat → Prop) (w : World) (hb : Bytes S w (.slice A n c) l) (hn : n ≤ 10000000000) (h1 : -9223372036854775808 ≤ z) (h2 : z ≤ 9223372036854775807) :
    Calls Try.prog 12 #[.slice A n c, .int .i64 z] w fun e w' => ∃ v', e = .returned v' ∧ Bytes (fun _ => True) w' v' (l ++ encI z) ∧ Below w.heap.size w w' := by
  have hl := hb.len
  have hl1 := hl.1
  subst hl1
  have ha : Below w.heap.size w (w.alloc (.cells #[.int .i64 z] 3)) := (Below.refl _ _).alloc (Nat.le_refl _) _
  have hacc : Acc (w.alloc (.cells #[.int .i64 z] 3)) w.heap.size none (.slice A l.length l.length) l := .inr ⟨rfl, ⟨A, rfl⟩, ((hb.clip (c' := l.length) (Nat.le_refl _) (by unfold maxLen; omega)).ext ha).mono (fun _ _ _ => trivial)⟩
  have hone : Recs encZ (fun b => (none : Option Nat) ≠ some b) (w.alloc (.cells #[.int .i64 z] 3)) (.slice (some ⟨w.heap.size, 0, none⟩) 1 1) [z] := ⟨_, 1, rfl, by simp, by simp [maxLen], Cs.lit _ _ _ _ _ (by simp) rfl⟩
  have hput := put_any w.heap.size none _ l _ hacc (by simp) _ 1 1 [z] hone (by intro z' hz'; simp at hz'; subst hz'; exact ⟨h1, h2⟩) (by omega)
  have Hput := Lib.hid hput
  clear hput hone hacc
  go_enter Try.func12, Try.ntmps12
  go_wp2_with fail
  refine (clip_any A l.length c w hl.2.1 hl.2.2).mono ?_
  rintro e w1 ⟨rfl, rfl⟩
  go_wp2_with fail
  refine (Hput.out).mono ?_
  rintro e w2 ⟨v', row', rfl, hacc, _, hg⟩
  go_wp2
  go_ret
  refine ⟨v', rfl, ?_, Below.ext ha ⟨hg.os, hg.tape, hg.output, hg.size, fun i hi => hg.block i hi (by simp)⟩⟩
  have := hacc.bytes
  simpa [encs] using this

set_option maxHeartbeats 1000000 in
theorem refputint_any (A : Option Addr) (n c : Nat) (z : Int) (l : List UInt8) (S : Nat → Prop) (w : World) (hb : Bytes S w (.slice A n c) l) (hn : n ≤ 10000000000) (h1 : -9223372036854775808 ≤ z) (h2 : z ≤ 9223372036854775807) :
    Calls Try.prog 13 #[.slice A n c, .int .i64 z] w fun e w' => ∃ A' c', e = .returned (.slice A' (n + (encI z).length) c') ∧ OwnB w' w.heap.size 5 (.slice A' (n + (encI z).length) c') (l ++ encI z) ∧ Below w.heap.size w w' := by
  have hl := hb.len
  have hln := hl.1
  have HLN := Lib.hid hln
  have hil := encI_len h1 h2
  have hzl := zz_lt h1 h2
  unfold encI at hil ⊢
  clear hln
  obtain ⟨Z, hZ⟩ : ∃ Z, Z = zz z := ⟨_, rfl⟩
  by_cases hz : z < 0
  · have dz : decide (z < 0) = true := by simpa using hz
    have hzz := zz_neg h1 hz
    rw [← hZ] at hzz hil hzl ⊢
    clear hZ
    go_enter Try.func13, Try.ntmps13
    go_wp2_with (refine wpList_appB (o := ⟨some 15, _, _, _, _, _⟩) _ _ 22 5 w.heap.size [] l A n c (.slice none 0 0) n rfl rfl Try.underlying22 (by kernel_rfl) rfl rfl (OwnB.nil_ _ _ _) hb (by simp) (by simp; omega) (Nat.le_refl _) ?_; intro A5 c5 w5 hown5 hgr5 hat5 hc51 hc52)
    clear hzz
    have b5 : Below w.heap.size w w5 := ⟨hgr5.os, hgr5.tape, hgr5.output, hgr5.size, fun i hi => hgr5.block i hi (by simp [Value.ownBlock])⟩
    have hown0 : OwnB w5 w.heap.size 5 (.slice A5 n c5) l := by simpa using hown5
    clear hown5 hgr5 hat5
    go_loopw [5, 6] (fun t v wr => ∃ (u : Nat) (lc : List UInt8) (A1 : Option Addr) (c1 : Nat), t = .int .u64 u ∧ u < 18446744073709551616 ∧ v = .slice A1 lc.length c1 ∧ OwnB wr w.heap.size 5 (.slice A1 lc.length c1) lc ∧ lc ++ encU u = l ++ encU Z ∧ Below w.heap.size w wr) (fun t _ _ => (intOf t).toNat)
    case atStart => exact ⟨Z, l, A5, c5, rfl, hzl, by rw [HLN.out], by rw [HLN.out]; exact hown0, rfl, b5⟩
    case round =>
      clear hown0 b5
      obtain ⟨u, lc, A1, c1, rfl, hu64, rfl, hown, heq, hbr⟩ := hrel
      have hcl : lc.length + (encU u).length = l.length + (encU Z).length := by have := congrArg List.length heq; simpa using this
      have hlnn := hl.1
      have HEQ := Lib.hid heq
      have hsz := hbr.size
      have ha : ∀ o, Below wr.heap.size wr (wr.alloc o) := fun o => (Below.refl _ _).alloc (Nat.le_refl _) o
      clear heq
      by_cases hge : 128 ≤ u
      · have dg : decide ((128 : Int) ≤ (u : Int)) = true := by simp; omega
        have hby := grp_byte u
        obtain ⟨X, hX⟩ : ∃ X, X = u % 128 + 128 := ⟨_, rfl⟩
        rw [← hX] at hby
        have hX2 : X < 256 := by omega
        have hen : encU u = UInt8.ofNat X :: encU (u / 128) := by rw [encU_ge (by omega), hX]
        rw [hen, List.length_cons] at hcl
        have HEN := Lib.hid hen
        clear hX hen
        go_wp2_with (refine wpList_appB (D := fun _ => True) (o := ⟨some 23, _, _, _, _, _⟩) _ _ 22 5 w.heap.size lc [UInt8.ofNat X] (some ⟨wr.heap.size, 0, none⟩) 1 1 _ (lc.length + 1) rfl rfl Try.underlying22 (by kernel_rfl) rfl rfl (hown.ext (ha _)) (one_byte wr _ X hX2) rfl (by omega) (by simp; omega) ?_; intro A7 c7 w7 hown7 hgr7 hat7 hc71 hc72)
        have hb7 := (hown.ext (ha (.cells #[.int .u8 (X : Int)] 5))).grow hgr7 (Below.ext hbr (ha _)) (Nat.le_refl _) (by simp; omega)
        have e : (lc ++ [UInt8.ofNat X]).length = lc.length + 1 := by simp
        refine ⟨⟨u / 128, lc ++ [UInt8.ofNat X], A7, c7, by congr 1, by omega, by rw [e], by rw [e]; exact hown7, ?_, hb7⟩, ?_⟩
        · rw [← HEQ.out, HEN.out, List.append_assoc]; rfl
        · simp [intOf]; omega
      · have dg : decide ((128 : Int) ≤ (u : Int)) = false := by simp; omega
        have hby : (u : Int) % 256 = (u : Int) := by omega
        have hX2 : u < 256 := by omega
        have hen : encU u = [UInt8.ofNat u] := encU_lt (by omega)
        rw [hen, List.length_singleton] at hcl
        have HEN := Lib.hid hen
        clear hen
        go_wp2_with (refine wpList_appB (D := fun _ => True) (o := ⟨some 30, _, _, _, _, _⟩) _ _ 22 5 w.heap.size lc [UInt8.ofNat u] (some ⟨wr.heap.size, 0, none⟩) 1 1 _ (n + (encU Z).length) rfl rfl Try.underlying22 (by kernel_rfl) rfl rfl (hown.ext (ha _)) (one_byte wr _ u hX2) (by omega) (by omega) (by simp; omega) ?_; intro A7 c7 w7 hown7 hgr7 hat7 hc71 hc72)
        have hb7 := (hown.ext (ha (.cells #[.int .u8 (u : Int)] 5))).grow hgr7 (Below.ext hbr (ha _)) (Nat.le_refl _) (by simp; omega)
        have hfin : l ++ encU Z = lc ++ [UInt8.ofNat u] := by rw [← HEQ.out, HEN.out]
        go_ret
        exact ⟨A7, c7, rfl, by rw [hfin]; exact hown7, hb7⟩
  · have dz : decide (z < 0) = false := by simpa using hz
    have hzz := zz_pos (show 0 ≤ z by omega) h2
    rw [← hZ] at hzz hil hzl ⊢
    clear hZ
    go_enter Try.func13, Try.ntmps13
    go_wp2_with (refine wpList_appB (o := ⟨some 15, _, _, _, _, _⟩) _ _ 22 5 w.heap.size [] l A n c (.slice none 0 0) n rfl rfl Try.underlying22 (by kernel_rfl) rfl rfl (OwnB.nil_ _ _ _) hb (by simp) (by simp; omega) (Nat.le_refl _) ?_; intro A5 c5 w5 hown5 hgr5 hat5 hc51 hc52)
    clear hzz
    have b5 : Below w.heap.size w w5 := ⟨hgr5.os, hgr5.tape, hgr5.output, hgr5.size, fun i hi => hgr5.block i hi (by simp [Value.ownBlock])⟩
    have hown0 : OwnB w5 w.heap.size 5 (.slice A5 n c5) l := by simpa using hown5
    clear hown5 hgr5 hat5
    go_loopw [5, 6] (fun t v wr => ∃ (u : Nat) (lc : List UInt8) (A1 : Option Addr) (c1 : Nat), t = .int .u64 u ∧ u < 18446744073709551616 ∧ v = .slice A1 lc.length c1 ∧ OwnB wr w.heap.size 5 (.slice A1 lc.length c1) lc ∧ lc ++ encU u = l ++ encU Z ∧ Below w.heap.size w wr) (fun t _ _ => (intOf t).toNat)
    case atStart => exact ⟨Z, l, A5, c5, rfl, hzl, by rw [HLN.out], by rw [HLN.out]; exact hown0, rfl, b5⟩
    case round =>
      clear hown0 b5
      obtain ⟨u, lc, A1, c1, rfl, hu64, rfl, hown, heq, hbr⟩ := hrel
      have hcl : lc.length + (encU u).length = l.length + (encU Z).length := by have := congrArg List.length heq; simpa using this
      have hlnn := hl.1
      have HEQ := Lib.hid heq
      have hsz := hbr.size
      have ha : ∀ o, Below wr.heap.size wr (wr.alloc o) := fun o => (Below.refl _ _).alloc (Nat.le_refl _) o
      clear heq
      by_cases hge : 128 ≤ u
      · have dg : decide ((128 : Int) ≤ (u : Int)) = true := by simp; omega
        have hby := grp_byte u
        obtain ⟨X, hX⟩ : ∃ X, X = u % 128 + 128 := ⟨_, rfl⟩
        rw [← hX] at hby
        have hX2 : X < 256 := by omega
        have hen : encU u = UInt8.ofNat X :: encU (u / 128) := by rw [encU_ge (by omega), hX]
        rw [hen, List.length_cons] at hcl
        have HEN := Lib.hid hen
        clear hX hen
        go_wp2_with (refine wpList_appB (D := fun _ => True) (o := ⟨some 23, _, _, _, _, _⟩) _ _ 22 5 w.heap.size lc [UInt8.ofNat X] (some ⟨wr.heap.size, 0, none⟩) 1 1 _ (lc.length + 1) rfl rfl Try.underlying22 (by kernel_rfl) rfl rfl (hown.ext (ha _)) (one_byte wr _ X hX2) rfl (by omega) (by simp; omega) ?_; intro A7 c7 w7 hown7 hgr7 hat7 hc71 hc72)
        have hb7 := (hown.ext (ha (.cells #[.int .u8 (X : Int)] 5))).grow hgr7 (Below.ext hbr (ha _)) (Nat.le_refl _) (by simp; omega)
        have e : (lc ++ [UInt8.ofNat X]).length = lc.length + 1 := by simp
        refine ⟨⟨u / 128, lc ++ [UInt8.ofNat X], A7, c7, by congr 1, by omega, by rw [e], by rw [e]; exact hown7, ?_, hb7⟩, ?_⟩
        · rw [← HEQ.out, HEN.out, List.append_assoc]; rfl
        · simp [intOf]; omega
      · have dg : decide ((128 : Int) ≤ (u : Int)) = false := by simp; omega
        have hby : (u : Int) % 256 = (u : Int) := by omega
        have hX2 : u < 256 := by omega
        have hen : encU u = [UInt8.ofNat u] := encU_lt (by omega)
        rw [hen, List.length_singleton] at hcl
        have HEN := Lib.hid hen
        clear hen
        go_wp2_with (refine wpList_appB (D := fun _ => True) (o := ⟨some 30, _, _, _, _, _⟩) _ _ 22 5 w.heap.size lc [UInt8.ofNat u] (some ⟨wr.heap.size, 0, none⟩) 1 1 _ (n + (encU Z).length) rfl rfl Try.underlying22 (by kernel_rfl) rfl rfl (hown.ext (ha _)) (one_byte wr _ u hX2) (by omega) (by omega) (by simp; omega) ?_; intro A7 c7 w7 hown7 hgr7 hat7 hc71 hc72)
        have hb7 := (hown.ext (ha (.cells #[.int .u8 (u : Int)] 5))).grow hgr7 (Below.ext hbr (ha _)) (Nat.le_refl _) (by simp; omega)
        have hfin : l ++ encU Z = lc ++ [UInt8.ofNat u] := by rw [← HEQ.out, HEN.out]
        go_ret
        exact ⟨A7, c7, rfl, by rw [hfin]; exact hown7, hb7⟩
end Go.Proofs.Ytgjjfjibfleonaa
